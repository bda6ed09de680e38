/- GraphMutual: whatever the arguments, the law returns true, and its arguments read as before. No condition. -/
import Derived.Test.YtibenanokfodaaaT6
import Derived.Test.YtibenanokfodaaaT3
import Derived.Test.YtibenanokfodaaaT4
import Derived.Test.YtibenanokfodaaaRows
import Derived.Test.YtibenanokfodaaaChecked
import Derived.ProofKit
namespace Go.Proofs.Ytibenanokfodaaa
open Go.Mid Go.ChangeShapes Go.WideShapes Go.ChangeAt Go.RowKit
theorem ownKnob_none:ownKnob Try.prog.godebug=none:=by kernel_rfl
theorem laidOut_true:laidOutB Try.prog=true:=by kernel_rfl
theorem u8_range {x:Int} (h:(Lit.int .u8 x).wf=true):0 ≤ x∧x ≤ 255:=by
 simp only [Lit.wf,Bool.and_eq_true,decide_eq_true_eq] at h
 have h1:IntKind.u8.min=0:=rfl
 have h2:IntKind.u8.max=255:=rfl
 rw [h1,h2] at h
 exact h
set_option maxRecDepth 100000 in
theorem law_lifted (os:Os) (started:os.Started) (H:Type) (enc:TypeId×Value→H) :
 ReturnsInHanded {} Try.checked os 8 .any (Rows.graphMutualSpec.pre6 enc Try.prog Try.f8 Rows.graphMutualRow.domain false) (Rows.graphMutualSpec.post enc Try.prog Try.f8 false true false false):=by
 refine C0g (C:=Try.checked) ownKnob_none started (by kernel_rfl) Try.func8 rfl laidOut_true (by kernel_rfl) (tb:=4) (by kernel_rfl) Try.underlying4 ?_
  (ChangeSpec.witness6 (enc:=enc) (C:=Try.checked) false ⟨#[],#[.int .i64 0,.slice none 0 0,.agg #[.int .u8 0,.int .u8 0]],[]⟩ 8 (by kernel_rfl) (by kernel_rfl) (by kernel_rfl) (by kernel_rfl)) (by kernel_rfl) C76 ?_
 · intro ds hd
   match ds,hd with
   | [_,_,_],_=>rfl
 · refine C5m (Us:=[.int .i64,.sl (.agg [.int .i64,.int .i64]),.agg [.int .u8,.int .u8]]) (by kernel_rfl) (I:=s8I) (O:=s8O) C8v ?_
   intro x hw
   obtain ⟨n,l,e⟩:=x
   have hb1:=u8_range hw.2.2.1.1
   have hb2:=u8_range hw.2.2.1.2.1
   exact ⟨(n,l,e),true,rfl,C9i n l e.1 e.2 hb1 hb2,rfl⟩
theorem GraphMutual_holds:Rows.GraphMutualSaid :=
 OpenClaim.holds_of_wide 8 Try.f8 rfl rfl rfl rfl rfl rfl rfl ⟨rfl,rfl,rfl,rfl,rfl⟩ rfl rfl rfl rfl rfl (by kernel_rfl) Try.func8 (by kernel_rfl)
  (of_decide_eq_true (by kernel_rfl)) (by unfold Func.isWrapper; first | (rw [if_pos (by decide +kernel)]; kernel_rfl) | (rw [if_neg (by decide +kernel)]; exact ⟨rfl,rfl⟩))
  (fun os started H enc _=>law_lifted os started H enc)
end Go.Proofs.Ytibenanokfodaaa
