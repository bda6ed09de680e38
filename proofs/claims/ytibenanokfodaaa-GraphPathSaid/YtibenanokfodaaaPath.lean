/- GraphPath: whatever the arguments, the law returns true, and its arguments read as before. No condition. -/
import Derived.Test.YtibenanokfodaaaT6
import Derived.Test.YtibenanokfodaaaT3
import Derived.Test.YtibenanokfodaaaT4
import Derived.Test.YtibenanokfodaaaRows
import Derived.Test.YtibenanokfodaaaChecked
import Derived.ProofKit
namespace Go.Proofs.Ytibenanokfodaaa
open Go.Mid Go.ChangeShapes Go.WideShapes Go.ChangeAt Go.RowKit
theorem ownKnob_none:ownKnob Try.prog.godebug=none:=by kernel_rfl
theorem laidOut_true:laidOutB Try.prog=true:=by kernel_rfl
set_option maxRecDepth 100000 in
theorem law_lifted (os:Os) (started:os.Started) (H:Type) (enc:TypeId×Value→H) :
 ReturnsInHanded {} Try.checked os 7 .any (Rows.graphPathSpec.pre6 enc Try.prog Try.f7 Rows.graphPathRow.domain false) (Rows.graphPathSpec.post enc Try.prog Try.f7 false true false false):=by
 refine B9b (C:=Try.checked) ownKnob_none started (by kernel_rfl) Try.func7 rfl laidOut_true (by kernel_rfl) (tb:=4) (by kernel_rfl) Try.underlying4 ?_
  (ChangeSpec.witness6 (enc:=enc) (C:=Try.checked) false ⟨#[],#[.int .i64 0,.slice none 0 0,.agg #[.int .i64 0,.int .i64 0]],[]⟩ 8 (by kernel_rfl) (by kernel_rfl) (by kernel_rfl) (by kernel_rfl)) (by kernel_rfl) C6d ?_
 · intro ds hd
   match ds,hd with
   | [_,_,_],_=>rfl
 · refine C3X (Us:=[.int .i64,.sl (.agg [.int .i64,.int .i64]),.agg [.int .i64,.int .i64]]) (by kernel_rfl) (I:=s7I) (O:=s7O) C6C ?_
   intro x hw
   obtain ⟨n,l,e⟩:=x
   exact ⟨(n,l,e),true,rfl,C7f n l e.1 e.2,rfl⟩
theorem GraphPath_holds:Rows.GraphPathSaid :=
 OpenClaim.holds_of_wide 7 Try.f7 rfl rfl rfl rfl rfl rfl rfl ⟨rfl,rfl,rfl,rfl,rfl⟩ rfl rfl rfl rfl rfl (by kernel_rfl) Try.func7 (by kernel_rfl)
  (of_decide_eq_true (by kernel_rfl)) (by unfold Func.isWrapper; first | (rw [if_pos (by decide +kernel)]; kernel_rfl) | (rw [if_neg (by decide +kernel)]; exact ⟨rfl,rfl⟩))
  (fun os started H enc _=>law_lifted os started H enc)
end Go.Proofs.Ytibenanokfodaaa
