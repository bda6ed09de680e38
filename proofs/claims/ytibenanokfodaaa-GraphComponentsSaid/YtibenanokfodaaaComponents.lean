/- GraphComponents: whatever the arguments, the law returns true, and its arguments read as before. No condition. -/
import Derived.Test.YtibenanokfodaaaT6
import Derived.Test.YtibenanokfodaaaT3
import Derived.Test.YtibenanokfodaaaT4
import Derived.Test.YtibenanokfodaaaRows
import Derived.Test.YtibenanokfodaaaChecked
import Derived.ProofKit
namespace Go.Proofs.Ytibenanokfodaaa
open Go.Mid Go.ChangeShapes Go.WideShapes Go.ChangeAt Go.RowKit
theorem ownKnob_none:ownKnob Try.prog.godebug=none:=by kernel_rfl
theorem laidOut_true:laidOutB Try.prog=true:=by kernel_rfl
set_option maxRecDepth 100000 in
theorem law_lifted (os:Os) (started:os.Started) (H:Type) (enc:TypeId×Value→H) :
 ReturnsInHanded {} Try.checked os 9 .any (Rows.graphComponentsSpec.pre6 enc Try.prog Try.f9 Rows.graphComponentsRow.domain false) (Rows.graphComponentsSpec.post enc Try.prog Try.f9 false true false false):=by
 refine C0Z (C:=Try.checked) ownKnob_none started (by kernel_rfl) Try.func9 rfl laidOut_true (by kernel_rfl) (tb:=4) (by kernel_rfl) Try.underlying4 ?_
  (ChangeSpec.witness6 (enc:=enc) (C:=Try.checked) false ⟨#[],#[.int .i64 0,.slice none 0 0],[]⟩ 8 (by kernel_rfl) (by kernel_rfl) (by kernel_rfl) (by kernel_rfl)) (by kernel_rfl) C80 ?_
 · intro ds hd
   match ds,hd with
   | [_,_],_=>rfl
 · refine C6b (Us:=[.int .i64,.sl (.agg [.int .i64,.int .i64])]) (by kernel_rfl) (I:=s9I) (O:=s9O) C9p ?_
   intro x hw
   obtain ⟨n,l⟩:=x
   exact ⟨(n,l),true,rfl,D0d n l,rfl⟩
theorem GraphComponents_holds:Rows.GraphComponentsSaid :=
 OpenClaim.holds_of_wide 9 Try.f9 rfl rfl rfl rfl rfl rfl rfl ⟨rfl,rfl,rfl,rfl,rfl⟩ rfl rfl rfl rfl rfl (by kernel_rfl) Try.func9 (by kernel_rfl)
  (of_decide_eq_true (by kernel_rfl)) (by unfold Func.isWrapper; first | (rw [if_pos (by decide +kernel)]; kernel_rfl) | (rw [if_neg (by decide +kernel)]; exact ⟨rfl,rfl⟩))
  (fun os started H enc _=>law_lifted os started H enc)
end Go.Proofs.Ytibenanokfodaaa
