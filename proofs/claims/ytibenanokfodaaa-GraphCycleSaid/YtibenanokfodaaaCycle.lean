/- GraphCycle: whatever the arguments, the law returns true, and its arguments read as before. No condition. -/
import Derived.Test.YtibenanokfodaaaT6
import Derived.Test.YtibenanokfodaaaT3
import Derived.Test.YtibenanokfodaaaT4
import Derived.Test.YtibenanokfodaaaRows
import Derived.Test.YtibenanokfodaaaChecked
import Derived.ProofKit
namespace Go.Proofs.Ytibenanokfodaaa
open Go.Mid Go.ChangeShapes Go.WideShapes Go.ChangeAt Go.RowKit
theorem ownKnob_none:ownKnob Try.prog.godebug=none:=by kernel_rfl
theorem laidOut_true:laidOutB Try.prog=true:=by kernel_rfl
set_option maxRecDepth 100000 in
theorem law_lifted (os:Os) (started:os.Started) (H:Type) (enc:TypeId×Value→H) :
 ReturnsInHanded {} Try.checked os 5 .any (Rows.graphCycleSpec.pre6 enc Try.prog Try.f5 Rows.graphCycleRow.domain false) (Rows.graphCycleSpec.post enc Try.prog Try.f5 false true false false):=by
 refine C0V (C:=Try.checked) ownKnob_none started (by kernel_rfl) Try.func5 rfl laidOut_true (by kernel_rfl) (tb:=4) (by kernel_rfl) Try.underlying4 ?_
  (ChangeSpec.witness6 (enc:=enc) (C:=Try.checked) false ⟨#[],#[.int .i64 0,.slice none 0 0],[]⟩ 8 (by kernel_rfl) (by kernel_rfl) (by kernel_rfl) (by kernel_rfl)) (by kernel_rfl) C85 ?_
 · intro ds hd
   match ds,hd with
   | [_,_],_=>rfl
 · refine C6e (Us:=[.int .i64,.sl (.agg [.int .i64,.int .i64])]) (by kernel_rfl) (I:=s5I) (O:=s5O) C9u ?_
   intro x hw
   obtain ⟨n,l⟩:=x
   exact ⟨(n,l),true,rfl,D0f n l,rfl⟩
theorem GraphCycle_holds:Rows.GraphCycleSaid :=
 OpenClaim.holds_of_wide 5 Try.f5 rfl rfl rfl rfl rfl rfl rfl ⟨rfl,rfl,rfl,rfl,rfl⟩ rfl rfl rfl rfl rfl (by kernel_rfl) Try.func5 (by kernel_rfl)
  (of_decide_eq_true (by kernel_rfl)) (by unfold Func.isWrapper; first | (rw [if_pos (by decide +kernel)]; kernel_rfl) | (rw [if_neg (by decide +kernel)]; exact ⟨rfl,rfl⟩))
  (fun os started H enc _=>law_lifted os started H enc)
end Go.Proofs.Ytibenanokfodaaa
