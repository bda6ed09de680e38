/- EnumerateCount: whatever the arguments, the law returns true, and its arguments read as before. No condition. -/
import Derived.Test.YtngcamcnkfkmdaaT6
import Derived.Test.YtngcamcnkfkmdaaT3
import Derived.Test.YtngcamcnkfkmdaaT5
import Derived.Test.YtngcamcnkfkmdaaRows
import Derived.Test.YtngcamcnkfkmdaaChecked
import Derived.ProofKit
namespace Go.Proofs.Ytngcamcnkfkmdaa
open Go.Mid Go.ChangeShapes Go.WideShapes Go.ChangeAt Go.RowKit
theorem ownKnob_none:ownKnob Try.prog.godebug=none:=by kernel_rfl
theorem laidOut_true:laidOutB Try.prog=true:=by kernel_rfl
set_option maxRecDepth 100000 in
theorem law_lifted (os:Os)(started:os.Started)(H:Type)(enc:TypeId×Value→H) :
 ReturnsInHanded {} Try.checked os 9 .any (Rows.enumerateCountSpec.pre6 enc Try.prog Try.f9 Rows.enumerateCountRow.domain false) (Rows.enumerateCountSpec.post enc Try.prog Try.f9 false true false false):=by
 refine D47 (C:=Try.checked) ownKnob_none started (by kernel_rfl) Try.func9 rfl laidOut_true (by kernel_rfl) (tb:=4) (by kernel_rfl) Try.underlying4 ?_
  (ChangeSpec.witness6 (enc:=enc) (C:=Try.checked) false ⟨#[],#[.agg #[.int .u8 0,.slice none 0 0],.int .i64 0],[]⟩ 8 (by kernel_rfl) (by kernel_rfl) (by kernel_rfl) (by kernel_rfl)) (by kernel_rfl) D46 ?_
 · intro ds hd
   match ds,hd with
   | [_,_],_=>rfl
 · refine D0M (Us:=[.agg [.int .u8,.sl (.int .u8)],.int .i64]) (by kernel_rfl) (I:=s9I) (O:=s9O) E33 ?_
   intro x hw
   obtain ⟨g,i⟩:=x
   exact ⟨(g,i),true,rfl,E3S g i hw.1.1 hw.1.2.1.2,rfl⟩
theorem EnumerateCount_holds:Rows.EnumerateCountSaid :=
 OpenClaim.holds_of_wide 9 Try.f9 rfl rfl rfl rfl rfl rfl rfl ⟨rfl,rfl,rfl,rfl,rfl⟩ rfl rfl rfl rfl rfl (by kernel_rfl) Try.func9 (by kernel_rfl)
  (of_decide_eq_true (by kernel_rfl)) (by unfold Func.isWrapper;first | (rw [if_pos (by decide +kernel)];kernel_rfl) | (rw [if_neg (by decide +kernel)];exact ⟨rfl,rfl⟩))
  (fun os started H enc _=>law_lifted os started H enc)
end Go.Proofs.Ytngcamcnkfkmdaa
