/- EnumeratePairs: whatever the arguments, the law returns true, and its arguments read as before. No condition. -/
import Derived.Test.YtngcamcnkfkmdaaT6
import Derived.Test.YtngcamcnkfkmdaaT3
import Derived.Test.YtngcamcnkfkmdaaT5
import Derived.Test.YtngcamcnkfkmdaaRows
import Derived.Test.YtngcamcnkfkmdaaChecked
import Derived.ProofKit
namespace Go.Proofs.Ytngcamcnkfkmdaa
open Go.Mid Go.ChangeShapes Go.WideShapes Go.ChangeAt Go.RowKit
theorem ownKnob_none:ownKnob Try.prog.godebug=none:=by kernel_rfl
theorem laidOut_true:laidOutB Try.prog=true:=by kernel_rfl
set_option maxRecDepth 100000 in
theorem law_lifted (os:Os)(started:os.Started)(H:Type)(enc:TypeId×Value→H) :
 ReturnsInHanded {} Try.checked os 10 .any (Rows.enumeratePairsSpec.pre6 enc Try.prog Try.f10 Rows.enumeratePairsRow.domain false) (Rows.enumeratePairsSpec.post enc Try.prog Try.f10 false true false false):=by
 refine D47 (C:=Try.checked) ownKnob_none started (by kernel_rfl) Try.func10 rfl laidOut_true (by kernel_rfl) (tb:=4) (by kernel_rfl) Try.underlying4 ?_
  (ChangeSpec.witness6 (enc:=enc) (C:=Try.checked) false ⟨#[],#[.int .u8 0,.int .u32 0],[]⟩ 8 (by kernel_rfl) (by kernel_rfl) (by kernel_rfl) (by kernel_rfl)) (by kernel_rfl) D46 ?_
 · intro ds hd
   match ds,hd with
   | [_,_],_=>rfl
 · refine D0M (Us:=[.int .u8,.int .u32]) (by kernel_rfl) (I:=D9s) (O:=D9t) D9u ?_
   intro x hw
   obtain ⟨k,i⟩:=x
   exact ⟨(k,i),true,rfl,E4G k i hw.1 hw.2.1,rfl⟩
theorem EnumeratePairs_holds:Rows.EnumeratePairsSaid :=
 OpenClaim.holds_of_wide 10 Try.f10 rfl rfl rfl rfl rfl rfl rfl ⟨rfl,rfl,rfl,rfl,rfl⟩ rfl rfl rfl rfl rfl (by kernel_rfl) Try.func10 (by kernel_rfl)
  (of_decide_eq_true (by kernel_rfl)) (by unfold Func.isWrapper;first | (rw [if_pos (by decide +kernel)];kernel_rfl) | (rw [if_neg (by decide +kernel)];exact ⟨rfl,rfl⟩))
  (fun os started H enc _=>law_lifted os started H enc)
end Go.Proofs.Ytngcamcnkfkmdaa
