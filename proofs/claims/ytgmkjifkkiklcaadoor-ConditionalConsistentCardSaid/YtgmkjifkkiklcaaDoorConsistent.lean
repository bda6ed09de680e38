/- ConditionalConsistent: whatever the arguments, the law returns true, and its arguments read as before. No condition. -/
import Derived.Test.YtgmkjifkkiklcaaDoorT6
import Derived.Test.YtgmkjifkkiklcaaDoorT3
import Derived.Test.YtgmkjifkkiklcaaDoorT5
import Derived.Test.YtgmkjifkkiklcaaDoorCards
import Derived.ProofKit
import Derived.SevenTiedAt
import Derived.Stop.Joined
namespace Go.Proofs.YtgmkjifkkiklcaaDoor
open Go.Mid Go.ChangeShapes Go.WideShapes Go.ChangeAt Go.RowKit
theorem ownKnob_none:ownKnob Tryd.prog.godebug=none:=by kernel_rfl
theorem laidOut_true:laidOutB Tryd.prog=true:=by kernel_rfl
set_option maxRecDepth 100000 in
theorem law_lifted (os:Os)(started:os.Started)(H:Type)(enc:TypeId×Value→H) :
 ReturnsInHanded {} Tryd.checked os 4 .any (fun w args=>(Rows.conditionalConsistentSpec.pre enc Tryd.prog Tryd.f4 Rows.conditionalConsistentRow.domain false w args∧laidMetH Tryd.prog Go.Mid.laid w)∧sizedMet enc Tryd.prog Tryd.f4 (OpenSpec.ofChange Rows.conditionalConsistentSpec) false w args)
  (Rows.conditionalConsistentSpec.post enc Tryd.prog Tryd.f4 false true false false):=by
 refine C3J (C:=Tryd.checked) ownKnob_none started (by kernel_rfl) Tryd.func4 rfl laidOut_true (by kernel_rfl) (tb:=4) (by kernel_rfl) Tryd.underlying4 ?_
  (X:=fun w _=>laidMetH Tryd.prog Go.Mid.laid w) (fun _ _ _ hh h=>h.of_heap hh)
  (ChangeSpec.witness_shaped (enc:=enc) (C:=Tryd.checked) (os:=os) (X:=fun w _=>laidMetH Tryd.prog Go.Mid.laid w) false (World.laidAll Tryd.prog os Go.Mid.laid) #[.int .i64 0,.slice none 0 0] 8 (World.laidAll_os _ _ _)
    (World.shaped_of_ZipB (by kernel_rfl) (by kernel_rfl)) (by kernel_rfl) (by kernel_rfl) (by kernel_rfl)
    (by rw [MakeChecks.laidMetH_plain _ _ _ (by kernel_rfl)];exact laidMet_laidAll _ (by kernel_rfl) (by kernel_rfl)))
  (fun W _ h=>C7R h) D46 ?_
 · intro ds hd
   match ds,hd with
   | [_,_],_=>rfl
 · refine D0M (Us:=[.int .i64,.sl (.agg [.sl (.int .i64),.int .i64,.sl (.agg [.bool,.agg [.int .i64,.int .i64,.str]])])]) (by kernel_rfl) (I:=s4I) (O:=s4O) E4D ?_
   intro x hw
   obtain ⟨n,l⟩:=x
   obtain ⟨_,⟨hl,hx⟩,_⟩:=hw
   exact ⟨(n,l),true,rfl,E4F n l (Nat.le_trans hl (by decide)) (fun X h=>⟨Nat.le_trans (hx X h).1.1 (by decide),Nat.le_trans (hx X h).2.2.1.1 (by decide)⟩),rfl⟩
theorem ConditionalConsistent_row:Rows.ConditionalConsistentSaid :=
 OpenClaim.holds_of_wide 4 Tryd.f4 rfl rfl rfl rfl rfl rfl rfl ⟨rfl,rfl,rfl,rfl,rfl⟩ rfl rfl rfl rfl rfl (by kernel_rfl) Tryd.func4 (by kernel_rfl)
  (of_decide_eq_true (by kernel_rfl)) (by unfold Func.isWrapper;first | (rw [if_pos (by decide +kernel)];kernel_rfl) | (rw [if_neg (by decide +kernel)];exact ⟨rfl,rfl⟩))
  (fun os started H enc _=>law_lifted os started H enc)
theorem ConditionalConsistent_holds:Rows.ConditionalConsistentCardSaid :=
 Claim7.holds_tied_plain_at .later [] [.data] true (true,"e31d94682a3a9a511da3176c379924aaafa581a7fc5b4c53fd1c7a8881ba1bda") false ConditionalConsistent_row (fun _ h=>by cases h) (by kernel_rfl) (fun _ h=>by cases h) conditionalConsistent_row_tie rfl ⟨rfl,rfl⟩ (by kernel_rfl) rfl
  (fun f fn hf hfn=>by
    obtain rfl:f=4:=Option.some.inj ((show Tryd.prog.funcNamed "dross/drosslaw16.ConditionalConsistent"=some 4 by kernel_rfl).symm.trans hf) |>.symm
    obtain rfl:fn=Tryd.f4:=(Option.some.inj (Tryd.func4.symm.trans hfn)).symm
    exact ⟨by kernel_rfl,fun j t ht=>by
     rw [Tryd.params4] at ht
     have hm:t ∈ [3,28]:=by simpa using Array.mem_of_getElem? ht
     have hall:([3,28].all fun u=>!Tryd.prog.wantsStandIn u)=true:=by kernel_rfl
     exact (show Tryd.prog.wantsStandIn t=false by simpa using List.all_eq_true.1 hall t hm)⟩)
  (by kernel_rfl)
end Go.Proofs.YtgmkjifkkiklcaaDoor
