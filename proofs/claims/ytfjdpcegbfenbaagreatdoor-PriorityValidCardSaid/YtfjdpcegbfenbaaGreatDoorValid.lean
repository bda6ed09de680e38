/- PriorityValid: whatever the arguments, the law returns true, and its arguments read as before. No condition. -/
import Derived.Test.YtfjdpcegbfenbaaGreatDoorT7
import Derived.Test.YtfjdpcegbfenbaaGreatDoorT3
import Derived.Test.YtfjdpcegbfenbaaGreatDoorT5
import Derived.Test.YtfjdpcegbfenbaaGreatDoorCards
import Derived.ProofKit
import Derived.SevenTiedAt
import Derived.Stop.Joined
namespace Go.Proofs.YtfjdpcegbfenbaaGreatDoor
open Go.Mid Go.ChangeShapes Go.WideShapes Go.ChangeAt Go.RowKit
theorem ownKnob_none:ownKnob Tryz.prog.godebug=none:=by kernel_rfl
theorem laidOut_true:laidOutB Tryz.prog=true:=by kernel_rfl
set_option maxRecDepth 100000 in
theorem law_lifted (os:Os)(started:os.Started)(H:Type)(enc:TypeId×Value→H) :
 ReturnsInHanded {} Tryz.checked os 4 .any (fun w args=>(Rows.priorityValidSpec.pre enc Tryz.prog Tryz.f4 Rows.priorityValidRow.domain false w args∧laidMetH Tryz.prog Go.Mid.laid w)∧sizedMet enc Tryz.prog Tryz.f4 (OpenSpec.ofChange Rows.priorityValidSpec) false w args)
  (Rows.priorityValidSpec.post enc Tryz.prog Tryz.f4 false true false false):=by
 refine C3J (C:=Tryz.checked) ownKnob_none started (by kernel_rfl) Tryz.func4 rfl laidOut_true (by kernel_rfl) (tb:=4) (by kernel_rfl) Tryz.underlying4 ?_
  (X:=fun w _=>laidMetH Tryz.prog Go.Mid.laid w) (fun _ _ _ hh h=>h.of_heap hh)
  (ChangeSpec.witness_shaped (enc:=enc) (C:=Tryz.checked) (os:=os) (X:=fun w _=>laidMetH Tryz.prog Go.Mid.laid w) false (World.laidAll Tryz.prog os Go.Mid.laid) #[.agg #[.slice none 0 0,.slice none 0 0],.slice none 0 0] 8 (World.laidAll_os _ _ _)
    (World.shaped_of_ZipB (by kernel_rfl) (by kernel_rfl)) (by kernel_rfl) (by kernel_rfl) (by kernel_rfl)
    (by rw [MakeChecks.laidMetH_plain _ _ _ (by kernel_rfl)];exact laidMet_laidAll _ (by kernel_rfl) (by kernel_rfl)))
  (fun W _ h=>C7R h) D46 ?_
 · intro ds hd
   match ds,hd with
   | [_,_],_=>rfl
 · refine D0M (Us:=[.agg [.sl (.int .i64),.sl (.sl (.int .i64))],.sl (.agg [.int .i64,.int .i64])]) (by kernel_rfl) (I:=s4I) (O:=s4O) E2K ?_
   intro x hw
   obtain ⟨g,q⟩:=x
   exact ⟨(g,q),true,rfl,E2R (v:=g.1) (es:=g.2) E3Y E3X (fun e he=>Nat.le_trans (hw.1.2.1.2 e he).1 (by decide)),rfl⟩
theorem PriorityValid_row:Rows.PriorityValidSaid :=
 OpenClaim.holds_of_wide 4 Tryz.f4 rfl rfl rfl rfl rfl rfl rfl ⟨rfl,rfl,rfl,rfl,rfl⟩ rfl rfl rfl rfl rfl (by kernel_rfl) Tryz.func4 (by kernel_rfl)
  (of_decide_eq_true (by kernel_rfl)) (by unfold Func.isWrapper;first | (rw [if_pos (by decide +kernel)];kernel_rfl) | (rw [if_neg (by decide +kernel)];exact ⟨rfl,rfl⟩))
  (fun os started H enc _=>law_lifted os started H enc)
theorem PriorityValid_holds:Rows.PriorityValidCardSaid :=
 Claim7.holds_tied_plain_at .later [] [.data] true (true,"07b4bc9e71080f18ae8f0b5bda99c214c96fa5211dc573115c0e17c8ddb92837") false PriorityValid_row (fun _ h=>by cases h) (by kernel_rfl) (fun _ h=>by cases h) priorityValid_row_tie rfl ⟨rfl,rfl⟩ (by kernel_rfl) rfl
  (fun f fn hf zx=>by
    obtain rfl:f=4:=Option.some.inj ((show Tryz.prog.funcNamed "dross/drosslaw44.PriorityValid"=some 4 by kernel_rfl).symm.trans hf) |>.symm
    obtain rfl:fn=Tryz.f4:=(Option.some.inj (Tryz.func4.symm.trans zx)).symm
    exact ⟨by kernel_rfl,fun j t ht=>by
     rw [Tryz.params4] at ht
     have hm:t ∈ [31,32]:=by simpa using Array.mem_of_getElem? ht
     have hall:([31,32].all fun u=>!Tryz.prog.wantsStandIn u)=true:=by kernel_rfl
     exact (show Tryz.prog.wantsStandIn t=false by simpa using List.all_eq_true.1 hall t hm)⟩)
  (by kernel_rfl)
end Go.Proofs.YtfjdpcegbfenbaaGreatDoor
