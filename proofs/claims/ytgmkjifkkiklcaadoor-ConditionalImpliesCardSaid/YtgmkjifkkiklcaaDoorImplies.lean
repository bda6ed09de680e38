/- ConditionalImplies: whatever the arguments, the law returns true, and its arguments read as before. No condition. -/
import Derived.Test.YtgmkjifkkiklcaaDoorT6
import Derived.Test.YtgmkjifkkiklcaaDoorT3
import Derived.Test.YtgmkjifkkiklcaaDoorT5
import Derived.Test.YtgmkjifkkiklcaaDoorCards
import Derived.ProofKit
import Derived.SevenTiedAt
import Derived.Stop.Joined
namespace Go.Proofs.YtgmkjifkkiklcaaDoor
open Go.Mid Go.ChangeShapes Go.WideShapes Go.ChangeAt Go.RowKit
theorem ownKnob_none:ownKnob Tryd.prog.godebug=none:=by kernel_rfl
theorem laidOut_true:laidOutB Tryd.prog=true:=by kernel_rfl
theorem u8_range {x:Int}(h:(Lit.int .u8 x).wf=true):0≤x∧x<256:=by
 simp only [Lit.wf,Bool.and_eq_true,decide_eq_true_eq] at h
 have h1:IntKind.u8.min=0:=rfl
 have h2:IntKind.u8.max=255:=rfl
 rw [h1,h2] at h
 omega
set_option maxRecDepth 100000 in
theorem law_lifted (os:Os)(started:os.Started)(H:Type)(enc:TypeId×Value→H) :
 ReturnsInHanded {} Tryd.checked os 6 .any (fun w args=>(Rows.conditionalImpliesSpec.pre enc Tryd.prog Tryd.f6 Rows.conditionalImpliesRow.domain false w args∧laidMetH Tryd.prog Go.Mid.laid w)∧sizedMet enc Tryd.prog Tryd.f6 (OpenSpec.ofChange Rows.conditionalImpliesSpec) false w args)
  (Rows.conditionalImpliesSpec.post enc Tryd.prog Tryd.f6 false true false false):=by
 refine C3J (C:=Tryd.checked) ownKnob_none started (by kernel_rfl) Tryd.func6 rfl laidOut_true (by kernel_rfl) (tb:=4) (by kernel_rfl) Tryd.underlying4 ?_
  (X:=fun w _=>laidMetH Tryd.prog Go.Mid.laid w) (fun _ _ _ hh h=>h.of_heap hh)
  (ChangeSpec.witness_shaped (enc:=enc) (C:=Tryd.checked) (os:=os) (X:=fun w _=>laidMetH Tryd.prog Go.Mid.laid w) false (World.laidAll Tryd.prog os Go.Mid.laid) #[.int .u8 0,.slice none 0 0,.agg #[.int .u8 0,.int .u8 0,.slice none 0 0]] 8 (World.laidAll_os _ _ _)
    (World.shaped_of_ZipB (by kernel_rfl) (by kernel_rfl)) (by kernel_rfl) (by kernel_rfl) (by kernel_rfl)
    (by rw [MakeChecks.laidMetH_plain _ _ _ (by kernel_rfl)];exact laidMet_laidAll _ (by kernel_rfl) (by kernel_rfl)))
  (fun W _ h=>C7R h) D46 ?_
 · intro ds hd
   match ds,hd with
   | [_,_,_],_=>rfl
 · refine D0M (Us:=[.int .u8,.sl (.agg [.int .u8,.int .u8,.sl (.int .u8)]),.agg [.int .u8,.int .u8,.sl (.int .u8)]]) (by kernel_rfl) (I:=s6I) (O:=s6O) E9P ?_
   intro x hw
   obtain ⟨x,ds,d⟩:=x
   obtain ⟨hx,hl,hd,_⟩:=hw
   exact ⟨(x,ds,d),true,rfl,E9T x ds d (u8_range hx).1 (u8_range hx).2 (fun d h=>u8_range (hl.2 d h).2.1) (u8_range hd.2.1),rfl⟩
theorem ConditionalImplies_row:Rows.ConditionalImpliesSaid :=
 OpenClaim.holds_of_wide 6 Tryd.f6 rfl rfl rfl rfl rfl rfl rfl ⟨rfl,rfl,rfl,rfl,rfl⟩ rfl rfl rfl rfl rfl (by kernel_rfl) Tryd.func6 (by kernel_rfl)
  (of_decide_eq_true (by kernel_rfl)) (by unfold Func.isWrapper;first | (rw [if_pos (by decide +kernel)];kernel_rfl) | (rw [if_neg (by decide +kernel)];exact ⟨rfl,rfl⟩))
  (fun os started H enc _=>law_lifted os started H enc)
theorem ConditionalImplies_holds:Rows.ConditionalImpliesCardSaid :=
 Claim7.holds_tied_plain_at .later [] [.data] true (true,"e31d94682a3a9a511da3176c379924aaafa581a7fc5b4c53fd1c7a8881ba1bda") false ConditionalImplies_row (fun _ h=>by cases h) (by kernel_rfl) (fun _ h=>by cases h) conditionalImplies_row_tie rfl ⟨rfl,rfl⟩ (by kernel_rfl) rfl
  (fun f fn hf hfn=>by
    obtain rfl:f=6:=Option.some.inj ((show Tryd.prog.funcNamed "dross/drosslaw16.ConditionalImplies"=some 6 by kernel_rfl).symm.trans hf) |>.symm
    obtain rfl:fn=Tryd.f6:=(Option.some.inj (Tryd.func6.symm.trans hfn)).symm
    exact ⟨by kernel_rfl,fun j t ht=>by
     rw [Tryd.params6] at ht
     have hm:t ∈ [5,38,46]:=by simpa using Array.mem_of_getElem? ht
     have hall:([5,38,46].all fun u=>!Tryd.prog.wantsStandIn u)=true:=by kernel_rfl
     exact (show Tryd.prog.wantsStandIn t=false by simpa using List.all_eq_true.1 hall t hm)⟩)
  (by kernel_rfl)
end Go.Proofs.YtgmkjifkkiklcaaDoor
