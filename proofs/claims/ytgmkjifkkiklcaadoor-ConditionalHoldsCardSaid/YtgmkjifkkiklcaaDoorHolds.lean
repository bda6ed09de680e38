/- ConditionalHolds: whatever the arguments, the law returns true, and its arguments read as before. No condition. -/
import Derived.Test.YtgmkjifkkiklcaaDoorT5
import Derived.Test.YtgmkjifkkiklcaaDoorT3
import Derived.Test.YtgmkjifkkiklcaaDoorT4
import Derived.Test.YtgmkjifkkiklcaaDoorCards
import Derived.ProofKit
import Derived.SevenTiedAt
import Derived.Stop.Joined
namespace Go.Proofs.YtgmkjifkkiklcaaDoor
open Go.Mid Go.ChangeShapes Go.WideShapes Go.ChangeAt Go.RowKit
theorem ownKnob_none : ownKnob Tryd.prog.godebug = none := by kernel_rfl
theorem laidOut_true : laidOutB Tryd.prog = true := by kernel_rfl
set_option maxRecDepth 100000 in
theorem law_lifted (os : Os) (started : os.Started) (H : Type) (enc : TypeId × Value → H) :
    ReturnsInHanded {} Tryd.checked os 8 .any (fun w args => (Rows.conditionalHoldsSpec.pre enc Tryd.prog Tryd.f8 Rows.conditionalHoldsRow.domain false w args ∧ laidMetH Tryd.prog Go.Mid.laid w) ∧ sizedMet enc Tryd.prog Tryd.f8 (OpenSpec.ofChange Rows.conditionalHoldsSpec) false w args)
      (Rows.conditionalHoldsSpec.post enc Tryd.prog Tryd.f8 false true false false) := by
  refine law_returnsL (C := Tryd.checked) ownKnob_none started (by kernel_rfl) Tryd.func8 rfl laidOut_true (by kernel_rfl) (tb := 4) (by kernel_rfl) Tryd.underlying4 ?_
    (X := fun w _ => laidMetH Tryd.prog Go.Mid.laid w) (fun _ _ _ hh h => h.of_heap hh)
    (ChangeSpec.witness_shaped (enc := enc) (C := Tryd.checked) (os := os) (X := fun w _ => laidMetH Tryd.prog Go.Mid.laid w) false (World.laidAll Tryd.prog os Go.Mid.laid) #[.agg #[.string ByteArray.empty, .slice none 0 0, .slice none 0 0], .agg #[.slice none 0 0, .int .i64 0, .slice none 0 0]] 8 (World.laidAll_os _ _ _)
      (World.shaped_of_ZipB (by kernel_rfl) (by kernel_rfl)) (by kernel_rfl) (by kernel_rfl) (by kernel_rfl)
      (by rw [MakeChecks.laidMetH_plain _ _ _ (by kernel_rfl)]; exact laidMet_laidAll _ (by kernel_rfl) (by kernel_rfl)))
    (fun W _ h => gl_of_laid h) tab_ok ?_
  · intro ds hd
    match ds, hd with
    | [_, _], _ => rfl
  · refine law_hrun (Us := [.agg [.str, .sl .str, .sl (.agg [.int .i64, .sl (.agg [.int .i64, .int .i64, .str])])], .agg [.sl (.int .i64), .int .i64, .sl (.agg [.bool, .agg [.int .i64, .int .i64, .str]])]]) (by kernel_rfl) (I := s8I) (O := s8O) s8_ok ?_
    intro x hw
    obtain ⟨t, c⟩ := x
    obtain ⟨ht, hc⟩ := hw
    exact ⟨(t, c), true, rfl, law8 t c (fun r h => (ht.2.2.1.2 r h).2.1.1) hc.1.1.1 hc.1.2.2.1.1, rfl⟩
theorem ConditionalHolds_row : Rows.ConditionalHoldsSaid :=
  OpenClaim.holds_of_wide 8 Tryd.f8 rfl rfl rfl rfl rfl rfl rfl ⟨rfl, rfl, rfl, rfl, rfl⟩ rfl rfl rfl rfl rfl (by kernel_rfl) Tryd.func8 (by kernel_rfl)
    (of_decide_eq_true (by kernel_rfl)) (by unfold Func.isWrapper; first | (rw [if_pos (by decide +kernel)]; kernel_rfl) | (rw [if_neg (by decide +kernel)]; exact ⟨rfl, rfl⟩))
    (fun os started H enc _ => law_lifted os started H enc)
theorem ConditionalHolds_holds : Rows.ConditionalHoldsCardSaid :=
  Claim7.holds_tied_plain_at .later [] [.data] true (true, "e31d94682a3a9a511da3176c379924aaafa581a7fc5b4c53fd1c7a8881ba1bda") false ConditionalHolds_row (fun _ h => by cases h) (by kernel_rfl) (fun _ h => by cases h) conditionalHolds_row_tie rfl ⟨rfl, rfl⟩ (by kernel_rfl) rfl
    (fun f fn hf hfn => by
      obtain rfl : f = 8 := Option.some.inj ((show Tryd.prog.funcNamed "dross/drosslaw16.ConditionalHolds" = some 8 by kernel_rfl).symm.trans hf) |>.symm
      obtain rfl : fn = Tryd.f8 := (Option.some.inj (Tryd.func8.symm.trans hfn)).symm
      exact ⟨by kernel_rfl, fun j t ht => by
        rw [Tryd.params8] at ht
        have hm : t ∈ [53, 25] := by simpa using Array.mem_of_getElem? ht
        have hall : ([53, 25].all fun u => !Tryd.prog.wantsStandIn u) = true := by kernel_rfl
        exact (show Tryd.prog.wantsStandIn t = false by simpa using List.all_eq_true.1 hall t hm)⟩)
    (by kernel_rfl)
end Go.Proofs.YtgmkjifkkiklcaaDoor
