/- ConditionalValid: whatever the arguments, the law returns true, and its arguments read as before. No condition. -/
import Derived.Test.YtgmkjifkkiklcaaDoorK1
import Derived.Test.YtgmkjifkkiklcaaDoorP1
import Derived.Test.YtgmkjifkkiklcaaDoorCards
import Derived.ProofKit
import Derived.SevenTiedAt
import Derived.Stop.Joined
namespace Go.Proofs.YtgmkjifkkiklcaaDoor
open Go.Mid Go.ChangeShapes Go.WideShapes Go.ChangeAt Go.RowKit
theorem ownKnob_none : ownKnob Tryd.prog.godebug = none := by kernel_rfl
theorem laidOut_true : laidOutB Tryd.prog = true := by kernel_rfl
set_option maxRecDepth 100000 in
theorem law_lifted (os : Os) (started : os.Started) (H : Type) (enc : TypeId × Value → H) :
    ReturnsInHanded {} Tryd.checked os 3 .any (fun w args => (Rows.conditionalValidSpec.pre enc Tryd.prog Tryd.f3 Rows.conditionalValidRow.domain false w args ∧ laidMetH Tryd.prog Go.Mid.laid w) ∧ sizedMet enc Tryd.prog Tryd.f3 (OpenSpec.ofChange Rows.conditionalValidSpec) false w args)
      (Rows.conditionalValidSpec.post enc Tryd.prog Tryd.f3 false true false false) := by
  refine law_returnsL (C := Tryd.checked) ownKnob_none started (by kernel_rfl) Tryd.func3 rfl laidOut_true (by kernel_rfl) (tb := 4) (by kernel_rfl) Tryd.underlying4 ?_
    (X := fun w _ => laidMetH Tryd.prog Go.Mid.laid w) (fun _ _ _ hh h => h.of_heap hh)
    (ChangeSpec.witness_shaped (enc := enc) (C := Tryd.checked) (os := os) (X := fun w _ => laidMetH Tryd.prog Go.Mid.laid w) false (World.laidAll Tryd.prog os Go.Mid.laid) #[.int .i64 0, .agg #[.slice none 0 0, .int .i64 0, .slice none 0 0]] 8 (World.laidAll_os _ _ _)
      (World.shaped_of_ZipB (by kernel_rfl) (by kernel_rfl)) (by kernel_rfl) (by kernel_rfl) (by kernel_rfl)
      (by rw [MakeChecks.laidMetH_plain _ _ _ (by kernel_rfl)]; exact laidMet_laidAll _ (by kernel_rfl) (by kernel_rfl)))
    (fun W _ h => gl_of_laid h) tab_ok ?_
  · intro ds hd
    match ds, hd with
    | [_, _], _ => rfl
  · refine law_hrun (Us := [.int .i64, .agg [.sl (.int .i64), .int .i64, .sl (.agg [.bool, .agg [.int .i64, .int .i64, .str]])]]) (by kernel_rfl) (I := s3I) (O := s3O) s3_ok ?_
    intro x _
    obtain ⟨n, X⟩ := x
    exact ⟨(n, X), true, rfl, law3 n X, rfl⟩
theorem ConditionalValid_row : Rows.ConditionalValidSaid :=
  OpenClaim.holds_of_wide 3 Tryd.f3 rfl rfl rfl rfl rfl rfl rfl ⟨rfl, rfl, rfl, rfl, rfl⟩ rfl rfl rfl rfl rfl (by kernel_rfl) Tryd.func3 (by kernel_rfl)
    (of_decide_eq_true (by kernel_rfl)) (by unfold Func.isWrapper; first | (rw [if_pos (by decide +kernel)]; kernel_rfl) | (rw [if_neg (by decide +kernel)]; exact ⟨rfl, rfl⟩))
    (fun os started H enc _ => law_lifted os started H enc)
theorem ConditionalValid_holds : Rows.ConditionalValidCardSaid :=
  Claim7.holds_tied_plain_at .later [] [.data] true (true, "e31d94682a3a9a511da3176c379924aaafa581a7fc5b4c53fd1c7a8881ba1bda") false ConditionalValid_row (fun _ h => by cases h) (by kernel_rfl) (fun _ h => by cases h) conditionalValid_row_tie rfl ⟨rfl, rfl⟩ (by kernel_rfl) rfl
    (fun f fn hf hfn => by
      obtain rfl : f = 3 := Option.some.inj ((show Tryd.prog.funcNamed "dross/drosslaw16.ConditionalValid" = some 3 by kernel_rfl).symm.trans hf) |>.symm
      obtain rfl : fn = Tryd.f3 := (Option.some.inj (Tryd.func3.symm.trans hfn)).symm
      exact ⟨by kernel_rfl, fun j t ht => by
        rw [Tryd.params3] at ht
        have hm : t ∈ [3, 25] := by simpa using Array.mem_of_getElem? ht
        have hall : ([3, 25].all fun u => !Tryd.prog.wantsStandIn u) = true := by kernel_rfl
        exact (show Tryd.prog.wantsStandIn t = false by simpa using List.all_eq_true.1 hall t hm)⟩)
    (by kernel_rfl)
end Go.Proofs.YtgmkjifkkiklcaaDoor
