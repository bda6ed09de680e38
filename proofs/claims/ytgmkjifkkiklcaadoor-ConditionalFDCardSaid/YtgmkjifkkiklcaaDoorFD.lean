/- ConditionalFD: whatever the arguments, the law returns true, and its arguments read as before. No condition. -/
import Derived.Test.YtgmkjifkkiklcaaDoorT6
import Derived.Test.YtgmkjifkkiklcaaDoorT3
import Derived.Test.YtgmkjifkkiklcaaDoorT5
import Derived.Test.YtgmkjifkkiklcaaDoorCards
import Derived.ProofKit
import Derived.SevenTiedAt
import Derived.Stop.Joined
namespace Go.Proofs.YtgmkjifkkiklcaaDoor
open Go.Mid Go.ChangeShapes Go.WideShapes Go.ChangeAt Go.RowKit
theorem ownKnob_none : ownKnob Tryd.prog.godebug = none := by kernel_rfl
theorem laidOut_true : laidOutB Tryd.prog = true := by kernel_rfl
theorem u16_range {x : Int} (h : (Lit.int .u16 x).wf = true) : 0 ≤ x ∧ x ≤ 65535 := by
  simp only [Lit.wf, Bool.and_eq_true, decide_eq_true_eq] at h
  have h1 : IntKind.u16.min = 0 := rfl
  have h2 : IntKind.u16.max = 65535 := rfl
  rw [h1, h2] at h
  exact h
theorem u8_range {x : Int} (h : (Lit.int .u8 x).wf = true) : 0 ≤ x ∧ x ≤ 255 := by
  simp only [Lit.wf, Bool.and_eq_true, decide_eq_true_eq] at h
  have h1 : IntKind.u8.min = 0 := rfl
  have h2 : IntKind.u8.max = 255 := rfl
  rw [h1, h2] at h
  exact h
set_option maxRecDepth 100000 in
theorem law_lifted (os : Os) (started : os.Started) (H : Type) (enc : TypeId × Value → H) :
    ReturnsInHanded {} Tryd.checked os 10 .any (fun w args => (Rows.conditionalFDSpec.pre enc Tryd.prog Tryd.f10 Rows.conditionalFDRow.domain false w args ∧ laidMetH Tryd.prog Go.Mid.laid w) ∧ sizedMet enc Tryd.prog Tryd.f10 (OpenSpec.ofChange Rows.conditionalFDSpec) false w args)
      (Rows.conditionalFDSpec.post enc Tryd.prog Tryd.f10 false true false false) := by
  refine law_returnsL (C := Tryd.checked) ownKnob_none started (by kernel_rfl) Tryd.func10 rfl laidOut_true (by kernel_rfl) (tb := 4) (by kernel_rfl) Tryd.underlying4 ?_
    (X := fun w _ => laidMetH Tryd.prog Go.Mid.laid w) (fun _ _ _ hh h => h.of_heap hh)
    (ChangeSpec.witness_shaped (enc := enc) (C := Tryd.checked) (os := os) (X := fun w _ => laidMetH Tryd.prog Go.Mid.laid w) false (World.laidAll Tryd.prog os Go.Mid.laid) #[.agg #[.int .u8 0, .int .u8 0, .slice none 0 0], .int .u16 0, .int .u16 0] 8 (World.laidAll_os _ _ _)
      (World.shaped_of_ZipB (by kernel_rfl) (by kernel_rfl)) (by kernel_rfl) (by kernel_rfl) (by kernel_rfl)
      (by rw [MakeChecks.laidMetH_plain _ _ _ (by kernel_rfl)]; exact laidMet_laidAll _ (by kernel_rfl) (by kernel_rfl)))
    (fun W _ h => gl_of_laid h) tab_ok ?_
  · intro ds hd
    match ds, hd with
    | [_, _, _], _ => rfl
  · refine law_hrun (Us := [.agg [.int .u8, .int .u8, .sl (.sl (.int .u8))], .int .u16, .int .u16]) (by kernel_rfl) (I := s10I) (O := s10O) s10_ok ?_
    intro x hw
    obtain ⟨x, l, r⟩ := x
    obtain ⟨hx, hl, hr⟩ := hw
    exact ⟨(x, l, r), true, rfl, law10 x l r (u8_range hx.1).1 (u8_range hx.2.1).1 (u8_range hx.1).2 (u16_range hl).1 (u16_range hl).2 (u16_range hr.1).1 (u16_range hr.1).2, rfl⟩
theorem ConditionalFD_row : Rows.ConditionalFDSaid :=
  OpenClaim.holds_of_wide 10 Tryd.f10 rfl rfl rfl rfl rfl rfl rfl ⟨rfl, rfl, rfl, rfl, rfl⟩ rfl rfl rfl rfl rfl (by kernel_rfl) Tryd.func10 (by kernel_rfl)
    (of_decide_eq_true (by kernel_rfl)) (by unfold Func.isWrapper; first | (rw [if_pos (by decide +kernel)]; kernel_rfl) | (rw [if_neg (by decide +kernel)]; exact ⟨rfl, rfl⟩))
    (fun os started H enc _ => law_lifted os started H enc)
theorem ConditionalFD_holds : Rows.ConditionalFDCardSaid :=
  Claim7.holds_tied_plain_at .later [] [.data] true (true, "e31d94682a3a9a511da3176c379924aaafa581a7fc5b4c53fd1c7a8881ba1bda") false ConditionalFD_row (fun _ h => by cases h) (by kernel_rfl) (fun _ h => by cases h) conditionalFD_row_tie rfl ⟨rfl, rfl⟩ (by kernel_rfl) rfl
    (fun f fn hf hfn => by
      obtain rfl : f = 10 := Option.some.inj ((show Tryd.prog.funcNamed "dross/drosslaw16.ConditionalFD" = some 10 by kernel_rfl).symm.trans hf) |>.symm
      obtain rfl : fn = Tryd.f10 := (Option.some.inj (Tryd.func10.symm.trans hfn)).symm
      exact ⟨by kernel_rfl, fun j t ht => by
        rw [Tryd.params10] at ht
        have hm : t ∈ [68, 72, 72] := by simpa using Array.mem_of_getElem? ht
        have hall : ([68, 72, 72].all fun u => !Tryd.prog.wantsStandIn u) = true := by kernel_rfl
        exact (show Tryd.prog.wantsStandIn t = false by simpa using List.all_eq_true.1 hall t hm)⟩)
    (by kernel_rfl)
end Go.Proofs.YtgmkjifkkiklcaaDoor
