/- EnumerateCommon: whatever the arguments, the law returns true, and its arguments read as before. No condition. -/
import Derived.Test.YtngcamcnkfkmdaaY9
import Derived.Test.YtngcamcnkfkmdaaM7
import Derived.Test.YtngcamcnkfkmdaaY2
import Derived.Test.YtngcamcnkfkmdaaRows
import Derived.ProofKit
namespace Go.Mid
set_option linter.unusedSimpArgs false
set_option linter.unusedVariables false
open Go.Proofs Go.Proofs.Ytngcamcnkfkmdaa
theorem graph_form {v : PV} (h : HasT Try.prog 24 v) : ∃ (N : Nat) (E : List Nat), v = gPV N E ∧ N < 256 ∧ (∀ e ∈ E, e < 256) ∧ E.length < 9223372036854775808 := by
  obtain ⟨l, rfl, hl, hf⟩ := h.toStruct Try.underlying24
  match l, hl with
  | [a, b], _ =>
    obtain ⟨N, rfl, hN⟩ := (hf 0 _ a rfl rfl).toU8 Try.underlying5
    obtain ⟨E, rfl, hl, hE⟩ := (hf 1 _ b rfl rfl).toU8s Try.underlying22 Try.underlying5
    exact ⟨N, E, rfl, hN, hE, hl⟩
end Go.Mid
namespace Go.Proofs.Ytngcamcnkfkmdaa
open Go.Mid Go.ChangeShapes Go.WideShapes Go.ChangeAt Go.RowKit
theorem Try.own : ownKnob Try.prog.godebug = none := by kernel_rfl
theorem Try.laidOut : laidOutB Try.prog = true := by kernel_rfl
set_option maxRecDepth 100000 in
theorem law_lifted (os : Os) (started : os.Started) (H : Type) (enc : TypeId × Value → H) :
    ReturnsInHanded {} Try.checked os 4 .any (Rows.enumerateCommonSpec.pre6 enc Try.prog Try.f4 Rows.enumerateCommonRow.domain false) (Rows.enumerateCommonSpec.post enc Try.prog Try.f4 false true false false) := by
  refine law_returns (C := Try.checked) Try.own started (by kernel_rfl) Try.func4 rfl Try.laidOut (by kernel_rfl) (by kernel_rfl) Try.underlying4 ?_
    (ChangeSpec.witness6 (enc := enc) (C := Try.checked) false ⟨#[], #[.agg #[.int .u8 0, .slice none 0 0]], []⟩ 8 (by kernel_rfl) (by kernel_rfl) (by kernel_rfl) (by kernel_rfl)) tab_ok ?_
  · intro ds hd
    match ds, hd with
    | [_], _ => rfl
  · intro vs hvs
    have hvs : HasTs Try.prog Try.f4.params.toList vs := hvs
    rw [Try.params4] at hvs
    obtain ⟨g, r, rfl, hg, hr⟩ := hasTs_cons hvs
    have := hasTs_nil hr
    subst this
    obtain ⟨N, E, rfl, hN, hE, hl⟩ := graph_form hg
    exact run_of_KI (law4 N E hN hE hl)
theorem EnumerateCommon_holds : Rows.EnumerateCommonSaid :=
  OpenClaim.holds_of_wide 4 Try.f4 rfl rfl rfl rfl rfl rfl rfl ⟨rfl, rfl, rfl, rfl, rfl⟩ rfl rfl rfl rfl rfl (by kernel_rfl) Try.func4 (by kernel_rfl)
    (of_decide_eq_true (by kernel_rfl)) (by unfold Func.isWrapper; first | (rw [if_pos (by decide +kernel)]; kernel_rfl) | (rw [if_neg (by decide +kernel)]; exact ⟨rfl, rfl⟩))
    (fun os started H enc _ => law_lifted os started H enc)
end Go.Proofs.Ytngcamcnkfkmdaa
