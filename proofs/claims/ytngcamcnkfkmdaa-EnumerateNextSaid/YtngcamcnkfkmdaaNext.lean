/- EnumerateNext: whatever the arguments, the law returns true, and its arguments read as before. No condition. -/
import Derived.Test.YtngcamcnkfkmdaaY9
import Derived.Test.YtngcamcnkfkmdaaM7
import Derived.Test.YtngcamcnkfkmdaaY2
import Derived.Test.YtngcamcnkfkmdaaRows
import Derived.ProofKit
namespace Go.Mid
set_option linter.unusedSimpArgs false
set_option linter.unusedVariables false
open Go.Proofs Go.Proofs.Ytngcamcnkfkmdaa
theorem graph_form {v : PV} (h : HasT Try.prog 24 v) : ∃ (N : Nat) (E : List Nat), v = gPV N E ∧ N < 256 ∧ (∀ e ∈ E, e < 256) ∧ E.length < 9223372036854775808 := by
  obtain ⟨l, rfl, hl, hf⟩ := h.toStruct Try.underlying24
  match l, hl with
  | [a, b], _ =>
    obtain ⟨N, rfl, hN⟩ := (hf 0 _ a rfl rfl).toU8 Try.underlying5
    obtain ⟨E, rfl, hl, hE⟩ := (hf 1 _ b rfl rfl).toU8s Try.underlying22 Try.underlying5
    exact ⟨N, E, rfl, hN, hE, hl⟩
theorem hyper_form {v : PV} (h : HasT Try.prog 28 v) : ∃ (V : List Int) (ES : List (List Int)), v = .agg [i64s V, i64ss ES] ∧ V.length < 9223372036854775808 ∧ ES.length < 9223372036854775808 ∧ ∀ e ∈ ES, e.length < 9223372036854775808 := by
  obtain ⟨l, rfl, hl, hf⟩ := h.toStruct Try.underlying28
  match l, hl with
  | [a, b], _ =>
    obtain ⟨V, rfl, hV⟩ := (hf 0 _ a rfl rfl).toI64s Try.underlying25 Try.underlying2
    obtain ⟨m, rfl, hm, hx⟩ := (hf 1 _ b rfl rfl).toSlice Try.underlying26
    obtain ⟨ES, rfl, hE⟩ := maps_of i64s (fun e => e.length < 9223372036854775808) fun x hxm => (hx x hxm).toI64s Try.underlying25 Try.underlying2
    refine ⟨V, ES, rfl, hV, ?_, hE⟩
    have : maxLen = 9223372036854775807 := rfl
    rw [this] at hm
    simp at hm; omega
end Go.Mid
namespace Go.Proofs.Ytngcamcnkfkmdaa
open Go.Mid Go.ChangeShapes Go.WideShapes Go.ChangeAt Go.RowKit
theorem Try.own : ownKnob Try.prog.godebug = none := by kernel_rfl
theorem Try.laidOut : laidOutB Try.prog = true := by kernel_rfl
set_option maxRecDepth 100000 in
theorem law_lifted (os : Os) (started : os.Started) (H : Type) (enc : TypeId × Value → H) :
    ReturnsInHanded {} Try.checked os 6 .any (Rows.enumerateNextSpec.pre6 enc Try.prog Try.f6 Rows.enumerateNextRow.domain false) (Rows.enumerateNextSpec.post enc Try.prog Try.f6 false true false false) := by
  refine law_returns (C := Try.checked) Try.own started (by kernel_rfl) Try.func6 rfl Try.laidOut (by kernel_rfl) (by kernel_rfl) Try.underlying4 ?_
    (ChangeSpec.witness6 (enc := enc) (C := Try.checked) false ⟨#[], #[.agg #[.int .u8 0, .slice none 0 0], .slice none 0 0], []⟩ 8 (by kernel_rfl) (by kernel_rfl) (by kernel_rfl) (by kernel_rfl)) (by kernel_rfl) tab_ok ?_
  · intro ds hd
    match ds, hd with
    | [_, _], _ => rfl
  · intro vs hvs
    have hvs : HasTs Try.prog Try.f6.params.toList vs := hvs
    rw [Try.params6] at hvs
    obtain ⟨g, r, rfl, hg, hr⟩ := hasTs_cons hvs
    obtain ⟨m, r, rfl, hm, hr⟩ := hasTs_cons hr
    have := hasTs_nil hr
    subst this
    obtain ⟨N, E, rfl, hN, hE, hl⟩ := graph_form hg
    obtain ⟨l, rfl, hl'⟩ := hm.toI64s Try.underlying25 Try.underlying2
    exact run_of_KI (law6 N E l hN hE hl hl')
theorem EnumerateNext_holds : Rows.EnumerateNextSaid :=
  OpenClaim.holds_of_wide 6 Try.f6 rfl rfl rfl rfl rfl rfl rfl ⟨rfl, rfl, rfl, rfl, rfl⟩ rfl rfl rfl rfl rfl (by kernel_rfl) Try.func6 (by kernel_rfl)
    (of_decide_eq_true (by kernel_rfl)) (by unfold Func.isWrapper; first | (rw [if_pos (by decide +kernel)]; kernel_rfl) | (rw [if_neg (by decide +kernel)]; exact ⟨rfl, rfl⟩))
    (fun os started H enc _ => law_lifted os started H enc)
end Go.Proofs.Ytngcamcnkfkmdaa
