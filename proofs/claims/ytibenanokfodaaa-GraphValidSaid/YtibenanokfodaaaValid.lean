/- GraphValid: whatever the arguments, the law returns true, and its arguments read as before. No condition. -/
import Derived.Test.YtibenanokfodaaaW1
import Derived.Test.YtibenanokfodaaaP1
import Derived.Test.YtibenanokfodaaaRows
import Derived.Test.YtibenanokfodaaaChecked
import Derived.ProofKit
namespace Go.Proofs.Ytibenanokfodaaa
open Go.Mid Go.ChangeShapes Go.WideShapes Go.ChangeAt Go.RowKit
theorem Try.own : ownKnob Try.prog.godebug = none := by kernel_rfl
theorem Try.laidOut : laidOutB Try.prog = true := by kernel_rfl
theorem u16_range {x : Int} (h : (Lit.int .u16 x).wf = true) : 0 ≤ x ∧ x ≤ 65535 := by
  simp only [Lit.wf, Bool.and_eq_true, decide_eq_true_eq] at h
  have h1 : IntKind.u16.min = 0 := rfl
  have h2 : IntKind.u16.max = 65535 := rfl
  rw [h1, h2] at h
  exact h
set_option maxRecDepth 100000 in
theorem law_lifted (os : Os) (started : os.Started) (H : Type) (enc : TypeId × Value → H) :
    ReturnsInHanded {} Try.checked os 3 .any (Rows.graphValidSpec.pre6 enc Try.prog Try.f3 Rows.graphValidRow.domain false) (Rows.graphValidSpec.post enc Try.prog Try.f3 false true false false) := by
  refine law_returns (C := Try.checked) Try.own started (by kernel_rfl) Try.func3 rfl Try.laidOut (by kernel_rfl) (tb := 4) (by kernel_rfl) Try.underlying4 ?_
    (ChangeSpec.witness6 (enc := enc) (C := Try.checked) false ⟨#[], #[.int .i64 0, .slice none 0 0, .int .u16 0], []⟩ 8 (by kernel_rfl) (by kernel_rfl) (by kernel_rfl) (by kernel_rfl)) (by kernel_rfl) tab_ok ?_
  · intro ds hd
    match ds, hd with
    | [_, _, _], _ => rfl
  · refine law_hrun (Us := [.int .i64, .sl (.agg [.int .i64, .int .i64]), .int .u16]) (by kernel_rfl) (I := s3I) (O := s3O) s3_ok ?_
    intro x hw
    obtain ⟨n, l, t⟩ := x
    obtain ⟨_, _, h3, _⟩ := hw
    obtain ⟨h1, h2⟩ := u16_range h3
    exact ⟨(n, l, t), true, rfl, law3 n l t h1 h2, rfl⟩
theorem GraphValid_holds : Rows.GraphValidSaid :=
  OpenClaim.holds_of_wide 3 Try.f3 rfl rfl rfl rfl rfl rfl rfl ⟨rfl, rfl, rfl, rfl, rfl⟩ rfl rfl rfl rfl rfl (by kernel_rfl) Try.func3 (by kernel_rfl)
    (of_decide_eq_true (by kernel_rfl)) (by unfold Func.isWrapper; first | (rw [if_pos (by decide +kernel)]; kernel_rfl) | (rw [if_neg (by decide +kernel)]; exact ⟨rfl, rfl⟩))
    (fun os started H enc _ => law_lifted os started H enc)
end Go.Proofs.Ytibenanokfodaaa
