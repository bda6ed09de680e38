/- The laws: the run of EnumerateAll. -/
import Derived.Test.YtngcamcnkfkmdaaY8
import Derived.Test.YtngcamcnkfkmdaaY6
import Derived.Test.YtngcamcnkfkmdaaY7
import Derived.KernelRfl
namespace Go.Mid
theorem t13 : callF tab (run tab 120) 13 [] [] = some (.p (.bool true), [], []) := by kernel_rfl
theorem k13 : KI tab 13 [] [] = some (.p (.bool true), [], []) := KI_le 120 13 [] [] _ t13
section
variable (N : Nat) (E : List Nat)
abbrev hV : List Int := verts (N % 9)
theorem hV_le : (hV N).length ≤ 40 := by simp; omega
theorem hEs_20000 : (hEs N E).length ≤ 20000 := by have := hEs_length N E; omega
theorem hEs_big : ∀ e ∈ hEs N E, e.length < 4611686018427387904 := fun e he => by have := hEs_el N E e he; omega
theorem prog_ref_E : progR (hV N) (hEs N E) = refR (hV N) (hEs N E) := prog_ref (hEs_G N E)
theorem allS_len_E : (allS (hV N) (hEs N E)).length = (refR (hV N) (hEs N E)).length := by
  rw [← prog_ref_E, progR, List.length_map]
theorem refR_len : (refR (hV N) (hEs N E)).length ≤ 1099511627776 := by
  rw [← allS_len_E]; exact allS_length (hV_le N)
theorem refR_el : ∀ l ∈ refR (hV N) (hEs N E), l.length ≤ 40 := by
  intro l hl
  rw [← prog_ref_E, progR, List.mem_map] at hl
  obtain ⟨s, _, rfl⟩ := hl
  exact Nat.le_trans (idsP_length _ _) (hV_le N)
end
theorem law3 (N : Nat) (E : List Nat) (most : Int) (hN : N < 256) (hE : ∀ e ∈ E, e < 256) (hl : E.length < 9223372036854775808) : KI tab 3 [.p (gPV N E), .p (i64 most)] [] = some (.p (.bool true), [], []) := by
  have h12 := k12 N E hN hE hl
  have hlen := refR_len N E
  have hal := allS_len_E N E
  have hpr := prog_ref_E N E
  have h16 := k16 (refR (hV N) (hEs N E)) (refR (hV N) (hEs N E)) (by omega) (fun x hx => by have := refR_el N E x hx; omega)
  rw [show (refR (hV N) (hEs N E) == refR (hV N) (hEs N E)) = true by simp] at h16
  have h16n : KI tab 16 [.p (.sl []), .p (.sl [])] [] = some (.p (.bool true), [], []) := k16 [] [] (by simp) (by simp)
  have h13 := k13
  rw [KI_list (F := fun3) rfl]
  by_cases ho : E.length ≤ 12
  · rw [show decide (E.length ≤ 12) = true by simpa using ho] at h12
    by_cases hm : ((refR (hV N) (hEs N E)).length : Int) ≤ most
    · have h14 := k14_ok (hEs_H N E) (hEs_err N E) most (by rw [hal]; exact hm)
      have h15 := k15_ok (hV_le N) (hEs_20000 N E) (hEs_big N E) (hEs_err N E) most hm (by omega)
      rw [hpr] at h14
      simp only [retT] at h14
      simp (maxSteps := 4000000) (disch := first | omega | (simp only [List.length_map, List.length_append, List.length_cons, List.length_nil, List.length_set, List.length_take, List.length_range] <;> omega) | (simp; done) | fail) [fun3, body3, h12, h13, h14, h15, h16]
    · have h14 := k14_big (hEs_H N E) (hEs_err N E) most (allS_ne (hEs_G N E)) (by rw [hal]; omega)
      have h15 := k15_big (hV_le N) (hEs_20000 N E) (hEs_big N E) (hEs_err N E) most (by omega)
      simp only [retT] at h14
      simp (maxSteps := 4000000) (disch := first | omega | (simp only [List.length_map, List.length_append, List.length_cons, List.length_nil, List.length_set, List.length_take, List.length_range] <;> omega) | (simp; done) | fail) [fun3, body3, h12, h13, h14, h15, h16n]
  · rw [show decide (E.length ≤ 12) = false by simpa using ho] at h12
    simp (maxSteps := 4000000) (disch := first | omega | (simp only [List.length_map, List.length_append, List.length_cons, List.length_nil, List.length_set, List.length_take, List.length_range] <;> omega) | (simp; done) | fail) [fun3, body3, h12, h13]
end Go.Mid
