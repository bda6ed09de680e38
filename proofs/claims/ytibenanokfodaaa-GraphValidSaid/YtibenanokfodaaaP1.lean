/- GraphValid: the plain law. -/
import Derived.Test.YtibenanokfodaaaG1
import Derived.Test.YtibenanokfodaaaN2
namespace Go.Mid
set_option linter.unusedSimpArgs false
set_option linter.unusedVariables false
/-- an edge leads out of the graph -/
def badE (n : Int) (e : Int × Int) : Bool := decide (e.1 < 0) || decide (e.1 ≥ n) || decide (e.2 < 0) || decide (e.2 ≥ n)
def validS (n : Int) (l : List (Int × Int)) : Int := if n > 1000 then 3 else if (l.length : Int) > 20000 then 3 else if n < 0 then 1 else if l.any (badE n) then 1 else 0
theorem blt02 : Nat.blt 0 2 = true := rfl
theorem blt12 : Nat.blt 1 2 = true := rfl
theorem blt22 : Nat.blt 2 2 = false := rfl
theorem bad_iff {n : Int} {e : Int × Int} : badE n e = true ↔ e.1 < 0 ∨ e.1 ≥ n ∨ e.2 < 0 ∨ e.2 ≥ n := by
  simp [badE, or_assoc]
theorem graph_Valid_eq (n : Int) (l : List (Int × Int)) : graph_Valid (n, l) = some (validS n l) := by
  unfold graph_Valid validS
  simp only [gt_iff_lt]
  by_cases h1 : 1000 < n
  · simp [h1]
  by_cases h2 : (20000 : Int) < l.length
  · simp [h1, h2]
  by_cases h3 : n < 0
  · simp [h1, h2, h3]
  simp only [h1, h2, h3, decide_false, cond_false, if_false]
  have := loop_anyP (f := graph_Valid_l0) l (fun i => (n, l, (l.length : Int), (i : Int))) (badE n) (.inl 1) (.inr ()) (fun i hi => by
    have hi' : (i : Int) < l.length := by omega
    simp only [graph_Valid_l0, hi', decide_true, cond_true, Int.natCast_nonneg, Int.toNat_natCast, List.getElem?_eq_getElem hi, Option.bind_some, blt02, blt12, wrap_i64s (show i < 9223372036854775807 by omega)]
    generalize l[i] = e
    by_cases hb : badE n e = true
    · rw [if_pos hb]
      rw [bad_iff] at hb
      by_cases c1 : (if e.2 < e.1 then e.2 else e.1) < 0
      · simp only [c1, decide_true, cond_true]
      · have c2 : (if e.2 > e.1 then e.2 else e.1) ≥ n := by
          split at c1 <;> split <;> omega
        simp only [c1, c2, decide_true, decide_false, cond_true, cond_false]
    · rw [if_neg hb]
      rw [bad_iff] at hb
      have c1 : ¬ (if e.2 < e.1 then e.2 else e.1) < 0 := by split <;> omega
      have c2 : ¬ (if e.2 > e.1 then e.2 else e.1) ≥ n := by split <;> omega
      simp only [c1, c2, decide_false, cond_false]) (by
    simp only [graph_Valid_l0, Int.lt_irrefl, decide_false, cond_false])
  simp only [Int.natCast_zero] at this
  rw [this]
  by_cases h4 : l.any (badE n) = true
  · simp [h4]
  · simp only [h4]; rfl
theorem drossref06_Valid_eq (n : Int) (l : List (Int × Int)) : drossref06_Valid (n, l) = some (validS n l) := by
  unfold drossref06_Valid validS
  simp only [gt_iff_lt]
  by_cases h1 : 1000 < n
  · simp [h1]
  by_cases h2 : (20000 : Int) < l.length
  · simp [h1, h2]
  by_cases h3 : n < 0
  · simp [h1, h2, h3]
  simp only [h1, h2, h3, decide_false, cond_false, if_false]
  have := loop_anyP (f := drossref06_Valid_l0) l (fun i => (n, l, (i : Int))) (badE n) (.inl 1) (.inr ()) (fun i hi => by
    have hi' : (i : Int) < l.length := by omega
    have in1 : ∀ (k : Nat), drossref06_Valid_l1 (n, l, (i : Int), (k : Int)) = (if k < 2 then (if (bif k == 0 then (l[i]).1 else (l[i]).2) < 0 ∨ (bif k == 0 then (l[i]).1 else (l[i]).2) ≥ n then some (.inr (.inl 1)) else some (.inl (n, l, (i : Int), ((k + 1 : Nat) : Int)))) else some (.inr (.inr (n, l, (i : Int))))) := by
      intro k
      by_cases hk : k < 2
      · have hk' : (k : Int) < 2 := by omega
        have hb : Nat.blt k 2 = true := by rw [Nat.blt_eq]; exact hk
        simp only [drossref06_Valid_l1, hk, hk', decide_true, cond_true, Int.natCast_nonneg, Int.toNat_natCast, List.getElem?_eq_getElem hi, Option.bind_some, hb, wrap_i64s (show k < 9223372036854775807 by omega), if_true]
        by_cases c1 : (bif k == 0 then (l[i]).1 else (l[i]).2) < 0
        · simp only [c1, decide_true, cond_true, true_or, if_true]
        · by_cases c2 : (bif k == 0 then (l[i]).1 else (l[i]).2) ≥ n
          · simp only [c1, c2, decide_true, decide_false, cond_true, cond_false, or_true, if_true]
          · simp only [c1, c2, decide_false, cond_false, or_self, if_false]
      · have hk' : ¬ (k : Int) < 2 := by omega
        simp only [drossref06_Valid_l1, hk, hk', decide_false, cond_false, if_false]
    simp only [drossref06_Valid_l0, hi', decide_true, cond_true]
    have e0 : drossref06_Valid_l1 (n, l, (i : Int), 0) = (if (l[i]).1 < 0 ∨ (l[i]).1 ≥ n then some (.inr (.inl 1)) else some (.inl (n, l, (i : Int), ((1 : Nat) : Int)))) := (in1 0).trans (if_pos (by decide))
    have e1 : drossref06_Valid_l1 (n, l, (i : Int), ((1 : Nat) : Int)) = (if (l[i]).2 < 0 ∨ (l[i]).2 ≥ n then some (.inr (.inl 1)) else some (.inl (n, l, (i : Int), ((2 : Nat) : Int)))) := (in1 1).trans (if_pos (by decide))
    have e2 : drossref06_Valid_l1 (n, l, (i : Int), ((2 : Nat) : Int)) = some (.inr (.inr (n, l, (i : Int)))) := (in1 2).trans (if_neg (by decide))
    by_cases hb : badE n l[i] = true
    · rw [if_pos hb]
      rw [bad_iff] at hb
      by_cases c1 : (l[i]).1 < 0 ∨ (l[i]).1 ≥ n
      · rw [if_pos c1] at e0
        rw [loopI_r e0]
        rfl
      · rw [if_neg c1] at e0
        rw [loopI_l e0]
        rw [if_pos (by omega)] at e1
        rw [loopI_r e1]
        rfl
    · rw [if_neg hb]
      rw [bad_iff] at hb
      rw [if_neg (by omega)] at e0
      rw [if_neg (by omega)] at e1
      rw [loopI_l e0, loopI_l e1, loopI_r e2]
      simp only [Option.bind_some, Sum.elim_inr, wrap_i64s (show i < 9223372036854775807 by omega)]) (by
    simp only [drossref06_Valid_l0, Int.lt_irrefl, decide_false, cond_false])
  simp only [Int.natCast_zero] at this
  rw [this]
  by_cases h4 : l.any (badE n) = true
  · simp [h4]
  · simp only [h4]; rfl
/-! ### Repeat -/
theorem wrap_u64n {n : Nat} (h : n ≤ 18446744073709551615) : IntKind.u64.wrap (n : Int) = (n : Int) := by
  simp only [IntKind.wrap, IntKind.bits, IntKind.signed]
  simp
  omega
theorem shr32 {n : Nat} (h : n < 4294967296) : shrI .u64 (n : Int) 32 = 0 := by
  have e : shrI .u64 (n : Int) 32 = (n : Int).fdiv 4294967296 := rfl
  rw [e, Int.fdiv_eq_ediv_of_nonneg _ (by decide)]
  omega
theorem and32 {n : Nat} (h : n < 4294967296) : andI .u64 (n : Int) 4294967295 = (n : Int) := by
  have e : andI .u64 (n : Int) 4294967295 = IntKind.u64.wrap ((BitVec.ofInt 64 (n : Int) &&& BitVec.ofInt 64 4294967295).toNat : Int) := rfl
  rw [e]
  have h2 : (BitVec.ofInt 64 (n : Int) &&& BitVec.ofInt 64 4294967295).toNat = n := by
    rw [BitVec.toNat_and]
    have a1 : (BitVec.ofInt 64 (n : Int)).toNat = n := by
      simp only [BitVec.toNat_ofInt]
      have : (n : Int) % (2 ^ 64 : Nat) = n := by norm_cast; omega
      omega
    have a2 : (BitVec.ofInt 64 4294967295).toNat = 2 ^ 32 - 1 := by decide
    rw [a1, a2, Nat.and_two_pow_sub_one_eq_mod]
    omega
  rw [h2]
  exact wrap_u64n (by omega)
theorem mul_small (a b : Nat) (ha : a < 65536) (hb : b < 65536) : math_bits_Mul ((a : Int), (b : Int)) = some (0, ((a * b : Nat) : Int)) := by
  have hab : a * b < 4294967296 := Nat.lt_of_lt_of_le (Nat.mul_lt_mul'' ha hb) (by decide)
  have z : IntKind.u64.wrap 0 = 0 := rfl
  have s0 : shrI .u64 0 32 = 0 := rfl
  have n0 : andI .u64 0 4294967295 = 0 := rfl
  have hm : (a : Int) * (b : Int) = ((a * b : Nat) : Int) := by simp
  unfold math_bits_Mul math_bits_Mul64
  simp only [Option.bind_some, shr32 (show a < 4294967296 by omega), shr32 (show b < 4294967296 by omega), and32 (show a < 4294967296 by omega), and32 (show b < 4294967296 by omega), hm, wrap_u64n (show a * b ≤ 18446744073709551615 by omega), shr32 hab, Int.mul_zero, Int.zero_mul, Int.add_zero, z, s0, n0]
theorem overL_len {A : Type} (l m : List A) (o : Option Nat) (h : o.getD 0 + m.length ≤ l.length) : (overL l o m).length = l.length := by
  cases o with
  | none => simp only [overL, Option.getD_none, Nat.zero_add] at h ⊢; simp; omega
  | some o => simp only [overL, Option.getD_some] at h ⊢; simp; omega
theorem repeat_loop (N : Nat) (hN : N < 2000000) (i : Nat) (l : List (Int × Int)) (hl : l.length = N) (hi : i ≤ N) (h0 : 0 < i ∨ N = 0) :
    ∃ b, loopI slices_Repeat_s_2int_2int_l0 ((N, (i : Int)), l) = some b ∧ b.1 = N ∧ b.2.length = N := by
  refine loop_meas (f := slices_Repeat_s_2int_2int_l0) (fun a => ∃ (i : Nat) (l : List (Int × Int)), a = ((N, (i : Int)), l) ∧ l.length = N ∧ i ≤ N ∧ (0 < i ∨ N = 0)) (fun b => b.1 = N ∧ b.2.length = N) (fun a => N - a.1.2.toNat) ?_ _ ⟨i, l, rfl, hl, hi, h0⟩
  rintro _ ⟨i, l, rfl, hl, hi, h0⟩
  by_cases hlt : i < N
  · left
    have h0' : 0 < i := by omega
    have hlt' : (i : Int) < (N : Int) := by omega
    have e1 : Nat.ble i N = true := Nat.ble_eq.mpr hi
    have e2 : Nat.ble i l.length = true := Nat.ble_eq.mpr (by omega)
    have ht : (List.take i l).length = i := by rw [List.length_take]; omega
    have ht2 : (List.take (N - i) (List.take i l)).length = min (N - i) i := by rw [List.length_take, ht]
    have e3 : Nat.ble (i + (List.take (N - i) (List.take i l)).length) l.length = true := Nat.ble_eq.mpr (by rw [ht2]; omega)
    have e4 : ((i : Int) + ((min (List.take i l).length (N - i) : Nat) : Int)) = ((i + min i (N - i) : Nat) : Int) := by rw [ht]; omega
    refine ⟨((N, ((i + min i (N - i) : Nat) : Int)), overL l (some i) (List.take (N - i) (List.take i l))), ?_, ⟨_, _, rfl, ?_, by omega, by omega⟩, ?_⟩
    · simp only [slices_Repeat_s_2int_2int_l0, hlt', decide_true, cond_true, Int.natCast_nonneg, Int.toNat_natCast, e1, e2, e3, e4, wrap_i64n (show i + min i (N - i) ≤ 9223372036854775807 by omega)]
    · rw [overL_len _ _ _ (by rw [Option.getD_some, ht2]; omega)]; exact hl
    · simp only [Int.toNat_natCast]; omega
  · right
    have hlt' : ¬ (i : Int) < (N : Int) := by omega
    refine ⟨(N, l), ?_, rfl, hl⟩
    simp only [slices_Repeat_s_2int_2int_l0, hlt', decide_false, cond_false]
theorem repeat_some (l : List (Int × Int)) (k : Nat) (hl : l.length ≤ 1000) (hk : k ≤ 1000) : ∃ w, slices_Repeat_s_2int_2int (l, (k : Int)) = some w := by
  have hmul := mul_small l.length k (by omega) (by omega)
  have hN : l.length * k ≤ 1000 * 1000 := Nat.mul_le_mul hl hk
  have hNz : l.length = 0 → l.length * k = 0 := fun e => by rw [e]; simp
  generalize l.length * k = N at hmul hN hNz
  have hk0 : ¬ (k : Int) < 0 := by omega
  have c1 : ¬ ((9223372036854775807 : Int) < (N : Int)) := by omega
  have c2 : Nat.ble (N * 16) 140737488355328 = true := Nat.ble_eq.mpr (by omega)
  have c3 : Nat.ble (List.take N l).length (List.replicate N ((0 : Int), (0 : Int))).length = true := Nat.ble_eq.mpr (by rw [List.length_take, List.length_replicate]; omega)
  have hmin : min l.length N ≤ N := Nat.min_le_right _ _
  obtain ⟨b, hb, hb1, hb2⟩ := repeat_loop N (by omega) (min l.length N) (overL (List.replicate N (0, 0)) none (List.take N l))
    (by rw [overL_len (List.replicate N ((0 : Int), (0 : Int))) (List.take N l) none (by simp only [Option.getD_none, List.length_take, List.length_replicate]; omega), List.length_replicate]) hmin (by omega)
  have c4 : Nat.ble b.1 b.2.length = true := Nat.ble_eq.mpr (by omega)
  refine ⟨List.take b.1 b.2, ?_⟩
  simp only [slices_Repeat_s_2int_2int, hk0, decide_false, cond_false, wrap_u64n (show l.length ≤ 18446744073709551615 by omega), wrap_u64n (show k ≤ 18446744073709551615 by omega), hmul, Option.bind_some, gt_iff_lt, Int.lt_irrefl, wrap_i64n (show N ≤ 9223372036854775807 by omega), Int.natCast_nonneg, decide_true, cond_true, Int.le_refl, Int.toNat_natCast]
  simp only [c1, decide_false, cond_false, c2, c3, cond_true, hb, Option.bind_some, c4]
theorem law3 (n : Int) (l : List (Int × Int)) (t : Int) (h1 : 0 ≤ t) (h2 : t ≤ 65535) : drosslaw06_GraphValid_S (n, l, t) = some true := by
  unfold drosslaw06_GraphValid_S
  simp only [Option.bind_some, Bool.not_true, cond_false, gt_iff_lt]
  by_cases c1 : (60 : Int) < l.length
  · simp [c1]
  by_cases c2 : (400 : Int) < t
  · simp [c1, c2]
  simp only [c1, c2, decide_false, cond_false]
  obtain ⟨k, rfl⟩ := Int.eq_ofNat_of_zero_le h1
  obtain ⟨w, hw⟩ := repeat_some l k (by omega) (by omega)
  rw [wrap_i64n (by omega), hw]
  simp only [Option.bind_some, graph_Valid_eq, drossref06_Valid_eq, beq_self_eq_true]
end Go.Mid
