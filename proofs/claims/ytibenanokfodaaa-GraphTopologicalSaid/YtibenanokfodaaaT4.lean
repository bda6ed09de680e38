/- Tools for plain laws: loops step by step, sums, bounds. -/
import Derived.Test.YtibenanokfodaaaN2
import Derived.Test.YtibenanokfodaaaT2
namespace Go.Mid
set_option linter.unusedSimpArgs false
set_option linter.unusedVariables false
section
variable {A B : Type} {f : A → Option (A ⊕ B)}
/-- a loop whose states are known -/
theorem loop_steps (n : Nat) (T : Nat → A) (b : B) (h1 : ∀ i, i < n → f (T i) = some (.inl (T (i + 1)))) (h2 : f (T n) = some (.inr b)) : loopI f (T 0) = some b := by
  have : ∀ k i, i + k = n → loopI f (T i) = some b := by
    intro k
    induction k with
    | zero => intro i hi; obtain rfl : i = n := by omega
              exact loopI_r h2
    | succ k ih => intro i hi; rw [loopI_l (h1 i (by omega))]; exact ih (i + 1) (by omega)
  exact this n 0 (by omega)
end
theorem ble_true {a b : Nat} (h : a ≤ b) : a.ble b = true := Nat.ble_eq_true_of_le h
theorem blt_true {a b : Nat} (h : a < b) : a.blt b = true := Nat.ble_eq_true_of_le h
theorem take_all {α : Type} (l : List α) : l.take l.length = l := List.take_length
theorem take_succ {α : Type} {l : List α} {i : Nat} (h : i < l.length) : l.take (i + 1) = l.take i ++ [l[i]] := List.take_succ_eq_append_getElem h
/-! ### pairs of elements, the first ahead of the second -/
section
variable {α β : Type}
end
end Go.Mid
/- Closures of relations, ascending lists: plain Lean, no program. -/
namespace Go.Mid
set_option linter.unusedSimpArgs false
set_option linter.unusedVariables false
/-! ### the closure of a relation, vertex by vertex -/
def wstep (f : Nat → Nat → Bool) (k : Nat) : Nat → Nat → Bool := fun i j => f i j || (f i k && f k j)
def wars (f : Nat → Nat → Bool) : Nat → Nat → Nat → Bool
  | 0 => f
  | k + 1 => wstep (wars f k) k
theorem wstep_iff {f : Nat → Nat → Bool} {k i j : Nat} : wstep f k i j = true ↔ f i j = true ∨ (f i k = true ∧ f k j = true) := by
  unfold wstep
  rw [Bool.or_eq_true, Bool.and_eq_true]
theorem wars_mono {f : Nat → Nat → Bool} {i j : Nat} (h : f i j = true) : ∀ k, wars f k i j = true
  | 0 => h
  | k + 1 => wstep_iff.2 (.inl (wars_mono h k))
theorem wars_trans {f : Nat → Nat → Bool} : ∀ k (i a j : Nat), a < k → wars f k i a = true → wars f k a j = true → wars f k i j = true
  | 0, _, _, _, h, _, _ => by omega
  | k + 1, i, a, j, h, h1, h2 => by
    have h1 := wstep_iff.1 h1
    have h2 := wstep_iff.1 h2
    refine wstep_iff.2 ?_
    by_cases hk : a = k
    · subst hk
      have h1' : wars f a i a = true := h1.elim (fun h => h) (fun h => h.1)
      have h2' : wars f a a j = true := h2.elim (fun h => h) (fun h => h.2)
      exact .inr ⟨h1', h2'⟩
    · have ha : a < k := by omega
      rcases h1 with h1 | h1 <;> rcases h2 with h2 | h2
      · exact .inl (wars_trans k i a j ha h1 h2)
      · exact .inr ⟨wars_trans k i a k ha h1 h2.1, h2.2⟩
      · exact .inr ⟨h1.1, wars_trans k k a j ha h1.2 h2⟩
      · exact .inr ⟨h1.1, h2.2⟩
theorem wars_sound {f : Nat → Nat → Bool} {Q : Nat → Nat → Prop} (hf : ∀ i j, f i j = true → Q i j) (ht : ∀ i a j, Q i a → Q a j → Q i j) : ∀ k i j, wars f k i j = true → Q i j
  | 0, i, j, h => hf i j h
  | k + 1, i, j, h => by
    rcases wstep_iff.1 h with h | h
    · exact wars_sound hf ht k i j h
    · exact ht i k j (wars_sound hf ht k i k h.1) (wars_sound hf ht k k j h.2)
/-- in place, the row and the column of the vertex do not change -/
theorem wstep_row {f : Nat → Nat → Bool} {k : Nat} (hk : f k k = true) (j : Nat) : wstep f k k j = f k j := by
  rw [Bool.eq_iff_iff, wstep_iff]
  exact ⟨fun h => h.elim (fun h => h) (fun h => h.2), .inl⟩
theorem wstep_col {f : Nat → Nat → Bool} {k : Nat} (hk : f k k = true) (i : Nat) : wstep f k i k = f i k := by
  rw [Bool.eq_iff_iff, wstep_iff]
  exact ⟨fun h => h.elim (fun h => h) (fun h => h.1), .inl⟩
theorem wars_refl {f : Nat → Nat → Bool} {i : Nat} (h : f i i = true) (k : Nat) : wars f k i i = true := wars_mono h k
theorem sorted_mem {l : List Int} {x : Int} : x ∈ sorted l ↔ x ∈ l := (sorted_perm l).mem_iff
end Go.Mid
/- Lists of neighbours: the plain form of slices.Sort, slices.Compact and graph.neighbours. -/
namespace Go.Mid
set_option linter.unusedSimpArgs false
set_option linter.unusedVariables false
/-- without neighbours that repeat -/
def dedupS : List Int → List Int
  | [] => []
  | [x] => [x]
  | x :: y :: r => if x = y then dedupS (y :: r) else x :: dedupS (y :: r)
theorem dedupS_mem : ∀ (l : List Int) (x : Int), x ∈ dedupS l ↔ x ∈ l
  | [], x => by simp [dedupS]
  | [a], x => by simp [dedupS]
  | a :: b :: r, x => by
    unfold dedupS
    split
    · rename_i h
      rw [dedupS_mem (b :: r) x, h]
      simp
    · rw [List.mem_cons, dedupS_mem (b :: r) x]
      simp
theorem dedupS_lt : ∀ l : List Int, l.Pairwise (· ≤ ·) → (dedupS l).Pairwise (· < ·)
  | [], _ => by simp [dedupS]
  | [a], _ => by simp [dedupS]
  | a :: b :: r, h => by
    have h' := List.pairwise_cons.1 h
    unfold dedupS
    split
    · exact dedupS_lt (b :: r) h'.2
    · rename_i hne
      refine List.pairwise_cons.2 ⟨fun z hz => ?_, dedupS_lt (b :: r) h'.2⟩
      have hz := (dedupS_mem _ _).1 hz
      have h1 := h'.1 z hz
      have h2 := h'.1 b (by simp)
      have h'' := List.pairwise_cons.1 h'.2
      rcases List.mem_cons.1 hz with e | e
      · subst e; omega
      · have := h''.1 z e; omega
theorem dedupS_len : ∀ l : List Int, (dedupS l).length ≤ l.length
  | [] => by simp [dedupS]
  | [a] => by simp [dedupS]
  | a :: b :: r => by
    unfold dedupS
    have := dedupS_len (b :: r)
    split <;> simp only [List.length_cons] at * <;> omega
/-- one more at the end -/
theorem dedupS_snoc : ∀ (l : List Int) (x : Int), l ≠ [] → dedupS (l ++ [x]) = if l.getLast? = some x then dedupS l else dedupS l ++ [x]
  | [], _, h => absurd rfl h
  | [a], x, _ => by
    simp only [List.cons_append, List.nil_append, dedupS, List.getLast?_singleton, Option.some.injEq]
    by_cases h : a = x
    · simp [h]
    · simp [h]
  | a :: b :: r, x, _ => by
    have ih := dedupS_snoc (b :: r) x (by simp)
    have e : (a :: b :: r).getLast? = (b :: r).getLast? := by simp
    rw [e]
    simp only [List.cons_append] at ih ⊢
    rw [dedupS, ih]
    conv => rhs; rw [dedupS]
    by_cases h1 : a = b <;> by_cases h2 : (b :: r).getLast? = some x <;> simp [h1, h2]
/-- what the array holds when the first m elements are done -/
def arrC (l : List Int) (m : Nat) : List Int := dedupS (l.take m) ++ l.drop (dedupS (l.take m)).length
theorem dedup_take_le (l : List Int) (m : Nat) : (dedupS (l.take m)).length ≤ m := Nat.le_trans (dedupS_len _) (by rw [List.length_take]; omega)
theorem arrC_len (l : List Int) (m : Nat) : (arrC l m).length = l.length := by
  unfold arrC
  have h1 := dedupS_len (l.take m)
  rw [List.length_take] at h1
  rw [List.length_append, List.length_drop]; omega
theorem arrC_get {l : List Int} {m i : Nat} (h : (dedupS (l.take m)).length ≤ i) : (arrC l m)[i]? = l[i]? := by
  unfold arrC
  rw [List.getElem?_append_right h, List.getElem?_drop]
  congr 1; omega
theorem take_last {l : List Int} {m : Nat} (h0 : 0 < m) (h : m ≤ l.length) : (l.take m).getLast? = l[m - 1]? := by
  rw [List.getLast?_eq_getElem?, List.length_take, Nat.min_eq_left h, List.getElem?_take_of_lt (by omega)]
theorem dedup_step {l : List Int} {m : Nat} (h0 : 0 < m) (h : m < l.length) : dedupS (l.take (m + 1)) = if l[m]'h = l[m - 1]'(by omega) then dedupS (l.take m) else dedupS (l.take m) ++ [l[m]'h] := by
  have hne : l.take m ≠ [] := by
    intro e
    have := congrArg List.length e
    rw [List.length_take, List.length_nil] at this
    omega
  rw [take_succ h, dedupS_snoc _ _ hne, take_last h0 (by omega), List.getElem?_eq_getElem (by omega : m - 1 < l.length)]
  simp only [Option.some.injEq]
  by_cases e : l[m]'h = l[m - 1]'(by omega)
  · rw [if_pos e.symm, if_pos e]
  · rw [if_neg (fun h => e h.symm), if_neg e]
theorem arr_step {l : List Int} {m : Nat} (h0 : 0 < m) (h : m < l.length) (hk : (dedupS (l.take m)).length ≤ m - 1) (hne : l[m]'h ≠ l[m - 1]'(by omega)) : arrC l (m + 1) = (arrC l m).set (dedupS (l.take m)).length (l[m]'h) := by
  unfold arrC
  rw [dedup_step h0 h, if_neg hne]
  generalize dedupS (l.take m) = D at hk
  rw [List.set_append_right _ _ (Nat.le_refl _), Nat.sub_self, List.length_append]
  have : D.length < l.length := by omega
  rw [List.drop_eq_getElem_cons this, List.set_cons_zero]
  simp
theorem dedup_small {l : List Int} {m k : Nat} (hkm : k < m) (hk : (dedupS (l.take m)).length ≤ m - 1) : ∀ j, m + j ≤ l.length → (dedupS (l.take (m + j))).length ≤ m + j - 1
  | 0, _ => by simpa using hk
  | j + 1, h => by
    have ih := dedup_small hkm hk j (by omega)
    rw [← Nat.add_assoc, dedup_step (by omega) (by omega)]
    split
    · omega
    · rw [List.length_append]; simp; omega
theorem set_self {LL : List (List Int)} {I : Nat} {l : List Int} (h : LL[I]? = some l) : LL.set I l = LL := by
  have hlt := (List.getElem?_eq_some_iff.1 h).1
  apply List.ext_getElem?
  intro i
  rw [List.getElem?_set]
  by_cases e : I = i
  · subst e
    rw [if_pos rfl, if_pos hlt, h]
  · rw [if_neg e]
theorem compact_inner {LL : List (List Int)} {I N off : Nat} {l : List Int} (hI : I < LL.length) (hN : l.length = N) (hN2 : N ≤ 1000) (ho : 0 < off) (hoN : off < N) (hd : (dedupS (l.take (off + 1))).length = off) :
    loopI slices_Compact_sint_int_S_l1 (((I, N), (off : Int), (I, off, N - off), 1), LL.set I (arrC l (off + 1))) = some (((I, N), ((dedupS l).length : Int)), LL.set I (arrC l N)) := by
  have hall : dedupS (l.take N) = dedupS l := by rw [List.take_of_length_le (by omega)]
  have : loopI slices_Compact_sint_int_S_l1 (((I, N), ((dedupS (l.take (off + 1 + 0))).length : Int), (I, off, N - off), ((0 + 1 : Nat) : Int)), LL.set I (arrC l (off + 1 + 0))) = _ :=
    loop_steps (f := slices_Compact_sint_int_S_l1) (N - off - 1) (fun i => (((I, N), ((dedupS (l.take (off + 1 + i))).length : Int), (I, off, N - off), ((i + 1 : Nat) : Int)), LL.set I (arrC l (off + 1 + i)))) (((I, N), ((dedupS l).length : Int)), LL.set I (arrC l N)) (fun i hi => by
      have hm : off + 1 + i < l.length := by omega
      have hsm := dedup_small (l := l) (m := off + 1) (k := off) (by omega) (by omega) i (by omega)
      have hk0 := dedup_take_le l (off + 1 + i)
      have hj : ((i + 1 : Nat) : Int) < ((N - off : Nat) : Int) := by omega
      have hj0 : (0 : Int) ≤ ((i + 1 : Nat) : Int) := by omega
      have hw : IntKind.i64.wrap (((i + 1 : Nat) : Int) - 1) = (i : Int) := by rw [wrap_i64 (by omega) (by omega)]; omega
      have e1 : (LL.set I (arrC l (off + 1 + i)))[I]? = some (arrC l (off + 1 + i)) := by simp [hI]
      have g1 : (arrC l (off + 1 + i))[off + (i + 1)]? = some (l[off + 1 + i]'hm) := by
        rw [arrC_get (by omega), show off + (i + 1) = off + 1 + i by omega, List.getElem?_eq_getElem hm]
      have g2 : (arrC l (off + 1 + i))[off + i]? = some (l[off + i]'(by omega)) := by
        rw [arrC_get (by omega), List.getElem?_eq_getElem (by omega)]
      have hlen := arrC_len l (off + 1 + i)
      have hstep := dedup_step (l := l) (m := off + 1 + i) (by omega) hm
      have hidx : off + 1 + i - 1 = off + i := by omega
      simp only [hidx] at hstep
      simp only [slices_Compact_sint_int_S_l1, hj, decide_true, cond_true, e1, Option.bind_some, hj0, Int.toNat_natCast, blt_true (show i + 1 < N - off by omega), g1, hw, Int.natCast_nonneg, blt_true (show i < N - off by omega), g2]
      by_cases hne : l[off + 1 + i]'hm = l[off + i]'(by omega)
      · rw [if_pos hne] at hstep
        have hb : (l[off + 1 + i]'hm != l[off + i]'(by omega)) = false := by simp [hne]
        have ha : arrC l (off + 1 + (i + 1)) = arrC l (off + 1 + i) := by
          rw [← Nat.add_assoc]
          unfold arrC
          rw [hstep]
        rw [ha, ← Nat.add_assoc (off + 1) i 1, hstep]
        simp only [hb, cond_false, wrap_i64s (show i + 1 < 9223372036854775807 by omega)]
      · rw [if_neg hne] at hstep
        have hb : (l[off + 1 + i]'hm != l[off + i]'(by omega)) = true := by simpa using hne
        have ha := arr_step (l := l) (m := off + 1 + i) (by omega) hm (by omega) (by simp only [hidx]; exact hne)
        rw [← Nat.add_assoc (off + 1) i 1, ha, hstep]
        have hDl : (dedupS (l.take (off + 1 + i))).length < (arrC l (off + 1 + i)).length := by omega
        simp only [hb, cond_true, blt_true (show (dedupS (l.take (off + 1 + i))).length < N by omega), List.getElem?_eq_getElem hDl, Option.bind_some, beq_self_eq_true, List.length_set, blt_true hI, List.set_set, List.length_append, List.length_cons, List.length_nil, wrap_i64s (show (dedupS (l.take (off + 1 + i))).length < 9223372036854775807 by omega), wrap_i64s (show i + 1 < 9223372036854775807 by omega)]) (by
      have hm : off + 1 + (N - off - 1) = N := by omega
      have e1 : (LL.set I (arrC l N))[I]? = some (arrC l N) := by simp [hI]
      have hj : ¬ ((N - off - 1 + 1 : Nat) : Int) < ((N - off : Nat) : Int) := by omega
      rw [hm, hall]
      simp only [slices_Compact_sint_int_S_l1, hj, decide_false, cond_false, e1, Option.bind_some])
  have h0 : ((dedupS (l.take (off + 1 + 0))).length : Int) = (off : Int) := by rw [Nat.add_zero, hd]
  rw [h0] at this
  exact this
theorem nodup_prefix {l : List Int} {k : Nat} (h : ∀ j (h0 : 0 < j) (hj : j < k) (hl : j < l.length), l[j] ≠ l[j - 1]'(by omega)) : ∀ m, m ≤ k → m ≤ l.length → dedupS (l.take m) = l.take m
  | 0, _, _ => by simp [dedupS]
  | 1, _, hl => by
    rw [take_succ (by omega : 0 < l.length)]; simp [dedupS]
  | m + 2, hk, hl => by
    rw [dedup_step (by omega) (by omega : m + 1 < l.length), if_neg (h (m + 1) (by omega) (by omega) (by omega)), nodup_prefix h (m + 1) (by omega) (by omega), ← take_succ (by omega)]
/-- slices.Compact of one of the lists -/
theorem compact_eq {LL : List (List Int)} {I : Nat} {l : List Int} (hL : LL[I]? = some l) (hN2 : l.length ≤ 1000) :
    ∃ l', slices_Compact_sint_int_S ((I, l.length), LL) = some ((I, (dedupS l).length), LL.set I l') ∧ l'.take (dedupS l).length = dedupS l ∧ (dedupS l).length ≤ l'.length := by
  have hI := (List.getElem?_eq_some_iff.1 hL).1
  unfold slices_Compact_sint_int_S
  by_cases h2 : (l.length : Int) < 2
  · have hd : dedupS l = l := by
      match l, h2 with
      | [], _ => rfl
      | [_], _ => rfl
      | _ :: _ :: _, h => simp at h; omega
    refine ⟨l, ?_, by rw [hd, take_all], by rw [hd]; exact Nat.le_refl _⟩
    simp only [h2, decide_true, cond_true, hL, Option.bind_some, hd, set_self hL]
  simp only [h2, decide_false, cond_false, hL, Option.bind_some]
  have key : ∀ n k, n + k = l.length → 0 < k → (∀ j (h0 : 0 < j) (hj : j < k) (hl : j < l.length), l[j] ≠ l[j - 1]'(by omega)) →
      ∃ b, loopI slices_Compact_sint_int_S_l0 (((I, l.length), (k : Int)), LL) = some b ∧
        ((∃ l', b = .inl ((I, (dedupS l).length), LL.set I l') ∧ l'.take (dedupS l).length = dedupS l ∧ (dedupS l).length ≤ l'.length) ∨ (b = .inr ((I, l.length), LL) ∧ dedupS l = l)) := by
    intro n
    induction n with
    | zero =>
      intro k hk h0 hp
      have hkl : k = l.length := by omega
      refine ⟨.inr ((I, l.length), LL), loopI_r ?_, .inr ⟨rfl, ?_⟩⟩
      · subst hkl
        simp only [slices_Compact_sint_int_S_l0, Int.lt_irrefl, decide_false, cond_false, hL, Option.bind_some]
      · have := nodup_prefix hp l.length (by omega) (Nat.le_refl _)
        rwa [take_all] at this
    | succ n ih =>
      intro k hk h0 hp
      have hkl : k < l.length := by omega
      have hk' : (k : Int) < (l.length : Int) := by omega
      have hw : IntKind.i64.wrap ((k : Int) - 1) = ((k - 1 : Nat) : Int) := by rw [wrap_i64 (by omega) (by omega)]; omega
      by_cases he : l[k] = l[k - 1]'(by omega)
      · have hd : dedupS (l.take k) = l.take k := nodup_prefix hp k (Nat.le_refl _) (by omega)
        have hd1 : (dedupS (l.take (k + 1))).length = k := by
          rw [dedup_step h0 hkl, if_pos he, hd, List.length_take]; omega
        have ha : arrC l (k + 1) = l := by
          unfold arrC
          rw [hd1, dedup_step h0 hkl, if_pos he, hd, List.take_append_drop]
        have hin := compact_inner (LL := LL) (I := I) (N := l.length) (off := k) (l := l) hI rfl hN2 h0 hkl hd1
        rw [ha, set_self hL] at hin
        have hle := dedupS_len l
        have hD : arrC l l.length = dedupS l ++ l.drop (dedupS l).length := by unfold arrC; rw [take_all]
        have hAl := arrC_len l l.length
        refine ⟨.inl ((I, (dedupS l).length), LL.set I (overL (arrC l l.length) (some (dedupS l).length) (List.replicate (l.length - (dedupS l).length) 0))), loopI_r ?_, .inl ⟨_, rfl, ?_, ?_⟩⟩
        · have e1 : (LL.set I (arrC l l.length))[I]? = some (arrC l l.length) := by simp [hI]
          have e3 : (overL (arrC l l.length) (some (dedupS l).length) (List.replicate (l.length - (dedupS l).length) 0)).length = (arrC l l.length).length := by
            unfold overL
            simp only [List.length_append, List.length_take, List.length_replicate, List.length_drop, hAl]
            omega
          simp only [slices_Compact_sint_int_S_l0, hk', decide_true, cond_true, hL, Option.bind_some, Int.natCast_nonneg, Int.toNat_natCast, blt_true hkl, List.getElem?_eq_getElem hkl, hw, blt_true (show k - 1 < l.length by omega), List.getElem?_eq_getElem (show k - 1 < l.length by omega), he, beq_self_eq_true, ble_true (show k ≤ l.length by omega), hin, e1, ble_true hle, List.length_set, blt_true hI, e3, List.set_set]
          rw [ble_true (by rw [List.length_replicate, hAl]; omega)]
          rfl
        · unfold overL
          simp only
          rw [hD, List.append_assoc, List.take_append_of_le_length (by rw [List.length_take]; simp), List.take_take, Nat.min_self, List.take_left' rfl]
        · unfold overL
          simp only [List.length_append, List.length_take, List.length_replicate, List.length_drop, hAl]
          omega
      · have hb : (l[k] == l[k - 1]'(by omega)) = false := by simpa using he
        obtain ⟨b, h1, h3⟩ := ih (k + 1) (by omega) (by omega) (fun j a b c => by
          by_cases e : j = k
          · subst e; exact he
          · exact hp j a (by omega) c)
        refine ⟨b, ?_, h3⟩
        rw [← h1]
        exact loopI_l (by
          simp only [slices_Compact_sint_int_S_l0, hk', decide_true, cond_true, hL, Option.bind_some, Int.natCast_nonneg, Int.toNat_natCast, blt_true hkl, List.getElem?_eq_getElem hkl, hw, blt_true (show k - 1 < l.length by omega), List.getElem?_eq_getElem (show k - 1 < l.length by omega), hb, cond_false, wrap_i64s (show k < 9223372036854775807 by omega)])
  obtain ⟨b, h1, h3⟩ := key (l.length - 1) 1 (by omega) (by omega) (fun j a b c => by omega)
  have h1 : loopI slices_Compact_sint_int_S_l0 (((I, l.length), (1 : Int)), LL) = some b := h1
  rw [h1]
  rcases h3 with ⟨l', rfl, h4, h5⟩ | ⟨rfl, h4⟩
  · refine ⟨l', ?_, h4, h5⟩
    have e1 : (LL.set I l')[I]? = some l' := by simp [hI]
    simp only [Option.bind_some, Sum.elim_inl, e1]
  · refine ⟨l, ?_, by rw [h4, take_all], by rw [h4]; exact Nat.le_refl _⟩
    simp only [Option.bind_some, Sum.elim_inr, hL, h4, set_self hL]
end Go.Mid
/- The search for what can be reached: the plain form of graph.visit. -/
namespace Go.Mid
set_option linter.unusedSimpArgs false
set_option linter.unusedVariables false
structure VI (n : Nat) (Q : Int → Prop) (seen : List Bool) (out : List Int) : Prop where
  sl : seen.length = n
  nd : out.Nodup
  mem : ∀ v : Nat, v < n → (seen[v]? = some true ↔ (v : Int) ∈ out)
  rng : ∀ v ∈ out, 0 ≤ v ∧ v < n
  q : ∀ v ∈ out, Q v
  cnt : seen.count true = out.length
theorem VI.le {n : Nat} {Q : Int → Prop} {seen : List Bool} {out : List Int} (h : VI n Q seen out) : out.length ≤ n := by
  rw [← h.cnt, ← h.sl]; exact List.count_le_length
theorem VI.add {n : Nat} {Q : Int → Prop} {seen : List Bool} {out : List Int} (h : VI n Q seen out) {w : Nat} (hw : w < n) (hs : seen[w]? = some false) (hq : Q w) : VI n Q (seen.set w true) (out ++ [(w : Int)]) where
  sl := by rw [List.length_set]; exact h.sl
  nd := by
    have : (w : Int) ∉ out := fun hm => by
      have := (h.mem w hw).2 hm
      rw [hs] at this; cases this
    rw [List.nodup_append]
    refine ⟨h.nd, by simp, ?_⟩
    intro a ha b hb e
    simp at hb
    subst hb; subst e
    exact this ha
  mem := by
    intro v hv
    rw [List.getElem?_set]
    by_cases e : w = v
    · subst e
      simp [h.sl, hv]
    · rw [if_neg e, h.mem v hv]
      simp only [List.mem_append, List.mem_singleton]
      constructor
      · exact .inl
      · rintro (h1 | h1)
        · exact h1
        · omega
  rng := by
    intro v hv
    rcases List.mem_append.1 hv with h1 | h1
    · exact h.rng v h1
    · rw [List.mem_singleton] at h1; subst h1; omega
  q := by
    intro v hv
    rcases List.mem_append.1 hv with h1 | h1
    · exact h.q v h1
    · rw [List.mem_singleton] at h1; subst h1; exact hq
  cnt := by
    have hlt : w < seen.length := by rw [h.sl]; exact hw
    have hg : seen[w] = false := by
      rw [List.getElem?_eq_getElem hlt] at hs
      exact Option.some.inj hs
    rw [List.count_set hlt, hg, h.cnt]
    simp
/-- the lists of neighbours -/
structure NB (n : Nat) (next : List (List Int)) : Prop where
  len : next.length = n
  rng : ∀ l ∈ next, ∀ w ∈ l, 0 ≤ w ∧ w < n
  few : ∀ l ∈ next, l.length ≤ 1000
  small : n ≤ 1000
end Go.Mid
/- graph.neighbours: the plain form. -/
namespace Go.Mid
set_option linter.unusedSimpArgs false
set_option linter.unusedVariables false
theorem purE_ints (x : List Int) : purE (Ty.vec 1 (Ty.int IntKind.i64)) x = x := by
  show List.map (purE (Ty.int IntKind.i64)) x = x
  have : (purE (Ty.int IntKind.i64) : Int → Int) = id := by funext y; rfl
  exact (congrArg (fun f => List.map f x) this).trans (List.map_id x)
theorem map_purE_ints (l : List (List Int)) : List.map (purE (Ty.vec 1 (Ty.int IntKind.i64))) l = l := by
  have : (purE (Ty.vec 1 (Ty.int IntKind.i64)) : List Int → List Int) = id := by funext y; exact purE_ints y
  exact (congrArg (fun f => List.map f l) this).trans (List.map_id l)
abbrev EdgesV := List (Int × Int)
/-- where the edges out of a vertex lead -/
def tgt (E : EdgesV) (v : Nat) : List Int := (E.filter fun e => e.1 == (v : Int)).map (·.2)
def tgts (n : Nat) (E : EdgesV) : List (List Int) := (List.range n).map (tgt E)
theorem tgts_get {n v : Nat} {E : EdgesV} (h : v < n) : (tgts n E)[v]? = some (tgt E v) := by simp [tgts, h]
theorem tgts_len (n : Nat) (E : EdgesV) : (tgts n E).length = n := by simp [tgts]
theorem tgt_snoc (E : EdgesV) (e : Int × Int) (v : Nat) : tgt (E ++ [e]) v = if e.1 = (v : Int) then tgt E v ++ [e.2] else tgt E v := by
  unfold tgt
  rw [List.filter_append, List.map_append]
  by_cases h : e.1 = (v : Int) <;> simp [h]
theorem tgts_snoc {n : Nat} {E : EdgesV} {u : Nat} {w : Int} (hu : u < n) : tgts n (E ++ [((u : Int), w)]) = (tgts n E).set u (tgt E u ++ [w]) := by
  apply List.ext_getElem?
  intro v
  rw [List.getElem?_set, tgts_len]
  by_cases hv : v < n
  · rw [tgts_get hv, tgt_snoc]
    by_cases e : u = v
    · subst e; simp [hv]
    · have : ¬ ((u : Int) = (v : Int)) := by omega
      simp [e, this, tgts_get hv]
  · rw [List.getElem?_eq_none (by rw [tgts_len]; omega)]
    have : ¬ u = v := by omega
    rw [if_neg this, List.getElem?_eq_none (by rw [tgts_len]; omega)]
theorem tgt_len (E : EdgesV) (v : Nat) : (tgt E v).length ≤ E.length := by
  unfold tgt
  rw [List.length_map]
  exact List.length_filter_le ..
theorem tgt_mem {E : EdgesV} {v : Nat} {w : Int} : w ∈ tgt E v ↔ ((v : Int), w) ∈ E := by
  unfold tgt
  rw [List.mem_map]
  constructor
  · rintro ⟨⟨a, b⟩, h1, rfl⟩
    rw [List.mem_filter] at h1
    have := h1.2
    simp at this
    rw [← this]; exact h1.1
  · intro h
    exact ⟨((v : Int), w), List.mem_filter.2 ⟨h, by simp⟩, rfl⟩
def inR (n : Nat) (E : EdgesV) : Prop := ∀ e ∈ E, 0 ≤ e.1 ∧ e.1 < n ∧ 0 ≤ e.2 ∧ e.2 < n
theorem nb_loop0 {n : Nat} {E : EdgesV} (hr : inR n E) (hE : E.length ≤ 1000) : loopI graph_neighbours_l0 ((n, E, (E.length : Int), 0), List.replicate n []) = some (n, tgts n E) := by
  have h0 : List.replicate n [] = tgts n (E.take 0) := by
    apply List.ext_getElem?
    intro v
    by_cases hv : v < n
    · rw [tgts_get hv]; simp [hv, tgt]
    · rw [List.getElem?_eq_none (by simp; omega), List.getElem?_eq_none (by rw [tgts_len]; omega)]
  rw [h0]
  have := loop_steps (f := graph_neighbours_l0) E.length (fun i => ((n, E, (E.length : Int), (i : Int)), tgts n (E.take i))) (n, tgts n E) (fun i hi => by
    have hi' : (i : Int) < E.length := by omega
    have he := hr E[i] (List.getElem_mem hi)
    obtain ⟨u, hu⟩ : ∃ u : Nat, (E[i]).1 = (u : Int) := Int.eq_ofNat_of_zero_le he.1
    have hun : u < n := by have := he.2.1; rw [hu] at this; omega
    have hei : E[i] = ((u : Int), (E[i]).2) := Prod.ext hu rfl
    rw [take_succ hi, hei, tgts_snoc hun]
    have hl := tgt_len (E.take i) u
    rw [List.length_take] at hl
    have b0 : Nat.blt 0 2 = true := rfl
    have b1 : Nat.blt 1 2 = true := rfl
    simp only [graph_neighbours_l0, hi', decide_true, cond_true, Int.natCast_nonneg, Int.toNat_natCast, List.getElem?_eq_getElem hi, Option.bind_some, b0, b1, hu, blt_true hun, tgts_get hun, beq_self_eq_true, ble_true (Nat.le_refl _), tgts_len, take_all, List.length_append, List.length_cons, List.length_nil, wrap_i64s (show i < 9223372036854775807 by omega)]
    rw [ble_true (show ((tgt (E.take i) u).length + 1) * 8 ≤ 140737488355328 by omega)]
    rfl) (by
    simp only [graph_neighbours_l0, Int.lt_irrefl, decide_false, cond_false, take_all])
  simpa using this
/-- the lists of neighbours: ascending, each once -/
def nexts (n : Nat) (E : EdgesV) : List (List Int) := (List.range n).map fun v => dedupS (sorted (tgt E v))
def mid06 (n : Nat) (E : EdgesV) (i : Nat) : List (List Int) := (List.range n).map fun v => if v < i then dedupS (sorted (tgt E v)) else tgt E v
theorem mid_get {n v i : Nat} {E : EdgesV} (h : v < n) : (mid06 n E i)[v]? = some (if v < i then dedupS (sorted (tgt E v)) else tgt E v) := by simp [mid06, h]
theorem mid_len (n i : Nat) (E : EdgesV) : (mid06 n E i).length = n := by simp [mid06]
theorem mid_succ {n i : Nat} {E : EdgesV} (hi : i < n) : mid06 n E (i + 1) = (mid06 n E i).set i (dedupS (sorted (tgt E i))) := by
  apply List.ext_getElem?
  intro v
  rw [List.getElem?_set, mid_len]
  by_cases hv : v < n
  · rw [mid_get hv]
    by_cases e : i = v
    · subst e; simp [hv]
    · rw [if_neg e, mid_get hv]
      by_cases h1 : v < i
      · rw [if_pos h1, if_pos (by omega)]
      · rw [if_neg h1, if_neg (by omega)]
  · rw [List.getElem?_eq_none (by rw [mid_len]; omega)]
    have : ¬ i = v := by omega
    rw [if_neg this, List.getElem?_eq_none (by rw [mid_len]; omega)]
theorem sort_eq {LL : List (List Int)} {I : Nat} {l : List Int} (hL : LL[I]? = some l) (hl : l.length ≤ 1000) : slices_Sort_sint_int_S ((I, l.length), LL) = some (LL.set I (sorted l)) := by
  unfold slices_Sort_sint_int_S
  have h1 : overL l none (sorted l) = sorted l := by
    unfold overL
    simp only
    rw [sorted_len, List.drop_length, List.append_nil]
  simp only [hL, Option.bind_some, take_all, h1, sorted_len, ble_true (Nat.le_refl _), cond_true, beq_self_eq_true]
  rw [blt_true (by omega)]
  rfl
theorem nb_loop1 {n : Nat} {E : EdgesV} (hn : n ≤ 1000) (hE : E.length ≤ 1000) : loopI graph_neighbours_l1 ((n, (n : Int), 0), tgts n E) = some (n, nexts n E) := by
  have h0 : tgts n E = mid06 n E 0 := by simp [tgts, mid06]
  have h1 : nexts n E = mid06 n E n := by
    unfold nexts mid06
    apply List.map_congr_left
    intro v hv
    rw [if_pos (List.mem_range.1 hv)]
  rw [h0, h1]
  have := loop_steps (f := graph_neighbours_l1) n (fun i => ((n, (n : Int), (i : Int)), mid06 n E i)) (n, mid06 n E n) (fun i hi => by
    have hi' : (i : Int) < n := by omega
    have hl := tgt_len E i
    have g0 : (mid06 n E i)[i]? = some (tgt E i) := by rw [mid_get hi, if_neg (Nat.lt_irrefl i)]
    have hs := sort_eq g0 (by omega)
    have hsl : (sorted (tgt E i)).length = (tgt E i).length := sorted_len _
    have g1 : ((mid06 n E i).set i (sorted (tgt E i)))[i]? = some (sorted (tgt E i)) := by simp [mid_len, hi]
    obtain ⟨l', c1, c2, c3⟩ := compact_eq g1 (by omega)
    have g2 : ((mid06 n E i).set i l')[i]? = some l' := by simp [mid_len, hi]
    have g3 : (dedupS (sorted (tgt E i))).length = (List.take (dedupS (sorted (tgt E i))).length l').length := by rw [c2]
    have bq : Nat.beq i i = true := by simp
    simp only [graph_neighbours_l1, hi', decide_true, cond_true, Int.natCast_nonneg, Int.toNat_natCast, blt_true hi, g0, Option.bind_some, hs, g1, c1, g2, bq, ble_true c3, c2, beq_self_eq_true, List.set_set, mid_succ hi, wrap_i64s (show i < 9223372036854775807 by omega)]) (by
    simp only [graph_neighbours_l1, Int.lt_irrefl, decide_false, cond_false])
  simpa using this
theorem nexts_len (n : Nat) (E : EdgesV) : (nexts n E).length = n := by simp [nexts]
theorem neighbours_eq {n : Nat} {E : EdgesV} (hn : n ≤ 1000) (hr : inR n E) (hE : E.length ≤ 1000) : graph_neighbours ((n : Int), E) = some (nexts n E) := by
  unfold graph_neighbours
  simp only [Int.natCast_nonneg, decide_true, cond_true, Int.toNat_natCast, Int.le_refl]
  rw [ble_true (show n * 24 ≤ 140737488355328 by omega)]
  simp only [cond_true, nb_loop0 hr hE, Option.bind_some, nb_loop1 hn hE]
  rw [ble_true (show n ≤ (nexts n E).length by rw [nexts_len]; exact Nat.le_refl _)]
  have e : List.take n (nexts n E) = nexts n E := List.take_of_length_le (by rw [nexts_len]; exact Nat.le_refl _)
  refine congrArg some ?_
  refine Eq.trans ?_ (map_purE_ints (nexts n E))
  exact congrArg (fun l : List (List Int) => List.map (purE (Ty.vec 1 (Ty.int IntKind.i64))) l) e
theorem nexts_get {n v : Nat} {E : EdgesV} (h : v < (nexts n E).length) : (nexts n E)[v] = dedupS (sorted (tgt E v)) := by simp [nexts]
theorem nexts_mem {n v : Nat} {E : EdgesV} {w : Int} (h : v < (nexts n E).length) : w ∈ (nexts n E)[v] ↔ ((v : Int), w) ∈ E := by
  rw [nexts_get h, dedupS_mem, sorted_mem, tgt_mem]
theorem nexts_NB {n : Nat} {E : EdgesV} (hn : n ≤ 1000) (hr : inR n E) (hE : E.length ≤ 1000) : NB n (nexts n E) where
  len := nexts_len n E
  rng := by
    intro l hl w hw
    obtain ⟨v, hv, rfl⟩ := List.getElem_of_mem hl
    have := hr _ ((nexts_mem hv).1 hw)
    exact this.2.2
  few := by
    intro l hl
    obtain ⟨v, hv, rfl⟩ := List.getElem_of_mem hl
    rw [nexts_get hv]
    have h1 := dedupS_len (sorted (tgt E v))
    rw [sorted_len] at h1
    have h2 := tgt_len E v
    omega
  small := hn
end Go.Mid
/- graph.Reach: the plain form. -/
namespace Go.Mid
set_option linter.unusedSimpArgs false
set_option linter.unusedVariables false
/-- an edge leads out of the graph -/
def badE (n : Int) (e : Int × Int) : Bool := decide (e.1 < 0) || decide (e.1 ≥ n) || decide (e.2 < 0) || decide (e.2 ≥ n)
def validS (n : Int) (l : List (Int × Int)) : Int := if n > 1000 then 3 else if (l.length : Int) > 20000 then 3 else if n < 0 then 1 else if l.any (badE n) then 1 else 0
theorem blt02 : Nat.blt 0 2 = true := rfl
theorem blt12 : Nat.blt 1 2 = true := rfl
theorem bad_iff {n : Int} {e : Int × Int} : badE n e = true ↔ e.1 < 0 ∨ e.1 ≥ n ∨ e.2 < 0 ∨ e.2 ≥ n := by
  simp [badE, or_assoc]
theorem graph_Valid_eq (n : Int) (l : List (Int × Int)) : graph_Valid (n, l) = some (validS n l) := by
  unfold graph_Valid validS
  simp only [gt_iff_lt]
  by_cases h1 : 1000 < n
  · simp [h1]
  by_cases h2 : (20000 : Int) < l.length
  · simp [h1, h2]
  by_cases h3 : n < 0
  · simp [h1, h2, h3]
  simp only [h1, h2, h3, decide_false, cond_false, if_false]
  have := loop_anyP (f := graph_Valid_l0) l (fun i => (n, l, (l.length : Int), (i : Int))) (badE n) (.inl 1) (.inr ()) (fun i hi => by
    have hi' : (i : Int) < l.length := by omega
    simp only [graph_Valid_l0, hi', decide_true, cond_true, Int.natCast_nonneg, Int.toNat_natCast, List.getElem?_eq_getElem hi, Option.bind_some, blt02, blt12, wrap_i64s (show i < 9223372036854775807 by omega)]
    generalize l[i] = e
    by_cases hb : badE n e = true
    · rw [if_pos hb]
      rw [bad_iff] at hb
      by_cases c1 : (if e.2 < e.1 then e.2 else e.1) < 0
      · simp only [c1, decide_true, cond_true]
      · have c2 : (if e.2 > e.1 then e.2 else e.1) ≥ n := by
          split at c1 <;> split <;> omega
        simp only [c1, c2, decide_true, decide_false, cond_true, cond_false]
    · rw [if_neg hb]
      rw [bad_iff] at hb
      have c1 : ¬ (if e.2 < e.1 then e.2 else e.1) < 0 := by split <;> omega
      have c2 : ¬ (if e.2 > e.1 then e.2 else e.1) ≥ n := by split <;> omega
      simp only [c1, c2, decide_false, cond_false]) (by
    simp only [graph_Valid_l0, Int.lt_irrefl, decide_false, cond_false])
  simp only [Int.natCast_zero] at this
  rw [this]
  by_cases h4 : l.any (badE n) = true
  · simp [h4]
  · simp only [h4]; rfl
theorem drossref06_Valid_eq (n : Int) (l : List (Int × Int)) : drossref06_Valid (n, l) = some (validS n l) := by
  unfold drossref06_Valid validS
  simp only [gt_iff_lt]
  by_cases h1 : 1000 < n
  · simp [h1]
  by_cases h2 : (20000 : Int) < l.length
  · simp [h1, h2]
  by_cases h3 : n < 0
  · simp [h1, h2, h3]
  simp only [h1, h2, h3, decide_false, cond_false, if_false]
  have := loop_anyP (f := drossref06_Valid_l0) l (fun i => (n, l, (i : Int))) (badE n) (.inl 1) (.inr ()) (fun i hi => by
    have hi' : (i : Int) < l.length := by omega
    have in1 : ∀ (k : Nat), drossref06_Valid_l1 (n, l, (i : Int), (k : Int)) = (if k < 2 then (if (bif k == 0 then (l[i]).1 else (l[i]).2) < 0 ∨ (bif k == 0 then (l[i]).1 else (l[i]).2) ≥ n then some (.inr (.inl 1)) else some (.inl (n, l, (i : Int), ((k + 1 : Nat) : Int)))) else some (.inr (.inr (n, l, (i : Int))))) := by
      intro k
      by_cases hk : k < 2
      · have hk' : (k : Int) < 2 := by omega
        have hb : Nat.blt k 2 = true := by rw [Nat.blt_eq]; exact hk
        simp only [drossref06_Valid_l1, hk, hk', decide_true, cond_true, Int.natCast_nonneg, Int.toNat_natCast, List.getElem?_eq_getElem hi, Option.bind_some, hb, wrap_i64s (show k < 9223372036854775807 by omega), if_true]
        by_cases c1 : (bif k == 0 then (l[i]).1 else (l[i]).2) < 0
        · simp only [c1, decide_true, cond_true, true_or, if_true]
        · by_cases c2 : (bif k == 0 then (l[i]).1 else (l[i]).2) ≥ n
          · simp only [c1, c2, decide_true, decide_false, cond_true, cond_false, or_true, if_true]
          · simp only [c1, c2, decide_false, cond_false, or_self, if_false]
      · have hk' : ¬ (k : Int) < 2 := by omega
        simp only [drossref06_Valid_l1, hk, hk', decide_false, cond_false, if_false]
    simp only [drossref06_Valid_l0, hi', decide_true, cond_true]
    have e0 : drossref06_Valid_l1 (n, l, (i : Int), 0) = (if (l[i]).1 < 0 ∨ (l[i]).1 ≥ n then some (.inr (.inl 1)) else some (.inl (n, l, (i : Int), ((1 : Nat) : Int)))) := (in1 0).trans (if_pos (by decide))
    have e1 : drossref06_Valid_l1 (n, l, (i : Int), ((1 : Nat) : Int)) = (if (l[i]).2 < 0 ∨ (l[i]).2 ≥ n then some (.inr (.inl 1)) else some (.inl (n, l, (i : Int), ((2 : Nat) : Int)))) := (in1 1).trans (if_pos (by decide))
    have e2 : drossref06_Valid_l1 (n, l, (i : Int), ((2 : Nat) : Int)) = some (.inr (.inr (n, l, (i : Int)))) := (in1 2).trans (if_neg (by decide))
    by_cases hb : badE n l[i] = true
    · rw [if_pos hb]
      rw [bad_iff] at hb
      by_cases c1 : (l[i]).1 < 0 ∨ (l[i]).1 ≥ n
      · rw [if_pos c1] at e0
        rw [loopI_r e0]
        rfl
      · rw [if_neg c1] at e0
        rw [loopI_l e0]
        rw [if_pos (by omega)] at e1
        rw [loopI_r e1]
        rfl
    · rw [if_neg hb]
      rw [bad_iff] at hb
      rw [if_neg (by omega)] at e0
      rw [if_neg (by omega)] at e1
      rw [loopI_l e0, loopI_l e1, loopI_r e2]
      simp only [Option.bind_some, Sum.elim_inr, wrap_i64s (show i < 9223372036854775807 by omega)]) (by
    simp only [drossref06_Valid_l0, Int.lt_irrefl, decide_false, cond_false])
  simp only [Int.natCast_zero] at this
  rw [this]
  by_cases h4 : l.any (badE n) = true
  · simp [h4]
  · simp only [h4]; rfl
theorem valid_some {n : Int} {l : List (Int × Int)} (h : validS n l = 0) : ∃ m : Nat, n = (m : Int) ∧ m ≤ 1000 ∧ l.length ≤ 20000 ∧ inR m l := by
  unfold validS at h
  split at h
  · cases h
  split at h
  · cases h
  split at h
  · cases h
  split at h
  · cases h
  rename_i h1 h2 h3 h4
  obtain ⟨m, rfl⟩ := Int.eq_ofNat_of_zero_le (show 0 ≤ n by omega)
  refine ⟨m, rfl, by omega, by omega, fun e he => ?_⟩
  have : ¬ badE m e = true := fun hb => h4 (List.any_eq_true.2 ⟨e, he, hb⟩)
  rw [bad_iff] at this
  omega
theorem ble00 : Nat.ble 0 0 = true := rfl
end Go.Mid
/- drossref06.Closure: the plain form. -/
namespace Go.Mid
set_option linter.unusedSimpArgs false
set_option linter.unusedVariables false
def rowN (n : Nat) (g : Nat → Bool) : List Bool := (List.range n).map g
def mat (n : Nat) (f : Nat → Nat → Bool) : List (List Bool) := (List.range n).map fun i => rowN n (f i)
theorem rowN_len (n : Nat) (g : Nat → Bool) : (rowN n g).length = n := by simp [rowN]
theorem rowN_get {n j : Nat} {g : Nat → Bool} (h : j < n) : (rowN n g)[j]? = some (g j) := by simp [rowN, h]
theorem mat_len (n : Nat) (f : Nat → Nat → Bool) : (mat n f).length = n := by simp [mat]
theorem mat_get {n i : Nat} {f : Nat → Nat → Bool} (h : i < n) : (mat n f)[i]? = some (rowN n (f i)) := by simp [mat, h]
theorem rowN_ext {n : Nat} {g h : Nat → Bool} (e : ∀ j, j < n → g j = h j) : rowN n g = rowN n h :=
  List.map_congr_left fun j hj => e j (List.mem_range.1 hj)
theorem mat_ext {n : Nat} {f g : Nat → Nat → Bool} (e : ∀ i j, i < n → j < n → f i j = g i j) : mat n f = mat n g :=
  List.map_congr_left fun i hi => rowN_ext fun j hj => e i j (List.mem_range.1 hi) hj
theorem rowN_set {n j : Nat} {g : Nat → Bool} (h : j < n) (x : Bool) : (rowN n g).set j x = rowN n (fun b => if b = j then x else g b) := by
  apply List.ext_getElem?
  intro v
  rw [List.getElem?_set, rowN_len]
  by_cases hv : v < n
  · rw [rowN_get hv]
    by_cases e : j = v
    · subst e; rw [rowN_get hv]; simp [h]
    · have : ¬ v = j := fun h => e h.symm
      simp [e, this, rowN_get hv]
  · rw [List.getElem?_eq_none (by rw [rowN_len]; omega), List.getElem?_eq_none (by rw [rowN_len]; omega)]
    have : ¬ j = v := by omega
    rw [if_neg this]
theorem mat_set {n i j : Nat} {f : Nat → Nat → Bool} (hi : i < n) (hj : j < n) (x : Bool) : (mat n f).set i ((rowN n (f i)).set j x) = mat n (fun a b => if a = i ∧ b = j then x else f a b) := by
  rw [rowN_set hj]
  apply List.ext_getElem?
  intro v
  rw [List.getElem?_set, mat_len]
  by_cases hv : v < n
  · rw [mat_get hv]
    by_cases e : i = v
    · subst e; rw [mat_get hv]; simp [hi]
    · have : ¬ v = i := fun h => e h.symm
      simp [e, this, mat_get hv]
  · rw [List.getElem?_eq_none (by rw [mat_len]; omega), List.getElem?_eq_none (by rw [mat_len]; omega)]
    have : ¬ i = v := by omega
    rw [if_neg this]
/-! ### the loops of the closure -/
def partW (F : Nat → Nat → Bool) (k i j : Nat) : Nat → Nat → Bool := fun a b => if a < i ∨ (a = i ∧ b < j) then wstep F k a b else F a b
theorem beq_len_set {A : Type} (l : List A) (i : Nat) (x : A) : (l.length == (l.set i x).length) = true := by simp
theorem closure_l4 {n k i : Nat} {F : Nat → Nat → Bool} (hn : n ≤ 1000) (hk : k < n) (hi : i < n) (hF : F k k = true) :
    loopI drossref06_Closure_l4 (((n : Int), n, (k : Int), (i : Int), 0), mat n (partW F k i 0)) = some (((n : Int), n, (k : Int), (i : Int)), mat n (partW F k i n)) := by
  have := loop_steps (f := drossref06_Closure_l4) n (fun j => (((n : Int), n, (k : Int), (i : Int), (j : Int)), mat n (partW F k i j))) (((n : Int), n, (k : Int), (i : Int)), mat n (partW F k i n)) (fun j hj => by
    have hj' : (j : Int) < n := by omega
    have w1 : partW F k i j i j = F i j := if_neg (by omega)
    have w2 : partW F k i j i k = F i k := by
      unfold partW
      split
      · exact wstep_col hF i
      · rfl
    have w3 : partW F k i j k j = F k j := by
      unfold partW
      split
      · exact wstep_row hF j
      · rfl
    have key : ∀ x, x = wstep F k i j → mat n (fun a b => if a = i ∧ b = j then x else partW F k i j a b) = mat n (partW F k i (j + 1)) := by
      rintro _ rfl
      refine mat_ext fun a b _ _ => ?_
      unfold partW
      by_cases e : a = i ∧ b = j
      · obtain ⟨rfl, rfl⟩ := e
        rw [if_pos ⟨rfl, rfl⟩, if_pos (by omega)]
      · rw [if_neg e]
        by_cases e2 : a < i ∨ (a = i ∧ b < j)
        · rw [if_pos e2, if_pos (by omega)]
        · rw [if_neg e2, if_neg (by omega)]
    simp only [drossref06_Closure_l4, hj', decide_true, cond_true, Int.natCast_nonneg, Int.toNat_natCast, blt_true hi, blt_true hj, blt_true hk, mat_get hi, mat_get hk, Option.bind_some, rowN_len, rowN_get hj, rowN_get hk, w1, w2, w3, beq_len_set, mat_set hi hj, wrap_i64s (show j < 9223372036854775807 by omega), List.length_set, beq_self_eq_true]
    cases e1 : F i j
    · cases e2 : F i k
      · simp only [cond_false]
        rw [key false (by unfold wstep; rw [e1, e2]; rfl)]
      · simp only [cond_true, cond_false]
        rw [key (F k j) (by unfold wstep; rw [e1, e2]; rfl)]
    · simp only [cond_true]
      rw [key true (by unfold wstep; rw [e1]; rfl)]) (by
    simp only [drossref06_Closure_l4, Int.lt_irrefl, decide_false, cond_false])
  simpa using this
theorem closure_l3 {n k : Nat} {F : Nat → Nat → Bool} (hn : n ≤ 1000) (hk : k < n) (hF : F k k = true) :
    loopI drossref06_Closure_l3 (((n : Int), n, (k : Int), 0), mat n F) = some (((n : Int), n, (k : Int)), mat n (wstep F k)) := by
  have e0 : mat n F = mat n (partW F k 0 0) := mat_ext fun a b _ _ => (if_neg (by omega)).symm
  have e1 : mat n (wstep F k) = mat n (partW F k n 0) := mat_ext fun a b ha _ => (if_pos (.inl ha)).symm
  rw [e0, e1]
  have := loop_steps (f := drossref06_Closure_l3) n (fun i => (((n : Int), n, (k : Int), (i : Int)), mat n (partW F k i 0))) (((n : Int), n, (k : Int)), mat n (partW F k n 0)) (fun i hi => by
    have hi' : (i : Int) < n := by omega
    have e2 : mat n (partW F k i n) = mat n (partW F k (i + 1) 0) := mat_ext fun a b _ hb => by
      unfold partW
      by_cases h : a < i + 1
      · rw [if_pos (by omega), if_pos (.inl h)]
      · rw [if_neg (by omega), if_neg (by omega)]
    simp only [drossref06_Closure_l3, hi', decide_true, cond_true, closure_l4 hn hk hi hF, Option.bind_some, e2, wrap_i64s (show i < 9223372036854775807 by omega)]) (by
    simp only [drossref06_Closure_l3, Int.lt_irrefl, decide_false, cond_false])
  simpa using this
theorem closure_l2 {n : Nat} {F : Nat → Nat → Bool} (hn : n ≤ 1000) (hF : ∀ k, k < n → F k k = true) :
    loopI drossref06_Closure_l2 (((n : Int), n, 0), mat n F) = some (n, mat n (wars F n)) := by
  have := loop_steps (f := drossref06_Closure_l2) n (fun k => (((n : Int), n, (k : Int)), mat n (wars F k))) (n, mat n (wars F n)) (fun k hk => by
    have hk' : (k : Int) < n := by omega
    simp only [drossref06_Closure_l2, hk', decide_true, cond_true, closure_l3 hn hk (wars_refl (hF k hk) k), Option.bind_some, wrap_i64s (show k < 9223372036854775807 by omega)]
    rfl) (by
    simp only [drossref06_Closure_l2, Int.lt_irrefl, decide_false, cond_false])
  exact this
def l0R (n i : Nat) : List (List Bool) := (List.range n).map fun v => if v < i then rowN n (fun b => v == b) else []
theorem l0R_get {n i v : Nat} (h : v < n) : (l0R n i)[v]? = some (if v < i then rowN n (fun b => v == b) else []) := by simp [l0R, h]
theorem l0R_len (n i : Nat) : (l0R n i).length = n := by simp [l0R]
theorem l0R_succ {n i : Nat} (hi : i < n) : (l0R n i).set i (rowN n (fun b => i == b)) = l0R n (i + 1) := by
  apply List.ext_getElem?
  intro v
  rw [List.getElem?_set, l0R_len]
  by_cases hv : v < n
  · rw [l0R_get hv]
    by_cases e : i = v
    · subst e; rw [l0R_get hv]; simp [hi]
    · rw [if_neg e, l0R_get hv]
      by_cases h1 : v < i
      · rw [if_pos h1, if_pos (by omega)]
      · rw [if_neg h1, if_neg (by omega)]
  · rw [List.getElem?_eq_none (by rw [l0R_len]; omega), List.getElem?_eq_none (by rw [l0R_len]; omega)]
    have : ¬ i = v := by omega
    rw [if_neg this]
theorem repl_row (n : Nat) : List.replicate n false = rowN n (fun _ => false) := by
  simp [rowN, List.map_const']
theorem closure_l0 {n : Nat} {E : EdgesV} {both : Bool} (hn : n ≤ 1000) : loopI drossref06_Closure_l0 (((n : Int), E, both, n, 0), List.replicate n []) = some (((n : Int), E, both, n), mat n (fun i j => i == j)) := by
  have h0 : List.replicate n [] = l0R n 0 := by simp [l0R, List.map_const']
  have h1 : mat n (fun i j => i == j) = l0R n n := by
    unfold mat l0R
    apply List.map_congr_left
    intro v hv
    rw [if_pos (List.mem_range.1 hv)]
  rw [h0, h1]
  have := loop_steps (f := drossref06_Closure_l0) n (fun i => (((n : Int), E, both, n, (i : Int)), l0R n i)) (((n : Int), E, both, n), l0R n n) (fun i hi => by
    have hi' : (i : Int) < n := by omega
    have e1 : (rowN n (fun b => if b = i then true else (fun _ => false) b)) = rowN n (fun b => i == b) := rowN_ext fun b _ => by
      by_cases h : b = i
      · subst h; simp
      · have : ¬ i = b := fun e => h e.symm
        simp [h, this]
    simp only [drossref06_Closure_l0, hi', decide_true, cond_true, Int.natCast_nonneg, Int.toNat_natCast, Int.le_refl, ble_true (show n * 1 ≤ 140737488355328 by omega), blt_true hi, l0R_get hi, Option.bind_some, repl_row, rowN_len, ble_true (Nat.le_refl n), l0R_len, beq_self_eq_true, rowN_get hi, rowN_set hi, e1, l0R_succ hi, wrap_i64s (show i < 9223372036854775807 by omega)]) (by
    simp only [drossref06_Closure_l0, Int.lt_irrefl, decide_false, cond_false])
  simpa using this
end Go.Mid
/- drossref06.Closure and drossref06.Reach: the plain form. -/
namespace Go.Mid
set_option linter.unusedSimpArgs false
set_option linter.unusedVariables false
theorem closure_l1_false (n : Int) (E : EdgesV) (N : Nat) (i : Int) (M : List (List Bool)) : drossref06_Closure_l1 ((n, E, false, N, i), M) =
  bif decide (i < (E.length : Int)) then
    bif decide ((0 : Int) ≤ i) then
      E[i.toNat]?.bind fun s1 =>
        bif decide ((0 : Int) ≤ s1.1) then
          bif s1.1.toNat.blt N then
            M[s1.1.toNat]?.bind fun t1 =>
              bif decide ((0 : Int) ≤ i) then
                E[i.toNat]?.bind fun y2 =>
                  M[s1.1.toNat]?.bind fun _ =>
                    bif decide ((0 : Int) ≤ y2.2) then
                      bif y2.2.toNat.blt t1.length then
                        M[s1.1.toNat]?.bind fun u2 =>
                          u2[y2.2.toNat]?.bind fun _ =>
                            M[s1.1.toNat]?.bind fun w2 =>
                              w2[y2.2.toNat]?.bind fun _ =>
                                bif w2.length == (w2.set y2.2.toNat true).length then
                                  some (Sum.inl ((n, E, false, N, IntKind.i64.wrap (i + (1 : Int))), M.set s1.1.toNat (w2.set y2.2.toNat true)))
                                else none
                      else none
                    else none
              else none
          else none
        else none
    else none
  else some (Sum.inr ((n, N), M)) := rfl
def relE (E : EdgesV) (i j : Nat) : Bool := i == j || E.any fun e => e.1 == (i : Int) && e.2 == (j : Int)
theorem relE_snoc (E : EdgesV) (u w i j : Nat) : relE (E ++ [((u : Int), (w : Int))]) i j = if i = u ∧ j = w then true else relE E i j := by
  unfold relE
  rw [List.any_append]
  by_cases h : i = u ∧ j = w
  · obtain ⟨rfl, rfl⟩ := h
    simp
  · rw [if_neg h]
    have : ((u : Int) == (i : Int) && (w : Int) == (j : Int)) = false := by
      rw [Bool.and_eq_false_iff]
      simp only [beq_eq_false_iff_ne]
      omega
    simp [this]
theorem relE_iff {E : EdgesV} {i j : Nat} : relE E i j = true ↔ i = j ∨ ((i : Int), (j : Int)) ∈ E := by
  unfold relE
  rw [Bool.or_eq_true, beq_iff_eq, List.any_eq_true]
  constructor
  · rintro (h | ⟨⟨a, b⟩, h1, h2⟩)
    · exact .inl h
    · rw [Bool.and_eq_true, beq_iff_eq, beq_iff_eq] at h2
      obtain ⟨rfl, rfl⟩ := h2
      exact .inr h1
  · rintro (h | h)
    · exact .inl h
    · exact .inr ⟨_, h, by simp⟩
theorem closure_l1 {n : Nat} {E : EdgesV} (hr : inR n E) (hE : E.length ≤ 1000) : loopI drossref06_Closure_l1 (((n : Int), E, false, n, 0), mat n (fun i j => i == j)) = some (((n : Int), n), mat n (relE E)) := by
  have h0 : mat n (fun i j => i == j) = mat n (relE (E.take 0)) := mat_ext fun i j _ _ => by simp [relE]
  rw [h0]
  have := loop_steps (f := drossref06_Closure_l1) E.length (fun i => (((n : Int), E, false, n, (i : Int)), mat n (relE (E.take i)))) (((n : Int), n), mat n (relE E)) (fun i hi => by
    have hi' : (i : Int) < E.length := by omega
    have he := hr E[i] (List.getElem_mem hi)
    obtain ⟨u, hu⟩ : ∃ u : Nat, (E[i]).1 = (u : Int) := Int.eq_ofNat_of_zero_le he.1
    obtain ⟨w, hw⟩ : ∃ w : Nat, (E[i]).2 = (w : Int) := Int.eq_ofNat_of_zero_le he.2.2.1
    have hun : u < n := by have := he.2.1; rw [hu] at this; omega
    have hwn : w < n := by have := he.2.2.2; rw [hw] at this; omega
    have hei : E[i] = ((u : Int), (w : Int)) := Prod.ext hu hw
    have e1 : mat n (fun a b => if a = u ∧ b = w then true else relE (E.take i) a b) = mat n (relE (E.take (i + 1))) := mat_ext fun a b _ _ => by
      rw [take_succ hi, hei, relE_snoc]
    rw [closure_l1_false]
    simp only [hi', decide_true, cond_true, Int.natCast_nonneg, Int.toNat_natCast, List.getElem?_eq_getElem hi, Option.bind_some, hu, hw, blt_true hun, mat_get hun, rowN_len, blt_true hwn, rowN_get hwn, beq_len_set, mat_set hun hwn, e1, wrap_i64s (show i < 9223372036854775807 by omega)]) (by
    rw [closure_l1_false]
    simp only [Int.lt_irrefl, decide_false, cond_false, take_all])
  simpa using this
theorem purE_bools (x : List Bool) : purE (Ty.vec 1 Ty.bool) x = x := by
  show List.map (purE Ty.bool) x = x
  have : (purE Ty.bool : Bool → Bool) = id := by funext y; rfl
  exact (congrArg (fun f => List.map f x) this).trans (List.map_id x)
theorem map_purE_bools (l : List (List Bool)) : List.map (purE (Ty.vec 1 Ty.bool)) l = l := by
  have : (purE (Ty.vec 1 Ty.bool) : List Bool → List Bool) = id := by funext y; exact purE_bools y
  exact (congrArg (fun f => List.map f l) this).trans (List.map_id l)
theorem closure_eq {n : Nat} {E : EdgesV} (hn : n ≤ 1000) (hr : inR n E) (hE : E.length ≤ 1000) : drossref06_Closure ((n : Int), E, false) = some (mat n (wars (relE E) n)) := by
  unfold drossref06_Closure
  simp only [Int.natCast_nonneg, decide_true, cond_true, Int.toNat_natCast, Int.le_refl]
  rw [ble_true (show n * 24 ≤ 140737488355328 by omega)]
  simp only [cond_true, closure_l0 hn, Option.bind_some, closure_l1 hr hE, closure_l2 hn (fun k _ => relE_iff.2 (.inl rfl))]
  rw [ble_true (show n ≤ (mat n (wars (relE E) n)).length by rw [mat_len]; exact Nat.le_refl _)]
  have e : List.take n (mat n (wars (relE E) n)) = mat n (wars (relE E) n) := List.take_of_length_le (by rw [mat_len]; exact Nat.le_refl _)
  refine congrArg some ?_
  refine Eq.trans ?_ (map_purE_bools _)
  exact congrArg (fun l : List (List Bool) => List.map (purE (Ty.vec 1 Ty.bool)) l) e
end Go.Mid
/- GraphReach: the plain law. -/
namespace Go.Mid
set_option linter.unusedSimpArgs false
set_option linter.unusedVariables false
theorem equal_self (l : List Int) (h : l.length ≤ 1000000) : slices_Equal_sint_int (l, l) = some true := by
  unfold slices_Equal_sint_int
  have := loop_steps (f := slices_Equal_sint_int_l0) l.length (fun i => (l, l, (l.length : Int), (i : Int))) (.inr ()) (fun i hi => by
    have hi' : (i : Int) < l.length := by omega
    simp only [slices_Equal_sint_int_l0, hi', decide_true, cond_true, Int.natCast_nonneg, Int.toNat_natCast, List.getElem?_eq_getElem hi, Option.bind_some, bne_self_eq_false, cond_false, wrap_i64s (show i < 9223372036854775807 by omega)]) (by
    simp only [slices_Equal_sint_int_l0, Int.lt_irrefl, decide_false, cond_false])
  simp only [Int.natCast_zero] at this
  rw [bne_self_eq_false, cond_false, this]
  rfl
theorem few_eq (n : Int) (E : EdgesV) : drossref06_Few (n, E) = some (decide ((E.length : Int) ≤ 60) && (decide (n ≤ 12) || validS n E != 0)) := by
  unfold drossref06_Few
  by_cases h1 : (E.length : Int) ≤ 60
  · by_cases h2 : n ≤ 12
    · simp [h1, h2]
    · simp [h1, h2, drossref06_Valid_eq]
  · simp [h1]
theorem cloneL_small {E : EdgesV} (h : E.length ≤ 1000) : cloneL 16 E = some E := by
  unfold cloneL
  rw [ble_true (show E.length * 16 ≤ 140737488355328 by omega)]
  rfl
end Go.Mid
/- Orders of vertices: plain Lean, no program. -/
namespace Go.Mid
set_option linter.unusedSimpArgs false
set_option linter.unusedVariables false
theorem countP_lt {α : Type} {p q : α → Bool} : ∀ {l : List α}, (∀ x ∈ l, p x = true → q x = true) → (∃ x ∈ l, p x = false ∧ q x = true) → l.countP p < l.countP q
  | [], _, h => by obtain ⟨x, hx, _⟩ := h; cases hx
  | a :: l, hm, h => by
    have hle : l.countP p ≤ l.countP q := List.countP_mono_left fun x hx => hm x (List.mem_cons_of_mem _ hx)
    have ha := hm a (by simp)
    rw [List.countP_cons, List.countP_cons]
    obtain ⟨x, hx, h1, h2⟩ := h
    rcases List.mem_cons.1 hx with e | e
    · subst e
      simp only [h1, h2, if_true]
      simp
      omega
    · have := countP_lt (fun x hx => hm x (List.mem_cons_of_mem _ hx)) ⟨x, e, h1, h2⟩
      by_cases hpa : p a = true
      · simp only [hpa, ha hpa, if_true]; omega
      · rw [if_neg hpa]
        omega
theorem nodup_le {α : Type} [DecidableEq α] : ∀ {l m : List α}, l.Nodup → (∀ x ∈ l, x ∈ m) → l.length ≤ m.length
  | [], _, _, _ => Nat.zero_le _
  | a :: l, m, h, hs => by
    have h' := List.nodup_cons.1 h
    have ham := hs a (by simp)
    have := nodup_le (l := l) (m := m.erase a) h'.2 fun x hx => by
      have hne : x ≠ a := fun e => h'.1 (e ▸ hx)
      exact (List.mem_erase_of_ne hne).2 (hs x (List.mem_cons_of_mem _ hx))
    rw [List.length_erase_of_mem ham] at this
    have := List.length_pos_of_mem ham
    simp only [List.length_cons]
    omega
/-- a vertex that may come next -/
def freeB (E : EdgesV) (o : List Nat) (v : Nat) : Bool := !o.contains v && E.all fun e => !(e.2 == (v : Int)) || o.contains e.1.toNat
theorem freeB_iff {E : EdgesV} {o : List Nat} {v : Nat} : freeB E o v = true ↔ v ∉ o ∧ ∀ e ∈ E, e.2 = (v : Int) → e.1.toNat ∈ o := by
  unfold freeB
  simp only [Bool.and_eq_true, Bool.not_eq_true', List.all_eq_true, Bool.or_eq_true, beq_eq_false_iff_ne, List.contains_iff_mem, ne_eq]
  constructor
  · rintro ⟨h1, h2⟩
    refine ⟨fun h => ?_, fun e he h3 => (h2 e he).resolve_left fun h => h h3⟩
    rw [List.contains_iff_mem.2 h] at h1; cases h1
  · rintro ⟨h1, h2⟩
    refine ⟨?_, fun e he => ?_⟩
    · cases hc : o.contains v
      · rfl
      · exact (h1 (List.contains_iff_mem.1 hc)).elim
    · by_cases h3 : e.2 = (v : Int)
      · exact .inr (h2 e he h3)
      · exact .inl h3
def leastF (n : Nat) (E : EdgesV) (o : List Nat) : Option Nat := (List.range n).find? (freeB E o)
def topoS (n : Nat) (E : EdgesV) : Nat → List Nat → Option (List Nat)
  | 0, o => some o
  | k + 1, o => (leastF n E o).bind fun v => topoS n E k (o ++ [v])
def acycB (n : Nat) (E : EdgesV) : Bool := E.all fun e => !wars (relE E) n e.2.toNat e.1.toNat
/-- without a circle there is a vertex that may come next -/
theorem least_some {n : Nat} {E : EdgesV} (hr : inR n E) (ha : acycB n E = true) {o : List Nat} (ho : o.length < n) : ∃ v, leastF n E o = some v := by
  cases hf : leastF n E o with
  | some v => exact ⟨v, rfl⟩
  | none =>
    exfalso
    have hf : ∀ v, v < n → ¬ freeB E o v = true := fun v hv => by
      have := List.find?_eq_none.1 hf v (List.mem_range.2 hv)
      exact this
    have main : ∀ (m v : Nat), v < n → v ∉ o → (List.range n).countP (fun u => wars (relE E) n u v) ≤ m → False := by
      intro m
      induction m with
      | zero =>
        intro v hv _ hc
        have : 0 < (List.range n).countP (fun u => wars (relE E) n u v) := List.countP_pos_iff.2 ⟨v, List.mem_range.2 hv, wars_mono (relE_iff.2 (.inl rfl)) n⟩
        omega
      | succ m ih =>
        intro v hv hvo hc
        have hnf := hf v hv
        rw [freeB_iff] at hnf
        have : ∃ e ∈ E, e.2 = (v : Int) ∧ e.1.toNat ∉ o := by
          refine Classical.byContradiction fun hno => hnf ⟨hvo, fun e he h2 => ?_⟩
          refine Classical.byContradiction fun h3 => hno ⟨e, he, h2, h3⟩
        obtain ⟨e, he, h2, h3⟩ := this
        have her := hr e he
        obtain ⟨u, hu⟩ : ∃ u : Nat, e.1 = (u : Int) := Int.eq_ofNat_of_zero_le her.1
        have hun : u < n := by omega
        rw [hu, Int.toNat_natCast] at h3
        have heq : e = ((u : Int), (v : Int)) := Prod.ext hu h2
        have hcyc : wars (relE E) n v u = false := by
          have := List.all_eq_true.1 ha e he
          rw [heq] at this
          simpa using this
        have huv : wars (relE E) n u v = true := wars_mono (relE_iff.2 (.inr (heq ▸ he))) n
        refine ih u hun h3 ?_
        have : (List.range n).countP (fun x => wars (relE E) n x u) < (List.range n).countP (fun x => wars (relE E) n x v) :=
          countP_lt (fun x _ hx => wars_trans n x u v hun hx huv) ⟨v, List.mem_range.2 hv, hcyc, wars_mono (relE_iff.2 (.inl rfl)) n⟩
        omega
    have : ∃ v, v < n ∧ v ∉ o := by
      refine Classical.byContradiction fun hno => ?_
      have := nodup_le (List.nodup_range (n := n)) (m := o) fun x hx => by
        refine Classical.byContradiction fun h => hno ⟨x, List.mem_range.1 hx, h⟩
      rw [List.length_range] at this
      omega
    obtain ⟨v, hv, hvo⟩ := this
    exact main _ v hv hvo (Nat.le_refl _)
theorem topoS_some {n : Nat} {E : EdgesV} (hr : inR n E) (ha : acycB n E = true) : ∀ (k : Nat) (o : List Nat), o.length + k = n → ∃ r, topoS n E k o = some r
  | 0, o, _ => ⟨o, rfl⟩
  | k + 1, o, h => by
    obtain ⟨v, hv⟩ := least_some hr ha (show o.length < n by omega)
    obtain ⟨r, hr'⟩ := topoS_some hr ha k (o ++ [v]) (by simp; omega)
    exact ⟨r, by show (leastF n E o).bind _ = _; rw [hv]; exact hr'⟩
/-- the places of the vertices -/
structure TO (n : Nat) (E : EdgesV) (o : List Nat) : Prop where
  nd : o.Nodup
  rng : ∀ v ∈ o, v < n
  ord : ∀ (i : Nat) (hi : i < o.length), ∀ e ∈ E, e.2 = (o[i] : Int) → ∃ j, j < i ∧ o[j]? = some e.1.toNat
theorem leastF_spec {n : Nat} {E : EdgesV} {o : List Nat} {v : Nat} (h : leastF n E o = some v) : v < n ∧ freeB E o v = true := by
  unfold leastF at h
  exact ⟨List.mem_range.1 (List.mem_of_find?_eq_some h), List.find?_some h⟩
theorem TO.add {n : Nat} {E : EdgesV} {o : List Nat} {v : Nat} (h : TO n E o) (hv : leastF n E o = some v) : TO n E (o ++ [v]) := by
  obtain ⟨hvn, hf⟩ := leastF_spec hv
  rw [freeB_iff] at hf
  refine ⟨?_, ?_, ?_⟩
  · rw [List.nodup_append]
    refine ⟨h.nd, by simp, fun a ha b hb e => ?_⟩
    simp at hb
    subst hb; subst e
    exact hf.1 ha
  · intro w hw
    rcases List.mem_append.1 hw with h1 | h1
    · exact h.rng w h1
    · rw [List.mem_singleton] at h1; subst h1; exact hvn
  · intro i hi e he h2
    by_cases hlt : i < o.length
    · rw [List.getElem_append_left hlt] at h2
      obtain ⟨j, hj, hj2⟩ := h.ord i hlt e he h2
      exact ⟨j, hj, by rw [List.getElem?_append_left (by omega)]; exact hj2⟩
    · have hie : i = o.length := by simp at hi; omega
      subst hie
      rw [List.getElem_append_right (Nat.le_refl _)] at h2
      simp only [Nat.sub_self, List.getElem_cons_zero] at h2
      obtain ⟨j, hj, e2⟩ := List.getElem_of_mem (hf.2 e he h2)
      exact ⟨j, hj, by rw [List.getElem?_append_left hj, List.getElem?_eq_getElem hj, e2]⟩
theorem topoS_TO {n : Nat} {E : EdgesV} : ∀ (k : Nat) (o r : List Nat), TO n E o → topoS n E k o = some r → TO n E r ∧ r.length = o.length + k
  | 0, o, r, h, e => by
    have : o = r := Option.some.inj e
    subst this; exact ⟨h, rfl⟩
  | k + 1, o, r, h, e => by
    have e : (leastF n E o).bind (fun v => topoS n E k (o ++ [v])) = some r := e
    cases hv : leastF n E o with
    | none => rw [hv] at e; cases e
    | some v =>
      rw [hv] at e
      have := topoS_TO k (o ++ [v]) r (h.add hv) e
      refine ⟨this.1, ?_⟩
      rw [this.2]
      simp
      omega
theorem TO_nil (n : Nat) (E : EdgesV) : TO n E [] := ⟨by simp, by simp, fun i hi => by simp at hi⟩
/-- with a circle the order is never done -/
theorem topoS_none {n : Nat} {E : EdgesV} (hr : inR n E) (ha : acycB n E = false) : topoS n E n [] = none := by
  cases ht : topoS n E n [] with
  | none => rfl
  | some r =>
    exfalso
    obtain ⟨hT, hl⟩ := topoS_TO n [] r (TO_nil n E) ht
    have hl : r.length = n := by simpa using hl
    have hall : ∀ v, v < n → v ∈ r := by
      intro v hv
      refine Classical.byContradiction fun hno => ?_
      have h1 : (v :: r).Nodup := List.nodup_cons.2 ⟨hno, hT.nd⟩
      have := nodup_le (m := List.range n) h1 fun x hx => by
        rcases List.mem_cons.1 hx with e | e
        · subst e; exact List.mem_range.2 hv
        · exact List.mem_range.2 (hT.rng x e)
      simp at this
      omega
    have hlt : ∀ e ∈ E, r.idxOf e.1.toNat < r.idxOf e.2.toNat := by
      intro e he
      have her := hr e he
      have h2 : e.2.toNat ∈ r := hall _ (by omega)
      have hi := List.idxOf_lt_length_iff.2 h2
      have hg : r[r.idxOf e.2.toNat] = e.2.toNat := List.getElem_idxOf hi
      obtain ⟨j, hj, hj2⟩ := hT.ord _ hi e he (by rw [hg]; omega)
      have hjl : j < r.length := by omega
      rw [List.getElem?_eq_getElem hjl] at hj2
      have hj3 : r[j] = e.1.toNat := Option.some.inj hj2
      have : r.idxOf r[j] = j := hT.nd.idxOf_getElem j hjl
      rw [← hj3, this]
      exact hj
    have hle : ∀ i j, wars (relE E) n i j = true → r.idxOf i ≤ r.idxOf j := fun i j h =>
      wars_sound (f := relE E) (Q := fun i j => r.idxOf i ≤ r.idxOf j) (fun i j h => by
        rcases relE_iff.1 h with rfl | h
        · exact Nat.le_refl _
        · have := hlt _ h
          simp only [Int.toNat_natCast] at this
          omega) (fun i a j h1 h2 => Nat.le_trans h1 h2) n i j h
    unfold acycB at ha
    have : ∃ e ∈ E, wars (relE E) n e.2.toNat e.1.toNat = true := by
      refine Classical.byContradiction fun hno => ?_
      have : (E.all fun e => !wars (relE E) n e.2.toNat e.1.toNat) = true := List.all_eq_true.2 fun e he => by
        cases hc : wars (relE E) n e.2.toNat e.1.toNat
        · rfl
        · exact (hno ⟨e, he, hc⟩).elim
      rw [this] at ha; cases ha
    obtain ⟨e, he, hc⟩ := this
    have h1 := hle _ _ hc
    have h2 := hlt e he
    omega
end Go.Mid
/- drossref06.Topological: the plain form. -/
namespace Go.Mid
set_option linter.unusedSimpArgs false
set_option linter.unusedVariables false
theorem acyclic_eq {n : Nat} {E : EdgesV} (hn : n ≤ 1000) (hr : inR n E) (hE : E.length ≤ 1000) : drossref06_Acyclic ((n : Int), E) = some (acycB n E) := by
  unfold drossref06_Acyclic
  simp only [closure_eq hn hr hE, Option.bind_some]
  have := loop_anyP (f := drossref06_Acyclic_l0) E (fun i => (E, mat n (wars (relE E) n), (i : Int))) (fun e => wars (relE E) n e.2.toNat e.1.toNat) (.inl false) (.inr ()) (fun i hi => by
    have hi' : (i : Int) < E.length := by omega
    have he := hr E[i] (List.getElem_mem hi)
    obtain ⟨u, hu⟩ : ∃ u : Nat, (E[i]).1 = (u : Int) := Int.eq_ofNat_of_zero_le he.1
    obtain ⟨w, hw⟩ : ∃ w : Nat, (E[i]).2 = (w : Int) := Int.eq_ofNat_of_zero_le he.2.2.1
    have hun : u < n := by have := he.2.1; rw [hu] at this; omega
    have hwn : w < n := by have := he.2.2.2; rw [hw] at this; omega
    simp only [drossref06_Acyclic_l0, hi', decide_true, cond_true, Int.natCast_nonneg, Int.toNat_natCast, List.getElem?_eq_getElem hi, Option.bind_some, hu, hw, mat_get hwn, rowN_get hun, wrap_i64s (show i < 9223372036854775807 by omega)]
    cases wars (relE E) n w u <;> rfl) (by
    simp only [drossref06_Acyclic_l0, Int.lt_irrefl, decide_false, cond_false])
  simp only [Int.natCast_zero] at this
  rw [this]
  have e : acycB n E = !E.any fun e => wars (relE E) n e.2.toNat e.1.toNat := by
    unfold acycB
    rw [List.not_any_eq_all_not]
  rw [e]
  cases E.any fun e => wars (relE E) n e.2.toNat e.1.toNat <;> rfl
def doneL (n : Nat) (o : List Nat) : List Bool := rowN n (fun v => o.contains v)
theorem free_eq {n : Nat} {E : EdgesV} (hr : inR n E) (hE : E.length ≤ 1000) (o : List Nat) (v : Nat) : drossref06_free (E, doneL n o, (v : Int)) = some (E.all fun e => !(e.2 == (v : Int)) || o.contains e.1.toNat) := by
  unfold drossref06_free
  have := loop_anyP (f := drossref06_free_l0) E (fun i => (E, doneL n o, (v : Int), (i : Int))) (fun e => (e.2 == (v : Int)) && !o.contains e.1.toNat) (.inl false) (.inr ()) (fun i hi => by
    have hi' : (i : Int) < E.length := by omega
    have he := hr E[i] (List.getElem_mem hi)
    obtain ⟨u, hu⟩ : ∃ u : Nat, (E[i]).1 = (u : Int) := Int.eq_ofNat_of_zero_le he.1
    have hun : u < n := by have := he.2.1; rw [hu] at this; omega
    unfold doneL
    simp only [drossref06_free_l0, hi', decide_true, cond_true, Int.natCast_nonneg, Int.toNat_natCast, List.getElem?_eq_getElem hi, Option.bind_some, hu, rowN_get hun, wrap_i64s (show i < 9223372036854775807 by omega)]
    cases (E[i]).2 == (v : Int) <;> cases o.contains u <;> rfl) (by
    simp only [drossref06_free_l0, Int.lt_irrefl, decide_false, cond_false])
  simp only [Int.natCast_zero] at this
  rw [this]
  have e : (E.all fun e => !(e.2 == (v : Int)) || o.contains e.1.toNat) = !E.any fun e => (e.2 == (v : Int)) && !o.contains e.1.toNat := by
    rw [List.not_any_eq_all_not]
    congr 1
    funext e
    cases e.2 == (v : Int) <;> cases o.contains e.1.toNat <;> rfl
  rw [e]
  cases E.any fun e => (e.2 == (v : Int)) && !o.contains e.1.toNat <;> rfl
def ints (o : List Nat) : List Int := o.map fun k : Nat => (k : Int)
theorem ints_len (o : List Nat) : (ints o).length = o.length := by simp [ints]
theorem ints_snoc (o : List Nat) (v : Nat) : ints (o ++ [v]) = ints o ++ [(v : Int)] := by simp [ints]
theorem doneL_len (n : Nat) (o : List Nat) : (doneL n o).length = n := rowN_len ..
theorem doneL_set {n v : Nat} {o : List Nat} (h : v < n) : (doneL n o).set v true = doneL n (o ++ [v]) := by
  unfold doneL
  rw [rowN_set h]
  refine rowN_ext fun j _ => ?_
  by_cases e : j = v
  · subst e; simp
  · rw [if_neg e, Bool.eq_iff_iff]
    simp [e]
theorem refTopo_l1 {n : Nat} {E : EdgesV} (hn : n ≤ 1000) (hr : inR n E) (hE : E.length ≤ 1000) {o : List Nat} (ho : o.length < n) {v : Nat} (hv : leastF n E o = some v) :
    loopI drossref06_Topological_l1 (((n : Int), E, n, (ints o).length, 0), ints o, doneL n o) = some (((n : Int), E, n, (ints (o ++ [v])).length), ints (o ++ [v]), doneL n (o ++ [v])) := by
  obtain ⟨hvn, hf⟩ := leastF_spec hv
  have hmin : ∀ w, w < v → freeB E o w = false := by
    intro w hw
    unfold leastF at hv
    rw [List.find?_range_eq_some] at hv
    simpa using hv.2.2 w hw
  have := loop_steps (f := drossref06_Topological_l1) v (fun i => (((n : Int), E, n, (ints o).length, (i : Int)), ints o, doneL n o)) (((n : Int), E, n, (ints (o ++ [v])).length), ints (o ++ [v]), doneL n (o ++ [v])) (fun i hi => by
    have hin : i < n := by omega
    have hi' : (i : Int) < n := by omega
    have hg : (doneL n o)[i]? = some (o.contains i) := rowN_get hin
    have hm := hmin i hi
    unfold freeB at hm
    have ht : List.take n (doneL n o) = doneL n o := List.take_of_length_le (by rw [doneL_len]; exact Nat.le_refl _)
    have hb : n.ble (doneL n o).length = true := ble_true (by rw [doneL_len]; exact Nat.le_refl _)
    cases hc : o.contains i
    · rw [hc, Bool.not_false, Bool.true_and] at hm
      simp only [drossref06_Topological_l1, hi', decide_true, cond_true, Int.natCast_nonneg, Int.toNat_natCast, blt_true hin, hg, hc, Option.bind_some, Bool.not_false, hb, ht, free_eq hr hE, hm, cond_false, wrap_i64s (show i < 9223372036854775807 by omega)]
    · simp only [drossref06_Topological_l1, hi', decide_true, cond_true, Int.natCast_nonneg, Int.toNat_natCast, blt_true hin, hg, hc, Option.bind_some, Bool.not_true, cond_false, wrap_i64s (show i < 9223372036854775807 by omega)]) (by
    have hv' : (v : Int) < n := by omega
    have hg : (doneL n o)[v]? = some (o.contains v) := rowN_get hvn
    unfold freeB at hf
    rw [Bool.and_eq_true] at hf
    have hc : o.contains v = false := by simpa using hf.1
    have ht : List.take n (doneL n o) = doneL n o := List.take_of_length_le (by rw [doneL_len]; exact Nat.le_refl _)
    have hb : n.ble (doneL n o).length = true := ble_true (by rw [doneL_len]; exact Nat.le_refl _)
    have hl : (ints o).length = o.length := ints_len o
    simp only [drossref06_Topological_l1, hv', decide_true, cond_true, Int.natCast_nonneg, Int.toNat_natCast, blt_true hvn, hg, hc, Option.bind_some, Bool.not_false, hb, ht, free_eq hr hE, hf.2, ble_true (Nat.le_refl _), take_all, doneL_set hvn, ints_snoc, List.length_append, List.length_cons, List.length_nil, ble_true (show ((ints o).length + 1) * 8 ≤ 140737488355328 by omega)])
  simpa using this
theorem refTopo_l0 {n : Nat} {E : EdgesV} (hn : n ≤ 1000) (hr : inR n E) (hE : E.length ≤ 1000) : ∀ (k : Nat) (o r : List Nat), o.length + k = n → topoS n E k o = some r → loopI drossref06_Topological_l0 (((n : Int), E, n, (ints o).length), ints o, doneL n o) = some ((ints r).length, ints r)
  | 0, o, r, h, e => by
    have : o = r := Option.some.inj e
    subst this
    refine loopI_r ?_
    have : ¬ (((ints o).length : Int) < (n : Int)) := by rw [ints_len]; omega
    simp only [drossref06_Topological_l0, this, decide_false, cond_false]
  | k + 1, o, r, h, e => by
    have e : (leastF n E o).bind (fun v => topoS n E k (o ++ [v])) = some r := e
    cases hv : leastF n E o with
    | none => rw [hv] at e; cases e
    | some v =>
      rw [hv] at e
      have := refTopo_l0 hn hr hE k (o ++ [v]) r (by simp; omega) e
      rw [← this]
      refine loopI_l ?_
      have h1 : (((ints o).length : Int) < (n : Int)) := by rw [ints_len]; omega
      simp only [drossref06_Topological_l0, h1, decide_true, cond_true, refTopo_l1 hn hr hE (show o.length < n by omega) hv, Option.bind_some]
theorem refTopo_eq {n : Nat} {E : EdgesV} (hv : validS n E = 0) (hn : n ≤ 1000) (hr : inR n E) (hE : E.length ≤ 1000) : drossref06_Topological ((n : Int), E) = some (match topoS n E n [] with | some r => (ints r, 0) | none => ([], 9)) := by
  unfold drossref06_Topological
  simp only [drossref06_Valid_eq, Option.bind_some, hv, bne_self_eq_false, cond_false, acyclic_eq hn hr hE]
  cases ha : acycB n E
  · simp only [topoS_none hr ha, Bool.not_false, cond_true, ble00, List.take_nil]
  · obtain ⟨r, e⟩ := topoS_some hr ha n [] (by simp)
    have h0 : List.replicate n false = doneL n [] := by simp [doneL, rowN, List.map_const']
    have := refTopo_l0 hn hr hE n [] r (by simp) e
    have this : loopI drossref06_Topological_l0 (((n : Int), E, n, 0), [], doneL n []) = some ((ints r).length, ints r) := this
    simp only [e, Bool.not_true, cond_false, Int.natCast_nonneg, decide_true, cond_true, Int.le_refl, Int.toNat_natCast, ble_true (show n * 1 ≤ 140737488355328 by omega), h0, this, Option.bind_some, ble_true (Nat.le_refl _), take_all]
end Go.Mid
/- graph.Topological: the plain form, first part. -/
namespace Go.Mid
set_option linter.unusedSimpArgs false
set_option linter.unusedVariables false
def colN (n : Nat) (g : Nat → Int) : List Int := (List.range n).map g
theorem colN_len (n : Nat) (g : Nat → Int) : (colN n g).length = n := by simp [colN]
theorem colN_get {n j : Nat} {g : Nat → Int} (h : j < n) : (colN n g)[j]? = some (g j) := by simp [colN, h]
theorem colN_ext {n : Nat} {g h : Nat → Int} (e : ∀ j, j < n → g j = h j) : colN n g = colN n h :=
  List.map_congr_left fun j hj => e j (List.mem_range.1 hj)
theorem colN_set {n j : Nat} {g : Nat → Int} (h : j < n) (x : Int) : (colN n g).set j x = colN n (fun b => if b = j then x else g b) := by
  apply List.ext_getElem?
  intro v
  rw [List.getElem?_set, colN_len]
  by_cases hv : v < n
  · rw [colN_get hv]
    by_cases e : j = v
    · subst e; rw [colN_get hv]; simp [h]
    · have : ¬ v = j := fun h => e h.symm
      simp [e, this, colN_get hv]
  · rw [List.getElem?_eq_none (by rw [colN_len]; omega), List.getElem?_eq_none (by rw [colN_len]; omega)]
    have : ¬ j = v := by omega
    rw [if_neg this]
theorem count_take {L : List Int} {i : Nat} (hi : i < L.length) (b : Int) : (L.take (i + 1)).count b = (L.take i).count b + if L[i] = b then 1 else 0 := by
  rw [take_succ hi, List.count_append, List.count_singleton]
  simp
theorem count_le_len {L : List Int} (i : Nat) (b : Int) : (L.take i).count b ≤ L.length := by
  refine Nat.le_trans List.count_le_length ?_
  rw [List.length_take]; omega
def bump (g : Nat → Int) (d : Int) (L : List Int) : Nat → Int := fun v => g v + d * ((L.count (v : Int) : Nat) : Int)
theorem topo_l1 {n : Nat} {g : Nat → Int} (hg : ∀ v, -2000000 ≤ g v ∧ g v ≤ 2000000) {L : List Int} (hL : ∀ w ∈ L, 0 ≤ w ∧ w < n) (hf : L.length ≤ 1000) (n0 m0 : Int) (z z2 : List (List Int)) (i0 : Int) :
    loopI graph_Topological_l1 ((n0, z, n, z2, m0, i0, L, (L.length : Int), 0), colN n g) = some ((n0, z, n, z2, m0, i0), colN n (bump g 1 L)) := by
  have h0 : colN n g = colN n (bump g 1 (L.take 0)) := colN_ext fun j _ => by simp [bump]
  rw [h0]
  have := loop_steps (f := graph_Topological_l1) L.length (fun i => ((n0, z, n, z2, m0, i0, L, (L.length : Int), (i : Int)), colN n (bump g 1 (L.take i)))) ((n0, z, n, z2, m0, i0), colN n (bump g 1 L)) (fun i hi => by
    have hi' : (i : Int) < L.length := by omega
    have hw := hL L[i] (List.getElem_mem hi)
    obtain ⟨w, e⟩ : ∃ w : Nat, L[i] = (w : Int) := Int.eq_ofNat_of_zero_le hw.1
    have hwn : w < n := by rw [e] at hw; omega
    have hc := count_le_len (L := L) i (w : Int)
    have hb := hg w
    have hwr : IntKind.i64.wrap (bump g 1 (L.take i) w + 1) = bump g 1 (L.take i) w + 1 := by
      apply wrap_i64 <;> (unfold bump; omega)
    have e1 : colN n (fun b => if b = w then bump g 1 (L.take i) w + 1 else bump g 1 (L.take i) b) = colN n (bump g 1 (L.take (i + 1))) := colN_ext fun b _ => by
      unfold bump
      rw [count_take hi, e]
      by_cases h : b = w
      · subst h; simp; omega
      · have : ¬ ((w : Int) = (b : Int)) := by omega
        simp [h, this]
    simp only [graph_Topological_l1, hi', decide_true, cond_true, Int.natCast_nonneg, Int.toNat_natCast, List.getElem?_eq_getElem hi, Option.bind_some, e, blt_true hwn, colN_get hwn, hwr, colN_set hwn, e1, wrap_i64s (show i < 9223372036854775807 by omega)]) (by
    simp only [graph_Topological_l1, Int.lt_irrefl, decide_false, cond_false, take_all])
  simpa using this
theorem topo_l3 {n : Nat} {g : Nat → Int} (hg : ∀ v, -2000000 ≤ g v ∧ g v ≤ 2000000) {L : List Int} (hL : ∀ w ∈ L, 0 ≤ w ∧ w < n) (hf : L.length ≤ 1000) (k : Nat) (n0 i0 : Int) (z : List (List Int)) (out : List Int) :
    loopI graph_Topological_l3 ((z, n, k, n0, i0, L, (L.length : Int), 0), out, colN n g) = some ((z, n, k, n0, i0), out, colN n (bump g (-1) L)) := by
  have h0 : colN n g = colN n (bump g (-1) (L.take 0)) := colN_ext fun j _ => by simp [bump]
  rw [h0]
  have := loop_steps (f := graph_Topological_l3) L.length (fun i => ((z, n, k, n0, i0, L, (L.length : Int), (i : Int)), out, colN n (bump g (-1) (L.take i)))) ((z, n, k, n0, i0), out, colN n (bump g (-1) L)) (fun i hi => by
    have hi' : (i : Int) < L.length := by omega
    have hw := hL L[i] (List.getElem_mem hi)
    obtain ⟨w, e⟩ : ∃ w : Nat, L[i] = (w : Int) := Int.eq_ofNat_of_zero_le hw.1
    have hwn : w < n := by rw [e] at hw; omega
    have hc := count_le_len (L := L) i (w : Int)
    have hb := hg w
    have hwr : IntKind.i64.wrap (bump g (-1) (L.take i) w - 1) = bump g (-1) (L.take i) w - 1 := by
      apply wrap_i64 <;> (unfold bump; omega)
    have e1 : colN n (fun b => if b = w then bump g (-1) (L.take i) w - 1 else bump g (-1) (L.take i) b) = colN n (bump g (-1) (L.take (i + 1))) := colN_ext fun b _ => by
      unfold bump
      rw [count_take hi, e]
      by_cases h : b = w
      · subst h; simp; omega
      · have : ¬ ((w : Int) = (b : Int)) := by omega
        simp [h, this]
    simp only [graph_Topological_l3, hi', decide_true, cond_true, Int.natCast_nonneg, Int.toNat_natCast, List.getElem?_eq_getElem hi, Option.bind_some, e, blt_true hwn, colN_get hwn, hwr, colN_set hwn, e1, wrap_i64s (show i < 9223372036854775807 by omega)]) (by
    simp only [graph_Topological_l3, Int.lt_irrefl, decide_false, cond_false, take_all])
  simpa using this
end Go.Mid
/- graph.Topological: the plain form, second part. -/
namespace Go.Mid
set_option linter.unusedSimpArgs false
set_option linter.unusedVariables false
def nxt (E : EdgesV) (u : Nat) : List Int := dedupS (sorted (tgt E u))
theorem nxt_nodup (E : EdgesV) (u : Nat) : (nxt E u).Nodup := (dedupS_lt _ (sorted_le _)).imp fun h => by omega
theorem nxt_mem {E : EdgesV} {u : Nat} {w : Int} : w ∈ nxt E u ↔ ((u : Int), w) ∈ E := by
  unfold nxt
  rw [dedupS_mem, sorted_mem, tgt_mem]
theorem nxt_count (E : EdgesV) (u : Nat) (v : Int) : (nxt E u).count v = if (nxt E u).contains v then 1 else 0 := by
  by_cases h : v ∈ nxt E u
  · have h1 : 0 < (nxt E u).count v := List.count_pos_iff.2 h
    have h2 := List.nodup_iff_count.1 (nxt_nodup E u) v
    rw [if_pos (List.contains_iff_mem.2 h)]; omega
  · rw [if_neg (fun hc => h (List.contains_iff_mem.1 hc)), List.count_eq_zero.2 h]
def wtS (E : EdgesV) (o : List Nat) (i v : Nat) : Nat := (List.range i).countP fun u => !o.contains u && (nxt E u).contains (v : Int)
theorem wtS_le (E : EdgesV) (o : List Nat) (i v : Nat) : wtS E o i v ≤ i := by
  unfold wtS
  refine Nat.le_trans List.countP_le_length ?_
  simp
theorem nexts_get' {n u : Nat} {E : EdgesV} (h : u < n) : (nexts n E)[u]? = some (nxt E u) := by simp [nexts, h, nxt]
theorem topo_l0 {n : Nat} {E : EdgesV} (hn : n ≤ 1000) (hr : inR n E) (hE : E.length ≤ 1000) :
    loopI graph_Topological_l0 (((n : Int), nexts n E, n, nexts n E, (n : Int), 0), List.replicate n 0) = some (((n : Int), nexts n E, n), colN n fun v => ((wtS E [] n v : Nat) : Int)) := by
  have h0 : List.replicate n (0 : Int) = colN n (fun v => ((wtS E [] 0 v : Nat) : Int)) := by simp [colN, wtS, List.map_const']
  rw [h0]
  have hN := nexts_NB hn hr hE
  have := loop_steps (f := graph_Topological_l0) n (fun i => (((n : Int), nexts n E, n, nexts n E, (n : Int), (i : Int)), colN n (fun v => ((wtS E [] i v : Nat) : Int)))) (((n : Int), nexts n E, n), colN n fun v => ((wtS E [] n v : Nat) : Int)) (fun i hi => by
    have hi' : (i : Int) < n := by omega
    have hm : nxt E i ∈ nexts n E := List.mem_of_getElem? (nexts_get' hi)
    have e0 := topo_l1 (n := n) (g := fun v => ((wtS E [] i v : Nat) : Int)) (fun v => by have := wtS_le E [] i v; omega) (hN.rng _ hm) (hN.few _ hm) (n : Int) (n : Int) (nexts n E) (nexts n E) (i : Int)
    have e1 : colN n (bump (fun v => ((wtS E [] i v : Nat) : Int)) 1 (nxt E i)) = colN n (fun v => ((wtS E [] (i + 1) v : Nat) : Int)) := colN_ext fun v _ => by
      unfold bump wtS
      rw [List.range_succ, List.countP_append, nxt_count]
      by_cases h : (nxt E i).contains (v : Int) <;> simp [h]
    simp only [graph_Topological_l0, hi', decide_true, cond_true, Int.natCast_nonneg, Int.toNat_natCast, nexts_get' hi, Option.bind_some, e0, e1, wrap_i64s (show i < 9223372036854775807 by omega)]) (by
    simp only [graph_Topological_l0, Int.lt_irrefl, decide_false, cond_false])
  simpa using this
def wts (n : Nat) (E : EdgesV) (o : List Nat) (v : Nat) : Int := if o.contains v then -1 else ((wtS E o n v : Nat) : Int)
theorem wts_zero {n : Nat} {E : EdgesV} (hr : inR n E) {o : List Nat} {v : Nat} : wts n E o v = 0 ↔ freeB E o v = true := by
  rw [freeB_iff]
  unfold wts
  by_cases h : v ∈ o
  · rw [if_pos (List.contains_iff_mem.2 h)]
    constructor
    · intro h; cases h
    · intro h2; exact (h2.1 h).elim
  · rw [if_neg (fun hc => h (List.contains_iff_mem.1 hc))]
    have : ((wtS E o n v : Nat) : Int) = 0 ↔ wtS E o n v = 0 := by omega
    rw [this]
    unfold wtS
    rw [List.countP_eq_zero]
    constructor
    · intro h1
      refine ⟨h, fun e he e2 => ?_⟩
      have her := hr e he
      obtain ⟨u, hu⟩ : ∃ u : Nat, e.1 = (u : Int) := Int.eq_ofNat_of_zero_le her.1
      have hun : u < n := by omega
      have := h1 u (List.mem_range.2 hun)
      rw [hu, Int.toNat_natCast]
      refine Classical.byContradiction fun hno => this ?_
      have heq : e = ((u : Int), (v : Int)) := Prod.ext hu e2
      have h4 : (nxt E u).contains (v : Int) = true := List.contains_iff_mem.2 (nxt_mem.2 (heq ▸ he))
      have h5 : o.contains u = false := by
        cases hc : o.contains u
        · rfl
        · exact (hno (List.contains_iff_mem.1 hc)).elim
      rw [h4, h5]; rfl
    · rintro ⟨_, h2⟩ u hu hc
      rw [Bool.and_eq_true] at hc
      have h3 := nxt_mem.1 (List.contains_iff_mem.1 hc.2)
      have h4 := h2 _ h3 rfl
      rw [Int.toNat_natCast] at h4
      have h5 := List.contains_iff_mem.2 h4
      rw [h5] at hc
      cases hc.1
theorem index_eq {n : Nat} {E : EdgesV} (hn : n ≤ 1000) (hr : inR n E) (o : List Nat) : slices_Index_sint_int (colN n (wts n E o), 0) = some (match leastF n E o with | some v => (v : Int) | none => -1) := by
  unfold slices_Index_sint_int
  cases hl : leastF n E o with
  | none =>
    have hall : ∀ v, v < n → ((0 : Int) == wts n E o v) = false := fun v hv => by
      have := List.find?_eq_none.1 hl v (List.mem_range.2 hv)
      rw [← wts_zero (n := n) hr] at this
      simpa using fun h : 0 = wts n E o v => this h.symm
    have := loop_steps (f := slices_Index_sint_int_l0) n (fun i => (colN n (wts n E o), 0, (n : Int), (i : Int))) (.inr ()) (fun i hi => by
      have hi' : (i : Int) < n := by omega
      simp only [slices_Index_sint_int_l0, hi', decide_true, cond_true, Int.natCast_nonneg, Int.toNat_natCast, colN_get hi, Option.bind_some, hall i hi, cond_false, wrap_i64s (show i < 9223372036854775807 by omega)]) (by
      simp only [slices_Index_sint_int_l0, Int.lt_irrefl, decide_false, cond_false])
    simp only [Int.natCast_zero] at this
    simp only [colN_len, this, Option.bind_some, Sum.elim_inr]
  | some v =>
    obtain ⟨hvn, hf⟩ := leastF_spec hl
    have hmin : ∀ w, w < v → ((0 : Int) == wts n E o w) = false := by
      intro w hw
      unfold leastF at hl
      rw [List.find?_range_eq_some] at hl
      have := hl.2.2 w hw
      have h2 : ¬ freeB E o w = true := by simpa using this
      rw [← wts_zero (n := n) hr] at h2
      simpa using fun h : 0 = wts n E o w => h2 h.symm
    have := loop_steps (f := slices_Index_sint_int_l0) v (fun i => (colN n (wts n E o), 0, (n : Int), (i : Int))) (.inl (v : Int)) (fun i hi => by
      have hi' : (i : Int) < n := by omega
      simp only [slices_Index_sint_int_l0, hi', decide_true, cond_true, Int.natCast_nonneg, Int.toNat_natCast, colN_get (show i < n by omega), Option.bind_some, hmin i hi, cond_false, wrap_i64s (show i < 9223372036854775807 by omega)]) (by
      have hv' : (v : Int) < n := by omega
      have hz : ((0 : Int) == wts n E o v) = true := by rw [(wts_zero hr).2 hf]; rfl
      simp only [slices_Index_sint_int_l0, hv', decide_true, cond_true, Int.natCast_nonneg, Int.toNat_natCast, colN_get hvn, Option.bind_some, hz])
    simp only [Int.natCast_zero] at this
    simp only [colN_len, this, Option.bind_some, Sum.elim_inl]
end Go.Mid
/- GraphTopological: the plain law. -/
namespace Go.Mid
set_option linter.unusedSimpArgs false
set_option linter.unusedVariables false
theorem countP_split {P Q : Nat → Bool} {v : Nat} (h1 : ∀ u, u ≠ v → Q u = P u) (h2 : Q v = false) : ∀ m, (List.range m).countP P = (List.range m).countP Q + if v < m ∧ P v = true then 1 else 0
  | 0 => by simp
  | m + 1 => by
    rw [List.range_succ, List.countP_append, List.countP_append, countP_split h1 h2 m, List.countP_singleton, List.countP_singleton]
    by_cases e : m = v
    · subst e
      by_cases hp : P m = true <;> simp [hp, h2]
    · rw [h1 m e]
      by_cases hv : v < m
      · have hv1 : v < m + 1 := by omega
        by_cases hq : P m = true <;> by_cases hp : P v = true <;> simp [hp, hq, hv, hv1] <;> omega
      · have hv1 : ¬ v < m + 1 := by omega
        simp [hv, hv1]
theorem TO.pre {n : Nat} {E : EdgesV} {o : List Nat} (h : TO n E o) {b u : Nat} (hb : b ∈ o) (he : ((u : Int), (b : Int)) ∈ E) : u ∈ o := by
  obtain ⟨i, hi, e⟩ := List.getElem_of_mem hb
  obtain ⟨j, _, hj⟩ := h.ord i hi _ he (by rw [e])
  exact List.mem_of_getElem? hj
theorem wts_step {n : Nat} {E : EdgesV} {o : List Nat} (hT : TO n E o) {v : Nat} (hv : leastF n E o = some v) :
    colN n (bump (fun b => if b = v then -1 else wts n E o b) (-1) (nxt E v)) = colN n (wts n E (o ++ [v])) := by
  obtain ⟨hvn, hf⟩ := leastF_spec hv
  rw [freeB_iff] at hf
  refine colN_ext fun b _ => ?_
  unfold bump
  have hz : ((v : Int), (b : Int)) ∉ E → (nxt E v).count (b : Int) = 0 := fun h => List.count_eq_zero.2 fun hm => h (nxt_mem.1 hm)
  by_cases e : b = v
  · subst e
    have : ((b : Int), (b : Int)) ∉ E := fun h => hf.1 (by simpa using hf.2 _ h rfl)
    rw [hz this]
    unfold wts
    simp
  · simp only [if_neg e]
    by_cases hb : b ∈ o
    · have : ((v : Int), (b : Int)) ∉ E := fun h => hf.1 (hT.pre hb h)
      rw [hz this]
      unfold wts
      simp [hb]
    · have h1 : ¬ o.contains b = true := fun hc => hb (List.contains_iff_mem.1 hc)
      have h2 : ¬ (o ++ [v]).contains b = true := fun hc => by
        have := List.contains_iff_mem.1 hc
        rcases List.mem_append.1 this with h | h
        · exact hb h
        · exact e (List.mem_singleton.1 h)
      unfold wts
      rw [if_neg h1, if_neg h2, nxt_count]
      unfold wtS
      have hov : o.contains v = false := by
        cases hc : o.contains v
        · rfl
        · exact (hf.1 (List.contains_iff_mem.1 hc)).elim
      have hs := countP_split (P := fun u => !o.contains u && (nxt E u).contains (b : Int)) (Q := fun u => !(o ++ [v]).contains u && (nxt E u).contains (b : Int)) (v := v) (fun u hu => by
        have : (o ++ [v]).contains u = o.contains u := by rw [Bool.eq_iff_iff]; simp [hu]
        show (!(o ++ [v]).contains u && _) = _
        rw [this]) (by simp) n
      rw [hs]
      by_cases hc : (nxt E v).contains (b : Int) = true
      · rw [if_pos hc, if_pos ⟨hvn, by show (!o.contains v && _) = true; rw [hov, hc]; rfl⟩]; omega
      · rw [if_neg hc, if_neg (fun h => hc (by have := h.2; rw [Bool.and_eq_true] at this; exact this.2))]; omega
theorem topo_l2 {n : Nat} {E : EdgesV} (hn : n ≤ 1000) (hr : inR n E) (hE : E.length ≤ 1000) : ∀ (k : Nat) (o : List Nat), TO n E o → o.length + k = n →
    loopI graph_Topological_l2 ((nexts n E, n, (ints o).length, (n : Int), (o.length : Int)), ints o, colN n (wts n E o)) = some (.inr ((ints ((topoS n E k o).getD [])).length, ints ((topoS n E k o).getD []))) ∧ (∃ r, topoS n E k o = some r) ∨
    (topoS n E k o = none ∧ ∃ x, loopI graph_Topological_l2 ((nexts n E, n, (ints o).length, (n : Int), (o.length : Int)), ints o, colN n (wts n E o)) = some (.inl ((0, 9), [], x)))
  | 0, o, _, h => by
    left
    refine ⟨?_, o, rfl⟩
    have h1 : ¬ ((o.length : Int) < (n : Int)) := by omega
    refine loopI_r ?_
    simp only [graph_Topological_l2, h1, decide_false, cond_false]
    rfl
  | k + 1, o, hT, h => by
    have h1 : (o.length : Int) < (n : Int) := by omega
    have ht : List.take n (colN n (wts n E o)) = colN n (wts n E o) := List.take_of_length_le (by rw [colN_len]; exact Nat.le_refl _)
    have hb : n.ble (colN n (wts n E o)).length = true := ble_true (by rw [colN_len]; exact Nat.le_refl _)
    have hN := nexts_NB hn hr hE
    have hlo := ints_len o
    cases hv : leastF n E o with
    | none =>
      right
      refine ⟨by show (leastF n E o).bind _ = _; rw [hv]; rfl, ints o, ?_⟩
      refine loopI_r ?_
      have hm : decide ((-1 : Int) < 0) = true := rfl
      simp only [graph_Topological_l2, h1, decide_true, cond_true, hb, ht, index_eq hn hr o, hv, Option.bind_some, hm]
    | some v =>
      obtain ⟨hvn, hf⟩ := leastF_spec hv
      have hm : nxt E v ∈ nexts n E := List.mem_of_getElem? (nexts_get' hvn)
      have e3 := fun (k' : Nat) (i0 : Int) (out : List Int) => topo_l3 (n := n) (g := fun b => if b = v then -1 else wts n E o b) (fun b => by
        have := wtS_le E o n b
        unfold wts
        split
        · omega
        · split <;> omega) (hN.rng _ hm) (hN.few _ hm) k' (n : Int) i0 (nexts n E) out
      have ih := topo_l2 hn hr hE k (o ++ [v]) (hT.add hv) (by simp; omega)
      have hstep : graph_Topological_l2 ((nexts n E, n, (ints o).length, (n : Int), (o.length : Int)), ints o, colN n (wts n E o)) = some (.inl ((nexts n E, n, (ints (o ++ [v])).length, (n : Int), ((o ++ [v]).length : Int)), ints (o ++ [v]), colN n (wts n E (o ++ [v])))) := by
        have hneg : ¬ (v : Int) < 0 := by omega
        simp only [graph_Topological_l2, h1, decide_true, cond_true, hb, ht, index_eq hn hr o, hv, Option.bind_some, hneg, decide_false, cond_false, Int.natCast_nonneg, Int.toNat_natCast, blt_true hvn, colN_get hvn, ble_true (Nat.le_refl _), ble_true (show ((ints o).length + 1) * 8 ≤ 140737488355328 by omega), nexts_get' hvn, take_all, colN_set hvn, e3, wts_step hT hv, ints_snoc, List.length_append, List.length_cons, List.length_nil, wrap_i64s (show o.length < 9223372036854775807 by omega)]
      have et : topoS n E (k + 1) o = topoS n E k (o ++ [v]) := by show (leastF n E o).bind _ = _; rw [hv]; rfl
      rw [loopI_l hstep, et]
      exact ih
theorem graphTopo_eq {n : Nat} {E : EdgesV} (hv : validS n E = 0) (hn : n ≤ 1000) (hr : inR n E) (hE : E.length ≤ 1000) : graph_Topological ((n : Int), E) = some (match topoS n E n [] with | some r => (ints r, 0) | none => ([], 9)) := by
  unfold graph_Topological
  have h0 : colN n (fun v => ((wtS E [] n v : Nat) : Int)) = colN n (wts n E []) := colN_ext fun v _ => by simp [wts]
  have h2 := topo_l2 hn hr hE n [] (TO_nil n E) (by simp)
  simp only [graph_Valid_eq, Option.bind_some, hv, bne_self_eq_false, cond_false, neighbours_eq hn hr hE, Int.natCast_nonneg, decide_true, cond_true, Int.le_refl, Int.toNat_natCast, ble_true (show n * 8 ≤ 140737488355328 by omega), nexts_len, topo_l0 hn hr hE, h0]
  rcases h2 with ⟨h2, r, hr2⟩ | ⟨h2, x, h3⟩
  · have h2 : loopI graph_Topological_l2 ((nexts n E, n, 0, (n : Int), 0), [], colN n (wts n E [])) = some (.inr ((ints ((topoS n E n []).getD [])).length, ints ((topoS n E n []).getD []))) := h2
    simp only [h2, hr2, Option.getD_some, Option.bind_some, Sum.elim_inr, ble_true (Nat.le_refl _), cond_true, take_all]
  · have h3 : loopI graph_Topological_l2 ((nexts n E, n, 0, (n : Int), 0), [], colN n (wts n E [])) = some (.inl ((0, 9), [], x)) := h3
    simp only [h3, h2, Option.bind_some, Sum.elim_inl, List.length_nil, ble00, cond_true, List.take_nil]
theorem law4 (n : Int) (E : EdgesV) : drosslaw06_GraphTopological_S (n, E) = some true := by
  unfold drosslaw06_GraphTopological_S
  simp only [Option.bind_some, Bool.not_true, cond_false, few_eq]
  by_cases hf : (decide ((E.length : Int) ≤ 60) && (decide (n ≤ 12) || validS n E != 0)) = true
  · have hE : E.length ≤ 60 := by
      rw [Bool.and_eq_true, decide_eq_true_eq] at hf
      omega
    simp only [hf, Bool.not_true, cond_false, cloneL_small (show E.length ≤ 1000 by omega), Option.bind_some]
    by_cases hv : validS n E = 0
    · obtain ⟨m, rfl, hm, _, hr⟩ := valid_some hv
      rw [graphTopo_eq hv hm hr (by omega), refTopo_eq hv hm hr (by omega)]
      cases ht : topoS m E m [] with
      | none => simp only [Option.bind_some, beq_self_eq_true, cond_true, equal_self [] (by simp)]
      | some r =>
        have hl := (topoS_TO m [] r (TO_nil m E) ht).2
        simp only [Option.bind_some, beq_self_eq_true, cond_true, equal_self (ints r) (by rw [ints_len, hl]; simp; omega)]
    · have hb : (validS n E != 0) = true := by simpa using hv
      unfold graph_Topological drossref06_Topological
      simp only [graph_Valid_eq, drossref06_Valid_eq, Option.bind_some, hb, cond_true, ble00, List.take_nil, beq_self_eq_true, equal_self [] (by simp)]
  · simp only [hf, Bool.not_false, cond_true]
end Go.Mid
