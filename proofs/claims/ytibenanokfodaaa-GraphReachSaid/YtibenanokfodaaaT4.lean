/- Tools for plain laws: loops step by step, sums, bounds. -/
import Derived.Test.YtibenanokfodaaaN2
import Derived.Test.YtibenanokfodaaaT2
namespace Go.Mid
set_option linter.unusedSimpArgs false
set_option linter.unusedVariables false
section
variable {A B : Type} {f : A → Option (A ⊕ B)}
/-- a loop whose states are known -/
theorem loop_steps (n : Nat) (T : Nat → A) (b : B) (h1 : ∀ i, i < n → f (T i) = some (.inl (T (i + 1)))) (h2 : f (T n) = some (.inr b)) : loopI f (T 0) = some b := by
  have : ∀ k i, i + k = n → loopI f (T i) = some b := by
    intro k
    induction k with
    | zero => intro i hi; obtain rfl : i = n := by omega
              exact loopI_r h2
    | succ k ih => intro i hi; rw [loopI_l (h1 i (by omega))]; exact ih (i + 1) (by omega)
  exact this n 0 (by omega)
end
theorem ble_true {a b : Nat} (h : a ≤ b) : a.ble b = true := Nat.ble_eq_true_of_le h
theorem blt_true {a b : Nat} (h : a < b) : a.blt b = true := Nat.ble_eq_true_of_le h
theorem take_all {α : Type} (l : List α) : l.take l.length = l := List.take_length
theorem take_succ {α : Type} {l : List α} {i : Nat} (h : i < l.length) : l.take (i + 1) = l.take i ++ [l[i]] := List.take_succ_eq_append_getElem h
/-! ### pairs of elements, the first ahead of the second -/
section
variable {α β : Type}
end
end Go.Mid
/- Closures of relations, ascending lists: plain Lean, no program. -/
namespace Go.Mid
set_option linter.unusedSimpArgs false
set_option linter.unusedVariables false
/-! ### the closure of a relation, vertex by vertex -/
def wstep (f : Nat → Nat → Bool) (k : Nat) : Nat → Nat → Bool := fun i j => f i j || (f i k && f k j)
def wars (f : Nat → Nat → Bool) : Nat → Nat → Nat → Bool
  | 0 => f
  | k + 1 => wstep (wars f k) k
theorem wstep_iff {f : Nat → Nat → Bool} {k i j : Nat} : wstep f k i j = true ↔ f i j = true ∨ (f i k = true ∧ f k j = true) := by
  unfold wstep
  rw [Bool.or_eq_true, Bool.and_eq_true]
theorem wars_mono {f : Nat → Nat → Bool} {i j : Nat} (h : f i j = true) : ∀ k, wars f k i j = true
  | 0 => h
  | k + 1 => wstep_iff.2 (.inl (wars_mono h k))
theorem wars_trans {f : Nat → Nat → Bool} : ∀ k (i a j : Nat), a < k → wars f k i a = true → wars f k a j = true → wars f k i j = true
  | 0, _, _, _, h, _, _ => by omega
  | k + 1, i, a, j, h, h1, h2 => by
    have h1 := wstep_iff.1 h1
    have h2 := wstep_iff.1 h2
    refine wstep_iff.2 ?_
    by_cases hk : a = k
    · subst hk
      have h1' : wars f a i a = true := h1.elim (fun h => h) (fun h => h.1)
      have h2' : wars f a a j = true := h2.elim (fun h => h) (fun h => h.2)
      exact .inr ⟨h1', h2'⟩
    · have ha : a < k := by omega
      rcases h1 with h1 | h1 <;> rcases h2 with h2 | h2
      · exact .inl (wars_trans k i a j ha h1 h2)
      · exact .inr ⟨wars_trans k i a k ha h1 h2.1, h2.2⟩
      · exact .inr ⟨h1.1, wars_trans k k a j ha h1.2 h2⟩
      · exact .inr ⟨h1.1, h2.2⟩
theorem wars_sound {f : Nat → Nat → Bool} {Q : Nat → Nat → Prop} (hf : ∀ i j, f i j = true → Q i j) (ht : ∀ i a j, Q i a → Q a j → Q i j) : ∀ k i j, wars f k i j = true → Q i j
  | 0, i, j, h => hf i j h
  | k + 1, i, j, h => by
    rcases wstep_iff.1 h with h | h
    · exact wars_sound hf ht k i j h
    · exact ht i k j (wars_sound hf ht k i k h.1) (wars_sound hf ht k k j h.2)
/-- in place, the row and the column of the vertex do not change -/
theorem wstep_row {f : Nat → Nat → Bool} {k : Nat} (hk : f k k = true) (j : Nat) : wstep f k k j = f k j := by
  rw [Bool.eq_iff_iff, wstep_iff]
  exact ⟨fun h => h.elim (fun h => h) (fun h => h.2), .inl⟩
theorem wstep_col {f : Nat → Nat → Bool} {k : Nat} (hk : f k k = true) (i : Nat) : wstep f k i k = f i k := by
  rw [Bool.eq_iff_iff, wstep_iff]
  exact ⟨fun h => h.elim (fun h => h) (fun h => h.1), .inl⟩
theorem wars_refl {f : Nat → Nat → Bool} {i : Nat} (h : f i i = true) (k : Nat) : wars f k i i = true := wars_mono h k
/-! ### ascending lists -/
theorem asc_ext {R : Int → Int → Prop} (hirr : ∀ a, ¬ R a a) (hasy : ∀ a b, R a b → R b a → False) : ∀ {l m : List Int}, l.Pairwise R → m.Pairwise R → (∀ x, x ∈ l ↔ x ∈ m) → l = m
  | [], [], _, _, _ => rfl
  | [], b :: m, _, _, h => absurd ((h b).2 (by simp)) (by simp)
  | a :: l, [], _, _, h => absurd ((h a).1 (by simp)) (by simp)
  | a :: l, b :: m, hl, hm, h => by
    have hl' := List.pairwise_cons.1 hl
    have hm' := List.pairwise_cons.1 hm
    have hab : a = b := by
      rcases List.mem_cons.1 ((h a).1 (by simp)) with e | e
      · exact e
      · rcases List.mem_cons.1 ((h b).2 (by simp)) with e2 | e2
        · exact e2.symm
        · exact (hasy _ _ (hl'.1 b e2) (hm'.1 a e)).elim
    subst hab
    congr 1
    refine asc_ext hirr hasy hl'.2 hm'.2 fun x => ?_
    constructor
    · intro hx
      rcases List.mem_cons.1 ((h x).1 (List.mem_cons_of_mem _ hx)) with e | e
      · subst e; exact (hirr _ (hl'.1 _ hx)).elim
      · exact e
    · intro hx
      rcases List.mem_cons.1 ((h x).2 (List.mem_cons_of_mem _ hx)) with e | e
      · subst e; exact (hirr _ (hm'.1 _ hx)).elim
      · exact e
theorem asc_eq {l m : List Int} (hl : l.Pairwise (· < ·)) (hm : m.Pairwise (· < ·)) (h : ∀ x, x ∈ l ↔ x ∈ m) : l = m :=
  asc_ext (fun a => Int.lt_irrefl a) (fun a b h1 h2 => by omega) hl hm h
theorem sorted_mem {l : List Int} {x : Int} : x ∈ sorted l ↔ x ∈ l := (sorted_perm l).mem_iff
theorem sorted_lt {l : List Int} (h : l.Nodup) : (sorted l).Pairwise (· < ·) := by
  have h1 := sorted_le l
  have h2 : (sorted l).Nodup := (sorted_perm l).nodup_iff.2 h
  exact (h1.and h2).imp fun ⟨a, b⟩ => by omega
theorem range_asc (n : Nat) (p : Nat → Bool) : (((List.range n).filter p).map fun k : Nat => (k : Int)).Pairwise (· < ·) := by
  rw [List.pairwise_map]
  have := (List.pairwise_lt_range (n := n)).filter p
  exact this.imp fun h => by omega
end Go.Mid
/- Lists of neighbours: the plain form of slices.Sort, slices.Compact and graph.neighbours. -/
namespace Go.Mid
set_option linter.unusedSimpArgs false
set_option linter.unusedVariables false
/-- without neighbours that repeat -/
def dedupS : List Int → List Int
  | [] => []
  | [x] => [x]
  | x :: y :: r => if x = y then dedupS (y :: r) else x :: dedupS (y :: r)
theorem dedupS_mem : ∀ (l : List Int) (x : Int), x ∈ dedupS l ↔ x ∈ l
  | [], x => by simp [dedupS]
  | [a], x => by simp [dedupS]
  | a :: b :: r, x => by
    unfold dedupS
    split
    · rename_i h
      rw [dedupS_mem (b :: r) x, h]
      simp
    · rw [List.mem_cons, dedupS_mem (b :: r) x]
      simp
theorem dedupS_len : ∀ l : List Int, (dedupS l).length ≤ l.length
  | [] => by simp [dedupS]
  | [a] => by simp [dedupS]
  | a :: b :: r => by
    unfold dedupS
    have := dedupS_len (b :: r)
    split <;> simp only [List.length_cons] at * <;> omega
/-- one more at the end -/
theorem dedupS_snoc : ∀ (l : List Int) (x : Int), l ≠ [] → dedupS (l ++ [x]) = if l.getLast? = some x then dedupS l else dedupS l ++ [x]
  | [], _, h => absurd rfl h
  | [a], x, _ => by
    simp only [List.cons_append, List.nil_append, dedupS, List.getLast?_singleton, Option.some.injEq]
    by_cases h : a = x
    · simp [h]
    · simp [h]
  | a :: b :: r, x, _ => by
    have ih := dedupS_snoc (b :: r) x (by simp)
    have e : (a :: b :: r).getLast? = (b :: r).getLast? := by simp
    rw [e]
    simp only [List.cons_append] at ih ⊢
    rw [dedupS, ih]
    conv => rhs; rw [dedupS]
    by_cases h1 : a = b <;> by_cases h2 : (b :: r).getLast? = some x <;> simp [h1, h2]
/-- what the array holds when the first m elements are done -/
def arrC (l : List Int) (m : Nat) : List Int := dedupS (l.take m) ++ l.drop (dedupS (l.take m)).length
theorem dedup_take_le (l : List Int) (m : Nat) : (dedupS (l.take m)).length ≤ m := Nat.le_trans (dedupS_len _) (by rw [List.length_take]; omega)
theorem arrC_len (l : List Int) (m : Nat) : (arrC l m).length = l.length := by
  unfold arrC
  have h1 := dedupS_len (l.take m)
  rw [List.length_take] at h1
  rw [List.length_append, List.length_drop]; omega
theorem arrC_get {l : List Int} {m i : Nat} (h : (dedupS (l.take m)).length ≤ i) : (arrC l m)[i]? = l[i]? := by
  unfold arrC
  rw [List.getElem?_append_right h, List.getElem?_drop]
  congr 1; omega
theorem take_last {l : List Int} {m : Nat} (h0 : 0 < m) (h : m ≤ l.length) : (l.take m).getLast? = l[m - 1]? := by
  rw [List.getLast?_eq_getElem?, List.length_take, Nat.min_eq_left h, List.getElem?_take_of_lt (by omega)]
theorem dedup_step {l : List Int} {m : Nat} (h0 : 0 < m) (h : m < l.length) : dedupS (l.take (m + 1)) = if l[m]'h = l[m - 1]'(by omega) then dedupS (l.take m) else dedupS (l.take m) ++ [l[m]'h] := by
  have hne : l.take m ≠ [] := by
    intro e
    have := congrArg List.length e
    rw [List.length_take, List.length_nil] at this
    omega
  rw [take_succ h, dedupS_snoc _ _ hne, take_last h0 (by omega), List.getElem?_eq_getElem (by omega : m - 1 < l.length)]
  simp only [Option.some.injEq]
  by_cases e : l[m]'h = l[m - 1]'(by omega)
  · rw [if_pos e.symm, if_pos e]
  · rw [if_neg (fun h => e h.symm), if_neg e]
theorem arr_step {l : List Int} {m : Nat} (h0 : 0 < m) (h : m < l.length) (hk : (dedupS (l.take m)).length ≤ m - 1) (hne : l[m]'h ≠ l[m - 1]'(by omega)) : arrC l (m + 1) = (arrC l m).set (dedupS (l.take m)).length (l[m]'h) := by
  unfold arrC
  rw [dedup_step h0 h, if_neg hne]
  generalize dedupS (l.take m) = D at hk
  rw [List.set_append_right _ _ (Nat.le_refl _), Nat.sub_self, List.length_append]
  have : D.length < l.length := by omega
  rw [List.drop_eq_getElem_cons this, List.set_cons_zero]
  simp
theorem dedup_small {l : List Int} {m k : Nat} (hkm : k < m) (hk : (dedupS (l.take m)).length ≤ m - 1) : ∀ j, m + j ≤ l.length → (dedupS (l.take (m + j))).length ≤ m + j - 1
  | 0, _ => by simpa using hk
  | j + 1, h => by
    have ih := dedup_small hkm hk j (by omega)
    rw [← Nat.add_assoc, dedup_step (by omega) (by omega)]
    split
    · omega
    · rw [List.length_append]; simp; omega
theorem set_self {LL : List (List Int)} {I : Nat} {l : List Int} (h : LL[I]? = some l) : LL.set I l = LL := by
  have hlt := (List.getElem?_eq_some_iff.1 h).1
  apply List.ext_getElem?
  intro i
  rw [List.getElem?_set]
  by_cases e : I = i
  · subst e
    rw [if_pos rfl, if_pos hlt, h]
  · rw [if_neg e]
theorem compact_inner {LL : List (List Int)} {I N off : Nat} {l : List Int} (hI : I < LL.length) (hN : l.length = N) (hN2 : N ≤ 1000) (ho : 0 < off) (hoN : off < N) (hd : (dedupS (l.take (off + 1))).length = off) :
    loopI slices_Compact_sint_int_S_l1 (((I, N), (off : Int), (I, off, N - off), 1), LL.set I (arrC l (off + 1))) = some (((I, N), ((dedupS l).length : Int)), LL.set I (arrC l N)) := by
  have hall : dedupS (l.take N) = dedupS l := by rw [List.take_of_length_le (by omega)]
  have : loopI slices_Compact_sint_int_S_l1 (((I, N), ((dedupS (l.take (off + 1 + 0))).length : Int), (I, off, N - off), ((0 + 1 : Nat) : Int)), LL.set I (arrC l (off + 1 + 0))) = _ :=
    loop_steps (f := slices_Compact_sint_int_S_l1) (N - off - 1) (fun i => (((I, N), ((dedupS (l.take (off + 1 + i))).length : Int), (I, off, N - off), ((i + 1 : Nat) : Int)), LL.set I (arrC l (off + 1 + i)))) (((I, N), ((dedupS l).length : Int)), LL.set I (arrC l N)) (fun i hi => by
      have hm : off + 1 + i < l.length := by omega
      have hsm := dedup_small (l := l) (m := off + 1) (k := off) (by omega) (by omega) i (by omega)
      have hk0 := dedup_take_le l (off + 1 + i)
      have hj : ((i + 1 : Nat) : Int) < ((N - off : Nat) : Int) := by omega
      have hj0 : (0 : Int) ≤ ((i + 1 : Nat) : Int) := by omega
      have hw : IntKind.i64.wrap (((i + 1 : Nat) : Int) - 1) = (i : Int) := by rw [wrap_i64 (by omega) (by omega)]; omega
      have e1 : (LL.set I (arrC l (off + 1 + i)))[I]? = some (arrC l (off + 1 + i)) := by simp [hI]
      have g1 : (arrC l (off + 1 + i))[off + (i + 1)]? = some (l[off + 1 + i]'hm) := by
        rw [arrC_get (by omega), show off + (i + 1) = off + 1 + i by omega, List.getElem?_eq_getElem hm]
      have g2 : (arrC l (off + 1 + i))[off + i]? = some (l[off + i]'(by omega)) := by
        rw [arrC_get (by omega), List.getElem?_eq_getElem (by omega)]
      have hlen := arrC_len l (off + 1 + i)
      have hstep := dedup_step (l := l) (m := off + 1 + i) (by omega) hm
      have hidx : off + 1 + i - 1 = off + i := by omega
      simp only [hidx] at hstep
      simp only [slices_Compact_sint_int_S_l1, hj, decide_true, cond_true, e1, Option.bind_some, hj0, Int.toNat_natCast, blt_true (show i + 1 < N - off by omega), g1, hw, Int.natCast_nonneg, blt_true (show i < N - off by omega), g2]
      by_cases hne : l[off + 1 + i]'hm = l[off + i]'(by omega)
      · rw [if_pos hne] at hstep
        have hb : (l[off + 1 + i]'hm != l[off + i]'(by omega)) = false := by simp [hne]
        have ha : arrC l (off + 1 + (i + 1)) = arrC l (off + 1 + i) := by
          rw [← Nat.add_assoc]
          unfold arrC
          rw [hstep]
        rw [ha, ← Nat.add_assoc (off + 1) i 1, hstep]
        simp only [hb, cond_false, wrap_i64s (show i + 1 < 9223372036854775807 by omega)]
      · rw [if_neg hne] at hstep
        have hb : (l[off + 1 + i]'hm != l[off + i]'(by omega)) = true := by simpa using hne
        have ha := arr_step (l := l) (m := off + 1 + i) (by omega) hm (by omega) (by simp only [hidx]; exact hne)
        rw [← Nat.add_assoc (off + 1) i 1, ha, hstep]
        have hDl : (dedupS (l.take (off + 1 + i))).length < (arrC l (off + 1 + i)).length := by omega
        simp only [hb, cond_true, blt_true (show (dedupS (l.take (off + 1 + i))).length < N by omega), List.getElem?_eq_getElem hDl, Option.bind_some, beq_self_eq_true, List.length_set, blt_true hI, List.set_set, List.length_append, List.length_cons, List.length_nil, wrap_i64s (show (dedupS (l.take (off + 1 + i))).length < 9223372036854775807 by omega), wrap_i64s (show i + 1 < 9223372036854775807 by omega)]) (by
      have hm : off + 1 + (N - off - 1) = N := by omega
      have e1 : (LL.set I (arrC l N))[I]? = some (arrC l N) := by simp [hI]
      have hj : ¬ ((N - off - 1 + 1 : Nat) : Int) < ((N - off : Nat) : Int) := by omega
      rw [hm, hall]
      simp only [slices_Compact_sint_int_S_l1, hj, decide_false, cond_false, e1, Option.bind_some])
  have h0 : ((dedupS (l.take (off + 1 + 0))).length : Int) = (off : Int) := by rw [Nat.add_zero, hd]
  rw [h0] at this
  exact this
theorem nodup_prefix {l : List Int} {k : Nat} (h : ∀ j (h0 : 0 < j) (hj : j < k) (hl : j < l.length), l[j] ≠ l[j - 1]'(by omega)) : ∀ m, m ≤ k → m ≤ l.length → dedupS (l.take m) = l.take m
  | 0, _, _ => by simp [dedupS]
  | 1, _, hl => by
    rw [take_succ (by omega : 0 < l.length)]; simp [dedupS]
  | m + 2, hk, hl => by
    rw [dedup_step (by omega) (by omega : m + 1 < l.length), if_neg (h (m + 1) (by omega) (by omega) (by omega)), nodup_prefix h (m + 1) (by omega) (by omega), ← take_succ (by omega)]
/-- slices.Compact of one of the lists -/
theorem compact_eq {LL : List (List Int)} {I : Nat} {l : List Int} (hL : LL[I]? = some l) (hN2 : l.length ≤ 1000) :
    ∃ l', slices_Compact_sint_int_S ((I, l.length), LL) = some ((I, (dedupS l).length), LL.set I l') ∧ l'.take (dedupS l).length = dedupS l ∧ (dedupS l).length ≤ l'.length := by
  have hI := (List.getElem?_eq_some_iff.1 hL).1
  unfold slices_Compact_sint_int_S
  by_cases h2 : (l.length : Int) < 2
  · have hd : dedupS l = l := by
      match l, h2 with
      | [], _ => rfl
      | [_], _ => rfl
      | _ :: _ :: _, h => simp at h; omega
    refine ⟨l, ?_, by rw [hd, take_all], by rw [hd]; exact Nat.le_refl _⟩
    simp only [h2, decide_true, cond_true, hL, Option.bind_some, hd, set_self hL]
  simp only [h2, decide_false, cond_false, hL, Option.bind_some]
  have key : ∀ n k, n + k = l.length → 0 < k → (∀ j (h0 : 0 < j) (hj : j < k) (hl : j < l.length), l[j] ≠ l[j - 1]'(by omega)) →
      ∃ b, loopI slices_Compact_sint_int_S_l0 (((I, l.length), (k : Int)), LL) = some b ∧
        ((∃ l', b = .inl ((I, (dedupS l).length), LL.set I l') ∧ l'.take (dedupS l).length = dedupS l ∧ (dedupS l).length ≤ l'.length) ∨ (b = .inr ((I, l.length), LL) ∧ dedupS l = l)) := by
    intro n
    induction n with
    | zero =>
      intro k hk h0 hp
      have hkl : k = l.length := by omega
      refine ⟨.inr ((I, l.length), LL), loopI_r ?_, .inr ⟨rfl, ?_⟩⟩
      · subst hkl
        simp only [slices_Compact_sint_int_S_l0, Int.lt_irrefl, decide_false, cond_false, hL, Option.bind_some]
      · have := nodup_prefix hp l.length (by omega) (Nat.le_refl _)
        rwa [take_all] at this
    | succ n ih =>
      intro k hk h0 hp
      have hkl : k < l.length := by omega
      have hk' : (k : Int) < (l.length : Int) := by omega
      have hw : IntKind.i64.wrap ((k : Int) - 1) = ((k - 1 : Nat) : Int) := by rw [wrap_i64 (by omega) (by omega)]; omega
      by_cases he : l[k] = l[k - 1]'(by omega)
      · have hd : dedupS (l.take k) = l.take k := nodup_prefix hp k (Nat.le_refl _) (by omega)
        have hd1 : (dedupS (l.take (k + 1))).length = k := by
          rw [dedup_step h0 hkl, if_pos he, hd, List.length_take]; omega
        have ha : arrC l (k + 1) = l := by
          unfold arrC
          rw [hd1, dedup_step h0 hkl, if_pos he, hd, List.take_append_drop]
        have hin := compact_inner (LL := LL) (I := I) (N := l.length) (off := k) (l := l) hI rfl hN2 h0 hkl hd1
        rw [ha, set_self hL] at hin
        have hle := dedupS_len l
        have hD : arrC l l.length = dedupS l ++ l.drop (dedupS l).length := by unfold arrC; rw [take_all]
        have hAl := arrC_len l l.length
        refine ⟨.inl ((I, (dedupS l).length), LL.set I (overL (arrC l l.length) (some (dedupS l).length) (List.replicate (l.length - (dedupS l).length) 0))), loopI_r ?_, .inl ⟨_, rfl, ?_, ?_⟩⟩
        · have e1 : (LL.set I (arrC l l.length))[I]? = some (arrC l l.length) := by simp [hI]
          have e3 : (overL (arrC l l.length) (some (dedupS l).length) (List.replicate (l.length - (dedupS l).length) 0)).length = (arrC l l.length).length := by
            unfold overL
            simp only [List.length_append, List.length_take, List.length_replicate, List.length_drop, hAl]
            omega
          simp only [slices_Compact_sint_int_S_l0, hk', decide_true, cond_true, hL, Option.bind_some, Int.natCast_nonneg, Int.toNat_natCast, blt_true hkl, List.getElem?_eq_getElem hkl, hw, blt_true (show k - 1 < l.length by omega), List.getElem?_eq_getElem (show k - 1 < l.length by omega), he, beq_self_eq_true, ble_true (show k ≤ l.length by omega), hin, e1, ble_true hle, List.length_set, blt_true hI, e3, List.set_set]
          rw [ble_true (by rw [List.length_replicate, hAl]; omega)]
          rfl
        · unfold overL
          simp only
          rw [hD, List.append_assoc, List.take_append_of_le_length (by rw [List.length_take]; simp), List.take_take, Nat.min_self, List.take_left' rfl]
        · unfold overL
          simp only [List.length_append, List.length_take, List.length_replicate, List.length_drop, hAl]
          omega
      · have hb : (l[k] == l[k - 1]'(by omega)) = false := by simpa using he
        obtain ⟨b, h1, h3⟩ := ih (k + 1) (by omega) (by omega) (fun j a b c => by
          by_cases e : j = k
          · subst e; exact he
          · exact hp j a (by omega) c)
        refine ⟨b, ?_, h3⟩
        rw [← h1]
        exact loopI_l (by
          simp only [slices_Compact_sint_int_S_l0, hk', decide_true, cond_true, hL, Option.bind_some, Int.natCast_nonneg, Int.toNat_natCast, blt_true hkl, List.getElem?_eq_getElem hkl, hw, blt_true (show k - 1 < l.length by omega), List.getElem?_eq_getElem (show k - 1 < l.length by omega), hb, cond_false, wrap_i64s (show k < 9223372036854775807 by omega)])
  obtain ⟨b, h1, h3⟩ := key (l.length - 1) 1 (by omega) (by omega) (fun j a b c => by omega)
  have h1 : loopI slices_Compact_sint_int_S_l0 (((I, l.length), (1 : Int)), LL) = some b := h1
  rw [h1]
  rcases h3 with ⟨l', rfl, h4, h5⟩ | ⟨rfl, h4⟩
  · refine ⟨l', ?_, h4, h5⟩
    have e1 : (LL.set I l')[I]? = some l' := by simp [hI]
    simp only [Option.bind_some, Sum.elim_inl, e1]
  · refine ⟨l, ?_, by rw [h4, take_all], by rw [h4]; exact Nat.le_refl _⟩
    simp only [Option.bind_some, Sum.elim_inr, hL, h4, set_self hL]
end Go.Mid
/- The search for what can be reached: the plain form of graph.visit. -/
namespace Go.Mid
set_option linter.unusedSimpArgs false
set_option linter.unusedVariables false
structure VI (n : Nat) (Q : Int → Prop) (seen : List Bool) (out : List Int) : Prop where
  sl : seen.length = n
  nd : out.Nodup
  mem : ∀ v : Nat, v < n → (seen[v]? = some true ↔ (v : Int) ∈ out)
  rng : ∀ v ∈ out, 0 ≤ v ∧ v < n
  q : ∀ v ∈ out, Q v
  cnt : seen.count true = out.length
theorem VI.le {n : Nat} {Q : Int → Prop} {seen : List Bool} {out : List Int} (h : VI n Q seen out) : out.length ≤ n := by
  rw [← h.cnt, ← h.sl]; exact List.count_le_length
theorem VI.add {n : Nat} {Q : Int → Prop} {seen : List Bool} {out : List Int} (h : VI n Q seen out) {w : Nat} (hw : w < n) (hs : seen[w]? = some false) (hq : Q w) : VI n Q (seen.set w true) (out ++ [(w : Int)]) where
  sl := by rw [List.length_set]; exact h.sl
  nd := by
    have : (w : Int) ∉ out := fun hm => by
      have := (h.mem w hw).2 hm
      rw [hs] at this; cases this
    rw [List.nodup_append]
    refine ⟨h.nd, by simp, ?_⟩
    intro a ha b hb e
    simp at hb
    subst hb; subst e
    exact this ha
  mem := by
    intro v hv
    rw [List.getElem?_set]
    by_cases e : w = v
    · subst e
      simp [h.sl, hv]
    · rw [if_neg e, h.mem v hv]
      simp only [List.mem_append, List.mem_singleton]
      constructor
      · exact .inl
      · rintro (h1 | h1)
        · exact h1
        · omega
  rng := by
    intro v hv
    rcases List.mem_append.1 hv with h1 | h1
    · exact h.rng v h1
    · rw [List.mem_singleton] at h1; subst h1; omega
  q := by
    intro v hv
    rcases List.mem_append.1 hv with h1 | h1
    · exact h.q v h1
    · rw [List.mem_singleton] at h1; subst h1; exact hq
  cnt := by
    have hlt : w < seen.length := by rw [h.sl]; exact hw
    have hg : seen[w] = false := by
      rw [List.getElem?_eq_getElem hlt] at hs
      exact Option.some.inj hs
    rw [List.count_set hlt, hg, h.cnt]
    simp
/-- the lists of neighbours -/
structure NB (n : Nat) (next : List (List Int)) : Prop where
  len : next.length = n
  rng : ∀ l ∈ next, ∀ w ∈ l, 0 ≤ w ∧ w < n
  few : ∀ l ∈ next, l.length ≤ 1000
  small : n ≤ 1000
theorem visit_inner {n : Nat} {Q : Int → Prop} {next : List (List Int)} (hN : NB n next) {L : List Int} (hL : L ∈ next) (hQ : ∀ w ∈ L, Q w) (i0 : Int) (seen : List Bool) (out : List Int) (h : VI n Q seen out) :
    ∃ seen' out', loopI graph_visit_l1 ((next, n, out.length, i0, L, (L.length : Int), 0), seen, out) = some ((next, n, out'.length, i0), seen', out') ∧ VI n Q seen' out' ∧ out <+: out' ∧ ∀ w ∈ L, w ∈ out' := by
  have hf := hN.few L hL
  have := loop_rng0 (f := graph_visit_l1) L.length (fun i (s : List Bool × List Int) => ((next, n, s.2.length, i0, L, (L.length : Int), (i : Int)), s.1, s.2)) (fun i s => VI n Q s.1 s.2 ∧ out <+: s.2 ∧ ∀ k (hk : k < L.length), k < i → L[k] ∈ s.2)
    (fun b => ∃ seen' out', b = ((next, n, out'.length, i0), seen', out') ∧ VI n Q seen' out' ∧ out <+: out' ∧ ∀ w ∈ L, w ∈ out') (seen, out) ⟨h, List.prefix_refl _, fun k _ hk => by omega⟩ (fun i s hi hJ => by
      obtain ⟨hv, hp, hall⟩ := hJ
      have hi' : (i : Int) < L.length := by omega
      obtain ⟨w, hw⟩ : ∃ w : Nat, L[i] = (w : Int) := Int.eq_ofNat_of_zero_le (hN.rng L hL _ (List.getElem_mem hi)).1
      have hwn : w < n := by have := (hN.rng L hL _ (List.getElem_mem hi)).2; rw [hw] at this; omega
      have hle := hv.le
      have hsm := hN.small
      have hlt : w < s.1.length := by rw [hv.sl]; exact hwn
      left
      by_cases hs : s.1[w] = true
      · refine ⟨s, ?_, hv, hp, fun k hk hki => ?_⟩
        · simp only [graph_visit_l1, hi', decide_true, cond_true, Int.natCast_nonneg, Int.toNat_natCast, List.getElem?_eq_getElem hi, Option.bind_some, hw, blt_true hwn, List.getElem?_eq_getElem hlt, hs, Bool.not_true, cond_false, wrap_i64s (show i < 9223372036854775807 by omega)]
        · rcases Nat.lt_succ_iff_lt_or_eq.1 hki with h1 | h1
          · exact hall k hk h1
          · subst h1
            rw [hw]
            exact (hv.mem w hwn).1 (by rw [List.getElem?_eq_getElem hlt, hs])
      · have hs : s.1[w] = false := by simpa using hs
        refine ⟨(s.1.set w true, s.2 ++ [(w : Int)]), ?_, hv.add hwn (by rw [List.getElem?_eq_getElem hlt, hs]) (by rw [← hw]; exact hQ _ (List.getElem_mem hi)), hp.trans (List.prefix_append _ _), fun k hk hki => ?_⟩
        · simp only [graph_visit_l1, hi', decide_true, cond_true, Int.natCast_nonneg, Int.toNat_natCast, List.getElem?_eq_getElem hi, Option.bind_some, hw, blt_true hwn, List.getElem?_eq_getElem hlt, hs, Bool.not_false, ble_true (Nat.le_refl _), take_all, List.length_append, List.length_cons, List.length_nil, wrap_i64s (show i < 9223372036854775807 by omega)]
          rw [ble_true (show (s.2.length + 1) * 8 ≤ 140737488355328 by omega)]
          rfl
        · rcases Nat.lt_succ_iff_lt_or_eq.1 hki with h1 | h1
          · exact List.mem_append_left _ (hall k hk h1)
          · subst h1; rw [hw]; simp) (fun s hJ => by
      obtain ⟨hv, hp, hall⟩ := hJ
      refine ⟨((next, n, s.2.length, i0), s.1, s.2), ?_, s.1, s.2, rfl, hv, hp, fun w hw => ?_⟩
      · simp only [graph_visit_l1, Int.lt_irrefl, decide_false, cond_false]
      · obtain ⟨k, hk, rfl⟩ := List.getElem_of_mem hw
        exact hall k hk hk)
  obtain ⟨b, hb, seen', out', rfl, h1, h2, h3⟩ := this
  exact ⟨seen', out', hb, h1, h2, h3⟩
theorem visit_outer {n : Nat} {Q : Int → Prop} {next : List (List Int)} (hN : NB n next) (hQ : ∀ v : Nat, (hv : v < next.length) → Q v → ∀ w ∈ next[v], Q w) (seen : List Bool) (out : List Int) (h : VI n Q seen out) :
    ∃ out', loopI graph_visit_l0 ((next, n, out.length, 0), seen, out) = some (out'.length, out') ∧ (∃ s, VI n Q s out') ∧ out <+: out' ∧ ∀ v ∈ out', ∀ (hv : v.toNat < next.length), ∀ w ∈ next[v.toNat], w ∈ out' := by
  have hsm := hN.small
  have := loop_meas (f := graph_visit_l0) (fun a => ∃ (i : Nat) (seen' : List Bool) (out' : List Int), a = ((next, n, out'.length, (i : Int)), seen', out') ∧ VI n Q seen' out' ∧ out <+: out' ∧ i ≤ out'.length ∧ ∀ k (hk : k < out'.length), k < i → ∀ (hv : (out'[k]).toNat < next.length), ∀ w ∈ next[(out'[k]).toNat], w ∈ out')
    (fun b => ∃ out', b = (out'.length, out') ∧ (∃ s, VI n Q s out') ∧ out <+: out' ∧ ∀ v ∈ out', ∀ (hv : v.toNat < next.length), ∀ w ∈ next[v.toNat], w ∈ out')
    (fun a => n - a.1.2.2.2.toNat) (fun a ha => by
      obtain ⟨i, seen', out', rfl, hv, hp, hi, hall⟩ := ha
      have hle := hv.le
      by_cases hi2 : i < out'.length
      · left
        have hi' : (i : Int) < (out'.length : Int) := by omega
        obtain ⟨u, hu⟩ : ∃ u : Nat, out'[i] = (u : Int) := Int.eq_ofNat_of_zero_le (hv.rng _ (List.getElem_mem hi2)).1
        have hun : u < n := by have := (hv.rng _ (List.getElem_mem hi2)).2; rw [hu] at this; omega
        have hun' : u < next.length := by rw [hN.len]; exact hun
        obtain ⟨s2, o2, e1, v2, p2, a2⟩ := visit_inner hN (List.getElem_mem hun') (hQ u hun' (by rw [← hu]; exact hv.q _ (List.getElem_mem hi2))) (i : Int) seen' out' hv
        refine ⟨((next, n, o2.length, ((i + 1 : Nat) : Int)), s2, o2), ?_, ⟨i + 1, s2, o2, rfl, v2, hp.trans p2, Nat.le_trans hi2 p2.length_le, ?_⟩, ?_⟩
        · simp only [graph_visit_l0, hi', decide_true, cond_true, Int.natCast_nonneg, Int.toNat_natCast, blt_true hi2, List.getElem?_eq_getElem hi2, Option.bind_some, hu, List.getElem?_eq_getElem hun', e1, wrap_i64s (show i < 9223372036854775807 by omega)]
        · intro k hk hki hkv w hw
          have hk2 : k < out'.length := by omega
          have hg : o2[k] = out'[k] := (List.IsPrefix.getElem p2 hk2).symm
          rcases Nat.lt_succ_iff_lt_or_eq.1 hki with h1 | h1
          · simp only [hg] at hkv hw
            exact p2.subset (hall k hk2 h1 hkv w hw)
          · subst h1
            simp only [hg, hu, Int.toNat_natCast] at hw
            exact a2 w hw
        · show n - (((i + 1 : Nat) : Int)).toNat < n - ((i : Int)).toNat
          simp only [Int.toNat_natCast]
          omega
      · right
        have hie : i = out'.length := by omega
        refine ⟨(out'.length, out'), ?_, out', rfl, ⟨_, hv⟩, hp, fun v hvm hvn w hw => ?_⟩
        · have hlt : ¬ (i : Int) < (out'.length : Int) := by omega
          simp only [graph_visit_l0, hlt, decide_false, cond_false]
        · obtain ⟨k, hk, rfl⟩ := List.getElem_of_mem hvm
          exact hall k hk (by omega) hvn w hw)
    ((next, n, out.length, 0), seen, out) ⟨0, seen, out, rfl, h, List.prefix_refl _, Nat.zero_le _, fun k _ hk => by omega⟩
  obtain ⟨b, hb, out', rfl, h1, h2, h3⟩ := this
  exact ⟨out', hb, h1, h2, h3⟩
end Go.Mid
/- graph.neighbours: the plain form. -/
namespace Go.Mid
set_option linter.unusedSimpArgs false
set_option linter.unusedVariables false
theorem purE_ints (x : List Int) : purE (Ty.vec 1 (Ty.int IntKind.i64)) x = x := by
  show List.map (purE (Ty.int IntKind.i64)) x = x
  have : (purE (Ty.int IntKind.i64) : Int → Int) = id := by funext y; rfl
  exact (congrArg (fun f => List.map f x) this).trans (List.map_id x)
theorem map_purE_ints (l : List (List Int)) : List.map (purE (Ty.vec 1 (Ty.int IntKind.i64))) l = l := by
  have : (purE (Ty.vec 1 (Ty.int IntKind.i64)) : List Int → List Int) = id := by funext y; exact purE_ints y
  exact (congrArg (fun f => List.map f l) this).trans (List.map_id l)
abbrev EdgesV := List (Int × Int)
/-- where the edges out of a vertex lead -/
def tgt (E : EdgesV) (v : Nat) : List Int := (E.filter fun e => e.1 == (v : Int)).map (·.2)
def tgts (n : Nat) (E : EdgesV) : List (List Int) := (List.range n).map (tgt E)
theorem tgts_get {n v : Nat} {E : EdgesV} (h : v < n) : (tgts n E)[v]? = some (tgt E v) := by simp [tgts, h]
theorem tgts_len (n : Nat) (E : EdgesV) : (tgts n E).length = n := by simp [tgts]
theorem tgt_snoc (E : EdgesV) (e : Int × Int) (v : Nat) : tgt (E ++ [e]) v = if e.1 = (v : Int) then tgt E v ++ [e.2] else tgt E v := by
  unfold tgt
  rw [List.filter_append, List.map_append]
  by_cases h : e.1 = (v : Int) <;> simp [h]
theorem tgts_snoc {n : Nat} {E : EdgesV} {u : Nat} {w : Int} (hu : u < n) : tgts n (E ++ [((u : Int), w)]) = (tgts n E).set u (tgt E u ++ [w]) := by
  apply List.ext_getElem?
  intro v
  rw [List.getElem?_set, tgts_len]
  by_cases hv : v < n
  · rw [tgts_get hv, tgt_snoc]
    by_cases e : u = v
    · subst e; simp [hv]
    · have : ¬ ((u : Int) = (v : Int)) := by omega
      simp [e, this, tgts_get hv]
  · rw [List.getElem?_eq_none (by rw [tgts_len]; omega)]
    have : ¬ u = v := by omega
    rw [if_neg this, List.getElem?_eq_none (by rw [tgts_len]; omega)]
theorem tgt_len (E : EdgesV) (v : Nat) : (tgt E v).length ≤ E.length := by
  unfold tgt
  rw [List.length_map]
  exact List.length_filter_le ..
theorem tgt_mem {E : EdgesV} {v : Nat} {w : Int} : w ∈ tgt E v ↔ ((v : Int), w) ∈ E := by
  unfold tgt
  rw [List.mem_map]
  constructor
  · rintro ⟨⟨a, b⟩, h1, rfl⟩
    rw [List.mem_filter] at h1
    have := h1.2
    simp at this
    rw [← this]; exact h1.1
  · intro h
    exact ⟨((v : Int), w), List.mem_filter.2 ⟨h, by simp⟩, rfl⟩
def inR (n : Nat) (E : EdgesV) : Prop := ∀ e ∈ E, 0 ≤ e.1 ∧ e.1 < n ∧ 0 ≤ e.2 ∧ e.2 < n
theorem nb_loop0 {n : Nat} {E : EdgesV} (hr : inR n E) (hE : E.length ≤ 1000) : loopI graph_neighbours_l0 ((n, E, (E.length : Int), 0), List.replicate n []) = some (n, tgts n E) := by
  have h0 : List.replicate n [] = tgts n (E.take 0) := by
    apply List.ext_getElem?
    intro v
    by_cases hv : v < n
    · rw [tgts_get hv]; simp [hv, tgt]
    · rw [List.getElem?_eq_none (by simp; omega), List.getElem?_eq_none (by rw [tgts_len]; omega)]
  rw [h0]
  have := loop_steps (f := graph_neighbours_l0) E.length (fun i => ((n, E, (E.length : Int), (i : Int)), tgts n (E.take i))) (n, tgts n E) (fun i hi => by
    have hi' : (i : Int) < E.length := by omega
    have he := hr E[i] (List.getElem_mem hi)
    obtain ⟨u, hu⟩ : ∃ u : Nat, (E[i]).1 = (u : Int) := Int.eq_ofNat_of_zero_le he.1
    have hun : u < n := by have := he.2.1; rw [hu] at this; omega
    have hei : E[i] = ((u : Int), (E[i]).2) := Prod.ext hu rfl
    rw [take_succ hi, hei, tgts_snoc hun]
    have hl := tgt_len (E.take i) u
    rw [List.length_take] at hl
    have b0 : Nat.blt 0 2 = true := rfl
    have b1 : Nat.blt 1 2 = true := rfl
    simp only [graph_neighbours_l0, hi', decide_true, cond_true, Int.natCast_nonneg, Int.toNat_natCast, List.getElem?_eq_getElem hi, Option.bind_some, b0, b1, hu, blt_true hun, tgts_get hun, beq_self_eq_true, ble_true (Nat.le_refl _), tgts_len, take_all, List.length_append, List.length_cons, List.length_nil, wrap_i64s (show i < 9223372036854775807 by omega)]
    rw [ble_true (show ((tgt (E.take i) u).length + 1) * 8 ≤ 140737488355328 by omega)]
    rfl) (by
    simp only [graph_neighbours_l0, Int.lt_irrefl, decide_false, cond_false, take_all])
  simpa using this
/-- the lists of neighbours: ascending, each once -/
def nexts (n : Nat) (E : EdgesV) : List (List Int) := (List.range n).map fun v => dedupS (sorted (tgt E v))
def mid06 (n : Nat) (E : EdgesV) (i : Nat) : List (List Int) := (List.range n).map fun v => if v < i then dedupS (sorted (tgt E v)) else tgt E v
theorem mid_get {n v i : Nat} {E : EdgesV} (h : v < n) : (mid06 n E i)[v]? = some (if v < i then dedupS (sorted (tgt E v)) else tgt E v) := by simp [mid06, h]
theorem mid_len (n i : Nat) (E : EdgesV) : (mid06 n E i).length = n := by simp [mid06]
theorem mid_succ {n i : Nat} {E : EdgesV} (hi : i < n) : mid06 n E (i + 1) = (mid06 n E i).set i (dedupS (sorted (tgt E i))) := by
  apply List.ext_getElem?
  intro v
  rw [List.getElem?_set, mid_len]
  by_cases hv : v < n
  · rw [mid_get hv]
    by_cases e : i = v
    · subst e; simp [hv]
    · rw [if_neg e, mid_get hv]
      by_cases h1 : v < i
      · rw [if_pos h1, if_pos (by omega)]
      · rw [if_neg h1, if_neg (by omega)]
  · rw [List.getElem?_eq_none (by rw [mid_len]; omega)]
    have : ¬ i = v := by omega
    rw [if_neg this, List.getElem?_eq_none (by rw [mid_len]; omega)]
theorem sort_eq {LL : List (List Int)} {I : Nat} {l : List Int} (hL : LL[I]? = some l) (hl : l.length ≤ 1000) : slices_Sort_sint_int_S ((I, l.length), LL) = some (LL.set I (sorted l)) := by
  unfold slices_Sort_sint_int_S
  have h1 : overL l none (sorted l) = sorted l := by
    unfold overL
    simp only
    rw [sorted_len, List.drop_length, List.append_nil]
  simp only [hL, Option.bind_some, take_all, h1, sorted_len, ble_true (Nat.le_refl _), cond_true, beq_self_eq_true]
  rw [blt_true (by omega)]
  rfl
theorem nb_loop1 {n : Nat} {E : EdgesV} (hn : n ≤ 1000) (hE : E.length ≤ 1000) : loopI graph_neighbours_l1 ((n, (n : Int), 0), tgts n E) = some (n, nexts n E) := by
  have h0 : tgts n E = mid06 n E 0 := by simp [tgts, mid06]
  have h1 : nexts n E = mid06 n E n := by
    unfold nexts mid06
    apply List.map_congr_left
    intro v hv
    rw [if_pos (List.mem_range.1 hv)]
  rw [h0, h1]
  have := loop_steps (f := graph_neighbours_l1) n (fun i => ((n, (n : Int), (i : Int)), mid06 n E i)) (n, mid06 n E n) (fun i hi => by
    have hi' : (i : Int) < n := by omega
    have hl := tgt_len E i
    have g0 : (mid06 n E i)[i]? = some (tgt E i) := by rw [mid_get hi, if_neg (Nat.lt_irrefl i)]
    have hs := sort_eq g0 (by omega)
    have hsl : (sorted (tgt E i)).length = (tgt E i).length := sorted_len _
    have g1 : ((mid06 n E i).set i (sorted (tgt E i)))[i]? = some (sorted (tgt E i)) := by simp [mid_len, hi]
    obtain ⟨l', c1, c2, c3⟩ := compact_eq g1 (by omega)
    have g2 : ((mid06 n E i).set i l')[i]? = some l' := by simp [mid_len, hi]
    have g3 : (dedupS (sorted (tgt E i))).length = (List.take (dedupS (sorted (tgt E i))).length l').length := by rw [c2]
    have bq : Nat.beq i i = true := by simp
    simp only [graph_neighbours_l1, hi', decide_true, cond_true, Int.natCast_nonneg, Int.toNat_natCast, blt_true hi, g0, Option.bind_some, hs, g1, c1, g2, bq, ble_true c3, c2, beq_self_eq_true, List.set_set, mid_succ hi, wrap_i64s (show i < 9223372036854775807 by omega)]) (by
    simp only [graph_neighbours_l1, Int.lt_irrefl, decide_false, cond_false])
  simpa using this
theorem nexts_len (n : Nat) (E : EdgesV) : (nexts n E).length = n := by simp [nexts]
theorem neighbours_eq {n : Nat} {E : EdgesV} (hn : n ≤ 1000) (hr : inR n E) (hE : E.length ≤ 1000) : graph_neighbours ((n : Int), E) = some (nexts n E) := by
  unfold graph_neighbours
  simp only [Int.natCast_nonneg, decide_true, cond_true, Int.toNat_natCast, Int.le_refl]
  rw [ble_true (show n * 24 ≤ 140737488355328 by omega)]
  simp only [cond_true, nb_loop0 hr hE, Option.bind_some, nb_loop1 hn hE]
  rw [ble_true (show n ≤ (nexts n E).length by rw [nexts_len]; exact Nat.le_refl _)]
  have e : List.take n (nexts n E) = nexts n E := List.take_of_length_le (by rw [nexts_len]; exact Nat.le_refl _)
  refine congrArg some ?_
  refine Eq.trans ?_ (map_purE_ints (nexts n E))
  exact congrArg (fun l : List (List Int) => List.map (purE (Ty.vec 1 (Ty.int IntKind.i64))) l) e
theorem nexts_get {n v : Nat} {E : EdgesV} (h : v < (nexts n E).length) : (nexts n E)[v] = dedupS (sorted (tgt E v)) := by simp [nexts]
theorem nexts_mem {n v : Nat} {E : EdgesV} {w : Int} (h : v < (nexts n E).length) : w ∈ (nexts n E)[v] ↔ ((v : Int), w) ∈ E := by
  rw [nexts_get h, dedupS_mem, sorted_mem, tgt_mem]
theorem nexts_NB {n : Nat} {E : EdgesV} (hn : n ≤ 1000) (hr : inR n E) (hE : E.length ≤ 1000) : NB n (nexts n E) where
  len := nexts_len n E
  rng := by
    intro l hl w hw
    obtain ⟨v, hv, rfl⟩ := List.getElem_of_mem hl
    have := hr _ ((nexts_mem hv).1 hw)
    exact this.2.2
  few := by
    intro l hl
    obtain ⟨v, hv, rfl⟩ := List.getElem_of_mem hl
    rw [nexts_get hv]
    have h1 := dedupS_len (sorted (tgt E v))
    rw [sorted_len] at h1
    have h2 := tgt_len E v
    omega
  small := hn
end Go.Mid
/- graph.Reach: the plain form. -/
namespace Go.Mid
set_option linter.unusedSimpArgs false
set_option linter.unusedVariables false
/-- an edge leads out of the graph -/
def badE (n : Int) (e : Int × Int) : Bool := decide (e.1 < 0) || decide (e.1 ≥ n) || decide (e.2 < 0) || decide (e.2 ≥ n)
def validS (n : Int) (l : List (Int × Int)) : Int := if n > 1000 then 3 else if (l.length : Int) > 20000 then 3 else if n < 0 then 1 else if l.any (badE n) then 1 else 0
theorem blt02 : Nat.blt 0 2 = true := rfl
theorem blt12 : Nat.blt 1 2 = true := rfl
theorem bad_iff {n : Int} {e : Int × Int} : badE n e = true ↔ e.1 < 0 ∨ e.1 ≥ n ∨ e.2 < 0 ∨ e.2 ≥ n := by
  simp [badE, or_assoc]
theorem graph_Valid_eq (n : Int) (l : List (Int × Int)) : graph_Valid (n, l) = some (validS n l) := by
  unfold graph_Valid validS
  simp only [gt_iff_lt]
  by_cases h1 : 1000 < n
  · simp [h1]
  by_cases h2 : (20000 : Int) < l.length
  · simp [h1, h2]
  by_cases h3 : n < 0
  · simp [h1, h2, h3]
  simp only [h1, h2, h3, decide_false, cond_false, if_false]
  have := loop_anyP (f := graph_Valid_l0) l (fun i => (n, l, (l.length : Int), (i : Int))) (badE n) (.inl 1) (.inr ()) (fun i hi => by
    have hi' : (i : Int) < l.length := by omega
    simp only [graph_Valid_l0, hi', decide_true, cond_true, Int.natCast_nonneg, Int.toNat_natCast, List.getElem?_eq_getElem hi, Option.bind_some, blt02, blt12, wrap_i64s (show i < 9223372036854775807 by omega)]
    generalize l[i] = e
    by_cases hb : badE n e = true
    · rw [if_pos hb]
      rw [bad_iff] at hb
      by_cases c1 : (if e.2 < e.1 then e.2 else e.1) < 0
      · simp only [c1, decide_true, cond_true]
      · have c2 : (if e.2 > e.1 then e.2 else e.1) ≥ n := by
          split at c1 <;> split <;> omega
        simp only [c1, c2, decide_true, decide_false, cond_true, cond_false]
    · rw [if_neg hb]
      rw [bad_iff] at hb
      have c1 : ¬ (if e.2 < e.1 then e.2 else e.1) < 0 := by split <;> omega
      have c2 : ¬ (if e.2 > e.1 then e.2 else e.1) ≥ n := by split <;> omega
      simp only [c1, c2, decide_false, cond_false]) (by
    simp only [graph_Valid_l0, Int.lt_irrefl, decide_false, cond_false])
  simp only [Int.natCast_zero] at this
  rw [this]
  by_cases h4 : l.any (badE n) = true
  · simp [h4]
  · simp only [h4]; rfl
theorem drossref06_Valid_eq (n : Int) (l : List (Int × Int)) : drossref06_Valid (n, l) = some (validS n l) := by
  unfold drossref06_Valid validS
  simp only [gt_iff_lt]
  by_cases h1 : 1000 < n
  · simp [h1]
  by_cases h2 : (20000 : Int) < l.length
  · simp [h1, h2]
  by_cases h3 : n < 0
  · simp [h1, h2, h3]
  simp only [h1, h2, h3, decide_false, cond_false, if_false]
  have := loop_anyP (f := drossref06_Valid_l0) l (fun i => (n, l, (i : Int))) (badE n) (.inl 1) (.inr ()) (fun i hi => by
    have hi' : (i : Int) < l.length := by omega
    have in1 : ∀ (k : Nat), drossref06_Valid_l1 (n, l, (i : Int), (k : Int)) = (if k < 2 then (if (bif k == 0 then (l[i]).1 else (l[i]).2) < 0 ∨ (bif k == 0 then (l[i]).1 else (l[i]).2) ≥ n then some (.inr (.inl 1)) else some (.inl (n, l, (i : Int), ((k + 1 : Nat) : Int)))) else some (.inr (.inr (n, l, (i : Int))))) := by
      intro k
      by_cases hk : k < 2
      · have hk' : (k : Int) < 2 := by omega
        have hb : Nat.blt k 2 = true := by rw [Nat.blt_eq]; exact hk
        simp only [drossref06_Valid_l1, hk, hk', decide_true, cond_true, Int.natCast_nonneg, Int.toNat_natCast, List.getElem?_eq_getElem hi, Option.bind_some, hb, wrap_i64s (show k < 9223372036854775807 by omega), if_true]
        by_cases c1 : (bif k == 0 then (l[i]).1 else (l[i]).2) < 0
        · simp only [c1, decide_true, cond_true, true_or, if_true]
        · by_cases c2 : (bif k == 0 then (l[i]).1 else (l[i]).2) ≥ n
          · simp only [c1, c2, decide_true, decide_false, cond_true, cond_false, or_true, if_true]
          · simp only [c1, c2, decide_false, cond_false, or_self, if_false]
      · have hk' : ¬ (k : Int) < 2 := by omega
        simp only [drossref06_Valid_l1, hk, hk', decide_false, cond_false, if_false]
    simp only [drossref06_Valid_l0, hi', decide_true, cond_true]
    have e0 : drossref06_Valid_l1 (n, l, (i : Int), 0) = (if (l[i]).1 < 0 ∨ (l[i]).1 ≥ n then some (.inr (.inl 1)) else some (.inl (n, l, (i : Int), ((1 : Nat) : Int)))) := (in1 0).trans (if_pos (by decide))
    have e1 : drossref06_Valid_l1 (n, l, (i : Int), ((1 : Nat) : Int)) = (if (l[i]).2 < 0 ∨ (l[i]).2 ≥ n then some (.inr (.inl 1)) else some (.inl (n, l, (i : Int), ((2 : Nat) : Int)))) := (in1 1).trans (if_pos (by decide))
    have e2 : drossref06_Valid_l1 (n, l, (i : Int), ((2 : Nat) : Int)) = some (.inr (.inr (n, l, (i : Int)))) := (in1 2).trans (if_neg (by decide))
    by_cases hb : badE n l[i] = true
    · rw [if_pos hb]
      rw [bad_iff] at hb
      by_cases c1 : (l[i]).1 < 0 ∨ (l[i]).1 ≥ n
      · rw [if_pos c1] at e0
        rw [loopI_r e0]
        rfl
      · rw [if_neg c1] at e0
        rw [loopI_l e0]
        rw [if_pos (by omega)] at e1
        rw [loopI_r e1]
        rfl
    · rw [if_neg hb]
      rw [bad_iff] at hb
      rw [if_neg (by omega)] at e0
      rw [if_neg (by omega)] at e1
      rw [loopI_l e0, loopI_l e1, loopI_r e2]
      simp only [Option.bind_some, Sum.elim_inr, wrap_i64s (show i < 9223372036854775807 by omega)]) (by
    simp only [drossref06_Valid_l0, Int.lt_irrefl, decide_false, cond_false])
  simp only [Int.natCast_zero] at this
  rw [this]
  by_cases h4 : l.any (badE n) = true
  · simp [h4]
  · simp only [h4]; rfl
theorem valid_some {n : Int} {l : List (Int × Int)} (h : validS n l = 0) : ∃ m : Nat, n = (m : Int) ∧ m ≤ 1000 ∧ l.length ≤ 20000 ∧ inR m l := by
  unfold validS at h
  split at h
  · cases h
  split at h
  · cases h
  split at h
  · cases h
  split at h
  · cases h
  rename_i h1 h2 h3 h4
  obtain ⟨m, rfl⟩ := Int.eq_ofNat_of_zero_le (show 0 ≤ n by omega)
  refine ⟨m, rfl, by omega, by omega, fun e he => ?_⟩
  have : ¬ badE m e = true := fun hb => h4 (List.any_eq_true.2 ⟨e, he, hb⟩)
  rw [bad_iff] at this
  omega
theorem visit_eq {n : Nat} {Q : Int → Prop} {next : List (List Int)} (hN : NB n next) (hQ : ∀ v : Nat, (hv : v < next.length) → Q v → ∀ w ∈ next[v], Q w) {s : Nat} (hs : s < n) (hq : Q s) :
    ∃ out : List Int, graph_visit (next, (s : Int)) = some (sorted out) ∧ out.length ≤ n ∧ out.Nodup ∧ (∀ v ∈ out, 0 ≤ v ∧ v < n) ∧ (∀ v ∈ out, Q v) ∧ (s : Int) ∈ out ∧ ∀ v ∈ out, ∀ (hv : v.toNat < next.length), ∀ w ∈ next[v.toNat], w ∈ out := by
  have hsm := hN.small
  have h0 : VI n Q ((List.replicate n false).set s true) [(s : Int)] := by
    have : VI n Q (List.replicate n false) [] := {
      sl := by simp
      nd := by simp
      mem := by
        intro v hv
        simp [hv]
      rng := by simp
      q := by simp
      cnt := by simp [List.count_replicate] }
    exact this.add hs (by simp [hs]) hq
  obtain ⟨out, e, ⟨sn, hv⟩, hp, hc⟩ := visit_outer hN hQ _ _ h0
  have hle := hv.le
  refine ⟨out, ?_, hle, hv.nd, hv.rng, hv.q, hp.subset (by simp), hc⟩
  have hg : (List.replicate n false)[s]? = some false := by simp [hs]
  have e' : loopI graph_visit_l0 ((next, n, 1, 0), (List.replicate n false).set s true, [] ++ [(s : Int)]) = some (out.length, out) := e
  have ho : overL out none (sorted out) = sorted out := by
    unfold overL
    simp only
    rw [sorted_len, List.drop_length, List.append_nil]
  unfold graph_visit
  simp only [hN.len, Int.natCast_nonneg, Int.le_refl, decide_true, cond_true, Int.toNat_natCast, ble_true (show n * 1 ≤ 140737488355328 by omega), blt_true hs, hg, Option.bind_some, e']
  unfold slices_Sort_sint_int_S_2
  simp only [ble_true (Nat.le_refl out.length), take_all, cond_true, blt_true (show out.length < 4611686018427387904 by omega), ho, Option.bind_some]
  rw [ble_true (by rw [sorted_len]; exact Nat.le_refl _), cond_true]
  refine congrArg some ?_
  exact List.take_of_length_le (by rw [sorted_len]; exact Nat.le_refl _)
/-- what both sides answer -/
structure ReachA (n : Nat) (E : EdgesV) (s : Nat) (out : List Int) : Prop where
  asc : out.Pairwise (· < ·)
  len : out.length ≤ n
  rng : ∀ v ∈ out, 0 ≤ v ∧ v < n
  st : (s : Int) ∈ out
  cl : ∀ u ∈ out, ∀ w, (u, w) ∈ E → w ∈ out
  min : ∀ Q : Int → Prop, Q s → (∀ u w, Q u → (u, w) ∈ E → Q w) → ∀ v ∈ out, Q v
theorem ReachA.uniq {n : Nat} {E : EdgesV} {s : Nat} {o p : List Int} (ho : ReachA n E s o) (hp : ReachA n E s p) : o = p :=
  asc_eq ho.asc hp.asc fun x => ⟨ho.min (· ∈ p) hp.st (fun u w hu hw => hp.cl u hu w hw) x, hp.min (· ∈ o) ho.st (fun u w hu hw => ho.cl u hu w hw) x⟩
theorem graph_visit_nexts {n : Nat} {E : EdgesV} (hn : n ≤ 1000) (hr : inR n E) (hE : E.length ≤ 1000) {s : Nat} (hs : s < n) : ∃ out, graph_visit (nexts n E, (s : Int)) = some out ∧ ReachA n E s out := by
  have hN := nexts_NB hn hr hE
  obtain ⟨out, e, h0, h1, h2, h3, h4, h5⟩ := visit_eq (Q := fun v => ∀ Q : Int → Prop, Q s → (∀ u w, Q u → (u, w) ∈ E → Q w) → Q v) hN (fun v hv hq w hw Q q1 q2 => q2 v w (hq Q q1 q2) ((nexts_mem hv).1 hw)) hs (fun Q q1 _ => q1)
  refine ⟨sorted out, e, sorted_lt h1, by rw [sorted_len]; exact h0, fun v hv => h2 v (sorted_mem.1 hv), sorted_mem.2 h4, fun u hu w hw => ?_, fun Q q1 q2 v hv => h3 v (sorted_mem.1 hv) Q q1 q2⟩
  have hu := sorted_mem.1 hu
  have hur := h2 u hu
  obtain ⟨k, rfl⟩ := Int.eq_ofNat_of_zero_le hur.1
  have hk : ((k : Int)).toNat < (nexts n E).length := by rw [nexts_len, Int.toNat_natCast]; omega
  refine sorted_mem.2 (h5 _ hu hk w ?_)
  simp only [Int.toNat_natCast]
  exact (nexts_mem (by simpa using hk)).2 hw
theorem graph_inside_eq (n v : Int) : graph_inside (n, v) = some (decide (0 ≤ v) && decide (v < n)) := by
  unfold graph_inside
  by_cases h : (0 : Int) ≤ v <;> simp [h]
theorem ble00 : Nat.ble 0 0 = true := rfl
theorem graph_Reach_bad {n : Int} {E : EdgesV} {s : Int} (h : validS n E ≠ 0) : graph_Reach (n, E, s) = some ([], validS n E) := by
  unfold graph_Reach
  have : (validS n E != 0) = true := by simpa using h
  simp only [graph_Valid_eq, Option.bind_some, this, cond_true, ble00, List.take_nil]
theorem graph_Reach_out {n : Int} {E : EdgesV} {s : Int} (h : validS n E = 0) (hs : ¬ (0 ≤ s ∧ s < n)) : graph_Reach (n, E, s) = some ([], 7) := by
  unfold graph_Reach
  have : (decide (0 ≤ s) && decide (s < n)) = false := by
    rw [Bool.and_eq_false_iff]
    simp only [decide_eq_false_iff_not]
    omega
  simp only [graph_Valid_eq, Option.bind_some, h, graph_inside_eq, this, bne_self_eq_false, cond_false, Bool.not_false, cond_true, ble00, List.take_nil]
theorem graph_Reach_in {n : Nat} {E : EdgesV} {s : Nat} (h : validS n E = 0) (hs : s < n) (hE : E.length ≤ 1000) : ∃ out, graph_Reach ((n : Int), E, (s : Int)) = some (out, 0) ∧ ReachA n E s out := by
  obtain ⟨m, e, hm, _, hr⟩ := valid_some h
  have : n = m := by omega
  subst this
  obtain ⟨out, e1, h1⟩ := graph_visit_nexts hm hr hE hs
  refine ⟨out, ?_, h1⟩
  unfold graph_Reach
  have h2 : (s : Int) < n := by omega
  simp only [graph_Valid_eq, Option.bind_some, h, graph_inside_eq, Int.natCast_nonneg, h2, decide_true, Bool.and_self, bne_self_eq_false, cond_false, Bool.not_true, neighbours_eq hm hr hE, e1]
end Go.Mid
/- drossref06.Closure: the plain form. -/
namespace Go.Mid
set_option linter.unusedSimpArgs false
set_option linter.unusedVariables false
def rowN (n : Nat) (g : Nat → Bool) : List Bool := (List.range n).map g
def mat (n : Nat) (f : Nat → Nat → Bool) : List (List Bool) := (List.range n).map fun i => rowN n (f i)
theorem rowN_len (n : Nat) (g : Nat → Bool) : (rowN n g).length = n := by simp [rowN]
theorem rowN_get {n j : Nat} {g : Nat → Bool} (h : j < n) : (rowN n g)[j]? = some (g j) := by simp [rowN, h]
theorem mat_len (n : Nat) (f : Nat → Nat → Bool) : (mat n f).length = n := by simp [mat]
theorem mat_get {n i : Nat} {f : Nat → Nat → Bool} (h : i < n) : (mat n f)[i]? = some (rowN n (f i)) := by simp [mat, h]
theorem rowN_ext {n : Nat} {g h : Nat → Bool} (e : ∀ j, j < n → g j = h j) : rowN n g = rowN n h :=
  List.map_congr_left fun j hj => e j (List.mem_range.1 hj)
theorem mat_ext {n : Nat} {f g : Nat → Nat → Bool} (e : ∀ i j, i < n → j < n → f i j = g i j) : mat n f = mat n g :=
  List.map_congr_left fun i hi => rowN_ext fun j hj => e i j (List.mem_range.1 hi) hj
theorem rowN_set {n j : Nat} {g : Nat → Bool} (h : j < n) (x : Bool) : (rowN n g).set j x = rowN n (fun b => if b = j then x else g b) := by
  apply List.ext_getElem?
  intro v
  rw [List.getElem?_set, rowN_len]
  by_cases hv : v < n
  · rw [rowN_get hv]
    by_cases e : j = v
    · subst e; rw [rowN_get hv]; simp [h]
    · have : ¬ v = j := fun h => e h.symm
      simp [e, this, rowN_get hv]
  · rw [List.getElem?_eq_none (by rw [rowN_len]; omega), List.getElem?_eq_none (by rw [rowN_len]; omega)]
    have : ¬ j = v := by omega
    rw [if_neg this]
theorem mat_set {n i j : Nat} {f : Nat → Nat → Bool} (hi : i < n) (hj : j < n) (x : Bool) : (mat n f).set i ((rowN n (f i)).set j x) = mat n (fun a b => if a = i ∧ b = j then x else f a b) := by
  rw [rowN_set hj]
  apply List.ext_getElem?
  intro v
  rw [List.getElem?_set, mat_len]
  by_cases hv : v < n
  · rw [mat_get hv]
    by_cases e : i = v
    · subst e; rw [mat_get hv]; simp [hi]
    · have : ¬ v = i := fun h => e h.symm
      simp [e, this, mat_get hv]
  · rw [List.getElem?_eq_none (by rw [mat_len]; omega), List.getElem?_eq_none (by rw [mat_len]; omega)]
    have : ¬ i = v := by omega
    rw [if_neg this]
/-! ### the loops of the closure -/
def partW (F : Nat → Nat → Bool) (k i j : Nat) : Nat → Nat → Bool := fun a b => if a < i ∨ (a = i ∧ b < j) then wstep F k a b else F a b
theorem beq_len_set {A : Type} (l : List A) (i : Nat) (x : A) : (l.length == (l.set i x).length) = true := by simp
theorem closure_l4 {n k i : Nat} {F : Nat → Nat → Bool} (hn : n ≤ 1000) (hk : k < n) (hi : i < n) (hF : F k k = true) :
    loopI drossref06_Closure_l4 (((n : Int), n, (k : Int), (i : Int), 0), mat n (partW F k i 0)) = some (((n : Int), n, (k : Int), (i : Int)), mat n (partW F k i n)) := by
  have := loop_steps (f := drossref06_Closure_l4) n (fun j => (((n : Int), n, (k : Int), (i : Int), (j : Int)), mat n (partW F k i j))) (((n : Int), n, (k : Int), (i : Int)), mat n (partW F k i n)) (fun j hj => by
    have hj' : (j : Int) < n := by omega
    have w1 : partW F k i j i j = F i j := if_neg (by omega)
    have w2 : partW F k i j i k = F i k := by
      unfold partW
      split
      · exact wstep_col hF i
      · rfl
    have w3 : partW F k i j k j = F k j := by
      unfold partW
      split
      · exact wstep_row hF j
      · rfl
    have key : ∀ x, x = wstep F k i j → mat n (fun a b => if a = i ∧ b = j then x else partW F k i j a b) = mat n (partW F k i (j + 1)) := by
      rintro _ rfl
      refine mat_ext fun a b _ _ => ?_
      unfold partW
      by_cases e : a = i ∧ b = j
      · obtain ⟨rfl, rfl⟩ := e
        rw [if_pos ⟨rfl, rfl⟩, if_pos (by omega)]
      · rw [if_neg e]
        by_cases e2 : a < i ∨ (a = i ∧ b < j)
        · rw [if_pos e2, if_pos (by omega)]
        · rw [if_neg e2, if_neg (by omega)]
    simp only [drossref06_Closure_l4, hj', decide_true, cond_true, Int.natCast_nonneg, Int.toNat_natCast, blt_true hi, blt_true hj, blt_true hk, mat_get hi, mat_get hk, Option.bind_some, rowN_len, rowN_get hj, rowN_get hk, w1, w2, w3, beq_len_set, mat_set hi hj, wrap_i64s (show j < 9223372036854775807 by omega), List.length_set, beq_self_eq_true]
    cases e1 : F i j
    · cases e2 : F i k
      · simp only [cond_false]
        rw [key false (by unfold wstep; rw [e1, e2]; rfl)]
      · simp only [cond_true, cond_false]
        rw [key (F k j) (by unfold wstep; rw [e1, e2]; rfl)]
    · simp only [cond_true]
      rw [key true (by unfold wstep; rw [e1]; rfl)]) (by
    simp only [drossref06_Closure_l4, Int.lt_irrefl, decide_false, cond_false])
  simpa using this
theorem closure_l3 {n k : Nat} {F : Nat → Nat → Bool} (hn : n ≤ 1000) (hk : k < n) (hF : F k k = true) :
    loopI drossref06_Closure_l3 (((n : Int), n, (k : Int), 0), mat n F) = some (((n : Int), n, (k : Int)), mat n (wstep F k)) := by
  have e0 : mat n F = mat n (partW F k 0 0) := mat_ext fun a b _ _ => (if_neg (by omega)).symm
  have e1 : mat n (wstep F k) = mat n (partW F k n 0) := mat_ext fun a b ha _ => (if_pos (.inl ha)).symm
  rw [e0, e1]
  have := loop_steps (f := drossref06_Closure_l3) n (fun i => (((n : Int), n, (k : Int), (i : Int)), mat n (partW F k i 0))) (((n : Int), n, (k : Int)), mat n (partW F k n 0)) (fun i hi => by
    have hi' : (i : Int) < n := by omega
    have e2 : mat n (partW F k i n) = mat n (partW F k (i + 1) 0) := mat_ext fun a b _ hb => by
      unfold partW
      by_cases h : a < i + 1
      · rw [if_pos (by omega), if_pos (.inl h)]
      · rw [if_neg (by omega), if_neg (by omega)]
    simp only [drossref06_Closure_l3, hi', decide_true, cond_true, closure_l4 hn hk hi hF, Option.bind_some, e2, wrap_i64s (show i < 9223372036854775807 by omega)]) (by
    simp only [drossref06_Closure_l3, Int.lt_irrefl, decide_false, cond_false])
  simpa using this
theorem closure_l2 {n : Nat} {F : Nat → Nat → Bool} (hn : n ≤ 1000) (hF : ∀ k, k < n → F k k = true) :
    loopI drossref06_Closure_l2 (((n : Int), n, 0), mat n F) = some (n, mat n (wars F n)) := by
  have := loop_steps (f := drossref06_Closure_l2) n (fun k => (((n : Int), n, (k : Int)), mat n (wars F k))) (n, mat n (wars F n)) (fun k hk => by
    have hk' : (k : Int) < n := by omega
    simp only [drossref06_Closure_l2, hk', decide_true, cond_true, closure_l3 hn hk (wars_refl (hF k hk) k), Option.bind_some, wrap_i64s (show k < 9223372036854775807 by omega)]
    rfl) (by
    simp only [drossref06_Closure_l2, Int.lt_irrefl, decide_false, cond_false])
  exact this
def l0R (n i : Nat) : List (List Bool) := (List.range n).map fun v => if v < i then rowN n (fun b => v == b) else []
theorem l0R_get {n i v : Nat} (h : v < n) : (l0R n i)[v]? = some (if v < i then rowN n (fun b => v == b) else []) := by simp [l0R, h]
theorem l0R_len (n i : Nat) : (l0R n i).length = n := by simp [l0R]
theorem l0R_succ {n i : Nat} (hi : i < n) : (l0R n i).set i (rowN n (fun b => i == b)) = l0R n (i + 1) := by
  apply List.ext_getElem?
  intro v
  rw [List.getElem?_set, l0R_len]
  by_cases hv : v < n
  · rw [l0R_get hv]
    by_cases e : i = v
    · subst e; rw [l0R_get hv]; simp [hi]
    · rw [if_neg e, l0R_get hv]
      by_cases h1 : v < i
      · rw [if_pos h1, if_pos (by omega)]
      · rw [if_neg h1, if_neg (by omega)]
  · rw [List.getElem?_eq_none (by rw [l0R_len]; omega), List.getElem?_eq_none (by rw [l0R_len]; omega)]
    have : ¬ i = v := by omega
    rw [if_neg this]
theorem repl_row (n : Nat) : List.replicate n false = rowN n (fun _ => false) := by
  simp [rowN, List.map_const']
theorem closure_l0 {n : Nat} {E : EdgesV} {both : Bool} (hn : n ≤ 1000) : loopI drossref06_Closure_l0 (((n : Int), E, both, n, 0), List.replicate n []) = some (((n : Int), E, both, n), mat n (fun i j => i == j)) := by
  have h0 : List.replicate n [] = l0R n 0 := by simp [l0R, List.map_const']
  have h1 : mat n (fun i j => i == j) = l0R n n := by
    unfold mat l0R
    apply List.map_congr_left
    intro v hv
    rw [if_pos (List.mem_range.1 hv)]
  rw [h0, h1]
  have := loop_steps (f := drossref06_Closure_l0) n (fun i => (((n : Int), E, both, n, (i : Int)), l0R n i)) (((n : Int), E, both, n), l0R n n) (fun i hi => by
    have hi' : (i : Int) < n := by omega
    have e1 : (rowN n (fun b => if b = i then true else (fun _ => false) b)) = rowN n (fun b => i == b) := rowN_ext fun b _ => by
      by_cases h : b = i
      · subst h; simp
      · have : ¬ i = b := fun e => h e.symm
        simp [h, this]
    simp only [drossref06_Closure_l0, hi', decide_true, cond_true, Int.natCast_nonneg, Int.toNat_natCast, Int.le_refl, ble_true (show n * 1 ≤ 140737488355328 by omega), blt_true hi, l0R_get hi, Option.bind_some, repl_row, rowN_len, ble_true (Nat.le_refl n), l0R_len, beq_self_eq_true, rowN_get hi, rowN_set hi, e1, l0R_succ hi, wrap_i64s (show i < 9223372036854775807 by omega)]) (by
    simp only [drossref06_Closure_l0, Int.lt_irrefl, decide_false, cond_false])
  simpa using this
end Go.Mid
/- drossref06.Closure and drossref06.Reach: the plain form. -/
namespace Go.Mid
set_option linter.unusedSimpArgs false
set_option linter.unusedVariables false
theorem closure_l1_false (n : Int) (E : EdgesV) (N : Nat) (i : Int) (M : List (List Bool)) : drossref06_Closure_l1 ((n, E, false, N, i), M) =
  bif decide (i < (E.length : Int)) then
    bif decide ((0 : Int) ≤ i) then
      E[i.toNat]?.bind fun s1 =>
        bif decide ((0 : Int) ≤ s1.1) then
          bif s1.1.toNat.blt N then
            M[s1.1.toNat]?.bind fun t1 =>
              bif decide ((0 : Int) ≤ i) then
                E[i.toNat]?.bind fun y2 =>
                  M[s1.1.toNat]?.bind fun _ =>
                    bif decide ((0 : Int) ≤ y2.2) then
                      bif y2.2.toNat.blt t1.length then
                        M[s1.1.toNat]?.bind fun u2 =>
                          u2[y2.2.toNat]?.bind fun _ =>
                            M[s1.1.toNat]?.bind fun w2 =>
                              w2[y2.2.toNat]?.bind fun _ =>
                                bif w2.length == (w2.set y2.2.toNat true).length then
                                  some (Sum.inl ((n, E, false, N, IntKind.i64.wrap (i + (1 : Int))), M.set s1.1.toNat (w2.set y2.2.toNat true)))
                                else none
                      else none
                    else none
              else none
          else none
        else none
    else none
  else some (Sum.inr ((n, N), M)) := rfl
def relE (E : EdgesV) (i j : Nat) : Bool := i == j || E.any fun e => e.1 == (i : Int) && e.2 == (j : Int)
theorem relE_snoc (E : EdgesV) (u w i j : Nat) : relE (E ++ [((u : Int), (w : Int))]) i j = if i = u ∧ j = w then true else relE E i j := by
  unfold relE
  rw [List.any_append]
  by_cases h : i = u ∧ j = w
  · obtain ⟨rfl, rfl⟩ := h
    simp
  · rw [if_neg h]
    have : ((u : Int) == (i : Int) && (w : Int) == (j : Int)) = false := by
      rw [Bool.and_eq_false_iff]
      simp only [beq_eq_false_iff_ne]
      omega
    simp [this]
theorem relE_iff {E : EdgesV} {i j : Nat} : relE E i j = true ↔ i = j ∨ ((i : Int), (j : Int)) ∈ E := by
  unfold relE
  rw [Bool.or_eq_true, beq_iff_eq, List.any_eq_true]
  constructor
  · rintro (h | ⟨⟨a, b⟩, h1, h2⟩)
    · exact .inl h
    · rw [Bool.and_eq_true, beq_iff_eq, beq_iff_eq] at h2
      obtain ⟨rfl, rfl⟩ := h2
      exact .inr h1
  · rintro (h | h)
    · exact .inl h
    · exact .inr ⟨_, h, by simp⟩
theorem closure_l1 {n : Nat} {E : EdgesV} (hr : inR n E) (hE : E.length ≤ 1000) : loopI drossref06_Closure_l1 (((n : Int), E, false, n, 0), mat n (fun i j => i == j)) = some (((n : Int), n), mat n (relE E)) := by
  have h0 : mat n (fun i j => i == j) = mat n (relE (E.take 0)) := mat_ext fun i j _ _ => by simp [relE]
  rw [h0]
  have := loop_steps (f := drossref06_Closure_l1) E.length (fun i => (((n : Int), E, false, n, (i : Int)), mat n (relE (E.take i)))) (((n : Int), n), mat n (relE E)) (fun i hi => by
    have hi' : (i : Int) < E.length := by omega
    have he := hr E[i] (List.getElem_mem hi)
    obtain ⟨u, hu⟩ : ∃ u : Nat, (E[i]).1 = (u : Int) := Int.eq_ofNat_of_zero_le he.1
    obtain ⟨w, hw⟩ : ∃ w : Nat, (E[i]).2 = (w : Int) := Int.eq_ofNat_of_zero_le he.2.2.1
    have hun : u < n := by have := he.2.1; rw [hu] at this; omega
    have hwn : w < n := by have := he.2.2.2; rw [hw] at this; omega
    have hei : E[i] = ((u : Int), (w : Int)) := Prod.ext hu hw
    have e1 : mat n (fun a b => if a = u ∧ b = w then true else relE (E.take i) a b) = mat n (relE (E.take (i + 1))) := mat_ext fun a b _ _ => by
      rw [take_succ hi, hei, relE_snoc]
    rw [closure_l1_false]
    simp only [hi', decide_true, cond_true, Int.natCast_nonneg, Int.toNat_natCast, List.getElem?_eq_getElem hi, Option.bind_some, hu, hw, blt_true hun, mat_get hun, rowN_len, blt_true hwn, rowN_get hwn, beq_len_set, mat_set hun hwn, e1, wrap_i64s (show i < 9223372036854775807 by omega)]) (by
    rw [closure_l1_false]
    simp only [Int.lt_irrefl, decide_false, cond_false, take_all])
  simpa using this
theorem purE_bools (x : List Bool) : purE (Ty.vec 1 Ty.bool) x = x := by
  show List.map (purE Ty.bool) x = x
  have : (purE Ty.bool : Bool → Bool) = id := by funext y; rfl
  exact (congrArg (fun f => List.map f x) this).trans (List.map_id x)
theorem map_purE_bools (l : List (List Bool)) : List.map (purE (Ty.vec 1 Ty.bool)) l = l := by
  have : (purE (Ty.vec 1 Ty.bool) : List Bool → List Bool) = id := by funext y; exact purE_bools y
  exact (congrArg (fun f => List.map f l) this).trans (List.map_id l)
theorem closure_eq {n : Nat} {E : EdgesV} (hn : n ≤ 1000) (hr : inR n E) (hE : E.length ≤ 1000) : drossref06_Closure ((n : Int), E, false) = some (mat n (wars (relE E) n)) := by
  unfold drossref06_Closure
  simp only [Int.natCast_nonneg, decide_true, cond_true, Int.toNat_natCast, Int.le_refl]
  rw [ble_true (show n * 24 ≤ 140737488355328 by omega)]
  simp only [cond_true, closure_l0 hn, Option.bind_some, closure_l1 hr hE, closure_l2 hn (fun k _ => relE_iff.2 (.inl rfl))]
  rw [ble_true (show n ≤ (mat n (wars (relE E) n)).length by rw [mat_len]; exact Nat.le_refl _)]
  have e : List.take n (mat n (wars (relE E) n)) = mat n (wars (relE E) n) := List.take_of_length_le (by rw [mat_len]; exact Nat.le_refl _)
  refine congrArg some ?_
  refine Eq.trans ?_ (map_purE_bools _)
  exact congrArg (fun l : List (List Bool) => List.map (purE (Ty.vec 1 Ty.bool)) l) e
def reachL (n : Nat) (g : Nat → Bool) (i : Nat) : List Int := ((List.range i).filter g).map fun k : Nat => (k : Int)
theorem reachL_len (n : Nat) (g : Nat → Bool) (i : Nat) : (reachL n g i).length ≤ i := by
  unfold reachL
  rw [List.length_map]
  exact Nat.le_trans (List.length_filter_le ..) (by simp)
theorem reachL_succ (n : Nat) (g : Nat → Bool) (i : Nat) : reachL n g (i + 1) = if g i then reachL n g i ++ [(i : Int)] else reachL n g i := by
  unfold reachL
  rw [List.range_succ, List.filter_append, List.map_append]
  by_cases h : g i <;> simp [h]
theorem reach_l0 {n s : Nat} {f : Nat → Nat → Bool} (hn : n ≤ 1000) (hs : s < n) : loopI drossref06_Reach_l0 (((n : Int), (s : Int), mat n f, 0, 0), []) = some ((reachL n (f s) n).length, reachL n (f s) n) := by
  have := loop_steps (f := drossref06_Reach_l0) n (fun i => (((n : Int), (s : Int), mat n f, (reachL n (f s) i).length, (i : Int)), reachL n (f s) i)) ((reachL n (f s) n).length, reachL n (f s) n) (fun i hi => by
    have hi' : (i : Int) < n := by omega
    have hl := reachL_len n (f s) i
    rw [reachL_succ]
    cases e : f s i
    · simp only [drossref06_Reach_l0, hi', decide_true, cond_true, cond_false, Int.natCast_nonneg, Int.toNat_natCast, mat_get hs, Option.bind_some, rowN_get hi, e, wrap_i64s (show i < 9223372036854775807 by omega)]
      rfl
    · simp only [drossref06_Reach_l0, hi', decide_true, cond_true, Int.natCast_nonneg, Int.toNat_natCast, mat_get hs, Option.bind_some, rowN_get hi, e, ble_true (Nat.le_refl _), take_all, wrap_i64s (show i < 9223372036854775807 by omega), ble_true (show ((reachL n (f s) i).length + 1) * 8 ≤ 140737488355328 by omega), if_true, List.length_append, List.length_cons, List.length_nil]) (by
    simp only [drossref06_Reach_l0, Int.lt_irrefl, decide_false, cond_false])
  simpa [reachL] using this
theorem ref_Reach_bad {n : Int} {E : EdgesV} {s : Int} (h : validS n E ≠ 0) : drossref06_Reach (n, E, s) = some ([], validS n E) := by
  unfold drossref06_Reach
  have : (validS n E != 0) = true := by simpa using h
  simp only [drossref06_Valid_eq, Option.bind_some, this, cond_true, ble00, List.take_nil]
theorem ref_Reach_out {n : Int} {E : EdgesV} {s : Int} (h : validS n E = 0) (hs : ¬ (0 ≤ s ∧ s < n)) : drossref06_Reach (n, E, s) = some ([], 7) := by
  unfold drossref06_Reach
  simp only [drossref06_Valid_eq, Option.bind_some, h, bne_self_eq_false, cond_false]
  by_cases h1 : s < 0
  · simp only [h1, decide_true, cond_true, ble00, List.take_nil]
  · have h2 : s ≥ n := by omega
    simp only [h1, h2, decide_true, decide_false, cond_false, cond_true, ble00, List.take_nil]
theorem ref_Reach_in {n : Nat} {E : EdgesV} {s : Nat} (h : validS n E = 0) (hs : s < n) (hE : E.length ≤ 1000) : ∃ out, drossref06_Reach ((n : Int), E, (s : Int)) = some (out, 0) ∧ ReachA n E s out := by
  obtain ⟨m, e, hm, _, hr⟩ := valid_some h
  have : n = m := by omega
  subst this
  refine ⟨reachL n (wars (relE E) n s) n, ?_, ?_⟩
  · unfold drossref06_Reach
    have h1 : ¬ (s : Int) < 0 := by omega
    have h2 : ¬ (s : Int) ≥ n := by omega
    simp only [drossref06_Valid_eq, Option.bind_some, h, h1, h2, decide_false, bne_self_eq_false, cond_false, closure_eq hm hr hE, reach_l0 hm hs, ble_true (Nat.le_refl _), cond_true, take_all]
  · have hmem : ∀ v : Nat, (v : Int) ∈ reachL n (wars (relE E) n s) n ↔ v < n ∧ wars (relE E) n s v = true := by
      intro v
      unfold reachL
      rw [List.mem_map]
      constructor
      · rintro ⟨k, hk, e⟩
        have : k = v := by omega
        subst this
        rw [List.mem_filter, List.mem_range] at hk
        exact hk
      · intro hv
        exact ⟨v, List.mem_filter.2 ⟨List.mem_range.2 hv.1, hv.2⟩, rfl⟩
    have hrng : ∀ v ∈ reachL n (wars (relE E) n s) n, 0 ≤ v ∧ v < n := by
      intro v hv
      unfold reachL at hv
      rw [List.mem_map] at hv
      obtain ⟨k, hk, rfl⟩ := hv
      rw [List.mem_filter, List.mem_range] at hk
      omega
    refine ⟨range_asc n _, reachL_len n _ n, hrng, (hmem s).2 ⟨hs, wars_mono (relE_iff.2 (.inl rfl)) n⟩, ?_, ?_⟩
    · intro u hu w hw
      have hu1 := hrng u hu
      obtain ⟨a, rfl⟩ := Int.eq_ofNat_of_zero_le hu1.1
      have hw1 := (hr _ hw).2.2
      obtain ⟨b, rfl⟩ := Int.eq_ofNat_of_zero_le (show 0 ≤ w from hw1.1)
      have := (hmem a).1 hu
      have hb : (b : Int) < n := hw1.2
      exact (hmem b).2 ⟨by omega, wars_trans n s a b this.1 this.2 (wars_mono (relE_iff.2 (.inr hw)) n)⟩
    · intro Q q1 q2 v hv
      have hv1 := hrng v hv
      obtain ⟨a, rfl⟩ := Int.eq_ofNat_of_zero_le hv1.1
      have := (hmem a).1 hv
      exact wars_sound (f := relE E) (Q := fun i j => Q (i : Int) → Q (j : Int)) (fun i j h => by
        rcases relE_iff.1 h with rfl | h
        · exact fun q => q
        · exact fun q => q2 _ _ q h) (fun i a j h1 h2 q => h2 (h1 q)) n s a this.2 q1
end Go.Mid
/- GraphReach: the plain law. -/
namespace Go.Mid
set_option linter.unusedSimpArgs false
set_option linter.unusedVariables false
theorem equal_self (l : List Int) (h : l.length ≤ 1000000) : slices_Equal_sint_int (l, l) = some true := by
  unfold slices_Equal_sint_int
  have := loop_steps (f := slices_Equal_sint_int_l0) l.length (fun i => (l, l, (l.length : Int), (i : Int))) (.inr ()) (fun i hi => by
    have hi' : (i : Int) < l.length := by omega
    simp only [slices_Equal_sint_int_l0, hi', decide_true, cond_true, Int.natCast_nonneg, Int.toNat_natCast, List.getElem?_eq_getElem hi, Option.bind_some, bne_self_eq_false, cond_false, wrap_i64s (show i < 9223372036854775807 by omega)]) (by
    simp only [slices_Equal_sint_int_l0, Int.lt_irrefl, decide_false, cond_false])
  simp only [Int.natCast_zero] at this
  rw [bne_self_eq_false, cond_false, this]
  rfl
theorem few_eq (n : Int) (E : EdgesV) : drossref06_Few (n, E) = some (decide ((E.length : Int) ≤ 60) && (decide (n ≤ 12) || validS n E != 0)) := by
  unfold drossref06_Few
  by_cases h1 : (E.length : Int) ≤ 60
  · by_cases h2 : n ≤ 12
    · simp [h1, h2]
    · simp [h1, h2, drossref06_Valid_eq]
  · simp [h1]
theorem cloneL_small {E : EdgesV} (h : E.length ≤ 1000) : cloneL 16 E = some E := by
  unfold cloneL
  rw [ble_true (show E.length * 16 ≤ 140737488355328 by omega)]
  rfl
theorem law6 (n : Int) (E : EdgesV) (s : Int) : drosslaw06_GraphReach_S (n, E, s) = some true := by
  unfold drosslaw06_GraphReach_S
  simp only [Option.bind_some, Bool.not_true, cond_false, few_eq]
  by_cases hf : (decide ((E.length : Int) ≤ 60) && (decide (n ≤ 12) || validS n E != 0)) = true
  · have hE : E.length ≤ 60 := by
      rw [Bool.and_eq_true, decide_eq_true_eq] at hf
      omega
    simp only [hf, Bool.not_true, cond_false, cloneL_small (show E.length ≤ 1000 by omega), Option.bind_some]
    by_cases hv : validS n E = 0
    · by_cases hs : 0 ≤ s ∧ s < n
      · obtain ⟨m, rfl, hm, _, hr⟩ := valid_some hv
        obtain ⟨k, rfl⟩ := Int.eq_ofNat_of_zero_le hs.1
        obtain ⟨o, e1, a1⟩ := graph_Reach_in hv (show k < m by omega) (show E.length ≤ 1000 by omega)
        obtain ⟨p, e2, a2⟩ := ref_Reach_in hv (show k < m by omega) (show E.length ≤ 1000 by omega)
        have := a1.uniq a2
        subst this
        have hl := a1.len
        simp only [e1, e2, Option.bind_some, beq_self_eq_true, cond_true, equal_self o (by omega)]
      · simp only [graph_Reach_out hv hs, ref_Reach_out hv hs, Option.bind_some, beq_self_eq_true, cond_true, equal_self [] (by simp)]
    · simp only [graph_Reach_bad hv, ref_Reach_bad hv, Option.bind_some, beq_self_eq_true, cond_true, equal_self [] (by simp)]
  · simp only [hf, Bool.not_false, cond_true]
end Go.Mid
