/- Comparisons, binary search; valid hypergraphs. -/
import Derived.Test.YtngcamcnkfkmdaaY4
import Derived.Test.YtngcamcnkfkmdaaY3
namespace Go.Mid
set_option linter.unusedSimpArgs false
set_option linter.unusedVariables false
@[simp 1100] theorem shr1_d (k k' : IntKind) (a : Int) (h : 1 ≤ k.bits) : binP .shr (.int k a) (.int k' 1) = some (.int k (a / 2)) := by
  have h0 : ¬ ((1 : Int) < 0) := by omega
  have e : min (1 : Int).toNat k.bits = 1 := Nat.min_eq_left h
  simp only [binP, h0, if_false, e]
  rw [Int.fdiv_eq_ediv_of_nonneg _ (by decide)]
  rfl
@[simp 1100] theorem wrap_u64_i64 (n : Int) (h : 0 ≤ n ∧ n ≤ 18446744073709551615) : IntKind.u64.wrap (IntKind.i64.wrap n) = n := by
  rw [IntKind.wrap_i64]
  simp [IntKind.wrap, IntKind.bits, IntKind.signed]; omega
section
variable {β : Type} {Φ : Tbl} {ks ids : List Nat} {c : MC}
theorem findE_anyI (p : Nat → β → Bool) (e e0 : Ex × St) : ∀ (l : List β) (i : Nat), findE p (fun _ _ => e) e0 l i = if (l.zipIdx i).any (fun x => p x.2 x.1) then e else e0
  | [], _ => rfl
  | x :: r, i => by
    simp only [findE, List.zipIdx_cons, List.any_cons]
    by_cases h : p i x = true
    · simp [h]
    · simp only [h, if_false, Bool.false_eq_true, Bool.false_or]; exact findE_anyI p e e0 r (i + 1)
theorem loop_anyI (l : List β) (C : Nat → St) (p : Nat → β → Bool) (eR e0 : Ex × St)
    (hR : eR.1 ≠ .normal) (h0 : e0.1 ≠ .normal) (hend : runI Φ c (C l.length) = some e0)
    (hstep : ∀ i (hi : i < l.length), fgt ks ids (runI Φ c (C i)) = if p i l[i] then some eR else some (.normal, C (i + 1)))
    (σ : St) (hσ : forget ks ids σ = C 0) : runI Φ (.loop ks ids c) σ = some (if (l.zipIdx).any (fun x => p x.2 x.1) then eR else e0) := by
  rw [loop_find l C p (fun _ _ => eR) e0 (fun _ _ => hR) h0 hend hstep σ hσ, findE_anyI p]
end
theorem k75 (x : Int) : KI tab 75 [.p (i64 x)] [] = some (.p (.bool false), [], []) := by
  rw [KI_list (F := fun75) rfl]; simp (maxSteps := 4000000) (disch := first | omega | (simp only [List.length_map, List.length_append, List.length_cons, List.length_nil, List.length_set, List.length_take, List.length_range] <;> omega) | fail) [fun75, body75]
theorem k82 (x : Int) : KI tab 82 [.p (i64 x)] [] = some (.p (.bool false), [], []) := by
  rw [KI_list (F := fun82) rfl]; simp (maxSteps := 4000000) (disch := first | omega | (simp only [List.length_map, List.length_append, List.length_cons, List.length_nil, List.length_set, List.length_take, List.length_range] <;> omega) | fail) [fun82, body82]
theorem k81 (x y : Int) : KI tab 81 [.p (i64 x), .p (i64 y)] [] = some (.p (.bool (decide (x < y))), [], []) := by
  rw [KI_list (F := fun81) rfl]; simp (maxSteps := 4000000) (disch := first | omega | (simp only [List.length_map, List.length_append, List.length_cons, List.length_nil, List.length_set, List.length_take, List.length_range] <;> omega) | fail) [fun81, body81, k75]
def cmpI (x y : Int) : Int := if x < y then -1 else if y < x then 1 else 0
theorem k68 (x y : Int) : KI tab 68 [.p (i64 x), .p (i64 y)] [] = some (.p (i64 (cmpI x y)), [], []) := by
  rw [KI_list (F := fun68) rfl, cmpI]
  by_cases h : x < y
  · simp (maxSteps := 4000000) (disch := first | omega | (simp only [List.length_map, List.length_append, List.length_cons, List.length_nil, List.length_set, List.length_take, List.length_range] <;> omega) | fail) [fun68, body68, k75, h]
  · by_cases h2 : y < x
    · simp (maxSteps := 4000000) (disch := first | omega | (simp only [List.length_map, List.length_append, List.length_cons, List.length_nil, List.length_set, List.length_take, List.length_range] <;> omega) | fail) [fun68, body68, k75, h, h2]
    · simp (maxSteps := 4000000) (disch := first | omega | (simp only [List.length_map, List.length_append, List.length_cons, List.length_nil, List.length_set, List.length_take, List.length_range] <;> omega) | fail) [fun68, body68, k75, h, h2]
/-! ### slices.Compare -/
def cmpL (a b : List Int) : Int := match bef a b with
  | some true => -1
  | some false => 1
  | none => if a.length < b.length then -1 else if b.length < a.length then 1 else 0
theorem bef_swap : ∀ a b : List Int, bef b a = (bef a b).map (!·)
  | [], [] => rfl
  | [], _ :: _ => rfl
  | _ :: _, [] => rfl
  | x :: a, y :: b => by
    simp only [bef]
    by_cases h : x = y
    · simp [h, bef_swap a b]
    · have h' : ¬ y = x := fun e => h e.symm
      simp only [h, h', if_false, Option.map_some, Option.some.injEq]
      apply Bool.eq_iff_iff.2
      simp; omega
theorem cmpL_ge (a b : List Int) : decide (0 ≤ cmpL a b) = !before a b := by
  unfold cmpL before
  cases bef a b with
  | none =>
    simp only
    by_cases h : a.length < b.length
    · simp [h]
    · simp only [h, if_false]; split <;> simp
  | some t => cases t <;> rfl
theorem cmpL_gt (a b : List Int) : decide (0 < cmpL a b) = before b a := by
  unfold cmpL before
  rw [bef_swap a b]
  cases bef a b with
  | none =>
    simp only [Option.map_none]
    by_cases h : a.length < b.length
    · simp [h]; omega
    · simp only [h, if_false]; split <;> simp [*]
  | some t => cases t <;> rfl
theorem k54 (a b : List Int) (ha : a.length < 9223372036854775808) (hb : b.length < 9223372036854775808) : KI tab 54 [.p (i64s a), .p (i64s b)] [] = some (.p (i64 (cmpL a b)), [], []) := by
  have lp : ∀ σ : St, forget [0, 1, 9, 10, 11] [] σ = stL [(0, .p (i64s a)), (1, .p (i64s b)), (9, .p (i64s a)), (10, .p (i64 a.length)), (11, .p (i64 0))] [] 2 → runI tab (.loop [0, 1, 9, 10, 11] [] loop54x0) σ =
      (match bef a b with
        | some true => some (.ret, stL [(4, .p (i64 (-1)))] [] 2)
        | some false => some (.ret, stL [(4, .p (i64 1))] [] 2)
        | none => if b.length < a.length then some (.ret, stL [(4, .p (i64 1))] [] 2) else some (.exit 0, stL [(0, .p (i64s a)), (1, .p (i64s b))] [] 2)) := by
    intro σ hσ
    rw [loop_inv (fun i : Nat => stL [(0, .p (i64s a)), (1, .p (i64s b)), (9, .p (i64s a)), (10, .p (i64 a.length)), (11, .p (i64 i))] [] 2)
      (fun i => match bef (a.drop i) (b.drop i) with
        | some true => some (.ret, stL [(4, .p (i64 (-1)))] [] 2)
        | some false => some (.ret, stL [(4, .p (i64 1))] [] 2)
        | none => if b.length < a.length then some (.ret, stL [(4, .p (i64 1))] [] 2) else some (.exit 0, stL [(0, .p (i64s a)), (1, .p (i64s b))] [] 2)) (fun i => a.length - i) (fun i => i ≤ b.length) ?_ 0 σ (by simp) (by simpa using hσ)]
    · simp
    · intro i hib
      by_cases hi : i < a.length
      · by_cases hj : i < b.length
        · by_cases h : a[i] = b[i]
          · refine .inl ⟨i + 1, hj, by omega, ?_, by rw [bef_step hi hj, if_pos h]⟩
            have hc : cmpI b[i] b[i] = 0 := by simp [cmpI]
            simp (maxSteps := 4000000) (disch := first | omega | (simp only [List.length_map, List.length_append, List.length_cons, List.length_nil, List.length_set, List.length_take, List.length_range] <;> omega) | fail) [loop54x0, k68, h, hc]
          · rcases Int.lt_or_gt_of_ne h with h1 | h1
            · have hc : cmpI a[i] b[i] = -1 := by simp [cmpI, h1]
              refine .inr ⟨(.ret, stL [(4, .p (i64 (-1)))] [] 2), by simp, ?_, by rw [bef_step hi hj, if_neg h]; simp [h1]⟩
              simp (maxSteps := 4000000) (disch := first | omega | (simp only [List.length_map, List.length_append, List.length_cons, List.length_nil, List.length_set, List.length_take, List.length_range] <;> omega) | fail) [loop54x0, k68, hc]
            · have hc : cmpI a[i] b[i] = 1 := by simp only [cmpI]; rw [if_neg (by omega), if_pos h1]
              have h2 : ¬ a[i] < b[i] := by omega
              refine .inr ⟨(.ret, stL [(4, .p (i64 1))] [] 2), by simp, ?_, by rw [bef_step hi hj, if_neg h]; simp [h2]⟩
              simp (maxSteps := 4000000) (disch := first | omega | (simp only [List.length_map, List.length_append, List.length_cons, List.length_nil, List.length_set, List.length_take, List.length_range] <;> omega) | fail) [loop54x0, k68, hc]
        · refine .inr ⟨(.ret, stL [(4, .p (i64 1))] [] 2), by simp, ?_, by rw [bef_short (.inr (by omega))]; simp; omega⟩
          simp (maxSteps := 4000000) (disch := first | omega | (simp only [List.length_map, List.length_append, List.length_cons, List.length_nil, List.length_set, List.length_take, List.length_range] <;> omega) | fail) [loop54x0]
      · refine .inr ⟨(.exit 0, stL [(0, .p (i64s a)), (1, .p (i64s b))] [] 2), by simp, ?_, by rw [bef_short (.inl (by omega))]; simp; omega⟩
        simp (maxSteps := 4000000) (disch := first | omega | (simp only [List.length_map, List.length_append, List.length_cons, List.length_nil, List.length_set, List.length_take, List.length_range] <;> omega) | fail) [loop54x0]
  rw [KI_list (F := fun54) rfl, cmpL]
  cases hbf : bef a b with
  | some t => rw [hbf] at lp; cases t <;> simp (maxSteps := 4000000) (disch := first | omega | (simp only [List.length_map, List.length_append, List.length_cons, List.length_nil, List.length_set, List.length_take, List.length_range] <;> omega) | (simp; done) | fail) [fun54, body54, lp]
  | none =>
    rw [hbf] at lp
    by_cases h : b.length < a.length
    · have h2 : ¬ a.length < b.length := by omega
      simp (maxSteps := 4000000) (disch := first | omega | (simp only [List.length_map, List.length_append, List.length_cons, List.length_nil, List.length_set, List.length_take, List.length_range] <;> omega) | (simp; done) | fail) [fun54, body54, lp, h, h2]
    · by_cases h2 : a.length < b.length
      · simp (maxSteps := 4000000) (disch := first | omega | (simp only [List.length_map, List.length_append, List.length_cons, List.length_nil, List.length_set, List.length_take, List.length_range] <;> omega) | (simp; done) | fail) [fun54, body54, lp, h, h2]
      · simp (maxSteps := 4000000) (disch := first | omega | (simp only [List.length_map, List.length_append, List.length_cons, List.length_nil, List.length_set, List.length_take, List.length_range] <;> omega) | (simp; done) | fail) [fun54, body54, lp, h, h2]
/-! ### ascending lists, binary search -/
theorem k73 (l : List Int) (hl : l.length < 9223372036854775808) : KI tab 73 [.p (i64s l)] [] = some (.p (.bool (asc l)), [], []) := by
  have lp : ∀ σ : St, forget [0, 3] [] σ = stL [(0, .p (i64s l)), (3, .p (i64 1))] [] 2 →
      runI tab (.loop [0, 3] [] loop73x0) σ = if asc l then some (.exit 0, stL [] [] 2) else some (.ret, stL [(2, .p (.bool false))] [] 2) := by
    intro σ hσ
    rw [loop_inv (fun i : Nat => stL [(0, .p (i64s l)), (3, .p (i64 (i + 1 : Nat)))] [] 2) (fun i => if asc (l.drop i) then some (.exit 0, stL [] [] 2) else some (.ret, stL [(2, .p (.bool false))] [] 2)) (fun i => l.length - i) (fun _ => True) ?_ 0 σ trivial (by simpa using hσ)]
    · simp
    · intro i _
      by_cases hi : i + 1 < l.length
      · by_cases h : l[i] < l[i + 1]
        · refine .inl ⟨i + 1, trivial, by omega, ?_, by rw [asc_step hi]; simp [h]⟩
          simp (maxSteps := 4000000) (disch := first | omega | (simp only [List.length_map, List.length_append, List.length_cons, List.length_nil, List.length_set, List.length_take, List.length_range] <;> omega) | fail) [loop73x0, hi, h]
        · refine .inr ⟨(.ret, stL [(2, .p (.bool false))] [] 2), by simp, ?_, by rw [asc_step hi]; simp [h]⟩
          simp (maxSteps := 4000000) (disch := first | omega | (simp only [List.length_map, List.length_append, List.length_cons, List.length_nil, List.length_set, List.length_take, List.length_range] <;> omega) | fail) [loop73x0, hi, h]
      · refine .inr ⟨(.exit 0, stL [] [] 2), by simp, ?_, by rw [asc_short (by omega)]; rfl⟩
        simp (maxSteps := 4000000) (disch := first | omega | (simp only [List.length_map, List.length_append, List.length_cons, List.length_nil, List.length_set, List.length_take, List.length_range] <;> omega) | fail) [loop73x0, hi]
  rw [KI_list (F := fun73) rfl]
  cases h : asc l <;> rw [h] at lp <;> simp (maxSteps := 4000000) (disch := first | omega | (simp only [List.length_map, List.length_append, List.length_cons, List.length_nil, List.length_set, List.length_take, List.length_range] <;> omega) | (simp; done) | fail) [fun73, body73, lp]
theorem asc_pair : ∀ {l : List Int} {i j : Nat}, asc l = true → (h : i < j) → (hj : j < l.length) → l[i] < l[j]
  | [], _, _, _, _, hj => by simp at hj
  | [x], _, _, _, _, hj => by simp at hj; omega
  | x :: y :: r, i, j, ha, h, hj => by
    simp only [asc, Bool.and_eq_true, decide_eq_true_eq] at ha
    cases i with
    | zero =>
      cases j with
      | zero => omega
      | succ j =>
        simp only [List.getElem_cons_zero, List.getElem_cons_succ]
        cases j with
        | zero => exact ha.1
        | succ j => exact Int.lt_trans ha.1 (asc_pair (l := y :: r) (i := 0) ha.2 (by omega) (by simpa using hj))
    | succ i =>
      cases j with
      | zero => omega
      | succ j => simpa using asc_pair (l := y :: r) ha.2 (by omega) (by simpa using hj)
/-- the number of elements ahead of the first one that is not less -/
def lb : List Int → Int → Nat
  | [], _ => 0
  | y :: r, x => if y < x then lb r x + 1 else 0
theorem lb_is : ∀ {l : List Int} {x : Int} {i : Nat}, i ≤ l.length → (∀ k (h : k < l.length), k < i → l[k] < x) → (∀ h : i < l.length, ¬ l[i] < x) → lb l x = i
  | [], x, i, hi, _, _ => by simp at hi; simp [lb, hi]
  | y :: r, x, i, hi, h1, h2 => by
    cases i with
    | zero =>
      have := h2 (by simp)
      simp only [List.getElem_cons_zero] at this
      simp [lb, this]
    | succ i =>
      have h0 := h1 0 (by simp) (by omega)
      simp only [List.getElem_cons_zero] at h0
      simp only [lb, h0, if_true]
      rw [lb_is (l := r) (i := i) (by simpa using hi) (fun k h hk => h1 (k + 1) (by simpa using h) (by omega)) (fun h => h2 (by simpa using h))]
theorem lb_le : ∀ (l : List Int) (x : Int), lb l x ≤ l.length
  | [], _ => by simp [lb]
  | y :: r, x => by
    simp only [lb]
    split
    · have := lb_le r x; simp; omega
    · omega
theorem lb_found : ∀ {l : List Int} {x : Int}, asc l = true → (match l[lb l x]? with | some y => y == x | none => false) = l.contains x
  | [], x, _ => rfl
  | y :: r, x, ha => by
    simp only [lb]
    have ha2 : asc r = true := by cases r with | nil => rfl | cons z r => simp only [asc, Bool.and_eq_true] at ha; exact ha.2
    by_cases h : y < x
    · rw [if_pos h]
      have hn : ¬ (x = y) := by omega
      simp only [List.getElem?_cons_succ, List.contains_cons]
      rw [lb_found ha2]
      simp [hn]
    · rw [if_neg h]
      simp only [List.getElem?_cons_zero]
      by_cases he : y = x
      · subst he; simp
      · have hx : ∀ z ∈ r, x < z := by
          intro z hz
          obtain ⟨i, hi, rfl⟩ := List.getElem_of_mem hz
          have := asc_pair (l := y :: r) (i := 0) (j := i + 1) ha (by omega) (by simpa using hi)
          simp only [List.getElem_cons_zero, List.getElem_cons_succ] at this
          omega
        have h1 : r.contains x = false := by
          cases hc : r.contains x with
          | false => rfl
          | true => have := hx x (by simpa using hc); omega
        have h2 : (x == y) = false := by simp; exact fun e => he e.symm
        rw [List.contains_cons, h1, h2]
        simp [he]
theorem k80 (l : List Int) (x : Int) (ha : asc l = true) (hl : l.length < 9223372036854775808) : KI tab 80 [.p (i64s l), .p (i64 x)] [] = some (.tup [.p (i64 (lb l x)), .p (.bool (l.contains x))], [], []) := by
  have lp : ∀ σ : St, forget [0, 1, 6, 7, 8] [] σ = stL [(0, .p (i64s l)), (1, .p (i64 x)), (6, .p (i64 l.length)), (7, .p (i64 0)), (8, .p (i64 l.length))] [] 2 → runI tab (.loop [0, 1, 6, 7, 8] [] loop80x0) σ =
      some (.exit 0, stL [(0, .p (i64s l)), (1, .p (i64 x)), (6, .p (i64 l.length)), (7, .p (i64 (lb l x)))] [] 2) := by
    intro σ hσ
    rw [loop_inv (fun p : Nat × Nat => stL [(0, .p (i64s l)), (1, .p (i64 x)), (6, .p (i64 l.length)), (7, .p (i64 p.1)), (8, .p (i64 p.2))] [] 2)
      (fun _ => some (.exit 0, stL [(0, .p (i64s l)), (1, .p (i64 x)), (6, .p (i64 l.length)), (7, .p (i64 (lb l x)))] [] 2)) (fun p => p.2 - p.1)
      (fun p => p.1 ≤ p.2 ∧ p.2 ≤ l.length ∧ (∀ k (h : k < l.length), k < p.1 → l[k] < x) ∧ (∀ k (h : k < l.length), p.2 ≤ k → ¬ l[k] < x)) ?_ (0, l.length) σ ⟨by simp, by simp, by simp, fun k h hk => by simp at hk; omega⟩ (by simpa using hσ)]
    rintro ⟨i, j⟩ ⟨h1, h2, h3, h4⟩
    simp only at h1 h2 h3 h4
    by_cases h : i < j
    · have e : ((i : Int) + j) / 2 = (((i + j) / 2 : Nat) : Int) := by omega
      have hm : (i + j) / 2 < l.length := by omega
      generalize hmd : (i + j) / 2 = m at e hm
      by_cases hc : l[m] < x
      · refine .inl ⟨(m + 1, j), ⟨by simp only; omega, h2, ?_, h4⟩, by simp only; omega, ?_, rfl⟩
        · intro k hk hkm
          simp only at hkm
          by_cases hkm2 : k = m
          · subst hkm2; exact hc
          · exact Int.lt_trans (asc_pair ha (by omega) hm) hc
        · simp (disch := first | omega | (simp only [IntKind.bits] <;> omega) | fail) [loop80x0, k81, e, hc, h]
      · refine .inl ⟨(i, m), ⟨by simp only; omega, by simp only; omega, h3, ?_⟩, by simp only; omega, ?_, rfl⟩
        · intro k hk hkm
          simp only at hkm
          by_cases hkm2 : k = m
          · subst hkm2; exact hc
          · have := asc_pair (i := m) (j := k) ha (by omega) hk; omega
        · simp (disch := first | omega | (simp only [IntKind.bits] <;> omega) | fail) [loop80x0, k81, e, hc, h]
    · have hij : i = j := by omega
      subst hij
      have := lb_is (i := i) h2 h3 (fun h => h4 i h (Nat.le_refl _))
      refine .inr ⟨(.exit 0, stL [(0, .p (i64s l)), (1, .p (i64 x)), (6, .p (i64 l.length)), (7, .p (i64 i))] [] 2), by simp, ?_, by simp [this]⟩
      simp (maxSteps := 4000000) (disch := first | omega | (simp only [List.length_map, List.length_append, List.length_cons, List.length_nil, List.length_set, List.length_take, List.length_range] <;> omega) | fail) [loop80x0]
  have hf := lb_found (x := x) ha
  have hle := lb_le l x
  rw [KI_list (F := fun80) rfl, ← hf]
  by_cases h : lb l x < l.length
  · by_cases he : l[lb l x] = x
    · simp (maxSteps := 4000000) (disch := first | omega | (simp only [List.length_map, List.length_append, List.length_cons, List.length_nil, List.length_set, List.length_take, List.length_range] <;> omega) | (simp; done) | fail) [fun80, body80, lp, h, he, k82]
    · simp (maxSteps := 4000000) (disch := first | omega | (simp only [List.length_map, List.length_append, List.length_cons, List.length_nil, List.length_set, List.length_take, List.length_range] <;> omega) | (simp; done) | fail) [fun80, body80, lp, h, he, k82]
  · have h2 : l[lb l x]? = none := by simp; omega
    simp (maxSteps := 4000000) (disch := first | omega | (simp only [List.length_map, List.length_append, List.length_cons, List.length_nil, List.length_set, List.length_take, List.length_range] <;> omega) | (simp; done) | fail) [fun80, body80, lp, h, h2]
end Go.Mid
/- Valid hypergraphs: the program's test and the reference's. -/
namespace Go.Mid
set_option linter.unusedSimpArgs false
set_option linter.unusedVariables false
set_option linter.unusedSectionVars false
@[simp] abbrev C74x0 (l0 : List Int) (l9 : List Int) (x10 : Int) (x11 : Int) : St := stL [(0, .p (i64s l0)), (9, .p (i64s l9)), (10, .p (i64 x10)), (11, .p (i64 x11))] [] 2
@[simp] abbrev C66x0 (l20 : List (List Int)) (x21 : Int) (x22 : Int) (l1 : List Int) (l1a : List (List Int)) : St := stL [(1, .ptr 1 none [] 1 0), (20, .p (i64ss l20)), (21, .p (i64 x21)), (22, .p (i64 x22))] [(1, .cell 1 (.p (.agg [(i64s l1), (i64ss l1a)])))] 2
@[simp] abbrev C66x1 (l59 : List (List Int)) (x60 : Int) (x61 : Int) (l1 : List Int) (l1a : List (List Int)) : St := stL [(1, .ptr 1 none [] 1 0), (59, .p (i64ss l59)), (60, .p (i64 x60)), (61, .p (i64 x61))] [(1, .cell 1 (.p (.agg [(i64s l1), (i64ss l1a)])))] 2
@[simp] abbrev C66x2 (x5 : Int) (l6 : List Int) (l59 : List (List Int)) (x60 : Int) (x61 : Int) (l67 : List (List Int)) (x68 : Int) (x69 : Int) (l1 : List Int) (l1a : List (List Int)) : St := stL [(1, .ptr 1 none [] 1 0), (5, .p (i64 x5)), (6, .p (i64s l6)), (59, .p (i64ss l59)), (60, .p (i64 x60)), (61, .p (i64 x61)), (67, .p (i64ss l67)), (68, .p (i64 x68)), (69, .p (i64 x69))] [(1, .cell 1 (.p (.agg [(i64s l1), (i64ss l1a)])))] 2
@[simp] abbrev C65x0 (x3 : Int) (l1 : List Int) (l1a : List (List Int)) : St := stL [(1, .ptr 1 none [] 1 0), (3, .p (i64 x3))] [(1, .cell 1 (.p (.agg [(i64s l1), (i64ss l1a)])))] 2
@[simp] abbrev C65x1 (x3 : Int) (x4 : Int) (l1 : List Int) (l1a : List (List Int)) : St := stL [(1, .ptr 1 none [] 1 0), (3, .p (i64 x3)), (4, .p (i64 x4))] [(1, .cell 1 (.p (.agg [(i64s l1), (i64ss l1a)])))] 2
theorem k74 (l m : List Int) (ha : asc l = true) (hl : l.length < 9223372036854775808) (hm : m.length < 9223372036854775808) : KI tab 74 [.p (i64s l), .p (i64s m)] [] = some (.p (.bool (within m l)), [], []) := by
  have lp : ∀ σ : St, forget [0, 9, 10, 11] [] σ = stL [(0, .p (i64s l)), (9, .p (i64s m)), (10, .p (i64 m.length)), (11, .p (i64 0))] [] 2 → runI tab (.loop [0, 9, 10, 11] [] loop74x0) σ = some (if m.any (fun x => !l.contains x) then (.ret, stL [(4, .p (.bool false))] [] 2) else (.exit 0, stL [] [] 2)) := by
    intro σ hσ
    refine loop_any m (fun i => stL [(0, .p (i64s l)), (9, .p (i64s m)), (10, .p (i64 m.length)), (11, .p (i64 i))] [] 2) (fun x => !l.contains x) (.ret, stL [(4, .p (.bool false))] [] 2) (.exit 0, stL [] [] 2) (by simp) (by simp) ?_ ?_ σ hσ
    · simp (maxSteps := 4000000) (disch := first | omega | (simp only [List.length_map, List.length_append, List.length_cons, List.length_nil, List.length_set, List.length_take, List.length_range] <;> omega) | fail) [loop74x0]
    · intro i hi
      have h80 := k80 l m[i] ha hl
      cases hc : l.contains m[i] with
      | true => rw [hc] at h80; simp (maxSteps := 4000000) (disch := first | omega | (simp only [List.length_map, List.length_append, List.length_cons, List.length_nil, List.length_set, List.length_take, List.length_range] <;> omega) | fail) [loop74x0, h80, hi]
      | false => rw [hc] at h80; simp (maxSteps := 4000000) (disch := first | omega | (simp only [List.length_map, List.length_append, List.length_cons, List.length_nil, List.length_set, List.length_take, List.length_range] <;> omega) | fail) [loop74x0, h80, hi]
  have hw : (m.any fun x => !l.contains x) = !within m l := by rw [within, List.all_eq_not_any_not]; simp
  rw [KI_list (F := fun74) rfl]
  rw [hw] at lp
  cases h : within m l <;> rw [h] at lp <;> simp (maxSteps := 4000000) (disch := first | omega | (simp only [List.length_map, List.length_append, List.length_cons, List.length_nil, List.length_set, List.length_take, List.length_range] <;> omega) | (simp; done) | fail) [fun74, body74, lp]
/-- an edge by itself -/
def edgeOk (v : List Int) (es : List (List Int)) (i : Nat) (e : List Int) : Bool := !e.isEmpty && asc e && within e v && (i == 0 || before (es.getD (i - 1) []) e)
def pairBad (es : List (List Int)) (i : Nat) (e : List Int) : Bool := es.zipIdx.any fun y => y.2 != i && within y.1 e
def validH (v : List Int) (es : List (List Int)) : Bool := asc v && decide (es.length ≤ 20000) && (!(es.zipIdx.any fun x => !edgeOk v es x.2 x.1) && !(es.zipIdx.any fun x => pairBad es x.2 x.1))
theorem l66x2 (v : List Int) (es : List (List Int)) (hes : es.length < 9223372036854775808) (he : ∀ e ∈ es, e.length < 9223372036854775808) (i : Nat) (e : List Int) (hea : asc e = true) (hel : e.length < 9223372036854775808) (hi : i < es.length) (σ : St) (hσ : forget [1, 5, 6, 59, 60, 61, 67, 68, 69] [1] σ = C66x2 i e es es.length i es es.length 0 v es) :
    runI tab (.loop [1, 5, 6, 59, 60, 61, 67, 68, 69] [1] loop66x2) σ = some (if pairBad es i e then (.ret, stL [(2, .p (.bool false))] [] 2) else (.exit 4, C66x1 es es.length i v es)) := by
  refine loop_anyI es (fun k => C66x2 i e es es.length i es es.length k v es) (fun k y => k != i && within y e) _ _ (by simp) (by simp) ?_ ?_ σ hσ
  · simp (maxSteps := 4000000) (disch := first | omega | (simp only [List.length_map, List.length_append, List.length_cons, List.length_nil, List.length_set, List.length_take, List.length_range] <;> omega) | fail) [loop66x2]
  · intro k hk
    have h74 := k74 e es[k] hea hel (he es[k] (by simp))
    by_cases h : i = k
    · subst h; simp (maxSteps := 4000000) (disch := first | omega | (simp only [List.length_map, List.length_append, List.length_cons, List.length_nil, List.length_set, List.length_take, List.length_range] <;> omega) | fail) [loop66x2, hk]
    · have h1 : ¬ ((i : Int) = (k : Int)) := by omega
      have h2 : (k != i) = true := by simp; omega
      rw [h2]
      cases hw : within es[k] e with
      | false => rw [hw] at h74; simp (maxSteps := 4000000) (disch := first | omega | (simp only [List.length_map, List.length_append, List.length_cons, List.length_nil, List.length_set, List.length_take, List.length_range] <;> omega) | fail) [loop66x2, hk, h1, h74]
      | true => rw [hw] at h74; simp (maxSteps := 4000000) (disch := first | omega | (simp only [List.length_map, List.length_append, List.length_cons, List.length_nil, List.length_set, List.length_take, List.length_range] <;> omega) | fail) [loop66x2, hk, h1, h74]
theorem l65x1 (v : List Int) (es : List (List Int)) (hes : es.length < 9223372036854775808) (he : ∀ e ∈ es, e.length < 9223372036854775808) (i : Nat) (hi : i < es.length) (σ : St) (hσ : forget [1, 3, 4] [1] σ = C65x1 i 0 v es) :
    runI tab (.loop [1, 3, 4] [1] loop65x1) σ = some (if pairBad es i es[i] then (.ret, stL [(2, .p (.bool false))] [] 2) else (.exit 2, C65x0 i v es)) := by
  refine loop_anyI es (fun k => C65x1 i k v es) (fun k y => k != i && within y es[i]) _ _ (by simp) (by simp) ?_ ?_ σ hσ
  · simp (maxSteps := 4000000) (disch := first | omega | (simp only [List.length_map, List.length_append, List.length_cons, List.length_nil, List.length_set, List.length_take, List.length_range] <;> omega) | fail) [loop65x1]
  · intro k hk
    have h26 := k26 es[k] es[i] (he es[k] (by simp)) (he es[i] (by simp))
    by_cases h : k = i
    · subst h; simp (maxSteps := 4000000) (disch := first | omega | (simp only [List.length_map, List.length_append, List.length_cons, List.length_nil, List.length_set, List.length_take, List.length_range] <;> omega) | fail) [loop65x1, hk]
    · have h1 : ¬ ((k : Int) = (i : Int)) := by omega
      have h2 : (k != i) = true := by simp; omega
      rw [h2]
      cases hw : within es[k] es[i] with
      | false => rw [hw] at h26; simp (maxSteps := 4000000) (disch := first | omega | (simp only [List.length_map, List.length_append, List.length_cons, List.length_nil, List.length_set, List.length_take, List.length_range] <;> omega) | fail) [loop65x1, hk, h1, h26]
      | true => rw [hw] at h26; simp (maxSteps := 4000000) (disch := first | omega | (simp only [List.length_map, List.length_append, List.length_cons, List.length_nil, List.length_set, List.length_take, List.length_range] <;> omega) | fail) [loop65x1, hk, h1, h26]
section
variable (v : List Int) (es : List (List Int)) (hv : v.length < 9223372036854775808) (hes : es.length < 9223372036854775808) (he : ∀ e ∈ es, e.length < 9223372036854775808)
include hv hes he
theorem l66x0 (hva : asc v = true) (σ : St) (hσ : forget [1, 20, 21, 22] [1] σ = C66x0 es es.length 0 v es) :
    runI tab (.loop [1, 20, 21, 22] [1] loop66x0) σ = some (if (es.zipIdx.any fun x => !edgeOk v es x.2 x.1) then (.ret, stL [(2, .p (.bool false))] [] 2) else (.exit 0, stL [(1, .ptr 1 none [] 1 0)] [(1, .cell 1 (.p (.agg [i64s v, i64ss es])))] 2)) := by
  refine loop_anyI es (fun i => C66x0 es es.length i v es) (fun i e => !edgeOk v es i e) _ _ (by simp) (by simp) ?_ ?_ σ hσ
  · simp (maxSteps := 4000000) (disch := first | omega | (simp only [List.length_map, List.length_append, List.length_cons, List.length_nil, List.length_set, List.length_take, List.length_range] <;> omega) | fail) [loop66x0]
  · intro i hi
    have hel := he es[i] (by simp)
    have h73 := k73 es[i] (by omega)
    have h74 := k74 v es[i] hva hv hel
    by_cases h0 : es[i] = []
    · rw [h0] at h73 h74
      have hE : edgeOk v es i [] = false := by simp [edgeOk]
      simp (maxSteps := 4000000) (disch := first | omega | (simp only [List.length_map, List.length_append, List.length_cons, List.length_nil, List.length_set, List.length_take, List.length_range] <;> omega) | fail) [loop66x0, hi, h0, hE]
    · have h0' : ¬ (es[i].length = 0) := fun h => h0 (List.eq_nil_of_length_eq_zero h)
      have h0b : es[i].isEmpty = false := by simpa using h0
      have h0i : ¬ ((es[i].length : Int) = 0) := by omega
      cases h1 : asc es[i] with
      | false =>
        have hE : edgeOk v es i es[i] = false := by simp [edgeOk, h1]
        rw [h1] at h73; simp (maxSteps := 4000000) (disch := first | omega | (simp only [List.length_map, List.length_append, List.length_cons, List.length_nil, List.length_set, List.length_take, List.length_range] <;> omega) | fail) [hE, loop66x0, hi, h0', h0i, h73]
      | true =>
        rw [h1] at h73
        cases h2 : within es[i] v with
        | false =>
          have hE : edgeOk v es i es[i] = false := by simp [edgeOk, h2]
          rw [h2] at h74; simp (maxSteps := 4000000) (disch := first | omega | (simp only [List.length_map, List.length_append, List.length_cons, List.length_nil, List.length_set, List.length_take, List.length_range] <;> omega) | fail) [hE, loop66x0, hi, h0', h0i, h73, h74]
        | true =>
          rw [h2] at h74
          cases i with
          | zero =>
            have hE : edgeOk v es 0 es[0] = true := by simp [edgeOk, h0b, h1, h2]
            simp (maxSteps := 4000000) (disch := first | omega | (simp only [List.length_map, List.length_append, List.length_cons, List.length_nil, List.length_set, List.length_take, List.length_range] <;> omega) | fail) [hE, loop66x0, hi, h0', h0i, h73, h74]
          | succ i =>
            have hel2 := he es[i] (by simp)
            have h54 := k54 es[i] es[i + 1] (by omega) (by omega)
            have hge := cmpL_ge es[i] es[i + 1]
            have hgd : es.getD (i + 1 - 1) [] = es[i] := by simp [List.getD, show i < es.length by omega]
            generalize cmpL es[i] es[i + 1] = q at h54 hge
            cases h3 : before es[i] es[i + 1] with
            | false =>
              have hE : edgeOk v es (i + 1) es[i + 1] = false := by simp only [edgeOk, hgd, h3]; simp
              rw [h3] at hge
              have hq : 0 ≤ q := by simpa using hge
              simp (maxSteps := 4000000) (disch := first | omega | (simp only [List.length_map, List.length_append, List.length_cons, List.length_nil, List.length_set, List.length_take, List.length_range] <;> omega) | fail) [hE, loop66x0, hi, h0', h0i, h73, h74, h54, hq]
            | true =>
              have hE : edgeOk v es (i + 1) es[i + 1] = true := by simp only [edgeOk, hgd, h0b, h1, h2, h3]; simp
              rw [h3] at hge
              have hq : q < 0 := by simpa using hge
              simp (maxSteps := 4000000) (disch := first | omega | (simp only [List.length_map, List.length_append, List.length_cons, List.length_nil, List.length_set, List.length_take, List.length_range] <;> omega) | fail) [hE, loop66x0, hi, h0', h0i, h73, h74, h54, hq]
theorem l66x1 (hall : (es.zipIdx.any fun x => !edgeOk v es x.2 x.1) = false) (σ : St) (hσ : forget [1, 59, 60, 61] [1] σ = C66x1 es es.length 0 v es) :
    runI tab (.loop [1, 59, 60, 61] [1] loop66x1) σ = some (if (es.zipIdx.any fun x => pairBad es x.2 x.1) then (.ret, stL [(2, .p (.bool false))] [] 2) else (.exit 2, stL [] [] 2)) := by
  refine loop_anyI es (fun i => C66x1 es es.length i v es) (fun i e => pairBad es i e) _ _ (by simp) (by simp) ?_ ?_ σ hσ
  · simp (maxSteps := 4000000) (disch := first | omega | (simp only [List.length_map, List.length_append, List.length_cons, List.length_nil, List.length_set, List.length_take, List.length_range] <;> omega) | fail) [loop66x1]
  · intro i hi
    have hea : asc es[i] = true := by
      rw [List.any_eq_false] at hall
      have := hall (es[i], i) (by rw [List.mem_zipIdx_iff_getElem?]; simp [hi])
      have this : edgeOk v es i es[i] = true := by simpa using this
      simp only [edgeOk, Bool.and_eq_true] at this
      exact this.1.1.2
    have lp := l66x2 v es hes he i es[i] hea (he es[i] (by simp)) hi
    cases hp : pairBad es i es[i] with
    | false => rw [hp] at lp; simp (maxSteps := 4000000) (disch := first | omega | (simp only [List.length_map, List.length_append, List.length_cons, List.length_nil, List.length_set, List.length_take, List.length_range] <;> omega) | (simp; done) | fail) [loop66x1, hi, lp, hp]
    | true => rw [hp] at lp; simp (maxSteps := 4000000) (disch := first | omega | (simp only [List.length_map, List.length_append, List.length_cons, List.length_nil, List.length_set, List.length_take, List.length_range] <;> omega) | (simp; done) | fail) [loop66x1, hi, lp, hp]
theorem k66 : KI tab 66 [.p (.agg [i64s v, i64ss es])] [] = some (.p (.bool (validH v es)), [], []) := by
  have h73 := k73 v (by omega)
  rw [KI_list (F := fun66) rfl]
  unfold validH
  cases h1 : asc v with
  | false => rw [h1] at h73; simp (maxSteps := 4000000) (disch := first | omega | (simp only [List.length_map, List.length_append, List.length_cons, List.length_nil, List.length_set, List.length_take, List.length_range] <;> omega) | (simp; done) | fail) [fun66, body66, h73]
  | true =>
    rw [h1] at h73
    have lp0 := l66x0 v es hv hes he h1
    by_cases h2 : es.length ≤ 20000
    · cases h3 : (es.zipIdx.any fun x => !edgeOk v es x.2 x.1) with
      | true => rw [h3] at lp0; simp (maxSteps := 4000000) (disch := first | omega | (simp only [List.length_map, List.length_append, List.length_cons, List.length_nil, List.length_set, List.length_take, List.length_range] <;> omega) | (simp; done) | fail) [fun66, body66, h73, h2, lp0]
      | false =>
        have lp1 := l66x1 v es hv hes he h3
        rw [h3] at lp0
        cases h4 : (es.zipIdx.any fun x => pairBad es x.2 x.1) with
        | true => rw [h4] at lp1; simp (maxSteps := 4000000) (disch := first | omega | (simp only [List.length_map, List.length_append, List.length_cons, List.length_nil, List.length_set, List.length_take, List.length_range] <;> omega) | (simp; done) | fail) [fun66, body66, h73, h2, lp0, lp1]
        | false => rw [h4] at lp1; simp (maxSteps := 4000000) (disch := first | omega | (simp only [List.length_map, List.length_append, List.length_cons, List.length_nil, List.length_set, List.length_take, List.length_range] <;> omega) | (simp; done) | fail) [fun66, body66, h73, h2, lp0, lp1]
    · simp (maxSteps := 4000000) (disch := first | omega | (simp only [List.length_map, List.length_append, List.length_cons, List.length_nil, List.length_set, List.length_take, List.length_range] <;> omega) | (simp; done) | fail) [fun66, body66, h73, h2]
def errH (v : List Int) (es : List (List Int)) : Int := if !validH v es then 1 else if 40 < v.length then 3 else 0
theorem k41 : KI tab 41 [.p (.agg [i64s v, i64ss es])] [] = some (.p (i64 (errH v es)), [], []) := by
  have h66 := k66 v es hv hes he
  rw [KI_list (F := fun41) rfl]
  unfold errH
  cases h1 : validH v es with
  | false => rw [h1] at h66; simp (maxSteps := 4000000) (disch := first | omega | (simp only [List.length_map, List.length_append, List.length_cons, List.length_nil, List.length_set, List.length_take, List.length_range] <;> omega) | (simp; done) | fail) [fun41, body41, h66]
  | true =>
    rw [h1] at h66
    by_cases h2 : 40 < v.length
    · simp (maxSteps := 4000000) (disch := first | omega | (simp only [List.length_map, List.length_append, List.length_cons, List.length_nil, List.length_set, List.length_take, List.length_range] <;> omega) | (simp; done) | fail) [fun41, body41, h66, h2]
    · simp (maxSteps := 4000000) (disch := first | omega | (simp only [List.length_map, List.length_append, List.length_cons, List.length_nil, List.length_set, List.length_take, List.length_range] <;> omega) | (simp; done) | fail) [fun41, body41, h66, h2]
/-! ### the reference -/
theorem l65x0 (σ : St) (hσ : forget [1, 3] [1] σ = C65x0 0 v es) :
    runI tab (.loop [1, 3] [1] loop65x0) σ = some (if (es.zipIdx.any fun x => !edgeOk v es x.2 x.1 || pairBad es x.2 x.1) then (.ret, stL [(2, .p (.bool false))] [] 2) else (.exit 0, stL [] [] 2)) := by
  refine loop_anyI es (fun i => C65x0 i v es) (fun i e => !edgeOk v es i e || pairBad es i e) _ _ (by simp) (by simp) ?_ ?_ σ hσ
  · simp (maxSteps := 4000000) (disch := first | omega | (simp only [List.length_map, List.length_append, List.length_cons, List.length_nil, List.length_set, List.length_take, List.length_range] <;> omega) | fail) [loop65x0]
  · intro i hi
    have hel := he es[i] (by simp)
    have h50 := k50 es[i] hel
    have h26 := k26 es[i] v hel hv
    have lp := l65x1 v es hes he i hi
    by_cases h0 : es[i] = []
    · rw [h0] at h50 h26
      have hE : edgeOk v es i [] = false := by simp [edgeOk]
      simp (maxSteps := 4000000) (disch := first | omega | (simp only [List.length_map, List.length_append, List.length_cons, List.length_nil, List.length_set, List.length_take, List.length_range] <;> omega) | fail) [loop65x0, hi, h0, hE]
    · have h0' : ¬ (es[i].length = 0) := fun h => h0 (List.eq_nil_of_length_eq_zero h)
      have h0b : es[i].isEmpty = false := by simpa using h0
      have h0i : ¬ ((es[i].length : Int) = 0) := by omega
      cases h1 : asc es[i] with
      | false =>
        have hE : edgeOk v es i es[i] = false := by simp [edgeOk, h1]
        rw [h1] at h50; simp (maxSteps := 4000000) (disch := first | omega | (simp only [List.length_map, List.length_append, List.length_cons, List.length_nil, List.length_set, List.length_take, List.length_range] <;> omega) | fail) [hE, loop65x0, hi, h0', h0i, h50]
      | true =>
        rw [h1] at h50
        cases h2 : within es[i] v with
        | false =>
          have hE : edgeOk v es i es[i] = false := by simp [edgeOk, h2]
          rw [h2] at h26; simp (maxSteps := 4000000) (disch := first | omega | (simp only [List.length_map, List.length_append, List.length_cons, List.length_nil, List.length_set, List.length_take, List.length_range] <;> omega) | fail) [hE, loop65x0, hi, h0', h0i, h50, h26]
        | true =>
          rw [h2] at h26
          cases i with
          | zero =>
            have hE : edgeOk v es 0 es[0] = true := by simp [edgeOk, h0b, h1, h2]
            cases hp : pairBad es 0 es[0] with
            | false => rw [hp] at lp; simp (maxSteps := 4000000) (disch := first | omega | (simp only [List.length_map, List.length_append, List.length_cons, List.length_nil, List.length_set, List.length_take, List.length_range] <;> omega) | (simp; done) | fail) [hE, hp, loop65x0, hi, h0', h0i, h50, h26, lp]
            | true => rw [hp] at lp; simp (maxSteps := 4000000) (disch := first | omega | (simp only [List.length_map, List.length_append, List.length_cons, List.length_nil, List.length_set, List.length_take, List.length_range] <;> omega) | (simp; done) | fail) [hE, hp, loop65x0, hi, h0', h0i, h50, h26, lp]
          | succ i =>
            have hel2 := he es[i] (by simp)
            have h56 := k56 es[i] es[i + 1] hel2 hel
            have hgd : es.getD (i + 1 - 1) [] = es[i] := by simp [List.getD, show i < es.length by omega]
            cases h3 : before es[i] es[i + 1] with
            | false =>
              have hE : edgeOk v es (i + 1) es[i + 1] = false := by simp only [edgeOk, hgd, h3]; simp
              rw [h3] at h56
              simp (maxSteps := 4000000) (disch := first | omega | (simp only [List.length_map, List.length_append, List.length_cons, List.length_nil, List.length_set, List.length_take, List.length_range] <;> omega) | fail) [hE, loop65x0, hi, h0', h0i, h50, h26, h56]
            | true =>
              have hE : edgeOk v es (i + 1) es[i + 1] = true := by simp only [edgeOk, hgd, h0b, h1, h2, h3]; simp
              rw [h3] at h56
              cases hp : pairBad es (i + 1) es[i + 1] with
              | false => rw [hp] at lp; simp only [Int.natCast_add, Int.natCast_one] at lp; simp (maxSteps := 4000000) (disch := first | omega | (simp only [List.length_map, List.length_append, List.length_cons, List.length_nil, List.length_set, List.length_take, List.length_range] <;> omega) | (simp; done) | fail) [hE, hp, loop65x0, hi, h0', h0i, h50, h26, h56, lp]
              | true => rw [hp] at lp; simp only [Int.natCast_add, Int.natCast_one] at lp; simp (maxSteps := 4000000) (disch := first | omega | (simp only [List.length_map, List.length_append, List.length_cons, List.length_nil, List.length_set, List.length_take, List.length_range] <;> omega) | (simp; done) | fail) [hE, hp, loop65x0, hi, h0', h0i, h50, h26, h56, lp]
theorem k65 : KI tab 65 [.p (.agg [i64s v, i64ss es])] [] = some (.p (.bool (validH v es)), [], []) := by
  have h50 := k50 v hv
  have lp := l65x0 v es hv hes he
  have hsplit : ∀ (l : List (List Int × Nat)) (p q : List Int × Nat → Bool), (l.any fun x => p x || q x) = (l.any p || l.any q) := by
    intro l p q
    induction l with
    | nil => rfl
    | cons x r ih => simp only [List.any_cons, ih]; cases p x <;> cases q x <;> simp
  rw [hsplit] at lp
  rw [KI_list (F := fun65) rfl]
  unfold validH
  cases h1 : asc v with
  | false => rw [h1] at h50; simp (maxSteps := 4000000) (disch := first | omega | (simp only [List.length_map, List.length_append, List.length_cons, List.length_nil, List.length_set, List.length_take, List.length_range] <;> omega) | (simp; done) | fail) [fun65, body65, h50]
  | true =>
    rw [h1] at h50
    by_cases h2 : es.length ≤ 20000
    · generalize (es.zipIdx.any fun x => !edgeOk v es x.2 x.1) = a at lp ⊢
      generalize (es.zipIdx.any fun x => pairBad es x.2 x.1) = b at lp ⊢
      cases a <;> cases b <;> simp (maxSteps := 4000000) (disch := first | omega | (simp only [List.length_map, List.length_append, List.length_cons, List.length_nil, List.length_set, List.length_take, List.length_range] <;> omega) | (simp; done) | fail) [fun65, body65, h50, h2, lp]
    · simp (maxSteps := 4000000) (disch := first | omega | (simp only [List.length_map, List.length_append, List.length_cons, List.length_nil, List.length_set, List.length_take, List.length_range] <;> omega) | (simp; done) | fail) [fun65, body65, h50, h2]
theorem k38 : KI tab 38 [.p (.agg [i64s v, i64ss es])] [] = some (.p (i64 (errH v es)), [], []) := by
  have h65 := k65 v es hv hes he
  rw [KI_list (F := fun38) rfl]
  unfold errH
  cases h1 : validH v es with
  | false => rw [h1] at h65; simp (maxSteps := 4000000) (disch := first | omega | (simp only [List.length_map, List.length_append, List.length_cons, List.length_nil, List.length_set, List.length_take, List.length_range] <;> omega) | (simp; done) | fail) [fun38, body38, h65]
  | true =>
    rw [h1] at h65
    by_cases h2 : 40 < v.length
    · simp (maxSteps := 4000000) (disch := first | omega | (simp only [List.length_map, List.length_append, List.length_cons, List.length_nil, List.length_set, List.length_take, List.length_range] <;> omega) | (simp; done) | fail) [fun38, body38, h65, h2]
    · simp (maxSteps := 4000000) (disch := first | omega | (simp only [List.length_map, List.length_append, List.length_cons, List.length_nil, List.length_set, List.length_take, List.length_range] <;> omega) | (simp; done) | fail) [fun38, body38, h65, h2]
end
end Go.Mid
