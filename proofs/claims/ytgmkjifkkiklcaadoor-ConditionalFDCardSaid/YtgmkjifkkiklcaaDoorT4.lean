/- Tools for plain laws: loops step by step, sums, bounds. -/
import Derived.Test.YtgmkjifkkiklcaaDoorN2
import Derived.Test.YtgmkjifkkiklcaaDoorT2
namespace Go.Mid
set_option linter.unusedSimpArgs false
set_option linter.unusedVariables false
section
variable {A B : Type} {f : A → Option (A ⊕ B)}
/-- a loop whose states are known -/
theorem loop_steps (n : Nat) (T : Nat → A) (b : B) (h1 : ∀ i, i < n → f (T i) = some (.inl (T (i + 1)))) (h2 : f (T n) = some (.inr b)) : loopI f (T 0) = some b := by
  have : ∀ k i, i + k = n → loopI f (T i) = some b := by
    intro k
    induction k with
    | zero => intro i hi; obtain rfl : i = n := by omega
              exact loopI_r h2
    | succ k ih => intro i hi; rw [loopI_l (h1 i (by omega))]; exact ih (i + 1) (by omega)
  exact this n 0 (by omega)
end
theorem ble_true {a b : Nat} (h : a ≤ b) : a.ble b = true := Nat.ble_eq_true_of_le h
theorem blt_true {a b : Nat} (h : a < b) : a.blt b = true := Nat.ble_eq_true_of_le h
theorem take_all {α : Type} (l : List α) : l.take l.length = l := List.take_length
theorem take_succ {α : Type} {l : List α} {i : Nat} (h : i < l.length) : l.take (i + 1) = l.take i ++ [l[i]] := List.take_succ_eq_append_getElem h
/-! ### pairs of elements, the first ahead of the second -/
section
variable {α β : Type}
def rowP (Q : α → α → Bool) (g : α → α → β) (l : List α) (j : Nat) : List β := match l[j]? with
  | some r => ((l.drop (j + 1)).filter (Q r)).map (g r)
  | none => []
def pairsI (Q : α → α → Bool) (g : α → α → β) (l : List α) (i : Nat) : List β := (List.range i).flatMap (rowP Q g l)
def pairsOf (Q : α → α → Bool) (g : α → α → β) : List α → List β
  | [] => []
  | r :: l => (l.filter (Q r)).map (g r) ++ pairsOf Q g l
theorem pairsI_succ (Q : α → α → Bool) (g : α → α → β) (l : List α) (i : Nat) : pairsI Q g l (i + 1) = pairsI Q g l i ++ rowP Q g l i := by
  simp [pairsI, List.range_succ]
theorem rowP_get {Q : α → α → Bool} {g : α → α → β} {l : List α} {i : Nat} (h : i < l.length) : rowP Q g l i = ((l.drop (i + 1)).filter (Q l[i])).map (g l[i]) := by
  unfold rowP
  rw [List.getElem?_eq_getElem h]
theorem pairsI_all (Q : α → α → Bool) (g : α → α → β) : ∀ l : List α, pairsI Q g l l.length = pairsOf Q g l
  | [] => rfl
  | r :: l => by
    have : ∀ j, rowP Q g (r :: l) (j + 1) = rowP Q g l j := fun j => by simp [rowP]
    simp only [pairsI, List.length_cons, List.range_succ_eq_map, List.flatMap_cons, pairsOf]
    rw [← pairsI_all Q g l]
    congr 1
    simp only [pairsI, List.flatMap_map, this]
theorem rowP_len (Q : α → α → Bool) (g : α → α → β) (l : List α) (i : Nat) : (rowP Q g l i).length ≤ l.length := by
  unfold rowP
  split
  · rw [List.length_map]
    refine Nat.le_trans (List.length_filter_le ..) ?_
    rw [List.length_drop]; omega
  · exact Nat.zero_le _
theorem pairsI_len (Q : α → α → Bool) (g : α → α → β) (l : List α) : ∀ i, (pairsI Q g l i).length ≤ i * l.length
  | 0 => by simp [pairsI]
  | i + 1 => by
    rw [pairsI_succ, List.length_append]
    have h1 := pairsI_len Q g l i
    have h2 := rowP_len Q g l i
    rw [Nat.add_mul]; omega
theorem pairsOf_filter (L : α → Bool) (Q : α → α → Bool) (g : α → α → β) : ∀ l : List α, pairsOf (fun r s => L r && L s && Q r s) g l = pairsOf Q g (l.filter L)
  | [] => rfl
  | r :: l => by
    simp only [pairsOf, List.filter_cons]
    by_cases h : L r = true
    · simp only [h, Bool.true_and, if_true, pairsOf, List.filter_filter, pairsOf_filter L Q g l]
      congr 3
      funext s
      exact Bool.and_comm _ _
    · simp only [h, Bool.false_and, if_false]
      rw [if_neg (by simp), pairsOf_filter L Q g l]
      simp
end
end Go.Mid
/- Values, names, tables: what the basic functions compute. -/
namespace Go.Mid
set_option linter.unusedSimpArgs false
set_option linter.unusedVariables false
theorem strEq_iff {a b : ByteArray} : strEq a b = true ↔ a = b := by
  unfold strEq
  rw [beq_iff_eq, ByteArray.toList_eq, ByteArray.toList_eq]
  constructor
  · intro h
    cases a; cases b
    congr 1
    exact Array.toList_inj.1 h
  · intro h; rw [h]
theorem strEq_decide (a b : ByteArray) : strEq a b = decide (a = b) := by
  by_cases h : a = b
  · rw [decide_eq_true h, strEq_iff.2 h]
  · rw [decide_eq_false h]
    cases he : strEq a b with
    | false => rfl
    | true => exact absurd (strEq_iff.1 he) h
theorem strEq_comm (a b : ByteArray) : strEq a b = strEq b a := by
  rw [strEq_decide, strEq_decide, decide_eq_decide]
  exact ⟨Eq.symm, Eq.symm⟩
abbrev ValV := Int × Int × ByteArray
abbrev RowV := Int × List ValV
abbrev TabV := ByteArray × List ByteArray × List RowV
/-! ### values -/
def valueOk (x : ValV) : Bool :=
  bif x.1 == 0 then bif x.2.1 == 0 then strEq x.2.2 ⟨#[]⟩ else false
  else bif x.1 == 1 then strEq x.2.2 ⟨#[]⟩
  else bif x.1 == 2 then bif x.2.1 == 0 then decide ((x.2.2.size : Int) ≤ 200) else false
  else bif x.1 == 3 then bif decide (x.2.1 ≥ 1) then strEq x.2.2 ⟨#[]⟩ else false else false
theorem value_Valid_eq (x : ValV) : value_Valid x = some (valueOk x) := by
  unfold value_Valid valueOk
  cases (x.1 == 0) <;> cases (x.1 == 1) <;> cases (x.1 == 2) <;> cases (x.1 == 3) <;> cases (x.2.1 == 0) <;> cases decide (x.2.1 ≥ 1) <;> rfl
theorem validValues_eq (l : List ValV) (hl : l.length ≤ 9223372036854775807) : table_validValues l = some (l.all valueOk) := by
  unfold table_validValues slices_ContainsFunc_sapi_Value_api_Value__table_validValues_1 slices_IndexFunc_sapi_Value_api_Value__table_validValues_1
  have := loop_findI (f := slices_IndexFunc_sapi_Value_api_Value__table_validValues_1_l0) l (fun i => (l, (), (l.length : Int), (i : Int))) (fun _ v => !valueOk v) (fun i => .inl (i : Int)) (.inr ()) (fun i hi => by
    have hi' : (i : Int) < l.length := by omega
    simp only [slices_IndexFunc_sapi_Value_api_Value__table_validValues_1_l0, table_validValues_1, hi', decide_true, cond_true, Int.natCast_nonneg, Int.toNat_natCast, List.getElem?_eq_getElem hi, Option.bind_some, value_Valid_eq, wrap_i64s (show i < 9223372036854775807 by omega)]
    cases valueOk l[i] <;> rfl) (by
    simp only [slices_IndexFunc_sapi_Value_api_Value__table_validValues_1_l0, Int.lt_irrefl, decide_false, cond_false])
  simp only [Int.natCast_zero] at this
  rw [this]
  have h2 : l.any (fun v => !valueOk v) = !l.all valueOk := by rw [List.all_eq_not_any_not]; simp
  rw [← Bool.not_not (l.all valueOk), ← h2, ← findAt_any (fun v => !valueOk v) l 0]
  cases findAt (fun _ v => !valueOk v) l 0 with
  | none => rfl
  | some i => simp
/-! ### names -/
def letterB (c : UInt8) : Bool := (decide (97 ≤ c.toNat) && decide (c.toNat ≤ 122)) || (decide (65 ≤ c.toNat) && decide (c.toNat ≤ 90)) || decide (c.toNat = 95)
def digitB (c : UInt8) : Bool := decide (48 ≤ c.toNat) && decide (c.toNat ≤ 57)
def nullS : ByteArray := ByteArray.mk #[110, 117, 108, 108]
def nameOk (s : ByteArray) : Bool := !strEq s ⟨#[]⟩ && decide (s.size ≤ 24) && !strEq s nullS && (match s.data.toList with | [] => false | c :: r => letterB c && r.all fun c => letterB c || digitB c)
theorem data_size (s : ByteArray) : s.size = s.data.toList.length := by rw [Array.length_toList]; rfl
theorem data_get (s : ByteArray) (i : Nat) (h : i < s.data.toList.length) : s.data[i]? = some s.data.toList[i] := by
  rw [← List.getElem?_eq_getElem h, Array.getElem?_toList]
theorem isName_l0 (s : ByteArray) (i : Nat) (h : i < s.data.toList.length) (hl : s.data.toList.length ≤ 24) : table_isName_l0 (s, (s.data.toList.length : Int), (i : Int)) =
    if (!letterB s.data.toList[i] && (decide (i = 0) || !digitB s.data.toList[i])) then some (.inr (.inl false)) else some (.inl (s, (s.data.toList.length : Int), ((i + 1 : Nat) : Int))) := by
  have hi' : (i : Int) < s.data.toList.length := by omega
  simp only [table_isName_l0, hi', decide_true, cond_true, Int.natCast_nonneg, Int.toNat_natCast, data_get s i h, Option.bind_some, wrap_i64s (show i < 9223372036854775807 by omega)]
  generalize s.data.toList[i] = c
  unfold letterB digitB
  have e0 : ((i : Int) == 0) = decide (i = 0) := by rw [Bool.eq_iff_iff]; simp
  have e5 : ((c.toNat : Int) == 95) = decide (c.toNat = 95) := by rw [Bool.eq_iff_iff]; simp; omega
  simp only [e0, e5, ge_iff_le, gt_iff_lt, show (97 : Int) ≤ c.toNat ↔ 97 ≤ c.toNat by omega, show ((c.toNat : Int) ≤ 122) ↔ c.toNat ≤ 122 by omega, show ((65 : Int) ≤ c.toNat) ↔ 65 ≤ c.toNat by omega, show ((c.toNat : Int) ≤ 90) ↔ c.toNat ≤ 90 by omega,
    show ((c.toNat : Int) < 48) ↔ ¬ 48 ≤ c.toNat by omega, show ((57 : Int) < c.toNat) ↔ ¬ c.toNat ≤ 57 by omega, decide_not]
  cases decide (97 ≤ c.toNat) <;> cases decide (c.toNat ≤ 122) <;> cases decide (65 ≤ c.toNat) <;> cases decide (c.toNat ≤ 90) <;> cases decide (c.toNat = 95) <;> cases decide (i = 0) <;> cases decide (48 ≤ c.toNat) <;> cases decide (c.toNat ≤ 57) <;> rfl
theorem isName_eq (s : ByteArray) : table_isName s = some (nameOk s) := by
  unfold table_isName nameOk
  rw [data_size]
  show (bif strEq s ⟨#[]⟩ then _ else bif _ then _ else bif strEq s nullS then _ else _) = _
  cases h1 : strEq s ⟨#[]⟩
  case true => rfl
  simp only [cond_false, Bool.not_false, Bool.true_and, gt_iff_lt]
  by_cases h2 : (24 : Int) < (s.data.toList.length : Int)
  · have : ¬ s.data.toList.length ≤ 24 := by omega
    simp only [h2, this, decide_true, decide_false, cond_true, Bool.false_and]
  have hl : s.data.toList.length ≤ 24 := by omega
  simp only [h2, decide_false, cond_false, hl, decide_true, Bool.true_and]
  cases h3 : strEq s nullS
  case true => rfl
  simp only [cond_false, Bool.not_false, Bool.true_and]
  have := loop_findI (f := table_isName_l0) s.data.toList (fun i => (s, (s.data.toList.length : Int), (i : Int))) (fun i c => !letterB c && (decide (i = 0) || !digitB c)) (fun _ => .inl false) (.inr ()) (fun i hi => isName_l0 s i hi hl) (by
    simp only [table_isName_l0, Int.lt_irrefl, decide_false, cond_false])
  simp only [Int.natCast_zero] at this
  rw [this]
  generalize hL : s.data.toList = L
  have hne : L ≠ [] := by
    intro h0
    rw [h0] at hL
    have : s = ⟨#[]⟩ := by cases s; congr 1; exact Array.toList_inj.1 hL
    rw [strEq_iff.2 this] at h1
    cases h1
  cases L with
  | nil => exact absurd rfl hne
  | cons c r =>
    simp only [findAt, decide_true, Bool.true_or, Bool.and_true]
    cases hc : letterB c
    · simp
    · simp only [Bool.not_true, Bool.false_eq_true, if_false, Bool.true_and]
      have key : ∀ (r : List UInt8) (k : Nat), 0 < k → (findAt (fun i c => !letterB c && (decide (i = 0) || !digitB c)) r k).isNone = r.all fun c => letterB c || digitB c := by
        intro r
        induction r with
        | nil => intro k _; rfl
        | cons a r ih =>
          intro k hk
          have hk0 : decide (k = 0) = false := decide_eq_false (by omega)
          simp only [findAt, hk0, Bool.false_or, List.all_cons]
          cases ha : letterB a <;> cases hd : digitB a <;> simp [ih (k + 1) (by omega)]
      have := key r (0 + 1) (by omega)
      rw [← this]
      cases findAt (fun i c => !letterB c && (decide (i = 0) || !digitB c)) r (0 + 1) <;> rfl
/-! ### lists of names -/
def hasName (l : List ByteArray) (a : ByteArray) : Bool := l.any fun b => strEq b a
theorem Contains_str_eq (l : List ByteArray) (a : ByteArray) (hl : l.length ≤ 9223372036854775807) : slices_Contains_sstr_str (l, a) = some (hasName l a) := by
  unfold slices_Contains_sstr_str slices_Index_sstr_str hasName
  have := loop_findI (f := slices_Index_sstr_str_l0) l (fun i => (l, a, (l.length : Int), (i : Int))) (fun _ b => strEq b a) (fun i => .inl (i : Int)) (.inr ()) (fun i hi => by
    have hi' : (i : Int) < l.length := by omega
    simp only [slices_Index_sstr_str_l0, hi', decide_true, cond_true, Int.natCast_nonneg, Int.toNat_natCast, List.getElem?_eq_getElem hi, Option.bind_some, strEq_comm a, wrap_i64s (show i < 9223372036854775807 by omega)]
    cases strEq l[i] a <;> rfl) (by
    simp only [slices_Index_sstr_str_l0, Int.lt_irrefl, decide_false, cond_false])
  simp only [Int.natCast_zero] at this
  rw [this, ← findAt_any (fun b => strEq b a) l 0]
  cases findAt (fun _ b => strEq b a) l 0 with
  | none => rfl
  | some i => simp
/-- the names are names, and differ -/
def namesOk : List ByteArray → List ByteArray → Bool
  | _, [] => true
  | p, a :: r => nameOk a && !hasName p a && namesOk (p ++ [a]) r
theorem names_loop {B : Type} (bad good : B) (L : List ByteArray) : ∀ (l : List ByteArray) (i : Nat), L.drop i = l → i ≤ L.length →
    runL (S := Unit) (fun i _ a => if (!nameOk a || hasName (L.take i) a) = true then some (.inr bad) else some (.inl ())) (fun _ => some good) l i () = some (if namesOk (L.take i) l then good else bad) := by
  intro l
  induction l with
  | nil => intro i _ _; rfl
  | cons a r ih =>
    intro i hd hi
    have hi' : i < L.length := by
      have := congrArg List.length hd
      simp at this; omega
    have hx : L[i] = a ∧ L.drop (i + 1) = r := by
      rw [List.drop_eq_getElem_cons hi'] at hd
      exact List.cons.inj hd
    have ht : L.take (i + 1) = L.take i ++ [a] := by rw [List.take_succ_eq_append_getElem hi', hx.1]
    simp only [runL, namesOk]
    rcases Bool.eq_false_or_eq_true (nameOk a) with h1 | h1 <;> rcases Bool.eq_false_or_eq_true (hasName (L.take i) a) with h2 | h2 <;> simp only [h1, h2, Bool.not_true, Bool.not_false, Bool.or_true, Bool.or_false, Bool.and_true, Bool.and_false, Bool.true_and, Bool.false_and, Bool.false_eq_true, if_true, if_false]
    rw [ih (i + 1) hx.2 hi', ht]
/-! ### tables -/
/-- the error of the rows: 0, 1 or 6 -/
def rowsE (n : Nat) : Int → List RowV → Int
  | _, [] => 0
  | p, r :: l => if r.1 ≤ p then 1 else if r.2.length ≠ n then 6 else if r.2.all valueOk then rowsE n r.1 l else 1
def tabE (t : TabV) : Int := if nameOk t.1 then (if t.2.1.length > 16 then 3 else if t.2.2.length > 1000 then 3 else if namesOk [] t.2.1 then rowsE t.2.1.length 0 t.2.2 else 1) else 1
/-- lengths that Go has -/
def lenT (t : TabV) : Prop := ∀ r ∈ t.2.2, r.2.length ≤ 9223372036854775807
theorem rows_loop {B : Type} (b : Int → B) (n : Nat) : ∀ (l : List RowV) (i : Nat) (p : Int),
    runL (S := Int) (fun _ p r => if r.1 ≤ p then some (.inr (b 1)) else if r.2.length ≠ n then some (.inr (b 6)) else if r.2.all valueOk then some (.inl r.1) else some (.inr (b 1))) (fun _ => some (b 0)) l i p = some (b (rowsE n p l)) := by
  intro l
  induction l with
  | nil => intro i p; rfl
  | cons r l ih =>
    intro i p
    simp only [runL, rowsE]
    by_cases h1 : r.1 ≤ p
    · simp [h1]
    by_cases h2 : r.2.length ≠ n
    · simp [h1, h2]
    by_cases h3 : r.2.all valueOk = true
    · simp only [h1, h2, h3, if_false, if_true, ih]
    · simp only [h1, h2, h3, if_false]; rfl
theorem len_ne (a b : Nat) : ((a : Int) != (b : Int)) = decide (a ≠ b) := by
  rw [Bool.eq_iff_iff]; simp; omega
theorem table_Valid_eq (t : TabV) (h : lenT t) : table_Valid t = some (tabE t) := by
  obtain ⟨nm, as, rs⟩ := t
  unfold table_Valid tabE
  simp only [isName_eq, Option.bind_some, gt_iff_lt]
  cases hn : nameOk nm
  · rfl
  simp only [Bool.not_true, cond_false, if_true]
  by_cases h1 : (16 : Int) < (as.length : Int)
  · have : 16 < as.length := by omega
    simp [h1, this]
  have h1' : ¬ 16 < as.length := by omega
  by_cases h2 : (1000 : Int) < (rs.length : Int)
  · have : 1000 < rs.length := by omega
    simp [h1, h2, h1', this]
  have h2' : ¬ 1000 < rs.length := by omega
  simp only [h1, h2, h1', h2', decide_false, cond_false, if_false]
  have e1 := loop_listI (S := Unit) (f := table_Valid_l0) as (fun i _ => ((as, (as.length : Int), (i : Int)), nm, as, rs)) (fun i _ a => if (!nameOk a || hasName (as.take i) a) = true then some (.inr (.inl 1)) else some (.inl ())) (fun _ => some (.inr (nm, as, rs))) (fun i hi _ => by
    have hi' : (i : Int) < as.length := by omega
    have hb : i.ble as.length = true := Nat.ble_eq_true_of_le (by omega)
    have ha := Contains_str_eq (as.take i) as[i] (by rw [List.length_take]; omega)
    simp only [table_Valid_l0, hi', decide_true, cond_true, Int.natCast_nonneg, Int.toNat_natCast, List.getElem?_eq_getElem hi, Option.bind_some, isName_eq, hb, ha, wrap_i64s (show i < 9223372036854775807 by omega)]
    cases nameOk as[i] <;> cases hasName (as.take i) as[i] <;> rfl) (fun _ => by
    simp only [table_Valid_l0, Int.lt_irrefl, decide_false, cond_false]; rfl) ()
  have e2 := loop_listI (S := Int) (f := table_Valid_l1) rs (fun i p => ((p, rs, (rs.length : Int), (i : Int)), nm, as, rs)) (fun _ p r => if r.1 ≤ p then some (.inr (.inl 1)) else if r.2.length ≠ as.length then some (.inr (.inl 6)) else if r.2.all valueOk then some (.inl r.1) else some (.inr (.inl 1))) (fun _ => some (.inr ())) (fun i hi p => by
    have hi' : (i : Int) < rs.length := by omega
    have hr := h rs[i] (List.getElem_mem hi)
    simp only [table_Valid_l1, hi', decide_true, cond_true, Int.natCast_nonneg, Int.toNat_natCast, List.getElem?_eq_getElem hi, Option.bind_some, validValues_eq _ hr, len_ne, wrap_i64s (show i < 9223372036854775807 by omega)]
    by_cases c1 : (rs[i]).1 ≤ p
    · simp [c1]
    by_cases c2 : (rs[i]).2.length ≠ as.length
    · simp [c1, c2]
    cases c3 : (rs[i]).2.all valueOk <;> simp [c1, c2, c3]) (fun p => by
    simp only [table_Valid_l1, Int.lt_irrefl, decide_false, cond_false]; rfl) 0
  simp only [Int.natCast_zero] at e1 e2
  rw [e1, names_loop (B := Int ⊕ TabV) (.inl 1) (.inr (nm, as, rs)) as as 0 rfl (Nat.zero_le _)]
  simp only [List.take_zero]
  by_cases hno : namesOk [] as = true
  case neg => simp [hno]
  simp only [hno, if_true, Option.bind_some, Sum.elim_inr]
  rw [e2]
  have := rows_loop (B := Int ⊕ PUnit) (fun e => if e = 0 then .inr () else .inl e) as.length rs 0 0
  simp only [show (1 : Int) ≠ 0 by decide, show (6 : Int) ≠ 0 by decide, if_false, if_true] at this
  rw [this]
  by_cases h0 : rowsE as.length 0 rs = 0
  · simp [h0]
  · simp [h0]
end Go.Mid
/- Valid dependencies: the plain form. -/
namespace Go.Mid
set_option linter.unusedSimpArgs false
set_option linter.unusedVariables false
abbrev CellV := Bool × Int × Int × ByteArray
def zeroV (x : Int × Int × ByteArray) : Bool := x.1 == 0 && (x.2.1 == 0 && strEq x.2.2 ⟨#[]⟩)
/-- an entry of a pattern is wrong -/
def cellBad (c : CellV) : Bool := bif c.1 then !zeroV c.2 else !valueOk c.2
theorem zero_ok {x : Int × Int × ByteArray} (h : zeroV x = true) : valueOk x = true := by
  simp only [zeroV, Bool.and_eq_true] at h
  simp only [valueOk, h.1, h.2.1, h.2.2, cond_true]
theorem Valid_1_eq (c : CellV) : conditional_Valid_1 c = some (cellBad c) := by
  unfold conditional_Valid_1 cellBad
  rw [value_Valid_eq]
  show (bif c.1 then bif !zeroV c.2 then some true else _ else _) = _
  cases c.1 <;> cases zeroV c.2 <;> simp
theorem patLoop (l : List CellV) (hl : l.length ≤ 9223372036854775807) : slices_ContainsFunc_sapi_Cell_api_Cell__conditional_Valid_1 (l, ()) = some (l.any cellBad) := by
  unfold slices_ContainsFunc_sapi_Cell_api_Cell__conditional_Valid_1 slices_IndexFunc_sapi_Cell_api_Cell__conditional_Valid_1
  have := loop_findI (f := slices_IndexFunc_sapi_Cell_api_Cell__conditional_Valid_1_l0) l (fun i => (l, (), (l.length : Int), (i : Int))) (fun _ c => cellBad c) (fun i => .inl (i : Int)) (.inr ()) (fun i hi => by
    have hi' : (i : Int) < l.length := by omega
    simp only [slices_IndexFunc_sapi_Cell_api_Cell__conditional_Valid_1_l0, hi', decide_true, cond_true, Int.natCast_nonneg, Int.toNat_natCast, List.getElem?_eq_getElem hi, Option.bind_some, Valid_1_eq, wrap_i64s (show i < 9223372036854775807 by omega)]
    cases cellBad l[i] <;> rfl) (by
    simp only [slices_IndexFunc_sapi_Cell_api_Cell__conditional_Valid_1_l0, Int.lt_irrefl, decide_false, cond_false])
  simp only [Int.natCast_zero] at this
  rw [this, ← findAt_any cellBad l 0]
  cases findAt (fun _ c => cellBad c) l 0 with
  | none => rfl
  | some i => simp
/-- the left side ascends, within the range, without the right side -/
def ascOk (n r : Int) : Int → List Int → Bool
  | _, [] => true
  | p, a :: l => !(decide (a ≤ p) || decide (a ≥ n) || a == r) && ascOk n r a l
theorem lhsLoop (n : Int) (X : List Int × Int × List CellV) (hl : X.1.length ≤ 9223372036854775807) : loopI conditional_Valid_l0 ((n, -1, X.1, (X.1.length : Int), 0), X) = some (if ascOk n X.2.1 (-1) X.1 then .inr X else .inl false) := by
  have := loop_listI (f := conditional_Valid_l0) X.1 (fun i (p : Int) => ((n, p, X.1, (X.1.length : Int), (i : Int)), X)) (fun _ p a => if (decide (a ≤ p) || decide (a ≥ n) || a == X.2.1) = true then some (.inr (.inl false)) else some (.inl a)) (fun _ => some (.inr X)) (fun i hi p => by
    have hi' : (i : Int) < X.1.length := by omega
    simp only [conditional_Valid_l0, hi', decide_true, cond_true, Int.natCast_nonneg, Int.toNat_natCast, List.getElem?_eq_getElem hi, Option.bind_some, wrap_i64s (show i < 9223372036854775807 by omega)]
    generalize X.1[i] = a
    cases decide (a ≤ p) <;> cases decide (a ≥ n) <;> cases (a == X.2.1) <;> rfl) (fun p => by
    simp only [conditional_Valid_l0, Int.lt_irrefl, decide_false, cond_false]; rfl) (-1)
  simp only [Int.natCast_zero] at this
  rw [this]
  have key : ∀ (l : List Int) (i : Nat) (p : Int), runL (B := Bool ⊕ List Int × Int × List CellV) (fun _ p a => if (decide (a ≤ p) || decide (a ≥ n) || a == X.2.1) = true then some (.inr (.inl false)) else some (.inl a)) (fun _ => some (.inr X)) l i p = some (if ascOk n X.2.1 p l then .inr X else .inl false) := by
    intro l
    induction l with
    | nil => intro i p; rfl
    | cons a r ih =>
      intro i p
      simp only [runL, ascOk]
      by_cases h : (decide (a ≤ p) || decide (a ≥ n) || a == X.2.1) = true
      · simp [h]
      · simp only [h, if_false, ih]; simp
  exact key X.1 0 (-1)
theorem wrap_len (X : List Int × Int × List CellV) (h1 : X.1.length ≤ 9223372036854775807) (h2 : X.2.2.length ≤ 9223372036854775807) : ((X.2.2.length : Int) != IntKind.i64.wrap ((X.1.length : Int) + 1)) = ((X.2.2.length : Int) != ((X.1.length + 1 : Nat) : Int)) := by
  by_cases h : X.1.length < 9223372036854775807
  · rw [wrap_i64s h]
  · have e : X.1.length = 9223372036854775807 := by omega
    have e2 : IntKind.i64.wrap ((X.1.length : Int) + 1) = -9223372036854775808 := by rw [e]; rfl
    have a : ((X.2.2.length : Int) != IntKind.i64.wrap ((X.1.length : Int) + 1)) = true := by rw [e2, bne_iff_ne]; omega
    have b : ((X.2.2.length : Int) != ((X.1.length + 1 : Nat) : Int)) = true := by rw [bne_iff_ne]; omega
    rw [a, b]
def validC (n : Int) (X : List Int × Int × List CellV) : Bool :=
  !(decide (n < 0)) && !(decide (n > 16)) && !(decide (X.2.1 < 0)) && !(decide (X.2.1 ≥ n)) && !((X.2.2.length : Int) != ((X.1.length + 1 : Nat) : Int)) && ascOk n X.2.1 (-1) X.1 && !X.2.2.any cellBad
theorem conditional_Valid_eq (n : Int) (X : List Int × Int × List CellV) (h1 : X.1.length ≤ 9223372036854775807) (h2 : X.2.2.length ≤ 9223372036854775807) : conditional_Valid (n, X) = some (validC n X) := by
  unfold conditional_Valid validC
  simp only [wrap_len X h1 h2, lhsLoop n X h1]
  cases decide (n < 0) <;> cases decide (n > 16) <;> cases decide (X.2.1 < 0) <;> cases decide (X.2.1 ≥ n) <;> cases ((X.2.2.length : Int) != ((X.1.length + 1 : Nat) : Int)) <;> simp
  by_cases h : ascOk n X.2.1 (-1) X.1 = true
  · simp [h, patLoop X.2.2 h2]
  · simp [h]
end Go.Mid
/- Comparison of values: the plain form. -/
namespace Go.Mid
set_option linter.unusedSimpArgs false
set_option linter.unusedVariables false
def sgn (x y : Int) : Int := if x < y then -1 else if x > y then 1 else 0
theorem sgn_eq0 {x y : Int} : sgn x y = 0 ↔ x = y := by
  unfold sgn
  split
  · constructor <;> intro h <;> omega
  · split <;> constructor <;> intro h <;> omega
theorem sign_eq (x y : Int) : drossref01_sign (x, y) = some (sgn x y) := by
  unfold drossref01_sign sgn
  by_cases h1 : x < y <;> by_cases h2 : x > y <;> simp [h1, h2]
/-- the order of strings, byte by byte -/
def cmpL : List UInt8 → List UInt8 → Int
  | [], [] => 0
  | [], _ :: _ => -1
  | _ :: _, [] => 1
  | x :: r, y :: q => if x = y then cmpL r q else sgn x.toNat y.toNat
theorem u8_toNat_inj {x y : UInt8} (h : x.toNat = y.toNat) : x = y := UInt8.toNat_inj.1 h
theorem cmpL_eq0 : ∀ {a b : List UInt8}, cmpL a b = 0 ↔ a = b
  | [], [] => by simp [cmpL]
  | [], _ :: _ => by simp [cmpL]
  | _ :: _, [] => by simp [cmpL]
  | x :: r, y :: q => by
    simp only [cmpL]
    by_cases h : x = y
    · subst h; simp [cmpL_eq0 (a := r) (b := q)]
    · rw [if_neg h, sgn_eq0]
      constructor
      · intro h'; exact absurd (u8_toNat_inj (by omega)) h
      · intro h'; cases h'; rfl
def cmpS (a b : ByteArray) : Int := cmpL a.data.toList b.data.toList
theorem strs_eq (a b : ByteArray) (ha : a.size ≤ 9223372036854775807) (hb : b.size ≤ 9223372036854775807) : drossref01_strs (a, b) = some (cmpS a b) := by
  unfold drossref01_strs cmpS
  rw [data_size] at ha hb
  have hz : (a.data.toList.zip b.data.toList).length = min a.data.toList.length b.data.toList.length := List.length_zip
  have := loop_listI (S := Unit) (f := drossref01_strs_l0) (a.data.toList.zip b.data.toList) (fun i _ => (a, b, (i : Int))) (fun _ _ p => if p.1 = p.2 then some (.inl ()) else some (.inr (.inl (sgn p.1.toNat p.2.toNat)))) (fun _ => some (.inr (a, b))) (fun i hi _ => by
    have ha' : i < a.data.toList.length := by omega
    have hb' : i < b.data.toList.length := by omega
    have h1 : (i : Int) < a.size := by rw [data_size]; omega
    have h2 : (i : Int) < b.size := by rw [data_size]; omega
    have hg : (a.data.toList.zip b.data.toList)[i] = (a.data.toList[i], b.data.toList[i]) := List.getElem_zip
    rw [hg]
    simp only [drossref01_strs_l0, h1, h2, decide_true, cond_true, Int.natCast_nonneg, Int.toNat_natCast, data_get a i ha', data_get b i hb', Option.bind_some, wrap_i64s (show i < 9223372036854775807 by omega)]
    generalize a.data.toList[i] = x
    generalize b.data.toList[i] = y
    have wx : IntKind.i64.wrap (x.toNat : Int) = (x.toNat : Int) := wrap_i64n (by have := x.toNat_lt; omega)
    have wy : IntKind.i64.wrap (y.toNat : Int) = (y.toNat : Int) := wrap_i64n (by have := y.toNat_lt; omega)
    by_cases h : x = y
    · subst h
      have : ((x.toNat : Int) != (x.toNat : Int)) = false := by simp
      simp [this]
    · have : ((x.toNat : Int) != (y.toNat : Int)) = true := by
        rw [bne_iff_ne]; intro e; exact h (u8_toNat_inj (by omega))
      simp only [this, cond_true, wx, wy, sign_eq, Option.bind_some, h, if_false, Option.map_some, Sum.map_inr, id]) (fun _ => by
    by_cases h1 : a.data.toList.length ≤ b.data.toList.length
    · have : ¬ (((a.data.toList.zip b.data.toList).length : Nat) : Int) < a.size := by rw [data_size]; omega
      simp only [drossref01_strs_l0, this, decide_false, cond_false]; rfl
    · have h2 : ((((a.data.toList.zip b.data.toList).length : Nat) : Int) < a.size) := by rw [data_size]; omega
      have : ¬ (((a.data.toList.zip b.data.toList).length : Nat) : Int) < b.size := by rw [data_size]; omega
      simp only [drossref01_strs_l0, h2, this, decide_true, decide_false, cond_true, cond_false]; rfl) ()
  simp only [Int.natCast_zero] at this
  rw [this]
  have key : ∀ (l m : List UInt8) (i : Nat), (runL (S := Unit) (B := Int ⊕ ByteArray × ByteArray) (fun _ _ (p : UInt8 × UInt8) => if p.1 = p.2 then some (.inl ()) else some (.inr (.inl (sgn p.1.toNat p.2.toNat)))) (fun _ => some (.inr (a, b))) (l.zip m) i ()).bind (fun p => Sum.elim (fun q => some q) (fun r => (drossref01_sign ((r.1.size : Int), (r.2.size : Int))).bind fun s => some s) p) =
      some (match l, m with | l, m => if (l.zip m).all (fun p => decide (p.1 = p.2)) then sgn a.size b.size else cmpL l m) := by
    intro l
    induction l with
    | nil => intro m i; simp [runL, sign_eq]
    | cons x r ih =>
      intro m i
      cases m with
      | nil => simp [runL, sign_eq]
      | cons y q =>
        simp only [List.zip_cons_cons, runL, List.all_cons, cmpL]
        by_cases h : x = y
        · simp only [h, if_true, decide_true, Bool.true_and]
          exact ih q (i + 1)
        · simp [h]
  have k2 : ∀ (l m : List UInt8), (l.zip m).all (fun p => decide (p.1 = p.2)) = true → cmpL l m = sgn l.length m.length := by
    intro l
    induction l with
    | nil => intro m _; cases m <;> simp [cmpL, sgn]
    | cons x r ih =>
      intro m h
      cases m with
      | nil => simp [cmpL, sgn]; omega
      | cons y q =>
        simp only [List.zip_cons_cons, List.all_cons, Bool.and_eq_true, decide_eq_true_eq] at h
        simp only [cmpL, h.1, if_true]
        rw [ih q h.2]
        unfold sgn
        simp only [List.length_cons]
        by_cases c1 : (r.length : Int) < q.length
        · have : ((r.length + 1 : Nat) : Int) < ((q.length + 1 : Nat) : Int) := by omega
          simp [c1, this]
        · by_cases c2 : (r.length : Int) > q.length
          · have h1 : ¬ ((r.length + 1 : Nat) : Int) < ((q.length + 1 : Nat) : Int) := by omega
            have h2 : ((r.length + 1 : Nat) : Int) > ((q.length + 1 : Nat) : Int) := by omega
            rw [if_neg c1, if_pos c2, if_neg h1, if_pos h2]
          · have h1 : ¬ ((r.length + 1 : Nat) : Int) < ((q.length + 1 : Nat) : Int) := by omega
            have h2 : ¬ ((r.length + 1 : Nat) : Int) > ((q.length + 1 : Nat) : Int) := by omega
            rw [if_neg c1, if_neg c2, if_neg h1, if_neg h2]
  rw [key a.data.toList b.data.toList 0]
  simp only
  split
  · rename_i h
    rw [k2 _ _ h, data_size, data_size]
  · rfl
/-- the order of values -/
def cmpV (a b : ValV) : Int := if sgn a.1 b.1 ≠ 0 then sgn a.1 b.1 else if sgn a.2.1 b.2.1 ≠ 0 then sgn a.2.1 b.2.1 else cmpS a.2.2 b.2.2
theorem cmpS_eq0 {a b : ByteArray} : cmpS a b = 0 ↔ a = b := by
  unfold cmpS
  rw [cmpL_eq0]
  constructor
  · intro h; cases a; cases b; congr 1; exact Array.toList_inj.1 h
  · intro h; rw [h]
theorem cmpV_eq0 {a b : ValV} : cmpV a b = 0 ↔ a = b := by
  obtain ⟨k, n, s⟩ := a
  obtain ⟨k', n', s'⟩ := b
  unfold cmpV
  simp only [Prod.mk.injEq]
  by_cases h1 : k = k'
  · by_cases h2 : n = n'
    · rw [sgn_eq0.2 h1, sgn_eq0.2 h2]; simp [cmpS_eq0, h1, h2]
    · have : sgn n n' ≠ 0 := fun h => h2 (sgn_eq0.1 h)
      simp [sgn_eq0.2 h1, this, h2]
  · have : sgn k k' ≠ 0 := fun h => h1 (sgn_eq0.1 h)
    simp [this, h1]
def lenV (v : ValV) : Prop := v.2.2.size ≤ 9223372036854775807
theorem Compare_eq (a b : ValV) (ha : lenV a) (hb : lenV b) : drossref01_Compare (a, b) = some (cmpV a b) := by
  unfold drossref01_Compare cmpV
  simp only [sign_eq, Option.bind_some, strs_eq _ _ ha hb]
  by_cases h1 : sgn a.1 b.1 = 0
  · have : (sgn a.1 b.1 != 0) = false := by simp [h1]
    simp only [this, cond_false, h1, ne_eq, not_true_eq_false, if_false]
    by_cases h2 : sgn a.2.1 b.2.1 = 0
    · have : ((0 : Int) != 0) = false := by simp
      simp only [this, cond_false, h2, not_true_eq_false, if_false]
    · have : (sgn a.2.1 b.2.1 != 0) = true := by simp [h2]
      have h0 : ((0 : Int) != 0) = false := by simp
      simp only [this, h0, cond_false, cond_true, h2, not_false_eq_true, if_true]
  · have : (sgn a.1 b.1 != 0) = true := by simp [h1]
    simp only [this, cond_true, ne_eq, h1, not_false_eq_true, if_true]
def eqV' (a b : ValV) : Bool := a.1 == b.1 && (a.2.1 == b.2.1 && strEq a.2.2 b.2.2)
theorem eqV'_iff {a b : ValV} : eqV' a b = true ↔ a = b := by
  obtain ⟨k, n, s⟩ := a
  obtain ⟨k', n', s'⟩ := b
  simp [eqV', strEq_iff]
/-- values that are valid have lengths that Go has -/
theorem lenV_ok {v : ValV} (h : valueOk v = true) : lenV v := by
  unfold valueOk at h
  unfold lenV
  have e0 : ∀ s : ByteArray, strEq s ⟨#[]⟩ = true → s.size ≤ 9223372036854775807 := fun s hs => by
    rw [strEq_iff.1 hs]; exact Nat.zero_le _
  cases c0 : (v.1 == 0) <;> cases c1 : (v.1 == 1) <;> cases c2 : (v.1 == 2) <;> cases c3 : (v.1 == 3) <;> cases c4 : (v.2.1 == 0) <;> cases c5 : decide (v.2.1 ≥ 1) <;>
    simp [c0, c1, c2, c3, c4, c5] at h <;> first | exact e0 _ h | omega
end Go.Mid
/- Violations of a conditional dependency: the plain form of both sides. -/
namespace Go.Mid
set_option linter.unusedSimpArgs false
set_option linter.unusedVariables false
abbrev CfdV := List Int × Int × List CellV
def v0 : ValV := (0, 0, ⟨#[]⟩)
def at' (r : List ValV) (a : Int) : ValV := r.getD a.toNat v0
theorem at_get {r : List ValV} {n : Nat} {a : Int} (hr : r.length = n) (h0 : 0 ≤ a) (hn : a < n) : r[a.toNat]? = some (at' r a) := by
  have h : a.toNat < r.length := by omega
  unfold at'
  rw [List.getD, List.getElem?_eq_getElem h]
  rfl
/-- what is needed of a dependency -/
structure WfC (n : Nat) (c : CfdV) : Prop where
  len : c.2.2.length = c.1.length + 1
  rhs0 : 0 ≤ c.2.1
  rhs : c.2.1 < n
  lhs : ∀ a ∈ c.1, 0 ≤ a ∧ a < n
  small : c.1.length ≤ 16
  val : ∀ p ∈ c.2.2, valueOk p.2 = true
theorem ascOk_mem {n r : Int} : ∀ {l : List Int} {p : Int}, -1 ≤ p → ascOk n r p l = true → ∀ a ∈ l, p < a ∧ a < n
  | [], p, _, _, a, ha => by cases ha
  | b :: l, p, hp, h, a, ha => by
    simp only [ascOk, Bool.and_eq_true, Bool.not_eq_true', Bool.or_eq_false_iff, decide_eq_false_iff_not] at h
    rcases List.mem_cons.1 ha with rfl | ha
    · omega
    · have := ascOk_mem (p := b) (by omega) h.2 a ha; omega
theorem ascOk_len {n r : Int} : ∀ {l : List Int} {p : Int}, -1 ≤ p → ascOk n r p l = true → (l.length : Int) ≤ max 0 (n - 1 - p)
  | [], p, _, _ => by simp; omega
  | b :: l, p, hp, h => by
    have hb := ascOk_mem hp h b (by simp)
    simp only [ascOk, Bool.and_eq_true] at h
    have := ascOk_len (p := b) (by omega) h.2
    simp only [List.length_cons]
    omega
theorem wfC_of {n : Nat} {c : CfdV} (h : validC n c = true) : WfC n c := by
  simp only [validC, Bool.and_eq_true, Bool.not_eq_true', decide_eq_false_iff_not] at h
  obtain ⟨⟨⟨⟨⟨⟨h1, h2⟩, h3⟩, h4⟩, h5⟩, h6⟩, h7⟩ := h
  refine ⟨by have : ((c.2.2.length : Int) != ((c.1.length + 1 : Nat) : Int)) = false := h5
             rw [bne_eq_false_iff_eq] at this; omega, by omega, by omega, fun a ha => by have := ascOk_mem (by omega) h6 a ha; omega, ?_, ?_⟩
  · have := ascOk_len (by omega) h6; omega
  · intro p hp
    have : cellBad p = false := by
      cases hc : cellBad p with
      | false => rfl
      | true => rw [List.any_eq_true.2 ⟨p, hp, hc⟩] at h7; cases h7
    unfold cellBad at this
    cases h1 : p.1
    · rw [h1] at this; simpa using this
    · rw [h1] at this; exact zero_ok (by simpa using this)
/-! ### one row -/
def fitsB (p : CellV) (v : ValV) : Bool := p.1 || eqV' p.2 v
theorem fits_eq (p : CellV) (v : ValV) : conditional_fits (p, v) = some (fitsB p v) := by
  unfold conditional_fits fitsB eqV'
  cases p.1 <;> rfl
def leftB (c : CfdV) (r : List ValV) : Bool := (c.1.zip c.2.2).all fun ap => fitsB ap.2 (at' r ap.1)
theorem left_eq {n : Nat} {c : CfdV} {r : List ValV} (hc : WfC n c) (hr : r.length = n) : conditional_left (c, r) = some (leftB c r) := by
  unfold conditional_left leftB
  have hz : (c.1.zip c.2.2).length = c.1.length := by rw [List.length_zip, hc.len]; omega
  have hs := hc.small
  have := loop_anyP (f := conditional_left_l0) (c.1.zip c.2.2) (fun i => ((r, c.1, (c.1.length : Int), (i : Int)), c)) (fun ap => !fitsB ap.2 (at' r ap.1)) (.inl false) (.inr ()) (fun i hi => by
    have h1 : i < c.1.length := by omega
    have h2 : i < c.2.2.length := by rw [hc.len]; omega
    have hi' : (i : Int) < c.1.length := by omega
    have ha := hc.lhs c.1[i] (List.getElem_mem h1)
    simp only [conditional_left_l0, hi', decide_true, cond_true, Int.natCast_nonneg, Int.toNat_natCast, List.getElem?_eq_getElem h1, List.getElem?_eq_getElem h2, Option.bind_some, ha.1, at_get hr ha.1 ha.2, fits_eq, List.getElem_zip, wrap_i64s (show i < 9223372036854775807 by omega)]
    cases fitsB c.2.2[i] (at' r c.1[i]) <;> rfl) (by
    simp only [conditional_left_l0, hz, Int.lt_irrefl, decide_false, cond_false])
  simp only [Int.natCast_zero] at this
  rw [this, List.all_eq_not_any_not]
  cases (c.1.zip c.2.2).any (fun ap => !fitsB ap.2 (at' r ap.1)) <;> rfl
def okR (r : List ValV) : Prop := ∀ v ∈ r, valueOk v = true
theorem lenV_at {r : List ValV} {n : Nat} {a : Int} (ho : okR r) (hr : r.length = n) (h0 : 0 ≤ a) (hn : a < n) : lenV (at' r a) := by
  have h : a.toNat < r.length := by omega
  have : at' r a = r[a.toNat] := by unfold at'; rw [List.getD, List.getElem?_eq_getElem h]; rfl
  rw [this]
  exact lenV_ok (ho _ (List.getElem_mem h))
def rightP (c : CfdV) : CellV := c.2.2.getD c.1.length (false, v0)
theorem right_get {n : Nat} {c : CfdV} (hc : WfC n c) : c.2.2[c.1.length]? = some (rightP c) := by
  have h : c.1.length < c.2.2.length := by rw [hc.len]; omega
  unfold rightP
  rw [List.getD, List.getElem?_eq_getElem h]
  rfl
theorem right_eq {n : Nat} {c : CfdV} (hc : WfC n c) : conditional_right c = some (rightP c) := by
  unfold conditional_right
  simp only [Int.natCast_nonneg, decide_true, cond_true, Int.toNat_natCast, right_get hc, Option.bind_some]
def aloneB (c : CfdV) (r : List ValV) : Bool := leftB c r && !fitsB (rightP c) (at' r c.2.1)
/-! ### two rows -/
def agreeB (c : CfdV) (r s : List ValV) : Bool := c.1.all fun a => eqV' (at' r a) (at' s a)
def differB (c : CfdV) (r s : List ValV) : Bool := !eqV' (at' r c.2.1) (at' s c.2.1) && agreeB c r s
theorem pair_eq {n : Nat} {c : CfdV} {r s : List ValV} (hc : WfC n c) (hr : r.length = n) (hs : s.length = n) : conditional_pair (c, r, s) = some (differB c r s) := by
  unfold conditional_pair differB agreeB
  have hsm := hc.small
  have hl : slices_ContainsFunc_sint_int__conditional_pair_1 (c.1, r, s) = some (!(c.1.all fun a => eqV' (at' r a) (at' s a))) := by
    unfold slices_ContainsFunc_sint_int__conditional_pair_1 slices_IndexFunc_sint_int__conditional_pair_1
    have := loop_findI (f := slices_IndexFunc_sint_int__conditional_pair_1_l0) c.1 (fun i => (c.1, (r, s), (c.1.length : Int), (i : Int))) (fun _ a => !eqV' (at' r a) (at' s a)) (fun i => .inl (i : Int)) (.inr ()) (fun i hi => by
      have hi' : (i : Int) < c.1.length := by omega
      have ha := hc.lhs c.1[i] (List.getElem_mem hi)
      simp only [slices_IndexFunc_sint_int__conditional_pair_1_l0, conditional_pair_1, hi', decide_true, cond_true, Int.natCast_nonneg, Int.toNat_natCast, List.getElem?_eq_getElem hi, Option.bind_some, ha.1, at_get hr ha.1 ha.2, at_get hs ha.1 ha.2, wrap_i64s (show i < 9223372036854775807 by omega)]
      show (bif !eqV' (at' r c.1[i]) (at' s c.1[i]) then _ else _) = _
      cases eqV' (at' r c.1[i]) (at' s c.1[i]) <;> rfl) (by
      simp only [slices_IndexFunc_sint_int__conditional_pair_1_l0, Int.lt_irrefl, decide_false, cond_false])
    simp only [Int.natCast_zero] at this
    have h2 : c.1.any (fun a => !eqV' (at' r a) (at' s a)) = !c.1.all (fun a => eqV' (at' r a) (at' s a)) := by rw [List.all_eq_not_any_not]; simp
    rw [this, ← h2, ← findAt_any (fun a => !eqV' (at' r a) (at' s a)) c.1 0]
    cases findAt (fun _ a => !eqV' (at' r a) (at' s a)) c.1 0 with
    | none => rfl
    | some i => simp
  simp only [hc.rhs0, decide_true, cond_true, at_get hr hc.rhs0 hc.rhs, at_get hs hc.rhs0 hc.rhs, Option.bind_some, hl]
  show (bif !eqV' (at' r c.2.1) (at' s c.2.1) then _ else _) = _
  cases eqV' (at' r c.2.1) (at' s c.2.1) <;> simp
def pairB (c : CfdV) (r s : List ValV) : Bool := leftB c r && leftB c s && differB c r s
end Go.Mid
/- ConditionalHolds: the plain law. -/
namespace Go.Mid
set_option linter.unusedSimpArgs false
set_option linter.unusedVariables false
/-- the rows of a table, as the loops need them -/
structure WfR (n : Nat) (l : List RowV) : Prop where
  len : ∀ r ∈ l, r.2.length = n
  ok : ∀ r ∈ l, okR r.2
  few : l.length ≤ 1000
theorem rowsE_ok {n : Nat} : ∀ {l : List RowV} {p : Int}, rowsE n p l = 0 → ∀ r ∈ l, r.2.length = n ∧ okR r.2
  | [], _, _, r, hr => by cases hr
  | a :: l, p, h, r, hr => by
    simp only [rowsE] at h
    split at h
    · cases h
    split at h
    · cases h
    rename_i h1 h2
    split at h
    · rename_i h3
      rcases List.mem_cons.1 hr with rfl | hr
      · exact ⟨Decidable.not_not.1 h2, fun v hv => List.all_eq_true.1 h3 v hv⟩
      · exact rowsE_ok h r hr
    · cases h
theorem wfR_of {t : TabV} (h : tabE t = 0) : WfR t.2.1.length t.2.2 := by
  unfold tabE at h
  split at h
  · split at h
    · cases h
    split at h
    · cases h
    rename_i h1 h2
    split at h
    · exact ⟨fun r hr => (rowsE_ok h r hr).1, fun r hr => (rowsE_ok h r hr).2, by omega⟩
    · cases h
  · cases h
theorem WfR.filter {n : Nat} {l : List RowV} (h : WfR n l) (p : RowV → Bool) : WfR n (l.filter p) :=
  ⟨fun r hr => h.len r (List.mem_filter.1 hr).1, fun r hr => h.ok r (List.mem_filter.1 hr).1, Nat.le_trans (List.length_filter_le ..) h.few⟩
def singles (c : CfdV) (l : List RowV) : List (List Int) := (l.filter fun r => aloneB c r.2).map fun r => [r.1]
def violS (c : CfdV) (l : List RowV) : List (List Int) := singles c l ++ pairsOf (fun r s : RowV => pairB c r.2 s.2) (fun r s => [r.1, s.1]) l
theorem filter_take_succ {α : Type} {p : α → Bool} {l : List α} {i : Nat} (h : i < l.length) : (l.take (i + 1)).filter p = (l.take i).filter p ++ (if p l[i] then [l[i]] else []) := by
  rw [take_succ h, List.filter_append]
  congr 1
  by_cases hp : p l[i] = true <;> simp [hp]
theorem fl_len {α : Type} (p : α → Bool) (l : List α) (i : Nat) : ((l.take i).filter p).length ≤ i := by
  refine Nat.le_trans (List.length_filter_le ..) ?_
  rw [List.length_take]; omega
/-! ### the program's side -/
section
variable {n : Nat} {c : CfdV} {l : List RowV} (hc : WfC n c) (hl : WfR n l)
include hc hl
theorem match_loop : loopI conditional_Violations_l0 ((0, l, (l.length : Int), 0), c, []) = some ((l.filter fun r => leftB c r.2).length, c, l.filter fun r => leftB c r.2) := by
  have hf := hl.few
  have := loop_steps (f := conditional_Violations_l0) l.length (fun i => ((((l.take i).filter fun r => leftB c r.2).length, l, (l.length : Int), (i : Int)), c, (l.take i).filter fun r => leftB c r.2)) ((l.filter fun r => leftB c r.2).length, c, l.filter fun r => leftB c r.2) (fun i hi => by
    have hi' : (i : Int) < l.length := by omega
    have hb := fl_len (fun r : RowV => leftB c r.2) l i
    simp only [conditional_Violations_l0, hi', decide_true, cond_true, Int.natCast_nonneg, Int.toNat_natCast, List.getElem?_eq_getElem hi, Option.bind_some, left_eq hc (hl.len _ (List.getElem_mem hi)), filter_take_succ hi, wrap_i64s (show i < 9223372036854775807 by omega)]
    cases h : leftB c (l[i]).2
    · simp
    · simp only [cond_true, ble_true (Nat.le_refl _), take_all, if_true, List.length_append, List.length_cons, List.length_nil, Nat.zero_add]
      rw [ble_true (by omega)]
      rfl) (by
    simp only [conditional_Violations_l0, Int.lt_irrefl, decide_false, cond_false, take_all])
  simpa using this
end
def outB (c : CfdV) (m : List RowV) (i : Nat) : List (List Int) := ((m.take i).filter fun r => !fitsB (rightP c) (at' r.2 c.2.1)).map fun r => [r.1]
abbrev difQ (c : CfdV) (r s : RowV) : Bool := differB c r.2 s.2
abbrev idsG (r s : RowV) : List Int := [r.1, s.1]
def partB (c : CfdV) (m : List RowV) (i k : Nat) (r : RowV) : List (List Int) := (((m.drop (i + 1)).take k).filter (difQ c r)).map (idsG r)
section
variable {c : CfdV} {m : List RowV}
theorem part_len (i k : Nat) (r : RowV) : (partB c m i k r).length ≤ k := by
  unfold partB
  rw [List.length_map]
  exact fl_len _ _ _
theorem part_row (i : Nat) (hi : i < m.length) : partB c m i (m.length - (i + 1)) m[i] = rowP (difQ c) idsG m i := by
  rw [rowP_get hi]
  unfold partB
  rw [List.take_of_length_le (by rw [List.length_drop]; omega)]
theorem outB_succ {i : Nat} (hi : i < m.length) : outB c m (i + 1) = outB c m i ++ (if !fitsB (rightP c) (at' (m[i]).2 c.2.1) then [[(m[i]).1]] else []) := by
  unfold outB
  rw [filter_take_succ hi, List.map_append]
  congr 1
  by_cases h : fitsB (rightP c) (at' (m[i]).2 c.2.1) = true <;> simp [h]
theorem outB_len (i : Nat) : (outB c m i).length ≤ i := by
  unfold outB
  rw [List.length_map]
  exact fl_len _ _ _
theorem part_succ {i k : Nat} {r : RowV} (hk : i + 1 + k < m.length) : partB c m i (k + 1) r = partB c m i k r ++ (if differB c r.2 (m[i + 1 + k]).2 then [[r.1, (m[i + 1 + k]).1]] else []) := by
  unfold partB
  rw [filter_take_succ (by rw [List.length_drop]; omega), List.map_append]
  congr 1
  rw [List.getElem_drop]
  simp only [difQ]
  by_cases h : differB c r.2 (m[i + 1 + k]).2 = true <;> simp [h]
end
section
variable {n : Nat} {c : CfdV} {m : List RowV} (hc : WfC n c) (hm : WfR n m)
include hc hm
theorem inner2 (i : Nat) (r : RowV) (hr : r.2.length = n) (out both : List (List Int)) (hb : both.length ≤ 1000000) (hi : i < m.length) (Z1 Z2 : Int) (N : Nat) :
    loopI conditional_Violations_l2 ((m.length, N, both.length, m.length, Z1, Z2, (i + 1, m.length - (i + 1)), ((m.length - (i + 1) : Nat) : Int), 0), c, m, out, both, r) =
      some ((m.length, N, (both ++ partB c m i (m.length - (i + 1)) r).length, m.length, Z1, Z2), c, m, out, both ++ partB c m i (m.length - (i + 1)) r) := by
  have hf := hm.few
  have := loop_steps (f := conditional_Violations_l2) (m.length - (i + 1)) (fun k => ((m.length, N, (both ++ partB c m i k r).length, m.length, Z1, Z2, (i + 1, m.length - (i + 1)), ((m.length - (i + 1) : Nat) : Int), (k : Int)), c, m, out, both ++ partB c m i k r, r)) ((m.length, N, (both ++ partB c m i (m.length - (i + 1)) r).length, m.length, Z1, Z2), c, m, out, both ++ partB c m i (m.length - (i + 1)) r) (fun k hk => by
    have hk' : (k : Int) < ((m.length - (i + 1) : Nat) : Int) := by omega
    have hlt : i + 1 + k < m.length := by omega
    have hp := part_len (c := c) (m := m) i k r
    have hlen : (both ++ partB c m i k r).length ≤ 1001000 := by rw [List.length_append]; omega
    rw [part_succ hlt]
    generalize hB : both ++ partB c m i k r = B at hlen
    simp only [conditional_Violations_l2, hk', decide_true, cond_true, Int.natCast_nonneg, Int.toNat_natCast, blt_true hk, List.getElem?_eq_getElem hlt, Option.bind_some, pair_eq hc hr (hm.len _ (List.getElem_mem hlt)), hB, ← List.append_assoc, wrap_i64s (show k < 9223372036854775807 by omega)]
    cases h : differB c r.2 (m[i + 1 + k]).2
    · simp
    · simp only [cond_true, ble_true (Nat.le_refl _), take_all, if_true, List.length_append, List.length_cons, List.length_nil, Nat.zero_add]
      rw [ble_true (by omega)]
      rfl) (by
    simp only [conditional_Violations_l2, Int.lt_irrefl, decide_false, cond_false])
  simpa [partB] using this
theorem inner3 (i : Nat) (r : RowV) (hr : r.2.length = n) (out both : List (List Int)) (hb : both.length ≤ 1000000) (hi : i < m.length) (Z1 Z2 : Int) (N : Nat) :
    loopI conditional_Violations_l3 ((m.length, N, both.length, m.length, Z1, Z2, (i + 1, m.length - (i + 1)), ((m.length - (i + 1) : Nat) : Int), 0), c, m, out, both, r) =
      some ((m.length, N, (both ++ partB c m i (m.length - (i + 1)) r).length, m.length, Z1, Z2), c, m, out, both ++ partB c m i (m.length - (i + 1)) r) :=
  inner2 hc hm i r hr out both hb hi Z1 Z2 N
theorem viol_loop : loopI conditional_Violations_l1 ((m.length, 0, 0, m.length, (m.length : Int), 0), c, m, [], []) =
    some (((outB c m m.length).length, (pairsOf (difQ c) idsG m).length), outB c m m.length, pairsOf (difQ c) idsG m) := by
  have hf := hm.few
  have := loop_steps (f := conditional_Violations_l1) m.length (fun i => ((m.length, (outB c m i).length, (pairsI (difQ c) idsG m i).length, m.length, (m.length : Int), (i : Int)), c, m, outB c m i, pairsI (difQ c) idsG m i)) (((outB c m m.length).length, (pairsOf (difQ c) idsG m).length), outB c m m.length, pairsOf (difQ c) idsG m) (fun i hi => by
    have hi' : (i : Int) < m.length := by omega
    have hr := hm.len _ (List.getElem_mem hi)
    have ho := outB_len (c := c) (m := m) i
    have hp1 := pairsI_len (difQ c) idsG m i
    have hp : (pairsI (difQ c) idsG m i).length ≤ 1000000 := by
      refine Nat.le_trans hp1 (Nat.le_trans (Nat.mul_le_mul (show i ≤ 1000 by omega) hf) (by decide))
    have e1 : ((i + 1 : Nat) : Int).toNat = i + 1 := rfl
    rw [outB_succ hi, pairsI_succ, ← part_row i hi]
    simp only [conditional_Violations_l1, hi', decide_true, cond_true, Int.natCast_nonneg, Int.toNat_natCast, blt_true hi, List.getElem?_eq_getElem hi, Option.bind_some, right_eq hc, hc.rhs0, at_get hr hc.rhs0 hc.rhs, fits_eq, wrap_i64s (show i < 9223372036854775807 by omega), e1, ble_true (show i + 1 ≤ m.length by omega)]
    cases h : fitsB (rightP c) (at' (m[i]).2 c.2.1)
    · simp only [Bool.not_false, cond_true, ble_true (Nat.le_refl _), take_all, if_true, List.length_append, List.length_cons, List.length_nil, Nat.zero_add]
      rw [ble_true (by omega)]
      simp only [cond_true]
      have := inner2 hc hm i m[i] hr (outB c m i ++ [[(m[i]).1]]) (pairsI (difQ c) idsG m i) hp hi (m.length : Int) (i : Int) ((outB c m i).length + 1)
      rw [this]
      simp only [Option.bind_some, List.length_append, wrap_i64s (show i < 9223372036854775807 by omega)]
    · simp only [Bool.not_true, cond_false, Bool.false_eq_true, if_false, List.append_nil]
      have := inner3 hc hm i m[i] hr (outB c m i) (pairsI (difQ c) idsG m i) hp hi (m.length : Int) (i : Int) (outB c m i).length
      rw [this]
      simp only [Option.bind_some, wrap_i64s (show i < 9223372036854775807 by omega)]) (by
    simp only [conditional_Violations_l1, Int.lt_irrefl, decide_false, cond_false, pairsI_all])
  simpa [outB, pairsI] using this
end
theorem prog_Violations (t : TabV) (c : CfdV) (ht : lenT t) (h1 : c.1.length ≤ 9223372036854775807) (h2 : c.2.2.length ≤ 9223372036854775807) :
    conditional_Violations (t, c) = some (if tabE t = 0 then (if validC t.2.1.length c then (violS c t.2.2, 0) else ([], 1)) else ([], tabE t)) := by
  unfold conditional_Violations
  simp only [table_Valid_eq t ht, Option.bind_some, conditional_Valid_eq _ c h1 h2]
  by_cases he : tabE t = 0
  · have : (tabE t != 0) = false := by simp [he]
    simp only [this, cond_false]
    rw [if_pos he]
    by_cases hv : validC t.2.1.length c = true
    · have hc := wfC_of hv
      have hl := wfR_of he
      have hm := hl.filter fun r => leftB c r.2
      simp only [hv, Bool.not_true, cond_false, if_true, match_loop hc hl, Option.bind_some, viol_loop hc hm]
      have b1 : (pairsOf (difQ c) idsG (t.2.2.filter fun r => leftB c r.2)).length ≤ 1000000 := by
        rw [← pairsI_all]
        exact Nat.le_trans (pairsI_len ..) (Nat.le_trans (Nat.mul_le_mul hm.few hm.few) (by decide))
      have b2 := outB_len (c := c) (m := t.2.2.filter fun r => leftB c r.2) (t.2.2.filter fun r => leftB c r.2).length
      have b3 := hm.few
      simp only [ble_true (Nat.le_refl _), cond_true, take_all]
      rw [ble_true (by omega), ble_true (by simp [List.length_append])]
      simp only [cond_true]
      rw [List.take_of_length_le (by simp [List.length_append])]
      congr 2
      unfold violS singles outB
      rw [List.take_length, List.filter_filter]
      congr 1
      · congr 2
        funext r
        unfold aloneB
        exact Bool.and_comm _ _
      · exact (pairsOf_filter (fun r : RowV => leftB c r.2) (difQ c) idsG t.2.2).symm
    · simp only [hv, Bool.not_false, cond_true, if_false]
      rfl
  · have : (tabE t != 0) = true := by simp [he]
    simp only [this, cond_true]
    rw [if_neg he]
    rfl
/-! ### the reference's side -/
section
variable {n : Nat} {c : CfdV} {t : TabV} (hc : WfC n c) (hl : WfR n t.2.2)
include hc hl
omit hc hl in
omit hc hl in
end
theorem prog_Holds (t : TabV) (c : CfdV) (ht : lenT t) (h1 : c.1.length ≤ 9223372036854775807) (h2 : c.2.2.length ≤ 9223372036854775807) :
    conditional_Holds (t, c) = some (if tabE t = 0 then (if validC t.2.1.length c then (decide (violS c t.2.2 = []), 0) else (false, 1)) else (false, tabE t)) := by
  unfold conditional_Holds
  rw [prog_Violations t c ht h1 h2]
  simp only [Option.bind_some]
  by_cases he : tabE t = 0
  · rw [if_pos he, if_pos he]
    by_cases hv : validC t.2.1.length c = true
    · simp only [hv, if_true]
      have : (((violS c t.2.2).length : Int) == 0) = decide (violS c t.2.2 = []) := by
        rw [Bool.eq_iff_iff]
        cases violS c t.2.2 with
        | nil => simp
        | cons a r => simp; omega
      simp [this]
    · simp [hv]
  · rw [if_neg he, if_neg he]
    have : (tabE t == 0) = false := by simp [he]
    simp only [this, cond_false]
end Go.Mid
