/- ConditionalValid: the plain law. -/
import Derived.Test.YtgmkjifkkiklcaaDoorT2
import Derived.Test.YtgmkjifkkiklcaaDoorN2
namespace Go.Mid
set_option linter.unusedSimpArgs false
set_option linter.unusedVariables false
abbrev CellV := Bool × Int × Int × ByteArray
def valueOk (x : Int × Int × ByteArray) : Bool :=
  bif x.1 == 0 then bif x.2.1 == 0 then strEq x.2.2 ⟨#[]⟩ else false
  else bif x.1 == 1 then strEq x.2.2 ⟨#[]⟩
  else bif x.1 == 2 then bif x.2.1 == 0 then decide ((x.2.2.size : Int) ≤ 200) else false
  else bif x.1 == 3 then bif decide (x.2.1 ≥ 1) then strEq x.2.2 ⟨#[]⟩ else false else false
theorem value_Valid_eq (x : Int × Int × ByteArray) : value_Valid x = some (valueOk x) := by
  unfold value_Valid valueOk
  cases (x.1 == 0) <;> cases (x.1 == 1) <;> cases (x.1 == 2) <;> cases (x.1 == 3) <;> cases (x.2.1 == 0) <;> cases decide (x.2.1 ≥ 1) <;> rfl
theorem ref_Valid_eq (x : Int × Int × ByteArray) : drossref01_Valid x = some (valueOk x) := by
  unfold drossref01_Valid valueOk
  cases (x.1 == 0) <;> cases (x.1 == 1) <;> cases (x.1 == 2) <;> cases (x.1 == 3) <;> cases (x.2.1 == 0) <;> cases decide (x.2.1 ≥ 1) <;> rfl
def zeroV (x : Int × Int × ByteArray) : Bool := x.1 == 0 && (x.2.1 == 0 && strEq x.2.2 ⟨#[]⟩)
/-- an entry of a pattern is wrong -/
def cellBad (c : CellV) : Bool := bif c.1 then !zeroV c.2 else !valueOk c.2
theorem zero_ok {x : Int × Int × ByteArray} (h : zeroV x = true) : valueOk x = true := by
  simp only [zeroV, Bool.and_eq_true] at h
  simp only [valueOk, h.1, h.2.1, h.2.2, cond_true]
theorem Valid_1_eq (c : CellV) : conditional_Valid_1 c = some (cellBad c) := by
  unfold conditional_Valid_1 cellBad
  rw [value_Valid_eq]
  show (bif c.1 then bif !zeroV c.2 then some true else _ else _) = _
  cases c.1 <;> cases zeroV c.2 <;> simp
theorem patLoop (l : List CellV) (hl : l.length ≤ 9223372036854775807) : slices_ContainsFunc_sapi_Cell_api_Cell__conditional_Valid_1 (l, ()) = some (l.any cellBad) := by
  unfold slices_ContainsFunc_sapi_Cell_api_Cell__conditional_Valid_1 slices_IndexFunc_sapi_Cell_api_Cell__conditional_Valid_1
  have := loop_findI (f := slices_IndexFunc_sapi_Cell_api_Cell__conditional_Valid_1_l0) l (fun i => (l, (), (l.length : Int), (i : Int))) (fun _ c => cellBad c) (fun i => .inl (i : Int)) (.inr ()) (fun i hi => by
    have hi' : (i : Int) < l.length := by omega
    simp only [slices_IndexFunc_sapi_Cell_api_Cell__conditional_Valid_1_l0, hi', decide_true, cond_true, Int.natCast_nonneg, Int.toNat_natCast, List.getElem?_eq_getElem hi, Option.bind_some, Valid_1_eq, wrap_i64s (show i < 9223372036854775807 by omega)]
    cases cellBad l[i] <;> rfl) (by
    simp only [slices_IndexFunc_sapi_Cell_api_Cell__conditional_Valid_1_l0, Int.lt_irrefl, decide_false, cond_false])
  simp only [Int.natCast_zero] at this
  rw [this, ← findAt_any cellBad l 0]
  cases findAt (fun _ c => cellBad c) l 0 with
  | none => rfl
  | some i => simp
theorem patLoop2 (X : List Int × Int × List CellV) (hl : X.2.2.length ≤ 9223372036854775807) : loopI drossref16_Valid_l1 (0, X) = some (if X.2.2.any cellBad then .inl false else .inr ()) := by
  have := loop_anyP (f := drossref16_Valid_l1) X.2.2 (fun i => ((i : Int), X)) cellBad (.inl false) (.inr ()) (fun i hi => by
    have hi' : (i : Int) < X.2.2.length := by omega
    simp only [drossref16_Valid_l1, hi', decide_true, cond_true, Int.natCast_nonneg, Int.toNat_natCast, List.getElem?_eq_getElem hi, Option.bind_some, ref_Valid_eq, wrap_i64s (show i < 9223372036854775807 by omega)]
    show (bif (X.2.2[i]).1 then bif !zeroV (X.2.2[i]).2 then _ else _ else _) = _
    generalize X.2.2[i] = c
    unfold cellBad
    cases h1 : c.1 <;> cases h2 : zeroV c.2 <;> cases h3 : valueOk c.2 <;> simp
    rw [zero_ok h2] at h3; cases h3) (by
    simp only [drossref16_Valid_l1, Int.lt_irrefl, decide_false, cond_false])
  simp only [Int.natCast_zero] at this
  exact this
/-- the left side ascends, within the range, without the right side -/
def ascOk (n r : Int) : Int → List Int → Bool
  | _, [] => true
  | p, a :: l => !(decide (a ≤ p) || decide (a ≥ n) || a == r) && ascOk n r a l
theorem lhsLoop (n : Int) (X : List Int × Int × List CellV) (hl : X.1.length ≤ 9223372036854775807) : loopI conditional_Valid_l0 ((n, -1, X.1, (X.1.length : Int), 0), X) = some (if ascOk n X.2.1 (-1) X.1 then .inr X else .inl false) := by
  have := loop_listI (f := conditional_Valid_l0) X.1 (fun i (p : Int) => ((n, p, X.1, (X.1.length : Int), (i : Int)), X)) (fun _ p a => if (decide (a ≤ p) || decide (a ≥ n) || a == X.2.1) = true then some (.inr (.inl false)) else some (.inl a)) (fun _ => some (.inr X)) (fun i hi p => by
    have hi' : (i : Int) < X.1.length := by omega
    simp only [conditional_Valid_l0, hi', decide_true, cond_true, Int.natCast_nonneg, Int.toNat_natCast, List.getElem?_eq_getElem hi, Option.bind_some, wrap_i64s (show i < 9223372036854775807 by omega)]
    generalize X.1[i] = a
    cases decide (a ≤ p) <;> cases decide (a ≥ n) <;> cases (a == X.2.1) <;> rfl) (fun p => by
    simp only [conditional_Valid_l0, Int.lt_irrefl, decide_false, cond_false]; rfl) (-1)
  simp only [Int.natCast_zero] at this
  rw [this]
  have key : ∀ (l : List Int) (i : Nat) (p : Int), runL (B := Bool ⊕ List Int × Int × List CellV) (fun _ p a => if (decide (a ≤ p) || decide (a ≥ n) || a == X.2.1) = true then some (.inr (.inl false)) else some (.inl a)) (fun _ => some (.inr X)) l i p = some (if ascOk n X.2.1 p l then .inr X else .inl false) := by
    intro l
    induction l with
    | nil => intro i p; rfl
    | cons a r ih =>
      intro i p
      simp only [runL, ascOk]
      by_cases h : (decide (a ≤ p) || decide (a ≥ n) || a == X.2.1) = true
      · simp [h]
      · simp only [h, if_false, ih]; simp
  exact key X.1 0 (-1)
def badAt (n : Int) (X : List Int × Int × List CellV) (i : Nat) (a : Int) : Bool := decide (a < 0) || (decide (a ≥ n) || (a == X.2.1 || (decide (0 < i) && decide (a ≤ X.1.getD (i - 1) 0))))
theorem refLoop (n : Int) (X : List Int × Int × List CellV) (hl : X.1.length ≤ 9223372036854775807) : loopI drossref16_Valid_l0 ((n, 0), X) = some (if ascOk n X.2.1 (-1) X.1 then .inr X else .inl false) := by
  have := loop_listI (S := Unit) (f := drossref16_Valid_l0) X.1 (fun i _ => ((n, (i : Int)), X)) (fun i _ a => if badAt n X i a = true then some (.inr (.inl false)) else some (.inl ())) (fun _ => some (.inr X)) (fun i hi p => by
    have hi' : (i : Int) < X.1.length := by omega
    simp only [drossref16_Valid_l0, hi', decide_true, cond_true, Int.natCast_nonneg, Int.toNat_natCast, List.getElem?_eq_getElem hi, Option.bind_some, wrap_i64s (show i < 9223372036854775807 by omega)]
    by_cases h0 : 0 < i
    · have e1 : IntKind.i64.wrap ((i : Int) - 1) = ((i - 1 : Nat) : Int) := by rw [wrap_i64 (by omega) (by omega)]; omega
      have h0' : (i : Int) > 0 := by omega
      have hlt : i - 1 < X.1.length := by omega
      have e2 : X.1.getD (i - 1) 0 = X.1[i - 1] := by simp [List.getD, List.getElem?_eq_getElem hlt]
      simp only [e1, h0', decide_true, cond_true, Int.natCast_nonneg, Int.toNat_natCast, List.getElem?_eq_getElem hlt, Option.bind_some, badAt, h0, Bool.true_and, e2]
      generalize X.1[i] = a
      generalize X.1[i - 1] = b
      cases decide (a < 0) <;> cases decide (a ≥ n) <;> cases (a == X.2.1) <;> cases decide (a ≤ b) <;> rfl
    · have h0' : ¬ (i : Int) > 0 := by omega
      simp only [h0', decide_false, cond_false, badAt, h0, Bool.false_and, Bool.or_false]
      generalize X.1[i] = a
      cases decide (a < 0) <;> cases decide (a ≥ n) <;> cases (a == X.2.1) <;> rfl) (fun p => by
    simp only [drossref16_Valid_l0, Int.lt_irrefl, decide_false, cond_false]; rfl) ()
  simp only [Int.natCast_zero] at this
  rw [this]
  have key : ∀ (l : List Int) (i : Nat) (p : Int), X.1.drop i = l → ((i = 0 ∧ p = -1) ∨ (0 < i ∧ 0 ≤ p ∧ X.1.getD (i - 1) 0 = p)) → runL (B := Bool ⊕ List Int × Int × List CellV) (fun i _ a => if badAt n X i a = true then some (.inr (.inl false)) else some (.inl ())) (fun _ => some (.inr X)) l i () = some (if ascOk n X.2.1 p l then .inr X else .inl false) := by
    intro l
    induction l with
    | nil => intro i p _ _; rfl
    | cons a r ih =>
      intro i p hd hp
      have hb : badAt n X i a = (decide (a ≤ p) || decide (a ≥ n) || a == X.2.1) := by
        unfold badAt
        rcases hp with ⟨rfl, rfl⟩ | ⟨h0, h1, h2⟩
        · have : decide (a < 0) = decide (a ≤ -1) := by rw [decide_eq_decide]; omega
          rw [this]
          simp [Bool.or_assoc]
        · rw [h2]
          by_cases c : a < 0
          · have : a ≤ p := by omega
            simp [c, this]
          · by_cases c2 : a ≤ p <;> simp [c, c2, h0]
      simp only [runL, hb, ascOk]
      by_cases h : (decide (a ≤ p) || decide (a ≥ n) || a == X.2.1) = true
      · simp [h]
      · have hi : i < X.1.length := by
          have := congrArg List.length hd
          simp at this; omega
        have hx : X.1[i] = a ∧ X.1.drop (i + 1) = r := by
          rw [List.drop_eq_getElem_cons hi] at hd
          exact List.cons.inj hd
        have ha : ¬ a ≤ p := by
          intro c; apply h; simp [c]
        simp only [h, Bool.false_eq_true, if_false, Bool.not_false, Bool.true_and]
        exact ih (i + 1) a hx.2 (.inr ⟨by omega, by rcases hp with ⟨_, rfl⟩ | ⟨_, h1, _⟩ <;> omega, by simp [List.getD, List.getElem?_eq_getElem hi, hx.1]⟩)
  exact key X.1 0 (-1) rfl (.inl ⟨rfl, rfl⟩)
theorem wrap_len (X : List Int × Int × List CellV) (h1 : X.1.length ≤ 9223372036854775807) (h2 : X.2.2.length ≤ 9223372036854775807) : ((X.2.2.length : Int) != IntKind.i64.wrap ((X.1.length : Int) + 1)) = ((X.2.2.length : Int) != ((X.1.length + 1 : Nat) : Int)) := by
  by_cases h : X.1.length < 9223372036854775807
  · rw [wrap_i64s h]
  · have e : X.1.length = 9223372036854775807 := by omega
    have e2 : IntKind.i64.wrap ((X.1.length : Int) + 1) = -9223372036854775808 := by rw [e]; rfl
    have a : ((X.2.2.length : Int) != IntKind.i64.wrap ((X.1.length : Int) + 1)) = true := by rw [e2, bne_iff_ne]; omega
    have b : ((X.2.2.length : Int) != ((X.1.length + 1 : Nat) : Int)) = true := by rw [bne_iff_ne]; omega
    rw [a, b]
def validC (n : Int) (X : List Int × Int × List CellV) : Bool :=
  !(decide (n < 0)) && !(decide (n > 16)) && !(decide (X.2.1 < 0)) && !(decide (X.2.1 ≥ n)) && !((X.2.2.length : Int) != ((X.1.length + 1 : Nat) : Int)) && ascOk n X.2.1 (-1) X.1 && !X.2.2.any cellBad
theorem conditional_Valid_eq (n : Int) (X : List Int × Int × List CellV) (h1 : X.1.length ≤ 9223372036854775807) (h2 : X.2.2.length ≤ 9223372036854775807) : conditional_Valid (n, X) = some (validC n X) := by
  unfold conditional_Valid validC
  simp only [wrap_len X h1 h2, lhsLoop n X h1]
  cases decide (n < 0) <;> cases decide (n > 16) <;> cases decide (X.2.1 < 0) <;> cases decide (X.2.1 ≥ n) <;> cases ((X.2.2.length : Int) != ((X.1.length + 1 : Nat) : Int)) <;> simp
  by_cases h : ascOk n X.2.1 (-1) X.1 = true
  · simp [h, patLoop X.2.2 h2]
  · simp [h]
theorem refcond_Valid_eq (n : Int) (X : List Int × Int × List CellV) (h1 : X.1.length ≤ 9223372036854775807) (h2 : X.2.2.length ≤ 9223372036854775807) : drossref16_Valid (n, X) = some (validC n X) := by
  unfold drossref16_Valid validC
  simp only [wrap_len X h1 h2, refLoop n X h1]
  cases decide (n < 0) <;> cases decide (n > 16) <;> cases decide (X.2.1 < 0) <;> cases decide (X.2.1 ≥ n) <;> cases ((X.2.2.length : Int) != ((X.1.length + 1 : Nat) : Int)) <;> simp
  by_cases h : ascOk n X.2.1 (-1) X.1 = true
  · simp [h, patLoop2 X h2]
    by_cases h3 : X.2.2.any cellBad = true <;> simp [h3]
  · simp [h]
end Go.Mid
/- ConditionalErrors: the plain law. -/
namespace Go.Mid
set_option linter.unusedSimpArgs false
set_option linter.unusedVariables false
abbrev CfdV := List Int × Int × List CellV
/-- lengths that Go has -/
def okC (X : CfdV) : Prop := X.1.length ≤ 9223372036854775807 ∧ X.2.2.length ≤ 9223372036854775807
theorem limits1L (n : Int) (l : List CfdV) (hl : l.length ≤ 9223372036854775807) (hv : ∀ X ∈ l, conditional_Valid (n, X) = some (validC n X)) : slices_ContainsFunc_sapi_CFD_api_CFD__conditional_limits_1 (l, n) = some (l.any fun X => !validC n X) := by
  unfold slices_ContainsFunc_sapi_CFD_api_CFD__conditional_limits_1 slices_IndexFunc_sapi_CFD_api_CFD__conditional_limits_1
  have := loop_findI (f := slices_IndexFunc_sapi_CFD_api_CFD__conditional_limits_1_l0) l (fun i => (l, n, (l.length : Int), (i : Int))) (fun _ X => !validC n X) (fun i => .inl (i : Int)) (.inr ()) (fun i hi => by
    have hi' : (i : Int) < l.length := by omega
    have hv' := hv l[i] (List.getElem_mem hi)
    simp only [slices_IndexFunc_sapi_CFD_api_CFD__conditional_limits_1_l0, conditional_limits_1, hi', decide_true, cond_true, Int.natCast_nonneg, Int.toNat_natCast, List.getElem?_eq_getElem hi, Option.bind_some, hv', wrap_i64s (show i < 9223372036854775807 by omega)]
    cases validC n l[i] <;> rfl) (by
    simp only [slices_IndexFunc_sapi_CFD_api_CFD__conditional_limits_1_l0, Int.lt_irrefl, decide_false, cond_false])
  simp only [Int.natCast_zero] at this
  rw [this, ← findAt_any (fun X => !validC n X) l 0]
  cases findAt (fun _ X => !validC n X) l 0 with
  | none => rfl
  | some i => simp
def limitsS (n attrs most : Int) (l : List CfdV) : Int := if n > attrs then 3 else if (l.length : Int) > most then 3 else if n < 0 then 1 else if (l.any fun X => !validC n X) then 1 else 0
theorem limits_eq (n attrs most : Int) (l more : List CfdV) (hl : l.length ≤ 9223372036854775807) (hm : more.length ≤ 9223372036854775807) (hv : ∀ X ∈ l ++ more, conditional_Valid (n, X) = some (validC n X)) :
    conditional_limits (n, attrs, most, l, more) = some (if limitsS n attrs most l = 0 then (if more.any (fun X => !validC n X) then 1 else 0) else limitsS n attrs most l) := by
  unfold conditional_limits limitsS
  rw [limits1L n l hl (fun X h => hv X (by simp [h])), limits1L n more hm (fun X h => hv X (by simp [h]))]
  simp only [gt_iff_lt, Option.bind_some]
  by_cases h1 : attrs < n
  · simp [h1]
  by_cases h2 : most < (l.length : Int)
  · simp [h1, h2]
  by_cases h3 : n < 0
  · simp [h1, h2, h3]
  by_cases h4 : (l.any fun X => !validC n X) = true
  · simp only [h1, h2, h3, h4, decide_false, cond_false, cond_true, if_false, if_true]; rfl
  · by_cases h5 : (more.any fun X => !validC n X) = true
    · simp only [h1, h2, h3, h4, h5, decide_false, cond_false, cond_true, if_false, if_true]; rfl
    · simp only [h1, h2, h3, h4, h5, decide_false, cond_false, if_false, if_true]; rfl
theorem ref_Error_eq (n attrs most : Int) (l : List CfdV) (hl : l.length ≤ 9223372036854775807) (hv : ∀ X ∈ l, drossref16_Valid (n, X) = some (validC n X)) : drossref16_Error (n, l, attrs, most) = some (limitsS n attrs most l) := by
  unfold drossref16_Error limitsS
  have := loop_anyP (f := drossref16_Error_l0) l (fun i => (n, l, (i : Int))) (fun X => !validC n X) (.inl 1) (.inr n) (fun i hi => by
    have hi' : (i : Int) < l.length := by omega
    have hv' := hv l[i] (List.getElem_mem hi)
    simp only [drossref16_Error_l0, hi', decide_true, cond_true, Int.natCast_nonneg, Int.toNat_natCast, List.getElem?_eq_getElem hi, Option.bind_some, hv', wrap_i64s (show i < 9223372036854775807 by omega)]
    cases validC n l[i] <;> rfl) (by
    simp only [drossref16_Error_l0, Int.lt_irrefl, decide_false, cond_false])
  simp only [Int.natCast_zero] at this
  rw [this]
  simp only [gt_iff_lt]
  by_cases h1 : attrs < n
  · simp [h1]
  by_cases h2 : most < (l.length : Int)
  · simp [h1, h2]
  simp only [h1, h2, decide_false, cond_false, if_false]
  by_cases h4 : (l.any fun X => !validC n X) = true
  · simp [h4]
  · simp only [h4]
    by_cases h3 : n < 0 <;> simp [h3]
theorem Refute_err (n : Int) (l : List CfdV) (goal : CfdV) {e : Int} (he : conditional_limits (n, 5, 6, l, [goal]) = some e) (h0 : e ≠ 0) : conditional_Refute (n, l, goal) = some ((⟨#[]⟩, [], []), e) := by
  unfold conditional_Refute
  simp only [he, Option.bind_some]
  have : (e != (0 : Int)) = true := by simpa using h0
  rw [this]
  rfl
theorem Implies_err (n : Int) (l : List CfdV) (goal : CfdV) {e : Int} (he : conditional_limits (n, 5, 6, l, [goal]) = some e) (h0 : e ≠ 0) (h10 : e ≠ 10) : conditional_Implies (n, l, goal) = some (false, e) := by
  unfold conditional_Implies
  simp only [Refute_err n l goal he h0, Option.bind_some]
  have h1 : (e == (10 : Int)) = false := by simpa using h10
  have h2 : (e == (0 : Int)) = false := by simpa using h0
  simp only [h1, h2, cond_false]
theorem Core_err (n : Int) (l : List CfdV) {e : Int} (he : conditional_limits (n, 6, 8, l, []) = some e) (h0 : e ≠ 0) : conditional_Core (n, l) = some ([], e) := by
  unfold conditional_Core
  simp only [he, Option.bind_some]
  have : (e != (0 : Int)) = true := by simpa using h0
  rw [this]
  rfl
theorem limitsS_cases (n a m : Int) (l : List CfdV) : limitsS n a m l = 0 ∨ limitsS n a m l = 1 ∨ limitsS n a m l = 3 := by
  unfold limitsS
  split
  · simp
  split
  · simp
  split
  · simp
  split <;> simp
theorem law7 (n : Int) (l : List CfdV) (goal : CfdV) (hl : l.length ≤ 9223372036854775807) (hw : ∀ X ∈ l, okC X) (hg : okC goal) : drosslaw16_ConditionalErrors_S (n, l, goal) = some true := by
  have hv : ∀ X ∈ l, conditional_Valid (n, X) = some (validC n X) := fun X h => conditional_Valid_eq n X (hw X h).1 (hw X h).2
  have hr : ∀ X ∈ l, drossref16_Valid (n, X) = some (validC n X) := fun X h => refcond_Valid_eq n X (hw X h).1 (hw X h).2
  have hvg : ∀ X ∈ l ++ [goal], conditional_Valid (n, X) = some (validC n X) := fun X h => by
    rcases List.mem_append.1 h with h | h
    · exact hv X h
    · rw [List.mem_singleton] at h; subst h
      exact conditional_Valid_eq n X hg.1 hg.2
  have hrg : drossref16_Valid (n, goal) = some (validC n goal) := refcond_Valid_eq n goal hg.1 hg.2
  have e1 := ref_Error_eq n 5 6 l hl hr
  have e2 := ref_Error_eq n 6 8 l hl hr
  have l1 := limits_eq n 5 6 l [goal] hl (by simp) hvg
  have l2 := limits_eq n 6 8 l [] hl (by simp) (by simpa using hv)
  have core : (bif limitsS n 6 8 l == (0 : Int) then some true else (conditional_Core (n, l)).bind fun s => bif s.2 == limitsS n 6 8 l then some ((s.1.length : Int) == (0 : Int)) else some false) = some true := by
    by_cases h : limitsS n 6 8 l = 0
    · simp [h]
    · rw [Core_err n l (e := limitsS n 6 8 l) (by rw [l2, if_neg h]) h]
      have h' : (limitsS n 6 8 l == (0 : Int)) = false := by simpa using h
      simp [h']
  unfold drosslaw16_ConditionalErrors_S
  simp only [Option.bind_some, Bool.not_true, cond_false, gt_iff_lt, e1, e2, hrg]
  by_cases c1 : (20 : Int) < l.length
  · simp [c1]
  simp only [c1, decide_false, cond_false]
  by_cases h0 : limitsS n 5 6 l = 0
  · rw [if_pos h0] at l1
    have b0 : (limitsS n 5 6 l == (0 : Int)) = true := by simpa using h0
    simp only [b0, cond_true]
    by_cases hq : validC n goal = true
    · have hn : ((0 : Int) != 0) = false := rfl
      simp only [hq, h0, hn, Bool.not_true, cond_false]
      exact core
    · have hq' : validC n goal = false := by simpa using hq
      have l1' : conditional_limits (n, 5, 6, l, [goal]) = some 1 := by rw [l1]; simp [hq']
      simp only [hq', Bool.not_false, cond_true, Implies_err n l goal l1' (by decide) (by decide), Refute_err n l goal l1' (by decide), Option.bind_some]
      exact core
  · rw [if_neg h0] at l1
    have b0 : (limitsS n 5 6 l == (0 : Int)) = false := by simpa using h0
    have b1 : (limitsS n 5 6 l != (0 : Int)) = true := by simpa using h0
    have h10 : limitsS n 5 6 l ≠ 10 := by
      rcases limitsS_cases n 5 6 l with h | h | h <;> omega
    have bb : (limitsS n 5 6 l != limitsS n 5 6 l) = false := by simp
    simp only [b0, b1, cond_false, cond_true, Implies_err n l goal l1 h0 h10, Refute_err n l goal l1 h0, Option.bind_some, bb]
    exact core
end Go.Mid
