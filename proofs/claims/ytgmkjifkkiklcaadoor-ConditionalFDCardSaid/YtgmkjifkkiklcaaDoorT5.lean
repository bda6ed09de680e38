/- Sets of attributes as numbers: the operations, bit by bit; the members. -/
import Derived.Test.YtgmkjifkkiklcaaDoorT4
import Derived.Test.YtgmkjifkkiklcaaDoorT2
import Derived.KernelRfl
namespace Go.Mid
set_option linter.unusedSimpArgs false
set_option linter.unusedVariables false
abbrev w32 : Nat := 4294967296
theorem wrap_u32 {x : Int} (h1 : 0 ≤ x) (h2 : x < 4294967296) : IntKind.u32.wrap x = x := by
  simp only [IntKind.wrap, IntKind.bits, IntKind.signed]
  simp
  omega
theorem wrap_u32n {n : Nat} (h : n < w32) : IntKind.u32.wrap (n : Int) = (n : Int) := wrap_u32 (by omega) (by unfold w32 at h; omega)
theorem ofInt_nat (m : Nat) : BitVec.ofInt 32 (m : Int) = BitVec.ofNat 32 m := by simp
theorem and_nat {m n : Nat} (hm : m < w32) (hn : n < w32) : andI .u32 (m : Int) (n : Int) = ((m &&& n : Nat) : Int) := by
  have h : (BitVec.ofInt IntKind.u32.bits (m : Int) &&& BitVec.ofInt IntKind.u32.bits (n : Int)).toNat = m &&& n := by
    show (BitVec.ofInt 32 (m : Int) &&& BitVec.ofInt 32 (n : Int)).toNat = _
    rw [ofInt_nat, ofInt_nat, BitVec.toNat_and, BitVec.toNat_ofNat, BitVec.toNat_ofNat, Nat.mod_eq_of_lt (by exact hm), Nat.mod_eq_of_lt (by exact hn)]
  unfold andI
  rw [h]
  exact wrap_u32n (Nat.lt_of_le_of_lt Nat.and_le_left hm)
theorem or_nat {m n : Nat} (hm : m < w32) (hn : n < w32) : orI .u32 (m : Int) (n : Int) = ((m ||| n : Nat) : Int) := by
  have h : (BitVec.ofInt IntKind.u32.bits (m : Int) ||| BitVec.ofInt IntKind.u32.bits (n : Int)).toNat = m ||| n := by
    show (BitVec.ofInt 32 (m : Int) ||| BitVec.ofInt 32 (n : Int)).toNat = _
    rw [ofInt_nat, ofInt_nat, BitVec.toNat_or, BitVec.toNat_ofNat, BitVec.toNat_ofNat, Nat.mod_eq_of_lt (by exact hm), Nat.mod_eq_of_lt (by exact hn)]
  unfold orI
  rw [h]
  exact wrap_u32n (Nat.or_lt_two_pow (n := 32) hm hn)
/-- m without n -/
def lessN (m n : Nat) : Nat := m ^^^ (m &&& n)
theorem lessN_bit (m n i : Nat) : (lessN m n).testBit i = (m.testBit i && !n.testBit i) := by
  unfold lessN
  rw [Nat.testBit_xor, Nat.testBit_and]
  cases m.testBit i <;> cases n.testBit i <;> rfl
theorem bits_lt {m n : Nat} (hm : m < w32) (h : ∀ i, n.testBit i = true → m.testBit i = true) : n < w32 := by
  refine Nat.lt_pow_two_of_testBit (n := 32) n fun i hi => ?_
  cases hb : n.testBit i with
  | false => rfl
  | true =>
    have := h i hb
    rw [Nat.testBit_lt_two_pow (Nat.lt_of_lt_of_le hm (Nat.pow_le_pow_right (show 2 > 0 by decide) hi))] at this
    cases this
theorem bits_lt16 {m n : Nat} (hm : m < 65536) (h : ∀ i, n.testBit i = true → m.testBit i = true) : n < 65536 := by
  refine Nat.lt_pow_two_of_testBit (n := 16) n fun i hi => ?_
  cases hb : n.testBit i with
  | false => rfl
  | true =>
    have := h i hb
    rw [Nat.testBit_lt_two_pow (Nat.lt_of_lt_of_le hm (Nat.pow_le_pow_right (show 2 > 0 by decide) hi))] at this
    cases this
theorem lessN_lt {m n : Nat} (hm : m < w32) : lessN m n < w32 := bits_lt hm fun i hi => by
  rw [lessN_bit, Bool.and_eq_true] at hi
  exact hi.1
theorem andNot_nat {m n : Nat} (hm : m < w32) (hn : n < w32) : andNotI .u32 (m : Int) (n : Int) = ((lessN m n : Nat) : Int) := by
  have h : (BitVec.ofInt IntKind.u32.bits (m : Int) &&& ~~~ BitVec.ofInt IntKind.u32.bits (n : Int)).toNat = lessN m n := by
    show (BitVec.ofInt 32 (m : Int) &&& ~~~ BitVec.ofInt 32 (n : Int)).toNat = _
    rw [ofInt_nat, ofInt_nat]
    apply Nat.eq_of_testBit_eq
    intro i
    rw [BitVec.toNat_and, Nat.testBit_and, lessN_bit, BitVec.toNat_ofNat, Nat.mod_eq_of_lt (by exact hm)]
    by_cases hi : i < 32
    · congr 1
      rw [← BitVec.getLsbD, BitVec.getLsbD_not]
      simp only [hi, decide_true, Bool.true_and, BitVec.getLsbD_ofNat]
    · rw [Nat.testBit_lt_two_pow (Nat.lt_of_lt_of_le hm (Nat.pow_le_pow_right (show 2 > 0 by decide) (show 32 ≤ i by omega)))]
      rfl
  unfold andNotI
  rw [h]
  exact wrap_u32n (lessN_lt hm)
theorem shr_nat {m i : Nat} (hi : i ≤ 32) : shrI .u32 (m : Int) (i : Int) = ((m >>> i : Nat) : Int) := by
  unfold shrI
  have e : min ((i : Int).toNat) IntKind.u32.bits = i := by
    show min i 32 = i
    omega
  rw [e, Nat.shiftRight_eq_div_pow]
  have : ((2 : Int) ^ i) = ((2 ^ i : Nat) : Int) := by simp
  rw [this]
  exact Int.ofNat_fdiv m (2 ^ i) |>.symm
theorem and_one (m : Nat) : (m &&& 1) = if m.testBit 0 then 1 else 0 := by
  rw [Nat.and_one_is_mod, Nat.testBit_zero]
  have := Nat.mod_two_eq_zero_or_one m
  rcases this with h | h <;> simp [h]
/-- the i-th attribute belongs to a set -/
theorem has_bit {m i : Nat} (hm : m < w32) (hi : i < 32) : (andI .u32 (shrI .u32 (m : Int) (i : Int)) 1 == (1 : Int)) = m.testBit i := by
  have h1 : m >>> i < w32 := Nat.lt_of_le_of_lt (Nat.shiftRight_le m i) hm
  have := and_nat (m := m >>> i) (n := 1) h1 (by decide)
  rw [shr_nat (by omega)]
  have h2 : andI .u32 ((m >>> i : Nat) : Int) 1 = (((m >>> i) &&& 1 : Nat) : Int) := this
  rw [h2, and_one, Nat.testBit_shiftRight, Nat.add_zero]
  cases m.testBit i <;> rfl
/-! ### the least member -/
def membersN (m : Nat) : List Nat := (List.range 32).filter fun i => m.testBit i
theorem exists_low : ∀ {m : Nat}, m ≠ 0 → ∃ k, m.testBit k = true ∧ ∀ j, j < k → m.testBit j = false := by
  intro m
  induction m using Nat.strongRecOn with
  | _ m ih =>
    intro h
    by_cases h0 : m.testBit 0 = true
    · exact ⟨0, h0, fun j hj => by omega⟩
    · have h2 : m / 2 ≠ 0 := by
        intro e
        rw [Nat.testBit_zero] at h0
        have : m % 2 ≠ 1 := by simpa using h0
        omega
      obtain ⟨k, hk, hl⟩ := ih (m / 2) (by omega) h2
      refine ⟨k + 1, by rw [Nat.testBit_succ]; exact hk, fun j hj => ?_⟩
      cases j with
      | zero => simpa using h0
      | succ j => rw [Nat.testBit_succ]; exact hl j (by omega)
/-- x = 2^k (2 q + 1) -/
theorem low_form {m k : Nat} (hk : m.testBit k = true) (hl : ∀ j, j < k → m.testBit j = false) : ∃ q, m = 2 ^ k * (2 * q + 1) := by
  refine ⟨m / 2 ^ (k + 1), ?_⟩
  have h1 : m % 2 ^ k = 0 := by
    apply Nat.eq_of_testBit_eq
    intro i
    rw [Nat.testBit_mod_two_pow, Nat.zero_testBit]
    by_cases h : i < k
    · rw [hl i h]; simp
    · simp [h]
  have h2 : m / 2 ^ k % 2 = 1 := by
    rw [Nat.testBit_eq_decide_div_mod_eq] at hk
    simpa using hk
  have h3 : m / 2 ^ (k + 1) = m / 2 ^ k / 2 := by rw [Nat.pow_succ, Nat.div_div_eq_div_mul]
  rw [h3]
  have h4 := Nat.div_add_mod m (2 ^ k)
  rw [h1, Nat.add_zero] at h4
  have h5 : 2 * (m / 2 ^ k / 2) + 1 = m / 2 ^ k := by omega
  rw [h5]; exact h4.symm
theorem pred_bit {m k j : Nat} (hk : m.testBit k = true) (hl : ∀ j, j < k → m.testBit j = false) : (m - 1).testBit j = if j < k then true else if j = k then false else m.testBit j := by
  obtain ⟨q, rfl⟩ := low_form hk hl
  have hp : 0 < 2 ^ k := Nat.two_pow_pos k
  have e1 : 2 ^ k * (2 * q + 1) - 1 = 2 ^ (k + 1) * q + (2 ^ k - 1) := by
    rw [Nat.pow_succ, Nat.mul_add, Nat.mul_one, ← Nat.mul_assoc]
    omega
  have e2 : 2 ^ k * (2 * q + 1) = 2 ^ (k + 1) * q + 2 ^ k := by
    rw [Nat.pow_succ, Nat.mul_add, Nat.mul_one, ← Nat.mul_assoc]
  rw [e1, e2]
  have hlt1 : 2 ^ k - 1 < 2 ^ (k + 1) := by rw [Nat.pow_succ]; omega
  have hlt2 : 2 ^ k < 2 ^ (k + 1) := by rw [Nat.pow_succ]; omega
  rw [Nat.testBit_two_pow_mul_add _ hlt1, Nat.testBit_two_pow_mul_add _ hlt2]
  by_cases h1 : j < k
  · simp [h1, Nat.lt_succ_of_lt h1, Nat.testBit_two_pow_sub_one]
  · by_cases h2 : j = k
    · subst h2; simp [Nat.testBit_two_pow_sub_one]
    · have : ¬ j < k + 1 := by omega
      simp [h1, h2, this]
/-- without the least member -/
theorem drop_low {m k : Nat} (hk : m.testBit k = true) (hl : ∀ j, j < k → m.testBit j = false) (i : Nat) : (m &&& (m - 1)).testBit i = (m.testBit i && decide (i ≠ k)) := by
  rw [Nat.testBit_and, pred_bit hk hl]
  by_cases h1 : i < k
  · simp [h1, hl i h1]
  · by_cases h2 : i = k
    · subst h2; simp
    · simp [h1, h2]
theorem filter_split {p : Nat → Bool} {k : Nat} : ∀ (n s : Nat), s ≤ k → k < s + n → (∀ j, s ≤ j → j < k → p j = false) → p k = true →
    (List.range' s n).filter p = k :: (List.range' s n).filter (fun i => p i && decide (i ≠ k))
  | 0, s, h1, h2, _, _ => by omega
  | n + 1, s, h1, h2, hl, hk => by
    rw [List.range'_succ]
    by_cases h : s = k
    · subst h
      simp only [List.filter_cons, hk, if_true, ne_eq, not_true_eq_false, decide_false, Bool.and_false, Bool.false_eq_true, if_false]
      congr 1
      apply List.filter_congr
      intro x hx
      have := List.mem_range'_1.1 hx
      have : x ≠ s := by omega
      simp [this]
    · have hs : p s = false := hl s (Nat.le_refl _) (by omega)
      simp only [List.filter_cons, hs, Bool.false_and, Bool.false_eq_true, if_false]
      exact filter_split n (s + 1) (by omega) (by omega) (fun j a b => hl j (by omega) b) hk
theorem members_low {m k : Nat} (h : k < 32) (hk : m.testBit k = true) (hl : ∀ j, j < k → m.testBit j = false) : membersN m = k :: membersN (m &&& (m - 1)) := by
  unfold membersN
  rw [List.range_eq_range']
  rw [filter_split 32 0 (Nat.zero_le _) (by omega) (fun j _ b => hl j b) hk]
  congr 2
  funext i
  exact (drop_low hk hl i).symm
theorem bit_small {m i : Nat} (hm : m < w32) (h : m.testBit i = true) : i < 32 := by
  by_cases hi : i < 32
  · exact hi
  · rw [Nat.testBit_lt_two_pow (Nat.lt_of_lt_of_le hm (Nat.pow_le_pow_right (show 2 > 0 by decide) (show 32 ≤ i by omega)))] at h
    cases h
end Go.Mid
/- Members of sets, full sets: what the functions compute. -/
namespace Go.Mid
set_option linter.unusedSimpArgs false
set_option linter.unusedVariables false
/-! ### trailing zeros -/
theorem wrap_neg {m : Nat} (h0 : m ≠ 0) (hm : m < w32) : IntKind.u32.wrap ((0 : Int) - (m : Int)) = ((w32 - m : Nat) : Int) := by
  have h : (m : Int) < 4294967296 := by unfold w32 at hm; omega
  have h2 : ((w32 - m : Nat) : Int) = 4294967296 - (m : Int) := by unfold w32 at hm ⊢; omega
  rw [h2]
  simp only [IntKind.wrap, IntKind.bits, IntKind.signed]
  simp
  omega
theorem low_and {m k : Nat} (hm : m < w32) (hk : m.testBit k = true) (hl : ∀ j, j < k → m.testBit j = false) : (m &&& (w32 - m)) = 2 ^ k := by
  have h0 : m ≠ 0 := by intro e; rw [e, Nat.zero_testBit] at hk; cases hk
  apply Nat.eq_of_testBit_eq
  intro j
  have e : w32 - m = 2 ^ 32 - ((m - 1) + 1) := by unfold w32; omega
  rw [Nat.testBit_and, e, Nat.testBit_two_pow_sub_succ (show m - 1 < 2 ^ 32 by unfold w32 at hm; omega), pred_bit hk hl, Nat.testBit_two_pow]
  have hk32 := bit_small hm hk
  by_cases h1 : j < k
  · have : ¬ k = j := by omega
    simp [hl j h1, this]
  · by_cases h2 : j = k
    · subst h2; simp [hk, hk32]
    · have : ¬ k = j := by omega
      simp [h1, h2, this]
      cases m.testBit j <;> simp
noncomputable def tzF (y : Int) : Option Int :=
  bif decide ((0 : Int) ≤ shrI IntKind.u32 (IntKind.u32.wrap (y * (125613361 : Int))) (27 : Int)) then
    bif (shrI IntKind.u32 (IntKind.u32.wrap (y * (125613361 : Int))) (27 : Int)).toNat.blt 32 then
      [(0 : Int), (1 : Int), (28 : Int), (2 : Int), (29 : Int), (14 : Int), (24 : Int), (3 : Int), (30 : Int), (22 : Int), (20 : Int), (15 : Int), (25 : Int), (17 : Int), (4 : Int), (8 : Int), (31 : Int), (27 : Int), (13 : Int), (23 : Int),
              (21 : Int), (19 : Int), (16 : Int), (7 : Int), (26 : Int), (12 : Int), (18 : Int), (6 : Int), (11 : Int), (5 : Int), (10 : Int),
              (9 : Int)][(shrI IntKind.u32 (IntKind.u32.wrap (y * (125613361 : Int))) (27 : Int)).toNat]?.bind
        fun y => some (IntKind.i64.wrap y)
    else none
  else none
theorem tzF_pow : ∀ k : Nat, k < 32 → tzF ((2 ^ k : Nat) : Int) = some (k : Int)
  | 0, _ => by kernel_rfl
  | 1, _ => by kernel_rfl
  | 2, _ => by kernel_rfl
  | 3, _ => by kernel_rfl
  | 4, _ => by kernel_rfl
  | 5, _ => by kernel_rfl
  | 6, _ => by kernel_rfl
  | 7, _ => by kernel_rfl
  | 8, _ => by kernel_rfl
  | 9, _ => by kernel_rfl
  | 10, _ => by kernel_rfl
  | 11, _ => by kernel_rfl
  | 12, _ => by kernel_rfl
  | 13, _ => by kernel_rfl
  | 14, _ => by kernel_rfl
  | 15, _ => by kernel_rfl
  | 16, _ => by kernel_rfl
  | 17, _ => by kernel_rfl
  | 18, _ => by kernel_rfl
  | 19, _ => by kernel_rfl
  | 20, _ => by kernel_rfl
  | 21, _ => by kernel_rfl
  | 22, _ => by kernel_rfl
  | 23, _ => by kernel_rfl
  | 24, _ => by kernel_rfl
  | 25, _ => by kernel_rfl
  | 26, _ => by kernel_rfl
  | 27, _ => by kernel_rfl
  | 28, _ => by kernel_rfl
  | 29, _ => by kernel_rfl
  | 30, _ => by kernel_rfl
  | 31, _ => by kernel_rfl
  | n + 32, h => by omega
theorem low_andI {m k : Nat} (hm : m < w32) (hk : m.testBit k = true) (hl : ∀ j, j < k → m.testBit j = false) : andI IntKind.u32 (m : Int) (IntKind.u32.wrap ((0 : Int) - (m : Int))) = ((2 ^ k : Nat) : Int) := by
  have h0 : m ≠ 0 := by intro e; rw [e, Nat.zero_testBit] at hk; cases hk
  rw [wrap_neg h0 hm, and_nat hm (Nat.sub_lt (by decide) (Nat.pos_of_ne_zero h0)), low_and hm hk hl]
theorem tz_form (x : Int) : math_bits_TrailingZeros32 x = bif x == (0 : Int) then some (32 : Int) else tzF (andI IntKind.u32 x (IntKind.u32.wrap ((0 : Int) - x))) := rfl
theorem tz_eq {m k : Nat} (hm : m < w32) (hk : m.testBit k = true) (hl : ∀ j, j < k → m.testBit j = false) : math_bits_TrailingZeros32 (m : Int) = some (k : Int) := by
  have h0 : m ≠ 0 := by intro e; rw [e, Nat.zero_testBit] at hk; cases hk
  have e0 : ((m : Int) == 0) = false := by rw [beq_eq_false_iff_ne]; omega
  rw [tz_form, e0, cond_false, low_andI hm hk hl]
  exact tzF_pow k (bit_small hm hk)
/-! ### members -/
def membersI (m : Nat) : List Int := (membersN m).map fun k : Nat => (k : Int)
theorem members_nil {m : Nat} (hm : m < w32) (h : membersN m = []) : m = 0 := by
  by_cases h0 : m = 0
  · exact h0
  · obtain ⟨k, hk, _⟩ := exists_low h0
    have : k ∈ membersN m := List.mem_filter.2 ⟨List.mem_range.2 (bit_small hm hk), hk⟩
    rw [h] at this; cases this
theorem membersN_len (m : Nat) : (membersN m).length ≤ 32 := Nat.le_trans (List.length_filter_le ..) (by simp)
theorem membersI_len (m : Nat) : (membersI m).length ≤ 32 := by unfold membersI; rw [List.length_map]; exact membersN_len m
theorem members_loop : ∀ (L : List Nat) (m : Nat) (acc : List Int), membersN m = L → m < w32 → acc.length + L.length ≤ 32 →
    loopI attrset_Members_l0 (((m : Int), acc.length), acc) = some ((acc ++ L.map fun k : Nat => (k : Int)).length, acc ++ L.map fun k : Nat => (k : Int))
  | [], m, acc, h, hm, _ => by
    rw [members_nil hm h]
    rw [loopI_r (r := (acc.length, acc)) (by simp [attrset_Members_l0])]
    simp
  | k :: r, m, acc, h, hm, hn => by
    have hk : m.testBit k = true := by
      have : k ∈ membersN m := by rw [h]; simp
      exact (List.mem_filter.1 this).2
    have h0 : m ≠ 0 := by intro e; rw [e, Nat.zero_testBit] at hk; cases hk
    obtain ⟨k', hk', hl'⟩ := exists_low h0
    have hk32 := bit_small hm hk'
    rw [members_low hk32 hk' hl'] at h
    obtain ⟨rfl, hr⟩ := List.cons.inj h
    have e0 : ((m : Int) != 0) = true := by rw [bne_iff_ne]; omega
    have e1 : IntKind.u32.wrap ((m : Int) - 1) = ((m - 1 : Nat) : Int) := by
      have : ((m - 1 : Nat) : Int) = (m : Int) - 1 := by omega
      rw [← this]; exact wrap_u32n (by omega)
    have e2 : andI IntKind.u32 (m : Int) ((m - 1 : Nat) : Int) = ((m &&& (m - 1) : Nat) : Int) := and_nat hm (by omega)
    simp only [List.length_cons] at hn
    rw [loopI_l (b := ((((m &&& (m - 1) : Nat) : Int), (acc ++ [(k' : Int)]).length), acc ++ [(k' : Int)])) (by
      simp only [attrset_Members_l0, e0, cond_true, tz_eq hm hk' hl', Option.bind_some, ble_true (Nat.le_refl _), e1, e2, take_all, List.length_append, List.length_cons, List.length_nil]
      rw [ble_true (by omega)]
      rfl)]
    rw [members_loop r (m &&& (m - 1)) _ hr (Nat.lt_of_le_of_lt Nat.and_le_left hm) (by simp only [List.length_append, List.length_cons, List.length_nil]; omega)]
    simp
theorem Members_eq {m : Nat} (hm : m < w32) : attrset_Members (m : Int) = some (membersI m) := by
  unfold attrset_Members membersI
  have := members_loop (membersN m) m [] rfl hm (by simpa using membersN_len m)
  simp only [List.length_nil, List.nil_append] at this
  rw [this]
  simp only [Option.bind_some, ble_true (Nat.le_refl _), cond_true, take_all]
theorem Has_eq {m i : Nat} (hm : m < w32) : drossref02_Has ((m : Int), (i : Int)) = some (m.testBit i) := by
  unfold drossref02_Has
  by_cases hi : i < 32
  · have : (i : Int) < 32 := by omega
    simp only [ge_iff_le, Int.natCast_nonneg, decide_true, cond_true, this, has_bit hm hi]
  · have h1 : ¬ (i : Int) < 32 := by omega
    have h2 : m.testBit i = false := by
      cases h : m.testBit i with
      | false => rfl
      | true => exact absurd (bit_small hm h) hi
    simp only [ge_iff_le, Int.natCast_nonneg, decide_true, cond_true, h1, decide_false, cond_false, h2]
theorem refMembers_eq {m : Nat} (hm : m < w32) : drossref02_Members (m : Int) = some (membersI m) := by
  unfold drossref02_Members
  have hs : ∀ i, (((List.range (i + 1)).filter fun k => m.testBit k).map fun k : Nat => (k : Int)) = (((List.range i).filter fun k => m.testBit k).map fun k : Nat => (k : Int)) ++ (if m.testBit i then [(i : Int)] else []) := by
    intro i
    rw [List.range_succ, List.filter_append, List.map_append]
    congr 1
    by_cases h : m.testBit i = true <;> simp [h]
  have hlen : ∀ i, (((List.range i).filter fun k => m.testBit k).map fun k : Nat => (k : Int)).length ≤ i := fun i => by
    rw [List.length_map]; exact Nat.le_trans (List.length_filter_le ..) (by simp)
  have := loop_steps (f := drossref02_Members_l0) 32 (fun i => (((m : Int), (((List.range i).filter fun k => m.testBit k).map fun k : Nat => (k : Int)).length, (i : Int)), ((List.range i).filter fun k => m.testBit k).map fun k : Nat => (k : Int))) ((membersI m).length, membersI m) (fun i hi => by
    have hi' : (i : Int) < 32 := by omega
    have hb := hlen i
    rw [hs i]
    generalize ((List.range i).filter fun k => m.testBit k).map (fun k : Nat => (k : Int)) = F at hb
    simp only [drossref02_Members_l0, hi', decide_true, cond_true, Has_eq hm, Option.bind_some, wrap_i64s (show i < 9223372036854775807 by omega)]
    by_cases h : m.testBit i = true
    · simp only [h, cond_true, ble_true (Nat.le_refl _), take_all, if_true, List.length_append, List.length_cons, List.length_nil]
      rw [ble_true (by omega)]
      rfl
    · simp [h]) (by
    simp only [drossref02_Members_l0]
    rfl)
  have h0 : (((List.range 0).filter fun k => m.testBit k).map fun k : Nat => (k : Int)) = [] := rfl
  rw [h0] at this
  simp only [List.length_nil, Int.natCast_zero] at this
  rw [this]
  simp only [Option.bind_some, ble_true (Nat.le_refl _), cond_true, take_all]
/-! ### full sets -/
theorem or_full (i : Nat) : (2 ^ i - 1) ||| 2 ^ i = 2 ^ (i + 1) - 1 := by
  apply Nat.eq_of_testBit_eq
  intro j
  rw [Nat.testBit_or, Nat.testBit_two_pow_sub_one, Nat.testBit_two_pow_sub_one, Nat.testBit_two_pow]
  by_cases h1 : j < i
  · simp [h1, Nat.lt_succ_of_lt h1]
  · by_cases h2 : i = j
    · subst h2; simp
    · have : ¬ j < i + 1 := by omega
      simp [h1, h2, this]
theorem shl_one {i : Nat} (hi : i < 32) : shlI IntKind.u32 1 (i : Int) = ((2 ^ i : Nat) : Int) := by
  unfold shlI
  have e : min ((i : Int).toNat) IntKind.u32.bits = i := by
    show min i 32 = i
    omega
  rw [e, Int.one_mul]
  have : ((2 : Int) ^ i) = ((2 ^ i : Nat) : Int) := by simp
  rw [this]
  exact wrap_u32n (Nat.pow_lt_pow_right (by decide) hi)
theorem pow_le_w {i : Nat} (hi : i ≤ 32) : 2 ^ i ≤ w32 := Nat.pow_le_pow_right (show 2 > 0 by decide) hi
theorem Full_eq {n : Nat} (hn : n < 32) : drossref02_Full (n : Int) = some ((2 ^ n - 1 : Nat) : Int) := by
  unfold drossref02_Full
  have : loopI drossref02_Full_l0 ((n : Int), 0, 0) = some ((2 ^ n - 1 : Nat) : Int) := loop_steps (f := drossref02_Full_l0) n (fun i => ((n : Int), ((2 ^ i - 1 : Nat) : Int), (i : Int))) ((2 ^ n - 1 : Nat) : Int) (fun i hi => by
    have hi' : (i : Int) < n := by omega
    have h32 : (i : Int) < 32 := by omega
    have hp := pow_le_w (show i ≤ 32 by omega)
    have hp1 : 2 ^ i < w32 := Nat.pow_lt_pow_right (by decide) (show i < 32 by omega)
    have hpos : 0 < 2 ^ i := Nat.two_pow_pos i
    simp only [drossref02_Full_l0, hi', h32, decide_true, cond_true, Int.natCast_nonneg, shl_one (show i < 32 by omega), or_nat (show 2 ^ i - 1 < w32 by omega) hp1, or_full, wrap_i64s (show i < 9223372036854775807 by omega)]) (by
    simp only [drossref02_Full_l0, Int.lt_irrefl, decide_false, cond_false])
  rw [this]
  rfl
end Go.Mid
/- Tables out of recipes: what the functions compute; they are valid. -/
namespace Go.Mid
set_option linter.unusedSimpArgs false
set_option linter.unusedVariables false
def validO (o : Option ValV) : Prop := ∃ v, o = some v ∧ valueOk v = true
theorem validO_cond {c : Bool} {a b : Option ValV} (ha : validO a) (hb : validO b) : validO (bif c then a else b) := by
  cases c
  · exact hb
  · exact ha
theorem Of_valid (y : Int) : validO (drossref01_Of y) := by
  unfold drossref01_Of
  repeat (first | exact ⟨_, rfl, by kernel_rfl⟩ | refine validO_cond ⟨_, rfl, by kernel_rfl⟩ ?_)
noncomputable def ofV (y : Int) : ValV := (drossref01_Of y).getD v0
theorem Of_eq (y : Int) : drossref01_Of y = some (ofV y) := by
  obtain ⟨v, h, _⟩ := Of_valid y
  unfold ofV
  rw [h]; rfl
theorem ofV_ok (y : Int) : valueOk (ofV y) = true := by
  obtain ⟨v, h, hv⟩ := Of_valid y
  unfold ofV
  rw [h]; exact hv
/-- a row of a recipe -/
noncomputable def valsW (l : List Int) (n : Nat) : List ValV := (List.range n).map fun k => ofV (l.getD k 0)
theorem valsW_succ (l : List Int) (n : Nat) : valsW l (n + 1) = valsW l n ++ [ofV (l.getD n 0)] := by
  simp [valsW, List.range_succ]
theorem valsW_len (l : List Int) (n : Nat) : (valsW l n).length = n := by simp [valsW]
theorem valsW_ok (l : List Int) (n : Nat) : okR (valsW l n) := by
  intro v hv
  obtain ⟨k, _, rfl⟩ := List.mem_map.1 hv
  exact ofV_ok _
abbrev RecV := Int × Int × List (List Int)
def gapW (x : RecV) : Int := 1 + x.2.1.tmod 3
noncomputable def rowW (x : RecV) (n i : Nat) : RowV := (1 + (i : Int) * gapW x, valsW (x.2.2.getD i []) n)
noncomputable def rowsW (x : RecV) (n i : Nat) : List RowV := (List.range i).map (rowW x n)
theorem rowsW_succ (x : RecV) (n i : Nat) : rowsW x n (i + 1) = rowsW x n i ++ [rowW x n i] := by simp [rowsW, List.range_succ]
theorem rowsW_len (x : RecV) (n i : Nat) : (rowsW x n i).length = i := by simp [rowsW]
def letters : List ByteArray := [⟨#[97]⟩, ⟨#[98]⟩, ⟨#[99]⟩, ⟨#[100]⟩, ⟨#[101]⟩, ⟨#[102]⟩, ⟨#[103]⟩, ⟨#[104]⟩]
noncomputable def tabW (x : RecV) (n : Nat) : TabV := (⟨#[114]⟩, letters.take n, rowsW x n x.2.2.length)
theorem gap_rng {x : RecV} (h0 : 0 ≤ x.2.1) : 1 ≤ gapW x ∧ gapW x ≤ 3 := by
  unfold gapW
  rw [Int.tmod_eq_emod_of_nonneg h0]
  omega
theorem wide_inner {x : RecV} {n i : Nat} (hn : n ≤ 8) (hi : i < x.2.2.length) (hi2 : i < 1000) (Z : ByteArray × (List ByteArray × Nat) × List RowV × Nat) (Y : ByteArray × (List ByteArray × Nat) × List RowV × Nat) (id : Int) :
    loopI drossref03_Wide_l1 (((n : Int), (i : Int), (0 : Int)), x, Z, Y, id, [], 0) = some (((n : Int), (i : Int)), x, Z, Y, id, valsW x.2.2[i] n, n) := by
  have : loopI drossref03_Wide_l1 (((n : Int), (i : Int), ((0 : Nat) : Int)), x, Z, Y, id, valsW x.2.2[i] 0, 0) = some (((n : Int), (i : Int)), x, Z, Y, id, valsW x.2.2[i] n, n) :=
    loop_steps (f := drossref03_Wide_l1) n (fun k => (((n : Int), (i : Int), (k : Int)), x, Z, Y, id, valsW x.2.2[i] k, k)) _ (fun k hk => by
      have hk' : (k : Int) < n := by omega
      have hl := valsW_len x.2.2[i] k
      rw [valsW_succ]
      generalize hV : valsW x.2.2[i] k = V at hl
      have b1 : k.ble V.length = true := ble_true (by omega)
      have b2 : ((k + 1) * 32).ble 140737488355328 = true := ble_true (by omega)
      have b3 : (k + 1).ble (V ++ [ofV (x.2.2[i].getD k 0)]).length = true := ble_true (by simp; omega)
      have t1 : V.take k = V := by rw [← hl]; exact List.take_length
      simp only [drossref03_Wide_l1, hk', decide_true, cond_true, Int.natCast_nonneg, Int.toNat_natCast, List.getElem?_eq_getElem hi, Option.bind_some, beq_self_eq_true, wrap_i64s (show k < 9223372036854775807 by omega)]
      by_cases hlen : (k : Int) < (x.2.2[i].length : Int)
      · have hlen' : k < x.2.2[i].length := by omega
        have hg : x.2.2[i].getD k 0 = x.2.2[i][k] := by rw [List.getD, List.getElem?_eq_getElem hlen']; rfl
        rw [hg] at b3 ⊢
        simp only [hlen, decide_true, cond_true, List.getElem?_eq_getElem hlen', Option.bind_some, Of_eq, b1, b2, t1, b3]
      · have hg : x.2.2[i].getD k 0 = 0 := by rw [List.getD, List.getElem?_eq_none (by omega)]; rfl
        rw [hg] at b3 ⊢
        simp only [hlen, decide_false, cond_false, Of_eq, Option.bind_some, b1, b2, t1, b3, cond_true]) (by
      simp only [drossref03_Wide_l1, Int.lt_irrefl, decide_false, cond_false])
  exact this
theorem wrap_id {x : RecV} {i : Nat} (h0 : 0 ≤ x.2.1) (hi : i < 1000) : IntKind.i64.wrap ((1 : Int) + IntKind.i64.wrap ((i : Int) * IntKind.i64.wrap ((1 : Int) + IntKind.i64.wrap (x.2.1.tmod (3 : Int))))) = 1 + (i : Int) * gapW x := by
  obtain ⟨h1, h2⟩ := gap_rng h0
  have e1 : IntKind.i64.wrap (x.2.1.tmod 3) = x.2.1.tmod 3 := wrap_i64 (by unfold gapW at h1; omega) (by unfold gapW at h2; omega)
  have e2 : IntKind.i64.wrap ((1 : Int) + x.2.1.tmod 3) = gapW x := wrap_i64 (by unfold gapW at h1; omega) (by unfold gapW at h2; omega)
  have hm1 : 0 ≤ (i : Int) * gapW x := Int.mul_nonneg (by omega) (by omega)
  have hm2 : (i : Int) * gapW x ≤ 1000 * 3 := Int.mul_le_mul (by omega) h2 (by omega) (by omega)
  rw [e1, e2, wrap_i64 (x := (i : Int) * gapW x) (by omega) (by omega), wrap_i64 (by omega) (by omega)]
theorem Wide_eq {x : RecV} {n : Nat} (h0 : 0 ≤ x.2.1) (hn : n ≤ 8) (hl : x.2.2.length ≤ 1000) : drossref03_Wide (x, (n : Int)) = some (tabW x n) := by
  unfold drossref03_Wide
  have ht : (letters.take n).length = n := by rw [List.length_take]; show min n 8 = n; omega
  show (bif decide ((0 : Int) ≤ (n : Int)) then bif n.ble 8 then bif Nat.ble 0 0 then bif ((0 + (letters.take n).length) * 16).ble 140737488355328 then bif (0 + (letters.take n).length).ble (List.take 0 [] ++ letters.take n).length then _ else _ else _ else _ else _ else _) = _
  have loop : loopI drossref03_Wide_l0 (((n : Int), (0 : Int)), x, ((⟨#[]⟩, ([], 0), [], 0) : ByteArray × (List ByteArray × Nat) × List RowV × Nat), ⟨#[114]⟩, (List.take 0 [] ++ letters.take n, 0 + (letters.take n).length), [], 0) =
      some ((⟨#[]⟩, ([], 0), [], 0), ⟨#[114]⟩, (List.take 0 [] ++ letters.take n, 0 + (letters.take n).length), rowsW x n x.2.2.length, x.2.2.length) := by
    have : loopI drossref03_Wide_l0 (((n : Int), ((0 : Nat) : Int)), x, ((⟨#[]⟩, ([], 0), [], 0) : ByteArray × (List ByteArray × Nat) × List RowV × Nat), ⟨#[114]⟩, (List.take 0 [] ++ letters.take n, 0 + (letters.take n).length), rowsW x n 0, 0) = _ :=
      loop_steps (f := drossref03_Wide_l0) x.2.2.length (fun i => (((n : Int), (i : Int)), x, ((⟨#[]⟩, ([], 0), [], 0) : ByteArray × (List ByteArray × Nat) × List RowV × Nat), ⟨#[114]⟩, (List.take 0 [] ++ letters.take n, 0 + (letters.take n).length), rowsW x n i, i)) ((⟨#[]⟩, ([], 0), [], 0), ⟨#[114]⟩, (List.take 0 [] ++ letters.take n, 0 + (letters.take n).length), rowsW x n x.2.2.length, x.2.2.length) (fun i hi => by
        have hi' : (i : Int) < x.2.2.length := by omega
        have hw := wide_inner (n := n) hn hi (by omega) ((⟨#[]⟩, ([], 0), [], 0) : ByteArray × (List ByteArray × Nat) × List RowV × Nat) (⟨#[114]⟩, (List.take 0 [] ++ letters.take n, 0 + (letters.take n).length), rowsW x n i, i) (1 + (i : Int) * gapW x)
        have hV := valsW_len x.2.2[i] n
        have hR := rowsW_len x n i
        have hg : x.2.2.getD i [] = x.2.2[i] := by rw [List.getD, List.getElem?_eq_getElem hi]; rfl
        rw [rowsW_succ]
        have hrow : rowW x n i = (1 + (i : Int) * gapW x, valsW x.2.2[i] n) := by unfold rowW; rw [hg]
        rw [hrow]
        generalize hRR : rowsW x n i = R at hR hw
        generalize hVV : valsW x.2.2[i] n = V at hV hw
        have t1 : V.take n = V := by rw [← hV]; exact List.take_length
        have t2 : R.take i = R := by rw [← hR]; exact List.take_length
        have t3 : List.take 1 ([] ++ [((1 + (i : Int) * gapW x, V) : RowV)]) = [((1 + (i : Int) * gapW x, V) : RowV)] := rfl
        simp only [drossref03_Wide_l0, hi', decide_true, cond_true, wrap_id h0 (show i < 1000 by omega)]
        rw [hw]
        simp only [Option.bind_some, beq_self_eq_true, cond_true, t1, t2, t3]
        rw [ble_true (show n ≤ V.length by omega), ble_true (show 1 ≤ 0 + 1 by omega), ble_true (show i ≤ R.length by omega), ble_true (show (i + 1) * 32 ≤ 140737488355328 by omega), ble_true (show i + 1 ≤ (R ++ [((1 + (i : Int) * gapW x, V) : RowV)]).length by simp; omega), wrap_i64s (show i < 9223372036854775807 by omega)]
        rfl) (by
        simp only [drossref03_Wide_l0, Int.lt_irrefl, decide_false, cond_false])
    exact this
  rw [decide_eq_true (Int.natCast_nonneg n), ble_true (show n ≤ 8 from hn), ble_true (Nat.le_refl 0), ble_true (show (0 + (letters.take n).length) * 16 ≤ 140737488355328 by omega), ble_true (show 0 + (letters.take n).length ≤ (List.take 0 ([] : List ByteArray) ++ letters.take n).length by simp)]
  simp only [cond_true]
  have hR := rowsW_len x n x.2.2.length
  refine (congrArg (fun o => Option.bind o _) loop).trans ?_
  simp only [Option.bind_some]
  rw [ble_true (show 0 + (letters.take n).length ≤ (List.take 0 ([] : List ByteArray) ++ letters.take n).length by simp), ble_true (show x.2.2.length ≤ (rowsW x n x.2.2.length).length by omega)]
  simp only [cond_true]
  unfold tabW
  congr 3
  · simp only [List.take_zero, List.nil_append, Nat.zero_add, take_all]
  · rw [List.take_of_length_le (by omega)]
end Go.Mid
/- ConditionalFD: the plain law. -/
namespace Go.Mid
set_option linter.unusedSimpArgs false
set_option linter.unusedVariables false
/-! ### the dependencies of a functional dependency -/
def anyC : CellV := (true, 0, 0, ⟨#[]⟩)
def cfdOf (l : Nat) (a : Int) : CfdV := (membersI l, a, List.replicate ((membersI l).length + 1) anyC)
def fromS (l r : Nat) : List CfdV := (membersI (lessN r l)).map (cfdOf l)
theorem any_snoc (k : Nat) : List.replicate (k + 1) anyC = List.replicate k anyC ++ [anyC] := List.replicate_succ'
theorem clone_small (l : List Int) (h : l.length ≤ 32) : cloneL 8 l = some l := by
  unfold cloneL
  rw [ble_true (by omega)]
  rfl
theorem from_inner {y z : List Int} {N : Nat} {zl i : Int} (acc : List CfdV) (v : List Int) (u : Int) (hy : y.length ≤ 32) :
    loopI conditional_FromFD_l1 ((y, N, z, zl, i, ((y.length + 1 : Nat) : Int), 0), acc, v, u, [], 0) = some ((y, N, z, zl, i), acc, v, u, List.replicate (y.length + 1) anyC, y.length + 1) := by
  have : loopI conditional_FromFD_l1 ((y, N, z, zl, i, ((y.length + 1 : Nat) : Int), ((0 : Nat) : Int)), acc, v, u, List.replicate 0 anyC, 0) = _ :=
    loop_steps (f := conditional_FromFD_l1) (y.length + 1) (fun k => ((y, N, z, zl, i, ((y.length + 1 : Nat) : Int), (k : Int)), acc, v, u, List.replicate k anyC, k)) ((y, N, z, zl, i), acc, v, u, List.replicate (y.length + 1) anyC, y.length + 1) (fun k hk => by
      have hk' : (k : Int) < ((y.length + 1 : Nat) : Int) := by omega
      have hl : (List.replicate k anyC).length = k := List.length_replicate
      have t1 : (List.replicate k anyC).take k = List.replicate k anyC := by rw [List.take_of_length_le (by omega)]
      rw [any_snoc]
      generalize hR : List.replicate k anyC = R at hl t1
      simp only [conditional_FromFD_l1, hk', decide_true, cond_true, beq_self_eq_true, t1]
      rw [ble_true (show k ≤ R.length by omega), ble_true (show (k + 1) * 40 ≤ 140737488355328 by omega), ble_true (show k + 1 ≤ (R ++ [((true, (0 : Int), (0 : Int), (ByteArray.mk #[])) : CellV)]).length by simp; omega), wrap_i64s (show k < 9223372036854775807 by omega)]
      rfl) (by
      simp only [conditional_FromFD_l1, Int.lt_irrefl, decide_false, cond_false])
  exact this
theorem FromFD_eq {l r : Nat} (hl : l < w32) (hr : r < w32) : conditional_FromFD ((l : Int), (r : Int)) = some (fromS l r) := by
  unfold conditional_FromFD
  have hd := lessN_lt (n := l) hr
  have hy := membersI_len l
  have hz := membersI_len (lessN r l)
  simp only [Members_eq hl, Option.bind_some, andNot_nat hr hl, Members_eq hd]
  unfold fromS
  generalize hy' : membersI l = y at hy
  generalize hz' : membersI (lessN r l) = z at hz
  have hc : ∀ a, cfdOf l a = (y, a, List.replicate (y.length + 1) anyC) := fun a => by unfold cfdOf; rw [hy']
  have : loopI conditional_FromFD_l0 ((y, 0, z, (z.length : Int), ((0 : Nat) : Int)), (z.take 0).map (cfdOf l)) = some (z.length, z.map (cfdOf l)) :=
    loop_steps (f := conditional_FromFD_l0) z.length (fun i => ((y, i, z, (z.length : Int), (i : Int)), (z.take i).map (cfdOf l))) (z.length, z.map (cfdOf l)) (fun i hi => by
      have hi' : (i : Int) < z.length := by omega
      have hlen : ((z.take i).map (cfdOf l)).length = i := by rw [List.length_map, List.length_take]; omega
      rw [take_succ hi, List.map_append]
      generalize (z.take i).map (cfdOf l) = F at hlen
      have t1 : F.take i = F := List.take_of_length_le (by omega)
      have t2 : (List.replicate (y.length + 1) anyC).take (y.length + 1) = List.replicate (y.length + 1) anyC := List.take_of_length_le (by simp)
      have hin := from_inner (N := i) (z := z) (zl := (z.length : Int)) (i := (i : Int)) F y z[i] hy
      simp only [conditional_FromFD_l0, hi', decide_true, cond_true, Int.natCast_nonneg, Int.toNat_natCast, List.getElem?_eq_getElem hi, Option.bind_some, clone_small y hy, wrap_i64s (show y.length < 9223372036854775807 by omega), hin, t1, t2]
      rw [ble_true (show y.length + 1 ≤ (List.replicate (y.length + 1) anyC).length by simp), ble_true (show 1 ≤ 0 + 1 by omega), ble_true (show i ≤ F.length by omega), ble_true (show (i + 1) * 56 ≤ 140737488355328 by omega), wrap_i64s (show i < 9223372036854775807 by omega)]
      simp only [cond_true, List.map_cons, List.map_nil, hc]
      rfl) (by
      simp only [conditional_FromFD_l0, Int.lt_irrefl, decide_false, cond_false, take_all])
  have this : loopI conditional_FromFD_l0 ((y, 0, z, (z.length : Int), 0), []) = some (z.length, z.map (cfdOf l)) := this
  rw [this]
  simp only [Option.bind_some]
  rw [ble_true (show z.length ≤ (z.map (cfdOf l)).length by simp), List.take_of_length_le (by simp)]
  rfl
/-! ### the reference -/
theorem filter_range_add {p : Nat → Bool} {a : Nat} (h : ∀ i, a ≤ i → p i = false) : ∀ b, (List.range (a + b)).filter p = (List.range a).filter p
  | 0 => rfl
  | b + 1 => by
    rw [← Nat.add_assoc, List.range_succ, List.filter_append, filter_range_add h b]
    simp [h (a + b) (by omega)]
theorem members16 {m : Nat} (h : m < 65536) : membersN m = (List.range 16).filter fun i => m.testBit i := by
  unfold membersN
  exact filter_range_add (a := 16) (fun i hi => Nat.testBit_lt_two_pow (Nat.lt_of_lt_of_le h (Nat.pow_le_pow_right (show 2 > 0 by decide) hi))) 16
theorem ref_from_inner {y : List Int} {N : Nat} {a : Int} (x : Int × Int) (acc : List CfdV) (v : List Int × Nat) (u : Int) (hy : y.length ≤ 32) :
    loopI drossref16_FromFD_l1 ((N, y, a, 0), x, acc, v, u, [], 0) = some ((N, y, a), x, acc, v, u, List.replicate (y.length + 1) anyC, y.length + 1) := by
  have : loopI drossref16_FromFD_l1 ((N, y, a, ((0 : Nat) : Int)), x, acc, v, u, List.replicate 0 anyC, 0) = _ :=
    loop_steps (f := drossref16_FromFD_l1) (y.length + 1) (fun k => ((N, y, a, (k : Int)), x, acc, v, u, List.replicate k anyC, k)) ((N, y, a), x, acc, v, u, List.replicate (y.length + 1) anyC, y.length + 1) (fun k hk => by
      have hk' : (k : Int) ≤ (y.length : Int) := by omega
      have hl : (List.replicate k anyC).length = k := List.length_replicate
      have t1 : (List.replicate k anyC).take k = List.replicate k anyC := by rw [List.take_of_length_le (by omega)]
      rw [any_snoc]
      generalize hR : List.replicate k anyC = R at hl t1
      simp only [drossref16_FromFD_l1, hk', decide_true, cond_true, beq_self_eq_true, t1]
      rw [ble_true (show k ≤ R.length by omega), ble_true (show (k + 1) * 40 ≤ 140737488355328 by omega), ble_true (show k + 1 ≤ (R ++ [((true, (0 : Int), (0 : Int), (ByteArray.mk #[])) : CellV)]).length by simp; omega), wrap_i64s (show k < 9223372036854775807 by omega)]
      rfl) (by
      have : ¬ ((y.length + 1 : Nat) : Int) ≤ (y.length : Int) := by omega
      simp only [drossref16_FromFD_l1, this, decide_false, cond_false])
  exact this
def refF (l r i : Nat) : List CfdV := (((List.range i).filter fun a => (lessN r l).testBit a).map fun k : Nat => (k : Int)).map (cfdOf l)
theorem refF_succ (l r i : Nat) : refF l r (i + 1) = refF l r i ++ (if (lessN r l).testBit i then [cfdOf l (i : Int)] else []) := by
  unfold refF
  rw [List.range_succ, List.filter_append, List.map_append, List.map_append]
  congr 1
  by_cases h : (lessN r l).testBit i = true <;> simp [h]
theorem refF_len (l r i : Nat) : (refF l r i).length ≤ i := by
  unfold refF
  rw [List.length_map, List.length_map]
  exact Nat.le_trans (List.length_filter_le ..) (by simp)
theorem refFromFD_eq {l r : Nat} (hl : l < w32) (hr : r < 65536) : drossref16_FromFD ((l : Int), (r : Int)) = some (fromS l r) := by
  have hr' : r < w32 := Nat.lt_trans hr (by decide)
  have hd : lessN r l < 65536 := bits_lt16 hr fun i hi => by rw [lessN_bit, Bool.and_eq_true] at hi; exact hi.1
  unfold drossref16_FromFD
  have hy := membersI_len l
  simp only [refMembers_eq hl, Option.bind_some]
  have hfin : fromS l r = refF l r 16 := by unfold fromS refF membersI; rw [members16 hd]
  rw [hfin]
  have hc : ∀ a, cfdOf l a = (membersI l, a, List.replicate ((membersI l).length + 1) anyC) := fun a => rfl
  generalize hy' : membersI l = y at hy hc
  have : loopI drossref16_FromFD_l0 (((refF l r 0).length, y, ((0 : Nat) : Int)), ((l : Int), (r : Int)), refF l r 0) = some ((refF l r 16).length, refF l r 16) :=
    loop_steps (f := drossref16_FromFD_l0) 16 (fun i => (((refF l r i).length, y, (i : Int)), ((l : Int), (r : Int)), refF l r i)) ((refF l r 16).length, refF l r 16) (fun i hi => by
      have hi' : (i : Int) < 16 := by omega
      have hlen := refF_len l r i
      have hb : (lessN r l).testBit i = (r.testBit i && !l.testBit i) := lessN_bit r l i
      rw [refF_succ, hb]
      generalize refF l r i = F at hlen
      simp only [drossref16_FromFD_l0, hi', decide_true, cond_true, Has_eq hl, Has_eq hr', Option.bind_some, wrap_i64s (show i < 9223372036854775807 by omega)]
      by_cases h1 : r.testBit i = true
      · by_cases h2 : l.testBit i = true
        · simp [h1, h2]
        · have hin := ref_from_inner (N := F.length) (a := (i : Int)) ((l : Int), (r : Int)) F (List.take 0 [] ++ y, 0 + y.length) (i : Int) hy
          have t2 : (List.replicate (y.length + 1) anyC).take (y.length + 1) = List.replicate (y.length + 1) anyC := List.take_of_length_le (by simp)
          have t3 : List.take (0 + y.length) (List.take 0 [] ++ y) = y := by simp
          simp only [h1, h2, Bool.not_true, Bool.not_false, cond_true, cond_false]
          rw [ble_true (Nat.le_refl 0), ble_true (show (0 + y.length) * 8 ≤ 140737488355328 by omega), ble_true (show 0 + y.length ≤ (List.take 0 ([] : List Int) ++ y).length by simp)]
          simp only [cond_true]
          rw [hin]
          simp only [Option.bind_some, t2, t3, take_all]
          rw [ble_true (show 0 + y.length ≤ (List.take 0 ([] : List Int) ++ y).length by simp), ble_true (show y.length + 1 ≤ (List.replicate (y.length + 1) anyC).length by simp), ble_true (show 1 ≤ 0 + 1 by omega), ble_true (Nat.le_refl F.length), ble_true (show (F.length + 1) * 56 ≤ 140737488355328 by omega), wrap_i64s (show i < 9223372036854775807 by omega)]
          simp [hc]
      · simp [h1]) (by
      simp only [drossref16_FromFD_l0]
      rfl)
  have this : loopI drossref16_FromFD_l0 ((0, y, 0), ((l : Int), (r : Int)), []) = some ((refF l r 16).length, refF l r 16) := this
  rw [this]
  simp only [Option.bind_some, ble_true (Nat.le_refl _), take_all]
  rfl
end Go.Mid
/- ConditionalFD: the plain law, second part. -/
namespace Go.Mid
set_option linter.unusedSimpArgs false
set_option linter.unusedVariables false
/-! ### lists of dependencies are equal to themselves -/
theorem Ints_refl (a : List Int) (h : a.length ≤ 9223372036854775807) : drossref02_Ints (a, a) = some true := by
  unfold drossref02_Ints
  have := loop_steps (f := drossref02_Ints_l0) a.length (fun i => (a, a, (i : Int))) (.inr ()) (fun i hi => by
    have hi' : (i : Int) < a.length := by omega
    simp only [drossref02_Ints_l0, hi', decide_true, cond_true, Int.natCast_nonneg, Int.toNat_natCast, List.getElem?_eq_getElem hi, Option.bind_some, bne_self_eq_false, cond_false, wrap_i64s (show i < 9223372036854775807 by omega)]) (by
    simp only [drossref02_Ints_l0, Int.lt_irrefl, decide_false, cond_false])
  simp only [Int.natCast_zero] at this
  rw [this]
  simp
theorem cell_self (t : CellV) : (t.1 == t.1 && (t.2.1 == t.2.1 && (t.2.2.1 == t.2.2.1 && strEq t.2.2.2 t.2.2.2))) = true := by
  simp [strEq_iff.2 rfl]
theorem Same_refl (L : List CfdV) (hL : L.length ≤ 9223372036854775807) (h1 : ∀ c ∈ L, c.1.length ≤ 9223372036854775807) (h2 : ∀ c ∈ L, c.2.2.length ≤ 9223372036854775807) : drossref16_Same (L, L) = some true := by
  unfold drossref16_Same
  have inner : ∀ i (hi : i < L.length), loopI drossref16_Same_l1 (L, L, (i : Int), 0) = some (.inr (L, L, (i : Int))) := by
    intro i hi
    have hp := h2 _ (List.getElem_mem hi)
    have := loop_steps (f := drossref16_Same_l1) (L[i]).2.2.length (fun k => (L, L, (i : Int), (k : Int))) (.inr (L, L, (i : Int))) (fun k hk => by
      have hk' : (k : Int) < (L[i]).2.2.length := by omega
      simp only [drossref16_Same_l1, hk', decide_true, cond_true, Int.natCast_nonneg, Int.toNat_natCast, List.getElem?_eq_getElem hi, List.getElem?_eq_getElem hk, Option.bind_some, cell_self, Bool.not_true, cond_false, wrap_i64s (show k < 9223372036854775807 by omega)]) (by
      simp only [drossref16_Same_l1, decide_true, cond_true, Int.natCast_nonneg, Int.toNat_natCast, List.getElem?_eq_getElem hi, Option.bind_some, Int.lt_irrefl, decide_false, cond_false])
    simpa only [Int.natCast_zero] using this
  have := loop_steps (f := drossref16_Same_l0) L.length (fun i => (L, L, (i : Int))) (.inr ()) (fun i hi => by
    have hi' : (i : Int) < L.length := by omega
    simp only [drossref16_Same_l0, hi', decide_true, cond_true, Int.natCast_nonneg, Int.toNat_natCast, List.getElem?_eq_getElem hi, Option.bind_some, bne_self_eq_false, cond_false, Ints_refl _ (h1 _ (List.getElem_mem hi)), Bool.not_true, inner i hi, Sum.elim_inr, wrap_i64s (show i < 9223372036854775807 by omega)]) (by
    simp only [drossref16_Same_l0, Int.lt_irrefl, decide_false, cond_false])
  simp only [Int.natCast_zero] at this
  rw [this]
  simp
/-! ### the table is valid -/
theorem rowsE_range (x : RecV) (n : Nat) (hg : 1 ≤ gapW x) : ∀ (k s : Nat) (p : Int), p < 1 + (s : Int) * gapW x → rowsE n p ((List.range' s k).map (rowW x n)) = 0
  | 0, s, p, _ => rfl
  | k + 1, s, p, hp => by
    simp only [List.range'_succ, List.map_cons, rowsE]
    have h1 : ¬ (rowW x n s).1 ≤ p := by unfold rowW; simp only; omega
    have h2 : ¬ (rowW x n s).2.length ≠ n := by unfold rowW; simp [valsW_len]
    have h3 : (rowW x n s).2.all valueOk = true := List.all_eq_true.2 fun v hv => valsW_ok _ _ v hv
    rw [if_neg h1, if_neg h2, if_pos h3]
    refine rowsE_range x n hg k (s + 1) _ ?_
    unfold rowW
    simp only
    have : ((s + 1 : Nat) : Int) * gapW x = (s : Int) * gapW x + gapW x := by rw [Int.natCast_add, Int.add_mul]; simp
    omega
theorem letters_ok : ∀ n, n ≤ 8 → namesOk [] (letters.take n) = true
  | 0, _ | 1, _ | 2, _ | 3, _ | 4, _ | 5, _ | 6, _ | 7, _ | 8, _ => by kernel_rfl
  | n + 9, h => by omega
theorem tabW_ok {x : RecV} {n : Nat} (h0 : 0 ≤ x.2.1) (hn : n ≤ 8) (hl : x.2.2.length ≤ 1000) : tabE (tabW x n) = 0 := by
  unfold tabE tabW
  have hr : nameOk ⟨#[114]⟩ = true := by kernel_rfl
  have ht : (letters.take n).length = n := by rw [List.length_take]; show min n 8 = n; omega
  have hR : (rowsW x n x.2.2.length).length = x.2.2.length := rowsW_len x n _
  simp only [hr, if_true]
  rw [if_neg (by omega), if_neg (by omega), letters_ok n hn, if_pos rfl, ht]
  unfold rowsW
  rw [List.range_eq_range']
  exact rowsE_range x n (gap_rng h0).1 _ 0 0 (by simp)
/-! ### the dependencies are valid -/
theorem members_mem {m k : Nat} (hm : m < w32) : k ∈ membersN m ↔ m.testBit k = true := by
  unfold membersN
  rw [List.mem_filter, List.mem_range]
  exact ⟨fun h => h.2, fun h => ⟨bit_small hm h, h⟩⟩
theorem membersI_mem {m : Nat} {a : Int} (hm : m < w32) : a ∈ membersI m ↔ ∃ k : Nat, a = (k : Int) ∧ m.testBit k = true := by
  unfold membersI
  rw [List.mem_map]
  constructor
  · rintro ⟨k, hk, rfl⟩; exact ⟨k, rfl, (members_mem hm).1 hk⟩
  · rintro ⟨k, rfl, hk⟩; exact ⟨k, (members_mem hm).2 hk, rfl⟩
theorem ascOk_filter (n r : Int) (p : Nat → Bool) (hp : ∀ i, p i = true → (i : Int) < n ∧ (i : Int) ≠ r) : ∀ (k s : Nat) (q : Int), q < (s : Int) → ascOk n r q (((List.range' s k).filter p).map fun k : Nat => (k : Int)) = true
  | 0, s, q, _ => rfl
  | k + 1, s, q, hq => by
    rw [List.range'_succ, List.filter_cons]
    by_cases h : p s = true
    · obtain ⟨h1, h2⟩ := hp s h
      simp only [h, if_true, List.map_cons, ascOk, ascOk_filter n r p hp k (s + 1) (s : Int) (by omega), Bool.and_true]
      have a1 : decide ((s : Int) ≤ q) = false := decide_eq_false (by omega)
      have a2 : decide ((s : Int) ≥ n) = false := decide_eq_false (by omega)
      have a3 : ((s : Int) == r) = false := beq_eq_false_iff_ne.2 h2
      rw [a1, a2, a3]; rfl
    · simp only [h, if_false]
      exact ascOk_filter n r p hp k (s + 1) q (by omega)
theorem bit_below {m n i : Nat} (h : m < 2 ^ n) (hb : m.testBit i = true) : i < n := by
  by_cases hi : i < n
  · exact hi
  · rw [Nat.testBit_lt_two_pow (Nat.lt_of_lt_of_le h (Nat.pow_le_pow_right (show 2 > 0 by decide) (show n ≤ i by omega)))] at hb
    cases hb
theorem cfd_valid {n l a : Nat} (hn : n ≤ 16) (hl : l < 2 ^ n) (ha : a < n) (hal : l.testBit a = false) : validC (n : Int) (cfdOf l (a : Int)) = true := by
  have h1 : ascOk (n : Int) (a : Int) (-1) (membersI l) = true := by
    unfold membersI membersN
    rw [List.range_eq_range']
    refine ascOk_filter n a _ (fun i hi => ?_) 32 0 (-1) (by omega)
    have := bit_below hl hi
    refine ⟨by omega, fun e => ?_⟩
    have : i = a := by omega
    rw [this, hal] at hi; cases hi
  have h2 : (List.replicate ((membersI l).length + 1) anyC).any cellBad = false := by
    rw [List.any_eq_false]
    intro p hp
    rw [List.eq_of_mem_replicate hp]
    have : cellBad anyC = false := by kernel_rfl
    simp [this]
  unfold validC cfdOf
  simp only [h1, h2, List.length_replicate]
  have b1 : decide ((n : Int) < 0) = false := decide_eq_false (by omega)
  have b2 : decide ((n : Int) > 16) = false := decide_eq_false (by omega)
  have b3 : decide ((a : Int) < 0) = false := decide_eq_false (by omega)
  have b4 : decide ((a : Int) ≥ n) = false := decide_eq_false (by omega)
  have b5 : (((((membersI l).length + 1 : Nat) : Int)) != (((membersI l).length + 1 : Nat) : Int)) = false := by simp
  rw [b1, b2, b3, b4, b5]
  rfl
/-! ### no violation -/
theorem pairsOf_nil {α β : Type} (Q : α → α → Bool) (g : α → α → β) : ∀ l : List α, pairsOf Q g l = [] ↔ l.Pairwise fun a b => Q a b = false
  | [] => by simp [pairsOf]
  | r :: l => by
    simp only [pairsOf, List.append_eq_nil_iff, List.map_eq_nil_iff, List.filter_eq_nil_iff, List.pairwise_cons, pairsOf_nil Q g l]
    simp
theorem left_any {l : Nat} {a : Int} (r : List ValV) : leftB (cfdOf l a) r = true := by
  unfold leftB
  rw [List.all_eq_true]
  intro ap hap
  have := List.of_mem_zip hap
  have h := List.eq_of_mem_replicate this.2
  unfold fitsB
  rw [h]
  rfl
theorem right_any {l : Nat} {a : Int} : rightP (cfdOf l a) = anyC := by
  unfold rightP cfdOf
  simp only [List.getD]
  rw [List.getElem?_eq_getElem (by simp)]
  simp
theorem viol_any {l : Nat} {a : Int} (rows : List RowV) : violS (cfdOf l a) rows = [] ↔ rows.Pairwise fun r s => differB (cfdOf l a) r.2 s.2 = false := by
  unfold violS singles
  rw [List.append_eq_nil_iff, pairsOf_nil, List.map_eq_nil_iff, List.filter_eq_nil_iff]
  have h1 : ∀ r ∈ rows, ¬ aloneB (cfdOf l a) r.2 = true := by
    intro r _
    unfold aloneB
    rw [right_any]
    unfold fitsB
    simp [anyC]
  have h2 : (fun r s : RowV => pairB (cfdOf l a) r.2 s.2 = false) = fun r s : RowV => differB (cfdOf l a) r.2 s.2 = false := by
    funext r s
    unfold pairB
    rw [left_any, left_any]
    rfl
  rw [h2]
  exact ⟨fun h => h.2, fun h => ⟨h1, h⟩⟩
/-! ### rows that agree -/
def valsOf (m : Nat) (r : List ValV) (i : Nat) : List ValV := ((List.range i).filter fun k => m.testBit k).map fun k : Nat => at' r (k : Int)
theorem Values_eq {m n : Nat} {r : RowV} (hm : m < w32) (hr : r.2.length = n) (hn : n ≤ 1000) : drossref03_Values (r, (m : Int)) = some (valsOf m r.2 n) := by
  unfold drossref03_Values
  have hs : ∀ i, valsOf m r.2 (i + 1) = valsOf m r.2 i ++ (if m.testBit i then [at' r.2 (i : Int)] else []) := by
    intro i
    unfold valsOf
    rw [List.range_succ, List.filter_append, List.map_append]
    congr 1
    by_cases h : m.testBit i = true <;> simp [h]
  have hlen : ∀ i, (valsOf m r.2 i).length ≤ i := fun i => by
    unfold valsOf
    rw [List.length_map]; exact Nat.le_trans (List.length_filter_le ..) (by simp)
  have : loopI drossref03_Values_l0 (((m : Int), (valsOf m r.2 0).length, ((0 : Nat) : Int)), r, valsOf m r.2 0) = some ((valsOf m r.2 n).length, valsOf m r.2 n) :=
    loop_steps (f := drossref03_Values_l0) n (fun i => (((m : Int), (valsOf m r.2 i).length, (i : Int)), r, valsOf m r.2 i)) _ (fun i hi => by
      have hi' : (i : Int) < r.2.length := by omega
      have hb := hlen i
      rw [hs i]
      generalize valsOf m r.2 i = F at hb
      have hg : r.2[i]? = some (at' r.2 (i : Int)) := at_get (a := (i : Int)) hr (by omega) (by omega)
      simp only [drossref03_Values_l0, hi', decide_true, cond_true, Has_eq hm, Option.bind_some, Int.natCast_nonneg, Int.toNat_natCast, hg, wrap_i64s (show i < 9223372036854775807 by omega)]
      by_cases h : m.testBit i = true
      · simp only [h, cond_true, ble_true (Nat.le_refl _), take_all, if_true, List.length_append, List.length_cons, List.length_nil]
        rw [ble_true (by omega)]
        rfl
      · simp [h]) (by
      simp only [drossref03_Values_l0, hr, Int.lt_irrefl, decide_false, cond_false])
  have this : loopI drossref03_Values_l0 (((m : Int), 0, 0), r, []) = some ((valsOf m r.2 n).length, valsOf m r.2 n) := this
  rw [this]
  simp only [Option.bind_some, ble_true (Nat.le_refl _), cond_true, take_all]
theorem valsOf_ok {m n : Nat} {r : List ValV} (hr : r.length = n) (ho : okR r) : ∀ v ∈ valsOf m r n, lenV v := by
  intro v hv
  obtain ⟨k, hk, rfl⟩ := List.mem_map.1 hv
  have := List.mem_range.1 (List.mem_filter.1 hk).1
  exact lenV_at ho hr (by omega) (by omega)
theorem Lists_cmp {a b : List ValV} (h : a.length = b.length) (hl : a.length ≤ 9223372036854775807) (ha : ∀ v ∈ a, lenV v) (hb : ∀ v ∈ b, lenV v) : ∃ c, drossref01_Lists (a, b) = some c ∧ (c = 0 ↔ a = b) := by
  unfold drossref01_Lists
  have hz : (a.zip b).length = a.length := by rw [List.length_zip]; omega
  have := loop_listI (S := Unit) (f := drossref01_Lists_l0) (a.zip b) (fun i _ => (a, b, (i : Int))) (fun _ _ p => if cmpV p.1 p.2 = 0 then some (.inl ()) else some (.inr (.inl (cmpV p.1 p.2)))) (fun _ => some (.inr (a, b))) (fun i hi _ => by
    have h1 : i < a.length := by omega
    have h2 : i < b.length := by omega
    have i1 : (i : Int) < a.length := by omega
    have i2 : (i : Int) < b.length := by omega
    rw [List.getElem_zip]
    simp only [drossref01_Lists_l0, i1, i2, decide_true, cond_true, Int.natCast_nonneg, Int.toNat_natCast, List.getElem?_eq_getElem h1, List.getElem?_eq_getElem h2, Option.bind_some, Compare_eq _ _ (ha _ (List.getElem_mem h1)) (hb _ (List.getElem_mem h2)), wrap_i64s (show i < 9223372036854775807 by omega)]
    by_cases hc : cmpV a[i] b[i] = 0
    · simp [hc]
    · have : (cmpV a[i] b[i] != 0) = true := by simpa using hc
      simp [hc, this]) (fun _ => by
    simp only [drossref01_Lists_l0, hz, Int.lt_irrefl, decide_false, cond_false]; rfl) ()
  simp only [Int.natCast_zero] at this
  rw [this]
  have key : ∀ (l m : List ValV) (i : Nat), l.length = m.length → ∃ c, (runL (S := Unit) (B := Int ⊕ List ValV × List ValV) (fun _ _ (p : ValV × ValV) => if cmpV p.1 p.2 = 0 then some (.inl ()) else some (.inr (.inl (cmpV p.1 p.2)))) (fun _ => some (.inr (a, b))) (l.zip m) i ()).bind (fun p => Sum.elim (fun q => some q) (fun r => (drossref01_sign ((r.1.length : Int), (r.2.length : Int))).bind fun s => some s) p) = some c ∧ (c = 0 ↔ l = m) := by
    intro l
    induction l with
    | nil =>
      intro m i hm
      cases m with
      | nil =>
        refine ⟨0, ?_, by simp⟩
        simp only [List.zip_nil_left, runL, Option.bind_some, Sum.elim_inr, sign_eq, h]
        rw [sgn_eq0.2 rfl]
      | cons y q => simp at hm
    | cons x r ih =>
      intro m i hm
      cases m with
      | nil => simp at hm
      | cons y q =>
        simp only [List.zip_cons_cons, runL]
        by_cases hc : cmpV x y = 0
        · have hxy := cmpV_eq0.1 hc
          subst hxy
          simp only [hc, if_true]
          obtain ⟨c, h1, h2⟩ := ih q (i + 1) (by simpa using hm)
          exact ⟨c, h1, by rw [h2]; simp⟩
        · simp only [hc, if_false]
          refine ⟨cmpV x y, rfl, ?_⟩
          rw [cmpV_eq0]
          constructor
          · intro e; exact absurd (cmpV_eq0.2 e) hc
          · intro e; exact (List.cons.inj e).1
  exact key a b 0 h
def agreeM (m n : Nat) (r s : List ValV) : Bool := decide (valsOf m r n = valsOf m s n)
theorem Agree_eq {m n : Nat} {r s : RowV} (hm : m < w32) (hr : r.2.length = n) (hs : s.2.length = n) (hn : n ≤ 1000) (ho : okR r.2) (hp : okR s.2) : drossref03_Agree (r, s, (m : Int)) = some (agreeM m n r.2 s.2) := by
  unfold drossref03_Agree drossref01_Same
  have hlen : ∀ r : List ValV, (valsOf m r n).length = ((List.range n).filter fun k => m.testBit k).length := fun r => by unfold valsOf; rw [List.length_map]
  have hle : ((List.range n).filter fun k => m.testBit k).length ≤ n := Nat.le_trans (List.length_filter_le ..) (by simp)
  obtain ⟨c, h1, h2⟩ := Lists_cmp (a := valsOf m r.2 n) (b := valsOf m s.2 n) (by rw [hlen, hlen]) (by rw [hlen]; omega) (valsOf_ok hr ho) (valsOf_ok hs hp)
  simp only [Values_eq hm hr hn, Values_eq hm hs hn, Option.bind_some, h1]
  congr 1
  unfold agreeM
  rw [Bool.eq_iff_iff, beq_iff_eq, h2, decide_eq_true_eq]
theorem agreeM_iff {m n : Nat} {r s : List ValV} : agreeM m n r s = true ↔ ∀ i, i < n → m.testBit i = true → at' r (i : Int) = at' s (i : Int) := by
  unfold agreeM valsOf
  rw [decide_eq_true_eq, List.map_inj_left]
  constructor
  · intro h i hi hb; exact h i (List.mem_filter.2 ⟨List.mem_range.2 hi, hb⟩)
  · intro h i hi
    obtain ⟨h1, h2⟩ := List.mem_filter.1 hi
    exact h i (List.mem_range.1 h1) h2
end Go.Mid
/- ConditionalFD: the plain law, last part. -/
namespace Go.Mid
set_option linter.unusedSimpArgs false
set_option linter.unusedVariables false
/-- two rows break a functional dependency -/
def brk (l r n : Nat) (a b : RowV) : Bool := agreeM l n a.2 b.2 && !agreeM r n a.2 b.2
theorem satisfies_inner {n l r : Nat} {t : TabV} (hl : l < w32) (hr : r < w32) (hn : n ≤ 1000) (ht : WfR n t.2.2) (i : Nat) (hi : i < t.2.2.length) :
    loopI drossref08_Satisfies_l1 (((i : Int), 0), t, (l : Int), (r : Int)) = some (if (t.2.2.take i).any (fun s => brk l r n t.2.2[i] s) then .inl false else .inr ((i : Int), t, (l : Int), (r : Int))) := by
  have hf := ht.few
  have hlen : (t.2.2.take i).length = i := by rw [List.length_take]; omega
  have := loop_anyP (f := drossref08_Satisfies_l1) (t.2.2.take i) (fun k => (((i : Int), (k : Int)), t, (l : Int), (r : Int))) (fun s => brk l r n t.2.2[i] s) (.inl false) (.inr ((i : Int), t, (l : Int), (r : Int))) (fun k hk => by
    have hk1 : k < i := by omega
    have hk2 : k < t.2.2.length := by omega
    have hk' : (k : Int) < (i : Int) := by omega
    have m1 := List.getElem_mem hi
    have m2 := List.getElem_mem hk2
    have hg : (t.2.2.take i)[k] = t.2.2[k] := List.getElem_take
    rw [hg]
    simp only [drossref08_Satisfies_l1, hk', decide_true, cond_true, Int.natCast_nonneg, Int.toNat_natCast, List.getElem?_eq_getElem hi, List.getElem?_eq_getElem hk2, Option.bind_some, Agree_eq hl (ht.len _ m1) (ht.len _ m2) hn (ht.ok _ m1) (ht.ok _ m2), Agree_eq hr (ht.len _ m1) (ht.len _ m2) hn (ht.ok _ m1) (ht.ok _ m2), wrap_i64s (show k < 9223372036854775807 by omega), brk]
    rcases Bool.eq_false_or_eq_true (agreeM l n (t.2.2[i]).2 (t.2.2[k]).2) with h1 | h1 <;> rcases Bool.eq_false_or_eq_true (agreeM r n (t.2.2[i]).2 (t.2.2[k]).2) with h2 | h2 <;> simp [h1, h2]) (by
    simp only [drossref08_Satisfies_l1, hlen, Int.lt_irrefl, decide_false, cond_false])
  simpa only [Int.natCast_zero] using this
theorem Satisfies_eq {n l r : Nat} {t : TabV} (hl : l < w32) (hr : r < w32) (hn : n ≤ 1000) (ht : WfR n t.2.2) :
    ∃ b, drossref08_Satisfies (t, (l : Int), (r : Int)) = some b ∧ (b = true ↔ t.2.2.Pairwise fun s a => brk l r n a s = false) := by
  unfold drossref08_Satisfies
  have hf := ht.few
  have := loop_findI (f := drossref08_Satisfies_l0) t.2.2 (fun i => ((i : Int), t, (l : Int), (r : Int))) (fun i a => (t.2.2.take i).any (fun s => brk l r n a s)) (fun _ => .inl false) (.inr ()) (fun i hi => by
    have hi' : (i : Int) < t.2.2.length := by omega
    simp only [drossref08_Satisfies_l0, hi', decide_true, cond_true, satisfies_inner hl hr hn ht i hi, Option.bind_some]
    by_cases h : (t.2.2.take i).any (fun s => brk l r n t.2.2[i] s) = true
    · rw [if_pos h, if_pos h]; rfl
    · rw [if_neg h, if_neg h]; simp only [Sum.elim_inr, wrap_i64s (show i < 9223372036854775807 by omega)]) (by
    simp only [drossref08_Satisfies_l0, Int.lt_irrefl, decide_false, cond_false])
  simp only [Int.natCast_zero] at this
  rw [this]
  have key : (findAt (fun i a => (t.2.2.take i).any (fun s => brk l r n a s)) t.2.2 0) = none ↔ t.2.2.Pairwise fun s a => brk l r n a s = false := by
    rw [findAt_none, List.pairwise_iff_getElem]
    constructor
    · intro h i j hi hj hij
      have := h j hj
      rw [Nat.zero_add, List.any_eq_false] at this
      have hm : t.2.2[i] ∈ t.2.2.take j := by
        rw [List.mem_take_iff_getElem]
        exact ⟨i, by omega, rfl⟩
      simpa using this _ hm
    · intro h j hj
      rw [Nat.zero_add, List.any_eq_false]
      intro s hs
      rw [List.mem_take_iff_getElem] at hs
      obtain ⟨i, hi, rfl⟩ := hs
      simpa using h i j (by omega) hj (by omega)
  cases hfa : findAt (fun i a => (t.2.2.take i).any (fun s => brk l r n a s)) t.2.2 0 with
  | none => exact ⟨true, rfl, by simp [← key, hfa]⟩
  | some i => exact ⟨false, rfl, by simp [← key, hfa]⟩
/-! ### both say the same -/
theorem differB_iff {l n a : Nat} {r s : List ValV} (hl : l < w32) (hln : l < 2 ^ n) (ha : a < n) : differB (cfdOf l (a : Int)) r s = false ↔ (agreeM l n r s = true → at' r (a : Int) = at' s (a : Int)) := by
  unfold differB agreeB cfdOf
  simp only
  have h1 : ((membersI l).all fun b => eqV' (at' r b) (at' s b)) = agreeM l n r s := by
    rw [Bool.eq_iff_iff, List.all_eq_true, agreeM_iff]
    constructor
    · intro h i hi hb
      exact eqV'_iff.1 (h _ ((membersI_mem hl).2 ⟨i, rfl, hb⟩))
    · intro h b hb
      obtain ⟨k, rfl, hk⟩ := (membersI_mem hl).1 hb
      exact eqV'_iff.2 (h k (bit_below hln hk) hk)
  rw [h1]
  cases agreeM l n r s
  · simp
  · simp only [Bool.and_true, Bool.not_eq_false', true_implies]
    exact eqV'_iff
theorem brk_iff {l r n : Nat} {a s : RowV} (hl : l < w32) (hr : r < w32) (hln : l < 2 ^ n) (hrn : r < 2 ^ n) :
    (∀ c ∈ fromS l r, differB c s.2 a.2 = false) ↔ brk l r n a s = false := by
  have hd := lessN_lt (n := l) hr
  have sym : ∀ m, agreeM m n a.2 s.2 = agreeM m n s.2 a.2 := fun m => by
    rw [Bool.eq_iff_iff, agreeM_iff, agreeM_iff]
    exact ⟨fun h i hi hb => (h i hi hb).symm, fun h i hi hb => (h i hi hb).symm⟩
  unfold brk
  rw [sym l, sym r]
  constructor
  · intro h
    cases hL : agreeM l n s.2 a.2 with
    | false => rfl
    | true =>
      have : agreeM r n s.2 a.2 = true := by
        rw [agreeM_iff]
        intro i hi hb
        by_cases hli : l.testBit i = true
        · exact (agreeM_iff.1 hL) i hi hli
        · have hm : cfdOf l (i : Int) ∈ fromS l r := List.mem_map_of_mem ((membersI_mem hd).2 ⟨i, rfl, by rw [lessN_bit, hb]; simp [hli]⟩)
          exact (differB_iff hl hln hi).1 (h _ hm) hL
      rw [this]; rfl
  · intro h c hc
    unfold fromS at hc
    obtain ⟨a', ha', rfl⟩ := List.mem_map.1 hc
    obtain ⟨k, rfl, hk⟩ := (membersI_mem hd).1 ha'
    rw [lessN_bit, Bool.and_eq_true] at hk
    have hkn := bit_below hrn hk.1
    rw [differB_iff hl hln hkn]
    intro hL
    rw [hL] at h
    have hR : agreeM r n s.2 a.2 = true := by simpa using h
    exact (agreeM_iff.1 hR) k hkn hk.1
theorem pairwise_all {α β : Type} (P : β → α → α → Prop) (L : List β) : ∀ l : List α, (∀ c ∈ L, l.Pairwise (P c)) ↔ l.Pairwise fun a b => ∀ c ∈ L, P c a b
  | [] => by simp
  | a :: l => by
    simp only [List.pairwise_cons, ← pairwise_all P L l]
    constructor
    · intro h; exact ⟨fun b hb c hc => (h c hc).1 b hb, fun c hc => (h c hc).2⟩
    · intro h c hc; exact ⟨fun b hb => h.1 b hb c hc, h.2 c hc⟩
/-! ### the law -/
theorem fd_loop {n l r : Nat} {t : TabV} (ht : tabE t = 0) (hn : t.2.1.length = n) (hn16 : n ≤ 16) (hlt : lenT t) (hl : l < w32) (hr : r < w32) (hln : l < 2 ^ n) (hrn : r < 2 ^ n) :
    loopI drosslaw16_ConditionalFD_S_l0 ((true, fromS l r, ((fromS l r).length : Int), 0), t, (l : Int), (r : Int)) = some (.inr ((fromS l r).all (fun c => decide (violS c t.2.2 = [])), t, (l : Int), (r : Int))) := by
  have hd := lessN_lt (n := l) hr
  have hlen : (fromS l r).length ≤ 32 := by unfold fromS; rw [List.length_map]; exact membersI_len _
  have hval : ∀ c ∈ fromS l r, conditional_Holds (t, c) = some (decide (violS c t.2.2 = []), 0) := by
    intro c hc
    have hc' := hc
    unfold fromS at hc
    obtain ⟨a', ha', rfl⟩ := List.mem_map.1 hc
    obtain ⟨k, rfl, hk⟩ := (membersI_mem hd).1 ha'
    rw [lessN_bit, Bool.and_eq_true, Bool.not_eq_true'] at hk
    have hv := cfd_valid hn16 hln (bit_below hrn hk.1) hk.2
    have hm := membersI_len l
    rw [prog_Holds t _ hlt (by unfold cfdOf; simp only; omega) (by unfold cfdOf; simp only [List.length_replicate]; omega), if_pos ht, hn, if_pos hv]
  generalize fromS l r = L at hlen hval
  have := loop_steps (f := drosslaw16_ConditionalFD_S_l0) L.length (fun i => (((L.take i).all (fun c => decide (violS c t.2.2 = [])), L, (L.length : Int), (i : Int)), t, (l : Int), (r : Int))) (.inr (L.all (fun c => decide (violS c t.2.2 = [])), t, (l : Int), (r : Int))) (fun i hi => by
    have hi' : (i : Int) < L.length := by omega
    rw [take_succ hi, List.all_append]
    simp only [drosslaw16_ConditionalFD_S_l0, hi', decide_true, cond_true, Int.natCast_nonneg, Int.toNat_natCast, List.getElem?_eq_getElem hi, Option.bind_some, hval _ (List.getElem_mem hi), wrap_i64s (show i < 9223372036854775807 by omega)]
    have h0 : ((0 : Int) != 0) = false := rfl
    simp only [h0, cond_false, List.all_cons, List.all_nil, Bool.and_true]
    cases (L.take i).all (fun c => decide (violS c t.2.2 = [])) <;> rfl) (by
    simp only [drosslaw16_ConditionalFD_S_l0, Int.lt_irrefl, decide_false, cond_false, take_all])
  simpa using this
theorem and_full (m n : Nat) : m &&& (2 ^ n - 1) < 2 ^ n := by
  have : 0 < 2 ^ n := Nat.two_pow_pos n
  exact Nat.lt_of_le_of_lt Nat.and_le_right (by omega)
theorem law10 (x : RecV) (lhs rhs : Int) (ha : 0 ≤ x.1) (hg : 0 ≤ x.2.1) (hg2 : x.1 ≤ 255) (hl0 : 0 ≤ lhs) (hl1 : lhs ≤ 65535) (hr0 : 0 ≤ rhs) (hr1 : rhs ≤ 65535) : drosslaw16_ConditionalFD_S (x, lhs, rhs) = some true := by
  obtain ⟨l, rfl⟩ := Int.eq_ofNat_of_zero_le hl0
  obtain ⟨r, rfl⟩ := Int.eq_ofNat_of_zero_le hr0
  have hl : l < w32 := by unfold w32; omega
  have hr : r < w32 := by unfold w32; omega
  have wl : IntKind.u32.wrap (l : Int) = (l : Int) := wrap_u32n hl
  have wr : IntKind.u32.wrap (r : Int) = (r : Int) := wrap_u32n hr
  unfold drosslaw16_ConditionalFD_S
  simp only [wl, wr, Option.bind_some, Bool.not_true, cond_false]
  unfold drossref03_Table
  by_cases h8 : (8 : Int) < (x.2.2.length : Int)
  · simp only [gt_iff_lt, h8, decide_true, cond_true]
    rfl
  simp only [gt_iff_lt, h8, decide_false, cond_false]
  have hrows : x.2.2.length ≤ 1000 := by omega
  obtain ⟨n, hn⟩ : ∃ n : Nat, x.1.tmod 6 = (n : Int) ∧ n < 6 := by
    rw [Int.tmod_eq_emod_of_nonneg ha]
    exact ⟨(x.1 % 6).toNat, by omega, by omega⟩
  obtain ⟨hn, hn6⟩ := hn
  have hw : IntKind.i64.wrap (x.1.tmod 6) = (n : Int) := by rw [hn]; exact wrap_i64n (by omega)
  rw [hw, Wide_eq hg (by omega) hrows]
  have hT := tabW_ok (n := n) hg (by omega) hrows
  have hA : (tabW x n).2.1.length = n := by
    unfold tabW
    simp only [List.length_take]
    show min n 8 = n
    omega
  have hW := wfR_of hT
  rw [hA] at hW
  have hlt : lenT (tabW x n) := fun a ha => by rw [hW.len a ha]; omega
  simp only [Option.bind_some, Bool.not_true, cond_false, FromFD_eq hl hr, refFromFD_eq hl (show r < 65536 by omega)]
  have hsame : drossref16_Same (fromS l r, fromS l r) = some true := by
    have hml := membersI_len l
    refine Same_refl _ ?_ ?_ ?_
    · have : (fromS l r).length ≤ 32 := by unfold fromS; rw [List.length_map]; exact membersI_len _
      omega
    · intro c hc
      obtain ⟨a, _, rfl⟩ := List.mem_map.1 hc
      unfold cfdOf; simp only; omega
    · intro c hc
      obtain ⟨a, _, rfl⟩ := List.mem_map.1 hc
      unfold cfdOf; simp only [List.length_replicate]; omega
  have hfull : (2 ^ n - 1) < w32 := Nat.lt_of_lt_of_le (Nat.sub_lt (Nat.two_pow_pos n) (by decide)) (pow_le_w (by omega))
  simp only [hsame, Option.bind_some, Bool.not_true, cond_false, hA, Full_eq (show n < 32 by omega), and_nat hl hfull, and_nat hr hfull]
  have hl' : l &&& (2 ^ n - 1) < w32 := Nat.lt_of_le_of_lt Nat.and_le_left hl
  have hr' : r &&& (2 ^ n - 1) < w32 := Nat.lt_of_le_of_lt Nat.and_le_left hr
  have hln := and_full l n
  have hrn := and_full r n
  generalize l &&& (2 ^ n - 1) = l' at hl' hln
  generalize r &&& (2 ^ n - 1) = r' at hr' hrn
  simp only [FromFD_eq hl' hr', Option.bind_some, fd_loop hT hA (by omega) hlt hl' hr' hln hrn, Sum.elim_inr]
  obtain ⟨b, hb, hiff⟩ := Satisfies_eq (n := n) hl' hr' (by omega) hW
  rw [hb]
  simp only [Option.bind_some]
  congr 1
  rw [beq_iff_eq, Bool.eq_iff_iff, hiff, List.all_eq_true]
  have e1 : (∀ c ∈ fromS l' r', decide (violS c (tabW x n).2.2 = []) = true) ↔ (∀ c ∈ fromS l' r', (tabW x n).2.2.Pairwise fun a s => differB c a.2 s.2 = false) := by
    constructor
    · intro h c hc
      have h1 := of_decide_eq_true (h c hc)
      obtain ⟨a, _, rfl⟩ := List.mem_map.1 hc
      exact (viol_any _).1 h1
    · intro h c hc
      have h1 := h c hc
      obtain ⟨a, _, rfl⟩ := List.mem_map.1 hc
      exact decide_eq_true ((viol_any _).2 h1)
  rw [e1, pairwise_all]
  have e2 : (fun a b : RowV => ∀ c ∈ fromS l' r', differB c a.2 b.2 = false) = fun s a : RowV => brk l' r' n a s = false := by
    funext s a
    exact propext (brk_iff hl' hr' hln hrn)
  rw [e2]
end Go.Mid
