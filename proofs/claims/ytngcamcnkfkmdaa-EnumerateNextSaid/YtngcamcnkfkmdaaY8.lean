/- The order of lists; insertion. -/
import Derived.Test.YtngcamcnkfkmdaaY7
import Derived.Test.YtngcamcnkfkmdaaY6
namespace Go.Mid
set_option linter.unusedSimpArgs false
set_option linter.unusedVariables false
/-! ### the order -/
def lexB : List Int → List Int → Bool
  | [], [] => false
  | [], _ :: _ => true
  | _ :: _, [] => false
  | x :: a, y :: b => if x = y then lexB a b else decide (x < y)
theorem before_lex : ∀ a b : List Int, before a b = lexB a b
  | [], [] => rfl
  | [], _ :: _ => by simp [before, bef, lexB]
  | _ :: _, [] => by simp [before, bef, lexB]
  | x :: a, y :: b => by
    have ih := before_lex a b
    simp only [before, bef, lexB] at ih ⊢
    by_cases h : x = y
    · simp only [h, if_true]
      rw [← ih]
      cases bef a b <;> simp
    · simp [h]
theorem lexB_irrefl : ∀ a : List Int, lexB a a = false
  | [] => rfl
  | x :: a => by simp [lexB, lexB_irrefl a]
theorem lexB_trans : ∀ {a b c : List Int}, lexB a b = true → lexB b c = true → lexB a c = true
  | [], [], _, h, _ => by simp [lexB] at h
  | [], _ :: _, [], _, h => by simp [lexB] at h
  | [], _ :: _, _ :: _, _, _ => rfl
  | _ :: _, [], _, h, _ => by simp [lexB] at h
  | _ :: _, _ :: _, [], _, h => by simp [lexB] at h
  | x :: a, y :: b, z :: c, h, g => by
    simp only [lexB] at h g ⊢
    by_cases h1 : x = y
    · subst h1
      by_cases h2 : x = z
      · subst h2; simp only [if_true] at h g ⊢; exact lexB_trans h g
      · simp only [h2, if_false, if_true] at h g ⊢; exact g
    · by_cases h2 : y = z
      · subst h2; simp only [h1, if_false, if_true] at h g ⊢; exact h
      · simp only [h1, h2, if_false, decide_eq_true_eq] at h g
        have h3 : ¬ x = z := by omega
        simp only [h3, if_false, decide_eq_true_eq]
        omega
theorem lexB_tri : ∀ {a b : List Int}, lexB a b = false → a ≠ b → lexB b a = true
  | [], [], _, h => absurd rfl h
  | [], _ :: _, h, _ => by simp [lexB] at h
  | _ :: _, [], _, _ => rfl
  | x :: a, y :: b, h, hne => by
    simp only [lexB] at h ⊢
    by_cases h1 : x = y
    · subst h1
      simp only [if_true] at h ⊢
      exact lexB_tri h fun e => hne (by rw [e])
    · have h2 : ¬ y = x := fun e => h1 e.symm
      simp only [h1, if_false, decide_eq_false_iff_not] at h
      simp only [h2, if_false, decide_eq_true_eq]
      omega
theorem lexB_asymm {a b : List Int} (h : lexB a b = true) : lexB b a = false := by
  cases hb : lexB b a with
  | false => rfl
  | true => have := lexB_trans h hb; rw [lexB_irrefl] at this; cases this
abbrev Sorted (l : List (List Int)) : Prop := l.Pairwise fun a b => lexB a b = true
theorem Sorted.ext : ∀ {l m : List (List Int)}, Sorted l → Sorted m → (∀ x, x ∈ l ↔ x ∈ m) → l = m
  | [], [], _, _, _ => rfl
  | [], y :: m, _, _, h => by have := (h y).2 (by simp); simp at this
  | x :: l, [], _, _, h => by have := (h x).1 (by simp); simp at this
  | x :: l, y :: m, hl, hm, h => by
    rw [Sorted, List.pairwise_cons] at hl hm
    have hxy : x = y := by
      apply Classical.byContradiction
      intro hne
      have h1 : x ∈ m := by
        have := (h x).1 (by simp)
        rcases List.mem_cons.1 this with e | e
        · exact absurd e hne
        · exact e
      have h2 : y ∈ l := by
        have := (h y).2 (by simp)
        rcases List.mem_cons.1 this with e | e
        · exact absurd e.symm hne
        · exact e
      have := lexB_trans (hl.1 y h2) (hm.1 x h1)
      rw [lexB_irrefl] at this; cases this
    subst hxy
    congr 1
    refine Sorted.ext hl.2 hm.2 fun z => ?_
    constructor
    · intro hz
      have := (h z).1 (by simp [hz])
      rcases List.mem_cons.1 this with e | e
      · subst e; have := hl.1 z hz; rw [lexB_irrefl] at this; cases this
      · exact e
    · intro hz
      have := (h z).2 (by simp [hz])
      rcases List.mem_cons.1 this with e | e
      · subst e; have := hm.1 z hz; rw [lexB_irrefl] at this; cases this
      · exact e
/-! ### insertion -/
theorem sunk_sorted : ∀ (k : Nat) (P Q : List (List Int)) (x : List Int), P.length = k → Sorted (P ++ Q) → (∀ q ∈ Q, lexB x q = true) → x ∉ P →
    Sorted (sunk k (P ++ x :: Q)) ∧ (sunk k (P ++ x :: Q)).Perm (P ++ x :: Q)
  | 0, P, Q, x, hk, hs, hq, _ => by
    have : P = [] := List.eq_nil_of_length_eq_zero hk
    subst this
    simp only [List.nil_append, sunk] at hs ⊢
    exact ⟨List.pairwise_cons.2 ⟨hq, hs⟩, List.Perm.refl _⟩
  | k + 1, P, Q, x, hk, hs, hq, hx => by
    obtain ⟨P', p, rfl⟩ : ∃ P' p, P = P' ++ [p] := by
      rcases List.eq_nil_or_concat P with h | ⟨P', p, h⟩
      · subst h; simp at hk
      · exact ⟨P', p, by simpa using h⟩
    have hk' : P'.length = k := by simpa using hk
    have e1 : (P' ++ [p] ++ x :: Q)[k + 1]? = some x := by
      rw [List.getElem?_append_right (by simp; omega)]; simp [hk']
    have e2 : (P' ++ [p] ++ x :: Q)[k]? = some p := by
      rw [List.append_assoc, List.getElem?_append_right (by omega)]; simp [hk']
    have e3 : ((P' ++ [p] ++ x :: Q).set (k + 1) p).set k x = P' ++ x :: p :: Q := by
      subst hk'
      rw [List.append_assoc, List.set_append_right _ _ (by omega), List.set_append_right _ _ (by omega)]
      simp
    unfold sunk
    rw [e1, e2]
    simp only
    rw [before_lex]
    by_cases hb : lexB x p = true
    · rw [if_pos hb, e3]
      have hs' : Sorted (P' ++ p :: Q) := by simpa using hs
      obtain ⟨h1, h2⟩ := sunk_sorted k P' (p :: Q) x hk' hs' (fun q hqm => by
        rcases List.mem_cons.1 hqm with e | e
        · subst e; exact hb
        · exact hq q e) (fun h => hx (by simp [h]))
      refine ⟨h1, h2.trans ?_⟩
      rw [List.append_assoc]
      exact (List.Perm.swap p x Q).append_left P'
    · rw [if_neg hb]
      have hb : lexB x p = false := by simpa using hb
      have hne : x ≠ p := fun e => hx (by simp [e])
      have hpx := lexB_tri hb hne
      refine ⟨?_, List.Perm.refl _⟩
      rw [Sorted, List.pairwise_append] at hs
      obtain ⟨h1, h2, h3⟩ := hs
      rw [Sorted, List.pairwise_append]
      refine ⟨h1, List.pairwise_cons.2 ⟨hq, h2⟩, fun a ha b hbm => ?_⟩
      have hax : lexB a x = true := by
        rcases List.mem_append.1 ha with h | h
        · rw [List.pairwise_append] at h1
          exact lexB_trans (h1.2.2 a h p (by simp)) hpx
        · simp at h; subst h; exact hpx
      rcases List.mem_cons.1 hbm with e | e
      · subst e; exact hax
      · exact h3 a ha b e
/-- inserting one behind the other -/
theorem ins_sorted (l : List (List Int)) : ∀ (out : List (List Int)), Sorted out → (out ++ l).Nodup → Sorted (l.foldl (fun out x => sunk out.length (out ++ [x])) out) ∧ ∀ y, y ∈ l.foldl (fun out x => sunk out.length (out ++ [x])) out ↔ y ∈ out ∨ y ∈ l := by
  induction l with
  | nil => intro out hs _; exact ⟨hs, fun y => by simp⟩
  | cons x l ih =>
    intro out hs hn
    have hx : x ∉ out := by
      intro h
      rw [List.nodup_append] at hn
      exact hn.2.2 x h x (by simp) rfl
    obtain ⟨h1, h2⟩ := sunk_sorted out.length out [] x rfl (by simpa using hs) (by simp) hx
    have hn2 : (sunk out.length (out ++ [x]) ++ l).Nodup := by
      have : (sunk out.length (out ++ [x]) ++ l).Perm (out ++ x :: l) := by
        refine (h2.append_right l).trans ?_
        simp
      exact this.nodup_iff.2 hn
    obtain ⟨h3, h4⟩ := ih (sunk out.length (out ++ [x])) h1 hn2
    simp only [List.foldl_cons]
    refine ⟨h3, fun y => ?_⟩
    rw [h4 y, h2.mem_iff]
    simp [or_assoc]
end Go.Mid
/- What the program finds is what the reference finds. -/
namespace Go.Mid
set_option linter.unusedSimpArgs false
set_option linter.unusedVariables false
/-! ### sets of places of an ascending list -/
theorem posOf_get {v : List Int} {y : Int} (h : y ∈ v) : v[posOf v y]? = some y := by
  have h2 := idx_isSome (· == y) v 0
  have h3 : v.any (· == y) = true := by simp [h]
  rw [h3] at h2
  unfold posOf
  cases hk : idx (· == y) v 0 with
  | none => rw [hk] at h2; cases h2
  | some k =>
    obtain ⟨_, _, ⟨h4, h5⟩, _⟩ := idx_some hk
    simp only [Nat.sub_zero] at h4 h5
    simp only [Option.getD_some]
    rw [List.getElem?_eq_getElem h4]
    simpa using h5
theorem asc_inj {v : List Int} (ha : asc v = true) {i j : Nat} (hi : i < v.length) (hj : j < v.length) (h : v[i] = v[j]) : i = j := by
  rcases Nat.lt_trichotomy i j with hlt | he | hgt
  · have := asc_pair ha hlt hj; omega
  · exact he
  · have := asc_pair ha hgt hi; omega
theorem bitsFrom_bit (v : List Int) (i : Nat) : ∀ (e : List Int) (b : Nat), (bitsFrom v b e).testBit i = (b.testBit i || e.any fun y => posOf v y == i)
  | [], b => by simp [bitsFrom]
  | y :: e, b => by
    have := bitsFrom_bit v i e (b ||| 1 <<< posOf v y)
    simp only [bitsFrom, List.foldl_cons] at this ⊢
    rw [this, Nat.testBit_or, bit_one, List.any_cons]
    have : decide (i = posOf v y) = (posOf v y == i) := by
      apply Bool.eq_iff_iff.2; simp; exact eq_comm
    rw [this, Bool.or_assoc]
theorem bitsOf_bit {v e : List Int} (ha : asc v = true) (he : ∀ y ∈ e, y ∈ v) (i : Nat) (hi : i < v.length) : (bitsOf v e).testBit i = e.contains v[i] := by
  unfold bitsOf
  rw [bitsFrom_bit, Nat.zero_testBit, Bool.false_or]
  apply Bool.eq_iff_iff.2
  rw [List.any_eq_true, List.contains_iff_mem]
  constructor
  · rintro ⟨y, hy, hp⟩
    simp only [beq_iff_eq] at hp
    have := posOf_get (he y hy)
    rw [hp, List.getElem?_eq_getElem hi] at this
    rw [Option.some.inj this]; exact hy
  · intro hm
    refine ⟨v[i], hm, ?_⟩
    have := posOf_get (he _ hm)
    obtain ⟨h1, h2⟩ := List.getElem?_eq_some_iff.1 this
    simp only [beq_iff_eq]
    exact asc_inj ha h1 hi h2
theorem bitsOf_high {v e : List Int} (he : ∀ y ∈ e, y ∈ v) (i : Nat) (hi : v.length ≤ i) : (bitsOf v e).testBit i = false := by
  unfold bitsOf
  rw [bitsFrom_bit, Nat.zero_testBit, Bool.false_or, List.any_eq_false]
  intro y hy
  have := posOf_lt (he y hy)
  simp; omega
theorem mem_idsP {v : List Int} {s : Nat} {y : Int} : y ∈ idsP v s ↔ ∃ i, ∃ h : i < v.length, v[i] = y ∧ s.testBit i = true := by
  unfold idsP
  simp only [List.mem_map, List.mem_filter, Prod.exists, exists_and_right, exists_eq_right]
  constructor
  · rintro ⟨i, h1, h2⟩
    rw [List.mem_zipIdx_iff_getElem?] at h1
    simp only at h1
    obtain ⟨h3, h4⟩ := List.getElem?_eq_some_iff.1 h1
    exact ⟨i, ⟨h3, h4⟩, h2⟩
  · rintro ⟨i, ⟨h, h1⟩, h2⟩
    exact ⟨i, by rw [List.mem_zipIdx_iff_getElem?]; simp [h, h1], h2⟩
theorem get_idsP {v : List Int} (ha : asc v = true) {s i : Nat} (hi : i < v.length) : (idsP v s).contains v[i] = s.testBit i := by
  apply Bool.eq_iff_iff.2
  rw [List.contains_iff_mem, mem_idsP]
  constructor
  · rintro ⟨j, hj, h1, h2⟩
    rw [← asc_inj ha hj hi h1]; exact h2
  · intro h; exact ⟨i, hi, rfl, h⟩
/-- recursively -/
def idsF : List Int → Nat → Nat → List Int
  | [], _, _ => []
  | x :: r, o, s => if s.testBit o then x :: idsF r (o + 1) s else idsF r (o + 1) s
theorem idsF_eq (s : Nat) : ∀ (v : List Int) (o : Nat), ((v.zipIdx o).filter fun x => s.testBit x.2).map (·.1) = idsF v o s
  | [], _ => rfl
  | x :: r, o => by
    simp only [List.zipIdx_cons, idsF]
    cases h : s.testBit o with
    | true => simp [h, idsF_eq s r (o + 1)]
    | false => simp [h, idsF_eq s r (o + 1)]
theorem idsP_F (v : List Int) (s : Nat) : idsP v s = idsF v 0 s := idsF_eq s v 0
theorem idsF_sub (s : Nat) : ∀ (v : List Int) (o : Nat), (idsF v o s).Sublist v
  | [], _ => List.Sublist.refl _
  | x :: r, o => by
    simp only [idsF]
    split
    · exact (idsF_sub s r (o + 1)).cons_cons x
    · exact (idsF_sub s r (o + 1)).cons x
theorem asc_iff {l : List Int} : asc l = true ↔ l.Pairwise (· < ·) := by
  constructor
  · intro h
    rw [List.pairwise_iff_getElem]
    intro i j hi hj hij
    exact asc_pair h hij hj
  · intro h
    rw [List.pairwise_iff_getElem] at h
    have : ∀ i (h : i + 1 < l.length), l[i] < l[i + 1] := fun i hi => h i (i + 1) (by omega) hi (by omega)
    clear h
    induction l with
    | nil => rfl
    | cons x l ih =>
      cases l with
      | nil => rfl
      | cons y l =>
        simp only [asc, Bool.and_eq_true, decide_eq_true_eq]
        exact ⟨this 0 (by simp), ih fun i hi => this (i + 1) (by simpa using hi)⟩
theorem asc_idsP {v : List Int} (ha : asc v = true) (s : Nat) : asc (idsP v s) = true := by
  rw [idsP_F, asc_iff]
  exact (asc_iff.1 ha).sublist (idsF_sub s v 0)
theorem within_idsP (v : List Int) (s : Nat) : within (idsP v s) v = true := by
  unfold within
  rw [List.all_eq_true]
  intro y hy
  obtain ⟨i, hi, rfl, _⟩ := mem_idsP.1 hy
  simp
theorem within_iff {a b : List Int} : within a b = true ↔ ∀ y ∈ a, y ∈ b := by
  unfold within
  rw [List.all_eq_true]
  simp
theorem within_bits {v e : List Int} (ha : asc v = true) (he : ∀ y ∈ e, y ∈ v) (s : Nat) : within e (idsP v s) = inside (bitsOf v e) s := by
  apply Bool.eq_iff_iff.2
  rw [within_iff, inside_iff]
  constructor
  · intro h i hi
    by_cases hiv : i < v.length
    · rw [bitsOf_bit ha he i hiv] at hi
      have := h v[i] (by simpa using hi)
      rw [← get_idsP ha hiv]
      simpa using this
    · rw [bitsOf_high he i (by omega)] at hi; cases hi
  · intro h y hy
    obtain ⟨i, hi, rfl⟩ := List.getElem_of_mem (he y hy)
    have := h i (by rw [bitsOf_bit ha he i hi]; simpa using hy)
    rw [← get_idsP ha hi] at this
    simpa using this
theorem within_add {v e : List Int} (ha : asc v = true) (he : ∀ y ∈ e, y ∈ v) (s i : Nat) (hi : i < v.length) : within e (idsP v s ++ [v[i]]) = inside (bitsOf v e) (s ||| 1 <<< i) := by
  rw [← within_bits ha he]
  apply Bool.eq_iff_iff.2
  rw [within_iff, within_iff]
  have key : ∀ y, y ∈ idsP v s ++ [v[i]] ↔ y ∈ idsP v (s ||| 1 <<< i) := by
    intro y
    rw [List.mem_append, mem_idsP, mem_idsP, List.mem_singleton]
    constructor
    · rintro (⟨j, hj, h1, h2⟩ | h)
      · exact ⟨j, hj, h1, by rw [Nat.testBit_or, h2]; rfl⟩
      · exact ⟨i, hi, h.symm, by rw [Nat.testBit_or, bit_one]; simp⟩
    · rintro ⟨j, hj, h1, h2⟩
      rw [Nat.testBit_or, bit_one] at h2
      by_cases hji : j = i
      · subst hji; right; exact h1.symm
      · left; exact ⟨j, hj, h1, by simpa [hji] using h2⟩
  exact ⟨fun h y hy => (key y).1 (h y hy), fun h y hy => (key y).2 (h y hy)⟩
/-! ### maximal sets -/
structure GOk (v : List Int) (es : List (List Int)) : Prop where
  av : asc v = true
  inn : ∀ e ∈ es, ∀ y ∈ e, y ∈ v
  ne : ∀ e ∈ es, e ≠ []
section
variable {v : List Int} {es : List (List Int)} (G : GOk v es)
include G
theorem free_bits (s : Nat) : free es (idsP v s) = !edgeIn (es.map (bitsOf v)) s := by
  unfold free edgeIn
  rw [List.any_map]
  congr 1
  apply Bool.eq_iff_iff.2
  rw [List.any_eq_true, List.any_eq_true]
  constructor
  · rintro ⟨e, he, h⟩
    refine ⟨e, he, ?_⟩
    rw [within_bits G.av (G.inn e he)] at h
    exact h
  · rintro ⟨e, he, h⟩
    refine ⟨e, he, ?_⟩
    rw [within_bits G.av (G.inn e he)]
    exact h
theorem maximal_bits (s : Nat) : maximal v es (idsP v s) = maxi (es.map (bitsOf v)) v.length s := by
  unfold maximal maxi indep
  rw [asc_idsP G.av, within_idsP, free_bits G, Bool.true_and, Bool.true_and]
  cases hE : edgeIn (es.map (bitsOf v)) s with
  | true => rfl
  | false =>
    simp only [Bool.not_false, Bool.true_and]
    apply Bool.eq_iff_iff.2
    rw [List.all_eq_true, List.all_eq_true]
    have key : ∀ i (hi : i < v.length), ((idsP v s).contains v[i] || !free es (idsP v s ++ [v[i]])) = (s.testBit i || blockedB (es.map (bitsOf v)) i s) := by
      intro i hi
      rw [get_idsP G.av hi]
      cases hb : s.testBit i with
      | true => rfl
      | false =>
        rw [Bool.false_or, Bool.false_or]
        unfold free blockedB
        rw [Bool.not_not, List.any_map]
        apply Bool.eq_iff_iff.2
        rw [List.any_eq_true, List.any_eq_true]
        have hone : ∀ e ∈ es, within e (idsP v s ++ [v[i]]) = ((bitsOf v e).testBit i && inside (less (bitsOf v e) (1 <<< i)) s) := by
          intro e he
          rw [within_add G.av (G.inn e he) s i hi]
          apply Bool.eq_iff_iff.2
          rw [Bool.and_eq_true, inside_iff, inside_iff]
          constructor
          · intro h
            have hbit : (bitsOf v e).testBit i = true := by
              cases hc : (bitsOf v e).testBit i with
              | true => rfl
              | false =>
                exfalso
                have : edgeIn (es.map (bitsOf v)) s = true := by
                  unfold edgeIn
                  rw [List.any_eq_true]
                  refine ⟨bitsOf v e, List.mem_map.2 ⟨e, he, rfl⟩, inside_iff.2 fun j hj => ?_⟩
                  have h1 := h j hj
                  rw [Nat.testBit_or, bit_one] at h1
                  by_cases hji : j = i
                  · subst hji; rw [hc] at hj; cases hj
                  · simpa [hji] using h1
                rw [hE] at this; cases this
            refine ⟨hbit, fun j hj => ?_⟩
            rw [less_bit, bit_one] at hj
            simp at hj
            have h1 := h j hj.1
            rw [Nat.testBit_or, bit_one] at h1
            simpa [hj.2] using h1
          · rintro ⟨h1, h2⟩ j hj
            rw [Nat.testBit_or, bit_one]
            by_cases hji : j = i
            · simp [hji]
            · rw [h2 j (by rw [less_bit, bit_one, hj]; simp [hji])]; rfl
        constructor
        · rintro ⟨e, he, h⟩; exact ⟨e, he, by rw [hone e he] at h; exact h⟩
        · rintro ⟨e, he, h⟩; exact ⟨e, he, by rw [hone e he]; exact h⟩
    constructor
    · intro h i hi
      have hi' : i < v.length := by simpa using hi
      rw [← key i hi']
      exact h v[i] (by simp)
    · intro h y hy
      obtain ⟨i, hi, rfl⟩ := List.getElem_of_mem hy
      rw [key i hi]
      exact h i (by simpa using hi)
theorem edge_zero : edgeIn (es.map (bitsOf v)) 0 = false := by
  unfold edgeIn
  rw [List.any_eq_false]
  intro b hb h
  obtain ⟨e, he, rfl⟩ := List.mem_map.1 hb
  rw [inside_iff] at h
  cases e with
  | nil => exact G.ne _ he rfl
  | cons y r =>
    obtain ⟨i, hi, hy⟩ := List.getElem_of_mem (G.inn _ he y (by simp))
    have := h i (by rw [bitsOf_bit G.av (G.inn _ he) i hi, hy]; simp)
    simp at this
theorem allS_eq : allS v es = (leaves v.length 0 0).filter (maxi (es.map (bitsOf v)) v.length) := by
  unfold allS
  rw [walkL_eq _ _ _ _ _ (by intro u hu; omega) (by simp) (by simp) (edge_zero G), Nat.zero_add]
end
end Go.Mid
/- The repairs in order: program and reference. -/
namespace Go.Mid
set_option linter.unusedSimpArgs false
set_option linter.unusedVariables false
set_option linter.unusedSectionVars false
/-! ### the order of all sets -/
/-- s has the least place in which they differ -/
def first (s t : Nat) : Prop := ∃ i, s.testBit i = true ∧ t.testBit i = false ∧ ∀ j, j < i → s.testBit j = t.testBit j
theorem leaves_first : ∀ (k v s : Nat), (∀ i, v ≤ i → s.testBit i = false) → (leaves k v s).Pairwise first
  | 0, v, s, _ => by simp [leaves]
  | k + 1, v, s, hs => by
    have hs1 : ∀ i, v + 1 ≤ i → (s ||| 1 <<< v).testBit i = false := by
      intro i hi
      rw [Nat.testBit_or, bit_one, hs i (by omega)]
      have : i ≠ v := by omega
      simp [this]
    simp only [leaves]
    rw [List.pairwise_append]
    refine ⟨leaves_first k (v + 1) _ hs1, leaves_first k (v + 1) s fun i hi => hs i (by omega), fun a ha b hb => ⟨v, ?_, ?_, ?_⟩⟩
    · rw [leaves_low ha v (by omega), Nat.testBit_or, bit_one]; simp
    · rw [leaves_low hb v (by omega)]; exact hs v (Nat.le_refl _)
    · intro j hj
      rw [leaves_low ha j (by omega), leaves_low hb j (by omega), Nat.testBit_or, bit_one]
      have : j ≠ v := by omega
      simp [this]
theorem idsF_first (s t i : Nat) : ∀ (v : List Int) (o : Nat), v.Pairwise (· < ·) → o ≤ i → i < o + v.length → s.testBit i = true → t.testBit i = false → (∀ j, o ≤ j → j < i → s.testBit j = t.testBit j) → (∃ j, i < j ∧ j < o + v.length ∧ t.testBit j = true) → lexB (idsF v o s) (idsF v o t) = true
  | [], o, _, h1, h2, _, _, _, _ => by simp at h2; omega
  | x :: r, o, hp, h1, h2, h3, h4, h5, h6 => by
    rw [List.pairwise_cons] at hp
    by_cases ho : o = i
    · subst ho
      simp only [idsF, h3, h4, if_true, Bool.false_eq_true, if_false]
      obtain ⟨j, hj1, hj2, hj3⟩ := h6
      have hm : ∃ y, y ∈ idsF r (o + 1) t := by
        rw [← idsF_eq]
        simp only [List.length_cons] at hj2
        refine ⟨r[j - (o + 1)]'(by omega), ?_⟩
        rw [List.mem_map]
        refine ⟨(r[j - (o + 1)]'(by omega), j), ?_, rfl⟩
        rw [List.mem_filter]
        refine ⟨?_, hj3⟩
        rw [List.mem_zipIdx_iff_le_and_getElem?_sub]
        exact ⟨by omega, by simp⟩
      cases hc : idsF r (o + 1) t with
      | nil => obtain ⟨y, hy⟩ := hm; rw [hc] at hy; cases hy
      | cons c q =>
        have : c ∈ r := (idsF_sub t r (o + 1)).subset (by rw [hc]; simp)
        have hlt := hp.1 c this
        have hne : ¬ x = c := by omega
        simp only [lexB, hne, if_false, decide_eq_true_eq]
        exact hlt
    · simp only [List.length_cons] at h2
      have ih := idsF_first s t i r (o + 1) hp.2 (by omega) (by omega) h3 h4 (fun j hj1 hj2 => h5 j (by omega) hj2) (by
        obtain ⟨j, hj1, hj2, hj3⟩ := h6
        exact ⟨j, hj1, by simp only [List.length_cons] at hj2; omega, hj3⟩)
      have he := h5 o (Nat.le_refl _) (by omega)
      simp only [idsF, he]
      split
      · simp only [lexB, if_true]; exact ih
      · exact ih
section
variable {v : List Int} {es : List (List Int)} (G : GOk v es)
include G
theorem first_lex {s t : Nat} (hs : maxi (es.map (bitsOf v)) v.length s = true) (ht : maxi (es.map (bitsOf v)) v.length t = true) (hsl : s < 2 ^ v.length) (htl : t < 2 ^ v.length) (h : first s t) : lexB (idsP v s) (idsP v t) = true := by
  obtain ⟨i, h1, h2, h3⟩ := h
  have hi : i < v.length := by
    apply Classical.byContradiction
    intro hn
    rw [bit_lt hsl (by omega)] at h1; cases h1
  rw [idsP_F, idsP_F]
  refine idsF_first s t i v 0 (asc_iff.1 G.av) (by omega) (by omega) h1 h2 (fun j _ hj => h3 j hj) ?_
  apply Classical.byContradiction
  intro hno
  have hno : ∀ j, i < j → t.testBit j = false := by
    intro j hj
    cases hb : t.testBit j with
    | false => rfl
    | true =>
      exfalso
      apply hno
      refine ⟨j, hj, ?_, hb⟩
      apply Classical.byContradiction
      intro hn
      rw [bit_lt htl (by omega)] at hb; cases hb
  unfold maxi at hs ht
  rw [Bool.and_eq_true] at hs ht
  have hb := List.all_eq_true.1 ht.2 i (by simpa using hi)
  rw [h2, Bool.false_or] at hb
  unfold blockedB at hb
  rw [List.any_eq_true] at hb
  obtain ⟨e, he, hb⟩ := hb
  rw [Bool.and_eq_true] at hb
  have : edgeIn (es.map (bitsOf v)) s = true := by
    unfold edgeIn
    rw [List.any_eq_true]
    refine ⟨e, he, inside_iff.2 fun j hj => ?_⟩
    by_cases hji : j = i
    · subst hji; exact h1
    · have hjt := inside_iff.1 hb.2 j (by rw [less_bit, bit_one, hj]; simp [hji])
      rcases Nat.lt_or_gt_of_ne hji with hlt | hgt
      · rw [h3 j hlt]; exact hjt
      · rw [hno j hgt] at hjt; cases hjt
  rw [this] at hs
  simp at hs
theorem allS_pairwise : (allS v es).Pairwise fun s t => lexB (idsP v s) (idsP v t) = true := by
  rw [allS_eq G]
  have h := leaves_first v.length 0 0 (by simp)
  have h2 : ((leaves v.length 0 0).filter (maxi (es.map (bitsOf v)) v.length)).Pairwise first := h.filter _
  refine List.Pairwise.imp_of_mem ?_ h2
  intro s t hs ht hf
  rw [List.mem_filter] at hs ht
  refine first_lex G hs.2 ht.2 ?_ ?_ hf
  · exact lt_of_bits fun i hi => by rw [leaves_high hs.1 i (by omega), Nat.zero_testBit]
  · exact lt_of_bits fun i hi => by rw [leaves_high ht.1 i (by omega), Nat.zero_testBit]
theorem progR_sorted : Sorted (progR v es) := by
  unfold progR
  rw [Sorted, List.pairwise_map]
  exact allS_pairwise G
theorem mem_allS {s : Nat} : s ∈ allS v es ↔ s < 2 ^ v.length ∧ maximal v es (idsP v s) = true := by
  rw [allS_eq G, List.mem_filter, ← maximal_bits G]
  constructor
  · rintro ⟨h1, h2⟩
    exact ⟨lt_of_bits fun i hi => by rw [leaves_high h1 i (by omega), Nat.zero_testBit], h2⟩
  · rintro ⟨h1, h2⟩
    exact ⟨mem_leaves _ _ _ _ (by intro i hi; omega) (by simp) (fun i hi => bit_lt h1 (by omega)), h2⟩
theorem mem_progR {l : List Int} : l ∈ progR v es ↔ ∃ s, s < 2 ^ v.length ∧ idsP v s = l ∧ maximal v es l = true := by
  unfold progR
  rw [List.mem_map]
  constructor
  · rintro ⟨s, h1, rfl⟩
    obtain ⟨h2, h3⟩ := (mem_allS G).1 h1
    exact ⟨s, h2, rfl, h3⟩
  · rintro ⟨s, h1, rfl, h2⟩
    exact ⟨s, (mem_allS G).2 ⟨h1, h2⟩, rfl⟩
theorem idsP_inj {s t : Nat} (hs : s < 2 ^ v.length) (ht : t < 2 ^ v.length) (h : idsP v s = idsP v t) : s = t := by
  apply Nat.eq_of_testBit_eq
  intro i
  by_cases hi : i < v.length
  · rw [← get_idsP G.av hi, ← get_idsP G.av hi, h]
  · rw [bit_lt hs (by omega), bit_lt ht (by omega)]
theorem refR_eq_fold : refR v es = (((List.range (2 ^ v.length)).map (idsP v)).filter (maximal v es)).foldl (fun out x => sunk out.length (out ++ [x])) [] := by
  unfold refR
  generalize List.range (2 ^ v.length) = l
  suffices ∀ (l : List Nat) (a : List (List Int)), l.foldl (repStep v es) a = ((l.map (idsP v)).filter (maximal v es)).foldl (fun out x => sunk out.length (out ++ [x])) a from this l []
  intro l
  induction l with
  | nil => intro a; rfl
  | cons b l ih =>
    intro a
    simp only [List.foldl_cons, List.map_cons]
    rw [ih]
    unfold repStep
    cases hm : maximal v es (idsP v b) with
    | true => rw [List.filter_cons_of_pos (by simpa using hm)]; rfl
    | false => rw [List.filter_cons_of_neg (by simp [hm])]; rfl
theorem refR_spec : Sorted (refR v es) ∧ ∀ l, l ∈ refR v es ↔ ∃ s, s < 2 ^ v.length ∧ idsP v s = l ∧ maximal v es l = true := by
  rw [refR_eq_fold G]
  have hn : (((List.range (2 ^ v.length)).map (idsP v)).filter (maximal v es)).Nodup := by
    refine List.Pairwise.filter _ ?_
    rw [List.pairwise_map]
    refine List.Pairwise.imp_of_mem ?_ List.nodup_range
    intro a b ha hb hne he
    exact hne (idsP_inj G (by simpa using ha) (by simpa using hb) he)
  obtain ⟨h1, h2⟩ := ins_sorted _ [] (by simp) (by simpa using hn)
  refine ⟨h1, fun l => ?_⟩
  rw [h2 l]
  simp only [List.not_mem_nil, false_or, List.mem_filter, List.mem_map, List.mem_range]
  constructor
  · rintro ⟨⟨s, hs, rfl⟩, hm⟩; exact ⟨s, hs, rfl, hm⟩
  · rintro ⟨s, hs, rfl, hm⟩; exact ⟨⟨s, hs, rfl⟩, hm⟩
theorem prog_ref : progR v es = refR v es :=
  Sorted.ext (progR_sorted G) (refR_spec G).1 fun l => by rw [mem_progR G, (refR_spec G).2 l]
end
end Go.Mid
/- The hypergraph of a description is valid. -/
namespace Go.Mid
set_option linter.unusedSimpArgs false
set_option linter.unusedVariables false
/-! ### minimal edges -/
def keptL (ls : List (List Int)) : List (List Int) := (ls.zipIdx.filter fun x => keptB ls x.2 x.1).map (·.1)
theorem edges_fold (ls : List (List Int)) : edges ls = (keptL ls).foldl (fun out x => sunk out.length (out ++ [x])) [] := by
  unfold edges keptL
  suffices ∀ (r : List (List Int)) (i : Nat) (a : List (List Int)), edgesFrom ls r i a = (((r.zipIdx i).filter fun x => keptB ls x.2 x.1).map (·.1)).foldl (fun out x => sunk out.length (out ++ [x])) a from this ls 0 []
  intro r
  induction r with
  | nil => intro i a; rfl
  | cons x r ih =>
    intro i a
    simp only [edgesFrom, List.zipIdx_cons, ih, edgesStep]
    cases hk : keptB ls i x with
    | true => rw [List.filter_cons_of_pos (by simpa using hk)]; rfl
    | false => rw [List.filter_cons_of_neg (by simp [hk])]; rfl
theorem asc_ext : ∀ {a b : List Int}, a.Pairwise (· < ·) → b.Pairwise (· < ·) → (∀ x, x ∈ a ↔ x ∈ b) → a = b
  | [], [], _, _, _ => rfl
  | [], y :: m, _, _, h => by have := (h y).2 (by simp); simp at this
  | x :: l, [], _, _, h => by have := (h x).1 (by simp); simp at this
  | x :: l, y :: m, hl, hm, h => by
    rw [List.pairwise_cons] at hl hm
    have hxy : x = y := by
      apply Classical.byContradiction
      intro hne
      have h1 : x ∈ m := by
        rcases List.mem_cons.1 ((h x).1 (by simp)) with e | e
        · exact absurd e hne
        · exact e
      have h2 : y ∈ l := by
        rcases List.mem_cons.1 ((h y).2 (by simp)) with e | e
        · exact absurd e.symm hne
        · exact e
      have := hl.1 y h2
      have := hm.1 x h1
      omega
    subst hxy
    congr 1
    refine asc_ext hl.2 hm.2 fun z => ?_
    constructor
    · intro hz
      rcases List.mem_cons.1 ((h z).1 (by simp [hz])) with e | e
      · subst e; have := hl.1 z hz; omega
      · exact e
    · intro hz
      rcases List.mem_cons.1 ((h z).2 (by simp [hz])) with e | e
      · subst e; have := hm.1 z hz; omega
      · exact e
theorem asc_sublist : ∀ {b a : List Int}, a.Pairwise (· < ·) → b.Pairwise (· < ·) → (∀ x ∈ a, x ∈ b) → a.Sublist b
  | [], [], _, _, _ => List.Sublist.refl _
  | [], x :: a, _, _, h => by have := h x (by simp); simp at this
  | y :: b, [], _, _, _ => List.nil_sublist _
  | y :: b, x :: a, ha, hb, h => by
    have ha' := ha
    rw [List.pairwise_cons] at ha hb
    by_cases hxy : x = y
    · subst hxy
      refine (asc_sublist ha.2 hb.2 fun z hz => ?_).cons_cons x
      rcases List.mem_cons.1 (h z (by simp [hz])) with e | e
      · subst e; have := ha.1 z hz; omega
      · exact e
    · have hx : x ∈ b := by
        rcases List.mem_cons.1 (h x (by simp)) with e | e
        · exact absurd e hxy
        · exact e
      have hyx := hb.1 x hx
      refine (asc_sublist ha' hb.2 fun z hz => ?_).cons y
      rcases List.mem_cons.1 (h z hz) with e | e
      · subst e
        rcases List.mem_cons.1 hz with e | e
        · omega
        · have := ha.1 z e; omega
      · exact e
/-- an ascending list within another one that is not longer is the other one -/
theorem within_eq {a b : List Int} (ha : asc a = true) (hb : asc b = true) (h : within a b = true) (hl : b.length ≤ a.length) : a = b := by
  rw [asc_iff] at ha hb
  rw [within_iff] at h
  exact (asc_sublist ha hb h).eq_of_length_le hl
theorem zip_mem {α : Type} {l : List α} {x : α} {i : Nat} : (x, i) ∈ l.zipIdx ↔ ∃ h : i < l.length, l[i] = x := by
  rw [List.mem_zipIdx_iff_getElem?]
  simp only
  rw [List.getElem?_eq_some_iff]
theorem kept_get {ls : List (List Int)} {i : Nat} {x : List Int} (h : keptB ls i x = true) {k : Nat} (hk : k < ls.length) : within ls[k] x = true → x.length ≤ ls[k].length ∧ i ≤ k := by
  intro hw
  unfold keptB at h
  rw [List.all_eq_true] at h
  have := h (ls[k], k) (zip_mem.2 ⟨hk, rfl⟩)
  simp only [hw, Bool.true_and, Bool.not_eq_true', Bool.or_eq_false_iff, decide_eq_false_iff_not] at this
  omega
/-- no two kept lists, one within the other -/
theorem kept_anti {ls : List (List Int)} (hasc : ∀ e ∈ ls, asc e = true) {i j : Nat} (hi : i < ls.length) (hj : j < ls.length) (ki : keptB ls i ls[i] = true) (kj : keptB ls j ls[j] = true) (hw : within ls[j] ls[i] = true) : i = j := by
  have h1 := kept_get ki hj hw
  have he := within_eq (hasc _ (by simp)) (hasc _ (by simp)) hw h1.1
  have h2 := kept_get kj hi (by rw [he]; exact within_iff.2 fun _ h => h)
  omega
theorem keptL_pairwise {ls : List (List Int)} (hasc : ∀ e ∈ ls, asc e = true) : (keptL ls).Pairwise fun a b => within a b = false ∧ within b a = false := by
  unfold keptL
  rw [List.pairwise_map]
  refine List.Pairwise.imp_of_mem (R := fun a b => a.2 ≠ b.2) ?_ (List.Pairwise.filter _ ?_)
  · rintro ⟨a, i⟩ ⟨b, j⟩ ha hb hne
    rw [List.mem_filter] at ha hb
    obtain ⟨hi, rfl⟩ := zip_mem.1 ha.1
    obtain ⟨hj, rfl⟩ := zip_mem.1 hb.1
    simp only at ha hb hne ⊢
    constructor
    · cases hw : within ls[i] ls[j] with
      | false => rfl
      | true => exact absurd (kept_anti hasc hj hi hb.2 ha.2 hw).symm hne
    · cases hw : within ls[j] ls[i] with
      | false => rfl
      | true => exact absurd (kept_anti hasc hi hj ha.2 hb.2 hw) hne
  · rw [List.pairwise_iff_getElem]
    intro i j hi hj hij
    simp
    omega
theorem within_refl (a : List Int) : within a a = true := within_iff.2 fun _ h => h
theorem edges_spec {ls : List (List Int)} (hasc : ∀ e ∈ ls, asc e = true) : Sorted (edges ls) ∧ ∀ y, y ∈ edges ls ↔ y ∈ keptL ls := by
  rw [edges_fold]
  have hn : (keptL ls).Nodup := (keptL_pairwise hasc).imp fun h e => by
    subst e
    rw [within_refl] at h; cases h.1
  obtain ⟨h1, h2⟩ := ins_sorted (keptL ls) [] (by simp) (by simpa using hn)
  exact ⟨h1, fun y => by rw [h2 y]; simp⟩
theorem keptL_mem {ls : List (List Int)} {y : List Int} (h : y ∈ keptL ls) : y ∈ ls := by
  unfold keptL at h
  rw [List.mem_map] at h
  obtain ⟨⟨x, i⟩, h1, rfl⟩ := h
  rw [List.mem_filter] at h1
  obtain ⟨hi, rfl⟩ := zip_mem.1 h1.1
  simp
theorem keptL_length (ls : List (List Int)) : (keptL ls).length ≤ ls.length := by
  unfold keptL
  rw [List.length_map]
  exact Nat.le_trans (List.length_filter_le _ _) (by simp)
theorem edges_anti {ls : List (List Int)} (hasc : ∀ e ∈ ls, asc e = true) {a b : List Int} (ha : a ∈ edges ls) (hb : b ∈ edges ls) (hw : within a b = true) : a = b := by
  rw [(edges_spec hasc).2] at ha hb
  apply Classical.byContradiction
  intro hne
  rcases List.Pairwise.forall_of_forall_of_flip (R := fun a b => a ≠ b → within a b = false) (l := keptL ls) (by intro x _ h; exact absurd rfl h) ((keptL_pairwise hasc).imp fun h _ => h.1) ((keptL_pairwise hasc).imp fun h _ => h.2) ha hb with h
  rw [h hne] at hw; cases hw
theorem edges_length (ls : List (List Int)) : (edges ls).length ≤ ls.length := by
  unfold edges
  suffices ∀ (r : List (List Int)) (i : Nat) (a : List (List Int)), (edgesFrom ls r i a).length ≤ a.length + r.length by simpa using this ls 0 []
  intro r
  induction r with
  | nil => intro i a; simp [edgesFrom]
  | cons x r ih =>
    intro i a
    simp only [edgesFrom, List.length_cons]
    have := ih (i + 1) (edgesStep ls i x a)
    have := edgesStep_length ls i x a
    omega
/-- a sorted antichain of ascending lists of vertices is valid -/
theorem validH_of {v : List Int} {es : List (List Int)} (G : GOk v es) (he : ∀ e ∈ es, asc e = true) (hl : es.length ≤ 20000) (hs : Sorted es) (hanti : ∀ a ∈ es, ∀ b ∈ es, within a b = true → a = b) : validH v es = true := by
  unfold validH
  rw [G.av, Bool.true_and]
  simp only [hl, decide_true, Bool.true_and, Bool.and_eq_true, Bool.not_eq_true']
  constructor
  · rw [List.any_eq_false]
    rintro ⟨e, i⟩ hm
    obtain ⟨hi, rfl⟩ := zip_mem.1 hm
    simp only [Bool.not_eq_true', Bool.not_eq_false]
    unfold edgeOk
    have h1 : es[i].isEmpty = false := by
      have := G.ne es[i] (by simp)
      simpa using this
    have h2 : within es[i] v = true := within_iff.2 (G.inn _ (by simp))
    rw [h1, he _ (by simp), h2]
    cases i with
    | zero => rfl
    | succ i =>
      have e : es.getD (i + 1 - 1) [] = es[i] := by simp [List.getD, show i < es.length by omega]
      rw [e, before_lex, List.pairwise_iff_getElem.1 hs i (i + 1) (by omega) hi (by omega)]
      rfl
  · rw [List.any_eq_false]
    rintro ⟨e, i⟩ hm
    obtain ⟨hi, rfl⟩ := zip_mem.1 hm
    simp only [Bool.not_eq_true]
    unfold pairBad
    rw [List.any_eq_false]
    rintro ⟨y, k⟩ hkm
    obtain ⟨hk, rfl⟩ := zip_mem.1 hkm
    simp only [Bool.and_eq_true, bne_iff_ne, ne_eq, not_and]
    intro hne hw
    have := hanti _ (by simp) _ (by simp) hw
    rcases Nat.lt_or_gt_of_ne hne with h | h
    · have h2 := List.pairwise_iff_getElem.1 hs k i hk hi h
      rw [this, lexB_irrefl] at h2; cases h2
    · have h2 := List.pairwise_iff_getElem.1 hs i k hi hk h
      rw [this, lexB_irrefl] at h2; cases h2
/-! ### descriptions -/
theorem asc_verts (n : Nat) : asc (verts n) = true := by
  rw [asc_iff]
  unfold verts
  rw [List.pairwise_map]
  exact List.pairwise_lt_range.imp fun h => by omega
theorem pick_sub (V : List Int) (s : Nat) : (pick V s).Sublist V := by
  unfold pick
  have h1 : (((V.take 8).zipIdx.filter fun x => s.testBit x.2).map (·.1)).Sublist ((V.take 8).zipIdx.map (·.1)) := List.filter_sublist.map _
  rw [List.zipIdx_map_fst] at h1
  exact h1.trans (List.take_sublist 8 V)
theorem mem_picks {V : List Int} {E : List Nat} {e : List Int} (h : e ∈ picks V E) : e ≠ [] ∧ ∃ s, e = pick V s := by
  unfold picks at h
  rw [List.mem_filter, List.mem_map] at h
  obtain ⟨⟨s, _, rfl⟩, h2⟩ := h
  exact ⟨by simpa using h2, s, rfl⟩
section
variable (N : Nat) (E : List Nat)
theorem picks_asc : ∀ e ∈ picks (verts (N % 9)) E, asc e = true := by
  intro e he
  obtain ⟨_, s, rfl⟩ := mem_picks he
  exact asc_iff.2 ((asc_iff.1 (asc_verts _)).sublist (pick_sub _ _))
theorem hEs_mem {e : List Int} (h : e ∈ hEs N E) : e ∈ picks (verts (N % 9)) E := by
  unfold hEs at h
  rw [(edges_spec (picks_asc N E)).2] at h
  exact keptL_mem h
theorem hEs_G : GOk (verts (N % 9)) (hEs N E) where
  av := asc_verts _
  inn := fun e he y hy => by
    obtain ⟨_, s, rfl⟩ := mem_picks (hEs_mem N E he)
    exact (pick_sub _ _).subset hy
  ne := fun e he => (mem_picks (hEs_mem N E he)).1
theorem picks_length : (picks (verts (N % 9)) E).length ≤ 12 := by
  unfold picks
  refine Nat.le_trans (List.length_filter_le _ _) ?_
  simp; omega
theorem hEs_length : (hEs N E).length ≤ 12 := Nat.le_trans (edges_length _) (picks_length N E)
theorem hEs_el : ∀ e ∈ hEs N E, e.length ≤ 9 := by
  intro e he
  obtain ⟨_, s, rfl⟩ := mem_picks (hEs_mem N E he)
  have := pick_length (verts (N % 9)) s
  simp at this; omega
theorem hEs_H : HOk (verts (N % 9)) (hEs N E) where
  nv := by simp; omega
  ne := by have := hEs_length N E; omega
  el := fun e he => by have := hEs_el N E e he; omega
  inn := (hEs_G N E).inn
theorem hEs_valid : validH (verts (N % 9)) (hEs N E) = true := by
  refine validH_of (hEs_G N E) (fun e he => picks_asc N E e (hEs_mem N E he)) (by have := hEs_length N E; omega) (edges_spec (picks_asc N E)).1 ?_
  intro a ha b hb hw
  exact edges_anti (picks_asc N E) ha hb hw
theorem hEs_err : errH (verts (N % 9)) (hEs N E) = 0 := by
  unfold errH
  rw [hEs_valid]
  have : ¬ 40 < (verts (N % 9)).length := by simp; omega
  simp only [this, if_false]
  rfl
end
end Go.Mid
/- Each independent set lies in a maximal one. -/
namespace Go.Mid
set_option linter.unusedSimpArgs false
set_option linter.unusedVariables false
theorem blocked_of {E : List Nat} {t u : Nat} (h0 : edgeIn E t = false) (h1 : edgeIn E (t ||| 1 <<< u) = true) : blockedB E u t = true := by
  unfold edgeIn at h1
  rw [List.any_eq_true] at h1
  obtain ⟨e, he, h⟩ := h1
  rw [inside_iff] at h
  unfold blockedB
  rw [List.any_eq_true]
  refine ⟨e, he, ?_⟩
  rw [Bool.and_eq_true, inside_iff]
  have hbit : e.testBit u = true := by
    cases hc : e.testBit u with
    | true => rfl
    | false =>
      exfalso
      have : edgeIn E t = true := by
        unfold edgeIn
        rw [List.any_eq_true]
        refine ⟨e, he, inside_iff.2 fun j hj => ?_⟩
        have h1 := h j hj
        rw [Nat.testBit_or, bit_one] at h1
        by_cases hju : j = u
        · subst hju; rw [hc] at hj; cases hj
        · simpa [hju] using h1
      rw [h0] at this; cases this
  refine ⟨hbit, fun j hj => ?_⟩
  rw [less_bit, bit_one] at hj
  simp at hj
  have h1 := h j hj.1
  rw [Nat.testBit_or, bit_one] at h1
  simpa [hj.2] using h1
def grow (E : List Nat) (s u : Nat) : Nat := if edgeIn E (s ||| 1 <<< u) then s else s ||| 1 <<< u
theorem grow_spec (E : List Nat) : ∀ (l : List Nat) (s : Nat), edgeIn E s = false → edgeIn E (l.foldl (grow E) s) = false ∧ (∀ i, s.testBit i = true → (l.foldl (grow E) s).testBit i = true) ∧
    (∀ u ∈ l, (l.foldl (grow E) s).testBit u = true ∨ edgeIn E ((l.foldl (grow E) s) ||| 1 <<< u) = true) ∧ (∀ i, (l.foldl (grow E) s).testBit i = true → s.testBit i = true ∨ i ∈ l)
  | [], s, h => ⟨h, fun _ h => h, (fun u hu => by cases hu), fun _ h => .inl h⟩
  | u :: l, s, h => by
    have hg : edgeIn E (grow E s u) = false := by
      unfold grow
      split
      · exact h
      · rename_i h1; simpa using h1
    have hsub : ∀ i, s.testBit i = true → (grow E s u).testBit i = true := by
      intro i hi
      unfold grow
      split
      · exact hi
      · rw [Nat.testBit_or, hi]; rfl
    obtain ⟨h1, h2, h3, h4⟩ := grow_spec E l (grow E s u) hg
    simp only [List.foldl_cons]
    refine ⟨h1, fun i hi => h2 i (hsub i hi), fun w hw => ?_, fun i hi => ?_⟩
    · rcases List.mem_cons.1 hw with e | e
      · subst e
        by_cases hc : edgeIn E (s ||| 1 <<< w) = true
        · right
          refine edgeIn_mono (fun i hi => ?_) hc
          rw [Nat.testBit_or] at hi ⊢
          rcases (Bool.or_eq_true _ _).mp hi with h | h
          · rw [h2 i (hsub i h)]; rfl
          · rw [h]; simp
        · left
          refine h2 w ?_
          unfold grow
          rw [if_neg hc, Nat.testBit_or, bit_one]
          simp
      · exact h3 w e
    · rcases h4 i hi with h | h
      · unfold grow at h
        split at h
        · exact .inl h
        · rw [Nat.testBit_or, bit_one] at h
          rcases (Bool.or_eq_true _ _).mp h with h | h
          · exact .inl h
          · right; simp at h; simp [h]
      · right; simp [h]
theorem exists_maxi (E : List Nat) (n s : Nat) (hs : s < 2 ^ n) (h : edgeIn E s = false) : ∃ t, t < 2 ^ n ∧ maxi E n t = true ∧ ∀ i, s.testBit i = true → t.testBit i = true := by
  obtain ⟨h1, h2, h3, h4⟩ := grow_spec E (List.range n) s h
  refine ⟨(List.range n).foldl (grow E) s, ?_, ?_, h2⟩
  · refine lt_of_bits fun i hi => ?_
    cases hb : ((List.range n).foldl (grow E) s).testBit i with
    | false => rfl
    | true =>
      rcases h4 i hb with h | h
      · rw [bit_lt hs hi] at h; cases h
      · simp at h; omega
  · unfold maxi
    rw [h1]
    simp only [Bool.not_false, Bool.true_and, List.all_eq_true]
    intro u hu
    rcases h3 u hu with h | h
    · rw [h]; rfl
    · rw [blocked_of h1 h]; simp
theorem allS_ne {v : List Int} {es : List (List Int)} (G : GOk v es) : allS v es ≠ [] := by
  intro h
  obtain ⟨t, h1, h2, _⟩ := exists_maxi (es.map (bitsOf v)) v.length 0 (Nat.two_pow_pos _) (edge_zero G)
  have := (mem_allS G).2 ⟨h1, by rw [maximal_bits G]; exact h2⟩
  rw [h] at this
  cases this
end Go.Mid
