/- The laws: the run of EnumerateAll. -/
import Derived.Test.YtngcamcnkfkmdaaY8
import Derived.Test.YtngcamcnkfkmdaaY6
import Derived.Test.YtngcamcnkfkmdaaY7
import Derived.KernelRfl
namespace Go.Mid
set_option linter.unusedSimpArgs false
set_option linter.unusedVariables false
theorem t13 : callF tab (run tab 120) 13 [] [] = some (.p (.bool true), [], []) := by kernel_rfl
theorem k13 : KI tab 13 [] [] = some (.p (.bool true), [], []) := KI_le 120 13 [] [] _ t13
section
variable (N : Nat) (E : List Nat)
abbrev hV : List Int := verts (N % 9)
theorem hV_le : (hV N).length ≤ 40 := by simp; omega
theorem hEs_20000 : (hEs N E).length ≤ 20000 := by have := hEs_length N E; omega
theorem hEs_big : ∀ e ∈ hEs N E, e.length < 9223372036854775808 := fun e he => by have := hEs_el N E e he; omega
theorem prog_ref_E : progR (hV N) (hEs N E) = refR (hV N) (hEs N E) := prog_ref (hEs_G N E)
theorem allS_len_E : (allS (hV N) (hEs N E)).length = (refR (hV N) (hEs N E)).length := by
  rw [← prog_ref_E, progR, List.length_map]
theorem refR_len : (refR (hV N) (hEs N E)).length ≤ 1099511627776 := by
  rw [← allS_len_E]; exact allS_length (hV_le N)
theorem refR_el : ∀ l ∈ refR (hV N) (hEs N E), l.length ≤ 40 := by
  intro l hl
  rw [← prog_ref_E, progR, List.mem_map] at hl
  obtain ⟨s, _, rfl⟩ := hl
  exact Nat.le_trans (idsP_length _ _) (hV_le N)
end
theorem law3 (N : Nat) (E : List Nat) (most : Int) (hN : N < 256) (hE : ∀ e ∈ E, e < 256) (hl : E.length < 9223372036854775808) : KI tab 3 [.p (gPV N E), .p (i64 most)] [] = some (.p (.bool true), [], []) := by
  have h12 := k12 N E hN hE hl
  have hlen := refR_len N E
  have hal := allS_len_E N E
  have hpr := prog_ref_E N E
  have h16 := k16 (refR (hV N) (hEs N E)) (refR (hV N) (hEs N E)) (by omega) (fun x hx => by have := refR_el N E x hx; omega)
  rw [show (refR (hV N) (hEs N E) == refR (hV N) (hEs N E)) = true by simp] at h16
  have h16n : KI tab 16 [.p (.sl []), .p (.sl [])] [] = some (.p (.bool true), [], []) := k16 [] [] (by simp) (by simp)
  have h13 := k13
  rw [KI_list (F := fun3) rfl]
  by_cases ho : E.length ≤ 12
  · rw [show decide (E.length ≤ 12) = true by simpa using ho] at h12
    by_cases hm : ((refR (hV N) (hEs N E)).length : Int) ≤ most
    · have h14 := k14_ok (hEs_H N E) (hEs_err N E) most (by rw [hal]; exact hm)
      have h15 := k15_ok (hV_le N) (hEs_20000 N E) (hEs_big N E) (hEs_err N E) most hm (by omega)
      rw [hpr] at h14
      simp only [retT] at h14
      simp (maxSteps := 4000000) (disch := first | omega | (simp only [List.length_map, List.length_append, List.length_cons, List.length_nil, List.length_set, List.length_take, List.length_range] <;> omega) | (simp; done) | fail) [fun3, body3, h12, h13, h14, h15, h16]
    · have h14 := k14_big (hEs_H N E) (hEs_err N E) most (allS_ne (hEs_G N E)) (by rw [hal]; omega)
      have h15 := k15_big (hV_le N) (hEs_20000 N E) (hEs_big N E) (hEs_err N E) most (by omega)
      simp only [retT] at h14
      simp (maxSteps := 4000000) (disch := first | omega | (simp only [List.length_map, List.length_append, List.length_cons, List.length_nil, List.length_set, List.length_take, List.length_range] <;> omega) | (simp; done) | fail) [fun3, body3, h12, h13, h14, h15, h16n]
  · rw [show decide (E.length ≤ 12) = false by simpa using ho] at h12
    simp (maxSteps := 4000000) (disch := first | omega | (simp only [List.length_map, List.length_append, List.length_cons, List.length_nil, List.length_set, List.length_take, List.length_range] <;> omega) | (simp; done) | fail) [fun3, body3, h12, h13]
end Go.Mid
/- EnumerateCommon, EnumerateContains, EnumerateWalk: their runs. -/
namespace Go.Mid
set_option linter.unusedSimpArgs false
set_option linter.unusedVariables false
set_option linter.unusedSectionVars false
@[simp] abbrev C4x0 (l5 : List Int) (l6 : List Int) (l46 : List Int) (x47 : Int) (x48 : Int) (l3 : List Int) (l3a : List (List Int)) : St := stL [(3, .ptr 3 none [] 1 0), (5, .p (i64s l5)), (6, .p (i64s l6)), (46, .p (i64s l46)), (47, .p (i64 x47)), (48, .p (i64 x48))] [(3, .cell 1 (.p (.agg [(i64s l3), (i64ss l3a)])))] 2
@[simp] abbrev C7x0 (l5 : List Int) (x6 : Int) (b7 : Bool) (l28 : List (List Int)) (x29 : Int) (x30 : Int) (l3 : List Int) (l3a : List (List Int)) : St := stL [(3, .ptr 3 none [] 1 0), (5, .p (i64s l5)), (6, .p (i64 x6)), (7, .p (.bool b7)), (28, .p (i64ss l28)), (29, .p (i64 x29)), (30, .p (i64 x30))] [(3, .cell 1 (.p (.agg [(i64s l3), (i64ss l3a)])))] 2
@[simp] theorem eql_bb (a b : Bool) : binP .eql (.bool a) (.bool b) = some (.bool (a == b)) := rfl
@[simp] theorem neq_bb (a b : Bool) : binP .neq (.bool a) (.bool b) = some (.bool !(a == b)) := rfl
/-! ### which vertices belong to repairs -/
section
variable {v : List Int} {es : List (List Int)} (G : GOk v es) (hanti : ∀ a ∈ es, ∀ b ∈ es, within a b = true → a = b)
include G
theorem mem_refR {l : List Int} : l ∈ refR v es ↔ ∃ s, s < 2 ^ v.length ∧ idsP v s = l ∧ maximal v es l = true := (refR_spec G).2 l
theorem mem_refR' {s : Nat} (hs : s < 2 ^ v.length) (hm : maxi (es.map (bitsOf v)) v.length s = true) : idsP v s ∈ refR v es :=
  (mem_refR G).2 ⟨s, hs, rfl, by rw [maximal_bits G]; exact hm⟩
theorem bitsOf_lt {e : List Int} (he : e ∈ es) : bitsOf v e < 2 ^ v.length := lt_of_bits fun i hi => bitsOf_high (G.inn e he) i hi
include hanti
theorem inAll_ref {x : Int} (hx : x ∈ v) : inAll es x = refIn (refR v es) true x := by
  obtain ⟨i, hi, rfl⟩ := List.getElem_of_mem hx
  apply Bool.eq_iff_iff.2
  unfold inAll refIn
  simp only [if_true, beq_iff_eq, Bool.not_eq_true', List.any_eq_false]
  rw [List.countP_eq_length]
  constructor
  · intro h l hl
    obtain ⟨s, hs, rfl, hm⟩ := (mem_refR G).1 hl
    rw [maximal_bits G] at hm
    rw [get_idsP G.av hi]
    cases hb : s.testBit i with
    | true => rfl
    | false =>
      exfalso
      unfold maxi at hm
      rw [Bool.and_eq_true, List.all_eq_true] at hm
      have hm2 := hm.2 i (by simpa using hi)
      rw [hb, Bool.false_or] at hm2
      unfold blockedB at hm2
      rw [List.any_eq_true] at hm2
      obtain ⟨b, hb2, hb3⟩ := hm2
      obtain ⟨e, he, rfl⟩ := List.mem_map.1 hb2
      rw [Bool.and_eq_true, bitsOf_bit G.av (G.inn e he) i hi] at hb3
      exact h e he hb3.1
  · intro h e he hc
    have hbit : (bitsOf v e).testBit i = true := by rw [bitsOf_bit G.av (G.inn e he) i hi]; exact hc
    have hfree : edgeIn (es.map (bitsOf v)) (less (bitsOf v e) (1 <<< i)) = false := by
      unfold edgeIn
      rw [List.any_eq_false]
      intro b hb hins
      obtain ⟨f, hf, rfl⟩ := List.mem_map.1 hb
      rw [inside_iff] at hins
      have hw : within f e = true := by
        rw [within_iff]
        intro y hy
        obtain ⟨j, hj, rfl⟩ := List.getElem_of_mem (G.inn f hf y hy)
        have h1 := hins j (by rw [bitsOf_bit G.av (G.inn f hf) j hj]; simpa using hy)
        rw [less_bit, bitsOf_bit G.av (G.inn e he) j hj] at h1
        simp at h1
        exact h1.1
      have := hanti f hf e he hw
      subst this
      have h1 := hins i hbit
      rw [less_bit, bit_one] at h1
      simp at h1
    have hlt : less (bitsOf v e) (1 <<< i) < 2 ^ v.length := Nat.lt_of_le_of_lt (less_le _ _) (bitsOf_lt G he)
    obtain ⟨t, ht, hm, hsub⟩ := exists_maxi (es.map (bitsOf v)) v.length _ hlt hfree
    have h1 := h _ (mem_refR' G ht hm)
    rw [get_idsP G.av hi] at h1
    unfold maxi at hm
    rw [Bool.and_eq_true] at hm
    have : edgeIn (es.map (bitsOf v)) t = true := by
      unfold edgeIn
      rw [List.any_eq_true]
      refine ⟨bitsOf v e, List.mem_map.2 ⟨e, he, rfl⟩, inside_iff.2 fun j hj => ?_⟩
      by_cases hji : j = i
      · subst hji; exact h1
      · exact hsub j (by rw [less_bit, bit_one, hj]; simp [hji])
    rw [this] at hm
    simp at hm
theorem inSome_ref {x : Int} (hx : x ∈ v) (hasc : ∀ e ∈ es, asc e = true) : inSome es x = refIn (refR v es) false x := by
  obtain ⟨i, hi, rfl⟩ := List.getElem_of_mem hx
  apply Bool.eq_iff_iff.2
  unfold inSome refIn
  simp only [Bool.false_eq_true, if_false, Bool.not_eq_true', List.any_eq_false, decide_eq_true_eq]
  rw [List.countP_pos_iff]
  constructor
  · intro h
    have hfree : edgeIn (es.map (bitsOf v)) (1 <<< i) = false := by
      unfold edgeIn
      rw [List.any_eq_false]
      intro b hb hins
      obtain ⟨f, hf, rfl⟩ := List.mem_map.1 hb
      rw [inside_iff] at hins
      have hall : ∀ y ∈ f, y = v[i] := by
        intro y hy
        obtain ⟨j, hj, rfl⟩ := List.getElem_of_mem (G.inn f hf y hy)
        have h1 := hins j (by rw [bitsOf_bit G.av (G.inn f hf) j hj]; simpa using hy)
        rw [bit_one] at h1
        have : j = i := by simpa using h1
        subst this; rfl
      have hfe : f = [v[i]] := by
        have hne := G.ne f hf
        cases f with
        | nil => exact absurd rfl hne
        | cons a r =>
          have ha := hall a (by simp)
          cases r with
          | nil => rw [ha]
          | cons b r =>
            have hb := hall b (by simp)
            have := asc_iff.1 (hasc _ hf)
            rw [List.pairwise_cons] at this
            have := this.1 b (by simp)
            omega
      exact h f hf (by rw [hfe]; simp)
    have hlt : 1 <<< i < 2 ^ v.length := by rw [Nat.one_shiftLeft]; exact Nat.pow_lt_pow_right (by omega) hi
    obtain ⟨t, ht, hm, hsub⟩ := exists_maxi (es.map (bitsOf v)) v.length _ hlt hfree
    refine ⟨_, mem_refR' G ht hm, ?_⟩
    rw [get_idsP G.av hi]
    exact hsub i (by rw [bit_one]; simp)
  · rintro ⟨l, hl, hc⟩ e he hee
    obtain ⟨s, hs, rfl, hm⟩ := (mem_refR G).1 hl
    rw [maximal_bits G] at hm
    rw [get_idsP G.av hi] at hc
    have hee : e = [v[i]] := by simpa using hee
    unfold maxi at hm
    rw [Bool.and_eq_true] at hm
    have : edgeIn (es.map (bitsOf v)) s = true := by
      unfold edgeIn
      rw [List.any_eq_true]
      refine ⟨bitsOf v e, List.mem_map.2 ⟨e, he, rfl⟩, ?_⟩
      rw [← within_bits G.av (G.inn e he), within_iff, hee]
      intro y hy
      have : y = v[i] := by simpa using hy
      subst this
      have := get_idsP G.av (s := s) hi
      rw [hc] at this
      simpa using this
    rw [this] at hm
    simp at hm
end
theorem hEs_anti (N : Nat) (E : List Nat) : ∀ a ∈ hEs N E, ∀ b ∈ hEs N E, within a b = true → a = b := fun _ ha _ hb hw => edges_anti (picks_asc N E) ha hb hw
theorem hEs_asc (N : Nat) (E : List Nat) : ∀ e ∈ hEs N E, asc e = true := fun e he => picks_asc N E e (hEs_mem N E he)
theorem filter_congr' {α : Type} {p q : α → Bool} : ∀ {l : List α}, (∀ x ∈ l, p x = q x) → l.filter p = l.filter q
  | [], _ => rfl
  | x :: l, h => by
    rw [List.filter_cons, List.filter_cons, h x (by simp), filter_congr' fun y hy => h y (by simp [hy])]
theorem k21 (e : List Int) (x : Int) (he : e.length < 9223372036854775808) : KI tab 21 [.p (i64s e), .p (.ref (i64 x))] [] = some (.p (.bool (e == [x])), [], []) := by
  rw [KI_list (F := fun21) rfl]
  match e with
  | [] => simp (maxSteps := 4000000) (disch := first | omega | (simp only [List.length_map, List.length_append, List.length_cons, List.length_nil, List.length_set, List.length_take, List.length_range] <;> omega) | (simp; done) | fail) [fun21, body21]
  | [y] =>
    by_cases h : y = x
    · simp (maxSteps := 4000000) (disch := first | omega | (simp only [List.length_map, List.length_append, List.length_cons, List.length_nil, List.length_set, List.length_take, List.length_range] <;> omega) | (simp; done) | fail) [fun21, body21, h]
    · simp (maxSteps := 4000000) (disch := first | omega | (simp only [List.length_map, List.length_append, List.length_cons, List.length_nil, List.length_set, List.length_take, List.length_range] <;> omega) | (simp; done) | fail) [fun21, body21, h]
  | y :: z :: r =>
    have h : ¬ ((r.length : Int) + 1 + 1 = 1) := by omega
    simp (maxSteps := 4000000) (disch := first | omega | (simp only [List.length_map, List.length_append, List.length_cons, List.length_nil, List.length_set, List.length_take, List.length_range] <;> omega) | (simp; done) | fail) [fun21, body21, h]
theorem l4 (N : Nat) (E : List Nat) (σ : St) (hσ : forget [3, 5, 6, 46, 47, 48] [3] σ = C4x0 ((hV N).filter (inAll (hEs N E))) ((hV N).filter (inSome (hEs N E))) (hV N) (hV N).length 0 (hV N) (hEs N E)) :
    runI tab (.loop [3, 5, 6, 46, 47, 48] [3] loop4x0) σ = some (.exit 0, stL [] [] 2) := by
  have hvl := hV_le N
  have hel := hEs_big N E
  have hes := hEs_20000 N E
  generalize hV N = v at *
  generalize hEs N E = es at *
  rw [loop_any v (fun i => C4x0 (v.filter (inAll es)) (v.filter (inSome es)) v v.length i v es) (fun _ => false) (.ret, stL [] [] 2) (.exit 0, stL [] [] 2) (by simp) (by simp) ?_ ?_ σ hσ]
  · have : (v.any fun _ => false) = false := by simp
    rw [this]; rfl
  · simp (maxSteps := 4000000) (disch := first | omega | (simp only [List.length_map, List.length_append, List.length_cons, List.length_nil, List.length_set, List.length_take, List.length_range] <;> omega) | fail) [loop4x0]
  · intro i hi
    have hfl1 : (v.filter (inAll es)).length ≤ v.length := List.length_filter_le _ _
    have hfl2 : (v.filter (inSome es)).length ≤ v.length := List.length_filter_le _ _
    have h20 := k20 i64s (fun _ => rfl) (fun _ => rfl) es 21 [.ref (i64 v[i])] (fun e => e == [v[i]]) (by omega) (fun e he => k21 e v[i] (by have := hel e he; omega))
    rw [show (es.any fun e => e == [v[i]]) = !inSome es v[i] by simp [inSome]] at h20
    have h22a := k22 (v.filter (inAll es)) v[i] (by omega)
    have h22b := k22 (v.filter (inSome es)) v[i] (by omega)
    have ea : (v.filter (inAll es)).contains v[i] = inAll es v[i] := by apply Bool.eq_iff_iff.2; simp
    have eb : (v.filter (inSome es)).contains v[i] = inSome es v[i] := by apply Bool.eq_iff_iff.2; simp
    rw [ea] at h22a
    rw [eb] at h22b
    have h23 := k23 v es v[i] (by omega) hel
    generalize hcn : es.countP (fun e => e.contains v[i]) = n at h23
    have hz : inAll es v[i] = decide (n = 0) := by
      rw [← hcn]
      apply Bool.eq_iff_iff.2
      unfold inAll
      simp only [Bool.not_eq_true', List.any_eq_false, decide_eq_true_eq, List.countP_eq_zero]
    cases ha : inAll es v[i] with
    | true =>
      rw [ha] at hz h22a
      have hn : n = 0 := by simpa using hz.symm
      cases hb : inSome es v[i] <;> rw [hb] at h20 h22b <;> simp (maxSteps := 4000000) (disch := first | omega | (simp only [List.length_map, List.length_append, List.length_cons, List.length_nil, List.length_set, List.length_take, List.length_range] <;> omega) | fail) [loop4x0, h20, h22a, h22b, h23, hi, hn]
    | false =>
      rw [ha] at hz h22a
      have hn : ¬ n = 0 := by simpa using hz.symm
      have hn' : ¬ (n : Int) = 0 := by omega
      cases hb : inSome es v[i] <;> rw [hb] at h20 h22b <;> simp (maxSteps := 4000000) (disch := first | omega | (simp only [List.length_map, List.length_append, List.length_cons, List.length_nil, List.length_set, List.length_take, List.length_range] <;> omega) | fail) [loop4x0, h20, h22a, h22b, h23, hi, hn, hn']
theorem law4 (N : Nat) (E : List Nat) (hN : N < 256) (hE : ∀ e ∈ E, e < 256) (hl : E.length < 9223372036854775808) : KI tab 4 [.p (gPV N E)] [] = some (.p (.bool true), [], []) := by
  have h12 := k12 N E hN hE hl
  have h13 := k13
  rw [KI_list (F := fun4) rfl]
  by_cases ho : E.length ≤ 12
  · rw [show decide (E.length ≤ 12) = true by simpa using ho] at h12
    have hlen := refR_len N E
    have hrel : ∀ e ∈ refR (hV N) (hEs N E), e.length < 9223372036854775808 := fun e he => by have := refR_el N E e he; omega
    have h17 := k17_ok (hV N) (hEs N E) (hV_le N) (hEs_20000 N E) (hEs_big N E) (hEs_err N E)
    have h19t := k19 (hV_le N) (hEs_20000 N E) (hEs_big N E) true (by omega) hrel
    have h19f := k19 (hV_le N) (hEs_20000 N E) (hEs_big N E) false (by omega) hrel
    rw [← filter_congr' fun x hx => inAll_ref (hEs_G N E) (hEs_anti N E) hx] at h19t
    rw [← filter_congr' fun x hx => inSome_ref (hEs_G N E) (hEs_anti N E) hx (hEs_asc N E)] at h19f
    have hf1 : ((hV N).filter (inAll (hEs N E))).length ≤ (hV N).length := List.length_filter_le _ _
    have hf2 : ((hV N).filter (inSome (hEs N E))).length ≤ (hV N).length := List.length_filter_le _ _
    have hvl := hV_le N
    have h18a := k18 ((hV N).filter (inAll (hEs N E))) ((hV N).filter (inAll (hEs N E))) (by omega)
    have h18b := k18 ((hV N).filter (inSome (hEs N E))) ((hV N).filter (inSome (hEs N E))) (by omega)
    rw [show ((hV N).filter (inAll (hEs N E)) == (hV N).filter (inAll (hEs N E))) = true by simp] at h18a
    rw [show ((hV N).filter (inSome (hEs N E)) == (hV N).filter (inSome (hEs N E))) = true by simp] at h18b
    have lp := l4 N E
    simp only [retV] at h19t h19f
    simp (maxSteps := 4000000) (disch := first | omega | (simp only [List.length_map, List.length_append, List.length_cons, List.length_nil, List.length_set, List.length_take, List.length_range] <;> omega) | (simp; done) | fail) [fun4, body4, h12, h13, h17, h19t, h19f, h18a, h18b, lp]
  · rw [show decide (E.length ≤ 12) = false by simpa using ho] at h12
    simp (maxSteps := 4000000) (disch := first | omega | (simp only [List.length_map, List.length_append, List.length_cons, List.length_nil, List.length_set, List.length_take, List.length_range] <;> omega) | (simp; done) | fail) [fun4, body4, h12, h13]
end Go.Mid
/- EnumerateContains, EnumerateWalk: their runs. -/
namespace Go.Mid
set_option linter.unusedSimpArgs false
set_option linter.unusedVariables false
theorem k25 (a b : List Int) (ha : a.length < 9223372036854775808) (hb : b.length < 9223372036854775808) : KI tab 25 [.p (i64s b), .p (.ref (i64s a))] [] = some (.p (.bool (within a b)), [], []) := by
  have h26 := k26 a b ha hb
  rw [KI_list (F := fun25) rfl]
  cases h : within a b <;> rw [h] at h26 <;> simp (maxSteps := 4000000) (disch := first | omega | (simp only [List.length_map, List.length_append, List.length_cons, List.length_nil, List.length_set, List.length_take, List.length_range] <;> omega) | (simp; done) | fail) [fun25, body25, h26]
theorem pick_idsP {v : List Int} {s : Nat} (hv : v.length ≤ 8) : pick v s = idsP v s := by
  unfold pick idsP
  rw [List.take_of_length_le hv]
theorem idsP_mod (v : List Int) (s : Nat) : idsP v s = idsP v (s % 2 ^ v.length) := by
  unfold idsP
  congr 1
  refine filter_congr' ?_
  rintro ⟨y, i⟩ hm
  obtain ⟨hi, _⟩ := zip_mem.1 hm
  simp [Nat.testBit_mod_two_pow, hi]
theorem contains_ref {v : List Int} {es : List (List Int)} (G : GOk v es) (s : Nat) : (refR v es).any (fun r => within (idsP v s) r) = indep v es (idsP v s) := by
  rw [idsP_mod]
  have hlt : s % 2 ^ v.length < 2 ^ v.length := Nat.mod_lt _ (Nat.two_pow_pos _)
  generalize s % 2 ^ v.length = s at hlt
  apply Bool.eq_iff_iff.2
  rw [List.any_eq_true]
  unfold indep
  rw [asc_idsP G.av, within_idsP, free_bits G, Bool.true_and, Bool.true_and, Bool.not_eq_true']
  constructor
  · rintro ⟨l, hl, hw⟩
    obtain ⟨t, ht, rfl, hm⟩ := (mem_refR G).1 hl
    rw [maximal_bits G] at hm
    unfold maxi at hm
    rw [Bool.and_eq_true, Bool.not_eq_true'] at hm
    cases hc : edgeIn (es.map (bitsOf v)) s with
    | false => rfl
    | true =>
      have : edgeIn (es.map (bitsOf v)) t = true := by
        refine edgeIn_mono (fun i hi => ?_) hc
        by_cases hiv : i < v.length
        · rw [← get_idsP G.av hiv] at hi ⊢
          rw [within_iff] at hw
          have := hw v[i] (by simpa using hi)
          simpa using this
        · rw [bit_lt hlt (by omega)] at hi; cases hi
      rw [this] at hm
      cases hm.1
  · intro h
    obtain ⟨t, ht, hm, hsub⟩ := exists_maxi (es.map (bitsOf v)) v.length s hlt h
    refine ⟨_, mem_refR' G ht hm, ?_⟩
    rw [within_iff]
    intro y hy
    obtain ⟨i, hi, h1, h2⟩ := mem_idsP.1 hy
    exact mem_idsP.2 ⟨i, hi, h1, hsub i h2⟩
theorem law5 (N : Nat) (E : List Nat) (s : Nat) (hN : N < 256) (hE : ∀ e ∈ E, e < 256) (hl : E.length < 9223372036854775808) (hs : s < 256) : KI tab 5 [.p (gPV N E), .p (.int .u8 (s : Int))] [] = some (.p (.bool true), [], []) := by
  have h12 := k12 N E hN hE hl
  have h13 := k13
  rw [KI_list (F := fun5) rfl]
  by_cases ho : E.length ≤ 12
  · rw [show decide (E.length ≤ 12) = true by simpa using ho] at h12
    have hv8 : (hV N).length ≤ 8 := by simp; omega
    have hlen : (allS (hV N) (hEs N E)).length ≤ 256 := by
      refine Nat.le_trans (walkL_length _ _ _ _ _) ?_
      have : 2 ^ (hV N).length ≤ 2 ^ 8 := Nat.pow_le_pow_right (by omega) hv8
      omega
    have h14 := k14_ok (hEs_H N E) (hEs_err N E) 256 (Int.ofNat_le.2 hlen)
    rw [prog_ref_E N E] at h14
    have hrl := refR_el N E
    have hal := allS_len_E N E
    have h24 := k24 (hV N) (i64ss (hEs N E)) s (by omega) hs
    rw [pick_idsP hv8] at h24
    have hil := idsP_length (hV N) s
    have h20 := k20 i64s (fun _ => rfl) (fun _ => rfl) (refR (hV N) (hEs N E)) 25 [.ref (i64s (idsP (hV N) s))] (fun r => within (idsP (hV N) s) r) (by omega) (fun r hr => k25 (idsP (hV N) s) r (by omega) (by have := hrl r hr; omega))
    rw [contains_ref (hEs_G N E)] at h20
    have h27 := k27 (hV N) (hEs N E) (idsP (hV N) s) (by omega) (by have := hEs_length N E; omega) (hEs_big N E) (by omega)
    simp only [retT] at h14
    simp only [retV] at h24
    simp (maxSteps := 4000000) (disch := first | omega | (simp only [List.length_map, List.length_append, List.length_cons, List.length_nil, List.length_set, List.length_take, List.length_range] <;> omega) | (simp; done) | fail) [fun5, body5, h12, h13, h14, h24, h20, h27]
  · rw [show decide (E.length ≤ 12) = false by simpa using ho] at h12
    simp (maxSteps := 4000000) (disch := first | omega | (simp only [List.length_map, List.length_append, List.length_cons, List.length_nil, List.length_set, List.length_take, List.length_range] <;> omega) | (simp; done) | fail) [fun5, body5, h12, h13]
/-! ### EnumerateWalk -/
theorem find_next {R : List (List Int)} (hs : Sorted R) {i : Nat} (hi : i < R.length) : R.find? (before R[i]) = R[i + 1]? := by
  rw [Sorted, List.pairwise_iff_getElem] at hs
  by_cases h : i + 1 < R.length
  · rw [List.getElem?_eq_getElem h]
    rw [List.find?_eq_some_iff_getElem]
    refine ⟨by rw [before_lex]; exact hs i (i + 1) hi h (by omega), i + 1, h, rfl, fun j hj => ?_⟩
    rw [before_lex]
    by_cases hji : j = i
    · subst hji; rw [lexB_irrefl]; rfl
    · rw [lexB_asymm (hs j i (by omega) hi (by omega))]; rfl
  · rw [List.getElem?_eq_none (by omega), List.find?_eq_none]
    intro x hx
    obtain ⟨j, hj, rfl⟩ := List.getElem_of_mem hx
    rw [before_lex]
    by_cases hji : j = i
    · subst hji; rw [lexB_irrefl]; simp
    · rw [lexB_asymm (hs j i hj hi (by omega))]; simp
theorem l7 (N : Nat) (E : List Nat) (σ : St) (hσ : forget [3, 5, 6, 7, 28, 29, 30] [3] σ = C7x0 ((refR (hV N) (hEs N E)).getD 0 []) 0 true (refR (hV N) (hEs N E)) (refR (hV N) (hEs N E)).length 0 (hV N) (hEs N E)) :
    runI tab (.loop [3, 5, 6, 7, 28, 29, 30] [3] loop7x0) σ = some (.exit 0, stL [(5, .p (i64s [])), (6, .p (i64 0)), (7, .p (.bool false))] [] 2) := by
  have hne : 0 < (refR (hV N) (hEs N E)).length := by
    rw [← allS_len_E]
    have := allS_ne (hEs_G N E)
    exact List.length_pos_iff.2 this
  have hlen := refR_len N E
  have hrl := refR_el N E
  have hsr := (refR_spec (hEs_G N E)).1
  have hG := hEs_G N E
  have hmem := fun l => (refR_spec (hEs_G N E)).2 l
  have key : ∀ i (hi : i < (refR (hV N) (hEs N E)).length), KI tab 28 [.p (.agg [i64s (hV N), i64ss (hEs N E)]), .p (i64s (refR (hV N) (hEs N E))[i])] [] = some (retB ((refR (hV N) (hEs N E))[i + 1]?) [.p (.bool ((refR (hV N) (hEs N E))[i + 1]?).isSome), .p (i64 0)]) := by
    intro i hi
    obtain ⟨s, _, hs, _⟩ := (hmem (refR (hV N) (hEs N E))[i]).1 (by simp)
    have hb : (asc (refR (hV N) (hEs N E))[i] && within (refR (hV N) (hEs N E))[i] (hV N)) = true := by
      rw [← hs, asc_idsP hG.av, within_idsP]; rfl
    have := k28_ok (hEs_H N E) (hEs_err N E) (l := (refR (hV N) (hEs N E))[i]) (by have := hrl _ (List.getElem_mem hi); omega) hb
    rw [prog_ref_E N E, find_next hsr hi] at this
    exact this
  generalize refR (hV N) (hEs N E) = R at *
  generalize hV N = v at *
  generalize hEs N E = es at *
  rw [loop_fold R (fun i (_ : Unit) => C7x0 (R.getD i []) 0 (decide (i < R.length)) R R.length i v es) (fun _ _ a => a) (fun _ => (.exit 0, stL [(5, .p (i64s [])), (6, .p (i64 0)), (7, .p (.bool false))] [] 2)) (fun _ _ => True) (by simp) ?_ ?_ ?_ () σ trivial (by rw [hσ]; simp [hne])]
  · intro a _
    have e : R.getD R.length [] = [] := by simp [List.getD]
    rw [e]
    simp (maxSteps := 4000000) (disch := first | omega | (simp only [List.length_map, List.length_append, List.length_cons, List.length_nil, List.length_set, List.length_take, List.length_range] <;> omega) | fail) [loop7x0]
  · intros; trivial
  · intro i a hi _
    have h28 := key i hi
    have e0 : R.getD i [] = R[i] := by simp [List.getD, hi]
    have h18 := k18 R[i] R[i] (by have := hrl _ (List.getElem_mem hi); omega)
    rw [show (R[i] == R[i]) = true by simp] at h18
    rw [e0]
    by_cases h : i + 1 < R.length
    · rw [List.getElem?_eq_getElem h] at h28
      have e1 : R.getD (i + 1) [] = R[i + 1] := by simp [List.getD, h]
      rw [e1]
      simp only [retB, Option.isSome_some] at h28
      simp (maxSteps := 4000000) (disch := first | omega | (simp only [List.length_map, List.length_append, List.length_cons, List.length_nil, List.length_set, List.length_take, List.length_range] <;> omega) | fail) [loop7x0, h28, h18, hi, h]
    · rw [List.getElem?_eq_none (by omega)] at h28
      have e1 : R.getD (i + 1) [] = [] := by simp [List.getD, h]
      rw [e1]
      simp only [retB, Option.isSome_none] at h28
      simp (maxSteps := 4000000) (disch := first | omega | (simp only [List.length_map, List.length_append, List.length_cons, List.length_nil, List.length_set, List.length_take, List.length_range] <;> omega) | fail) [loop7x0, h28, h18, hi, h]
      rfl
theorem law7 (N : Nat) (E : List Nat) (hN : N < 256) (hE : ∀ e ∈ E, e < 256) (hl : E.length < 9223372036854775808) : KI tab 7 [.p (gPV N E)] [] = some (.p (.bool true), [], []) := by
  have h12 := k12 N E hN hE hl
  have h13 := k13
  rw [KI_list (F := fun7) rfl]
  by_cases ho : E.length ≤ 12
  · rw [show decide (E.length ≤ 12) = true by simpa using ho] at h12
    have h31 := k31_ok (hEs_H N E) (hEs_err N E)
    rw [prog_ref_E N E] at h31
    have h32 := k32 (hV N) (hEs N E) (hV_le N) (hEs_20000 N E) (hEs_big N E)
    have lp := l7 N E
    have hne : refR (hV N) (hEs N E) ≠ [] := by
      intro h
      have h2 := allS_len_E N E
      rw [h] at h2
      exact allS_ne (hEs_G N E) (List.eq_nil_of_length_eq_zero h2)
    generalize refR (hV N) (hEs N E) = R at h31 h32 lp hne
    have hd : R.head? = some (R.getD 0 []) := by
      cases R with
      | nil => exact absurd rfl hne
      | cons r0 R => rfl
    rw [hd] at h31
    simp only [retB] at h31
    simp only [retV] at h32
    simp (maxSteps := 4000000) (disch := first | omega | (simp only [List.length_map, List.length_append, List.length_cons, List.length_nil, List.length_set, List.length_take, List.length_range] <;> omega) | (simp; done) | fail) [fun7, body7, h12, h13, h31, h32, lp]
  · rw [show decide (E.length ≤ 12) = false by simpa using ho] at h12
    simp (maxSteps := 4000000) (disch := first | omega | (simp only [List.length_map, List.length_append, List.length_cons, List.length_nil, List.length_set, List.length_take, List.length_range] <;> omega) | (simp; done) | fail) [fun7, body7, h12, h13]
end Go.Mid
/- EnumerateNext: its run. -/
namespace Go.Mid
set_option linter.unusedSimpArgs false
set_option linter.unusedVariables false
theorem k29 (l : List Int) (hl : l.length ≤ 12) : KI tab 29 [.p (i64s l)] [] = some (retV 1 (l.map i64)) := by
  rw [KI_prim (p := .clone 1 8) rfl]
  have h1 : (l.map i64).all (fun v => v.cs == 1) = true := by simp [PV.cs]
  have h2 : l.length * 8 ≤ room := by unfold room; omega
  simp only [primF, i64s, h1, Bool.true_and, List.length_map, decide_eq_true h2, if_true, retV]
  rfl
theorem law6 (N : Nat) (E : List Nat) (l : List Int) (hN : N < 256) (hE : ∀ e ∈ E, e < 256) (hl : E.length < 9223372036854775808) (hll : l.length < 9223372036854775808) : KI tab 6 [.p (gPV N E), .p (i64s l)] [] = some (.p (.bool true), [], []) := by
  have h12 := k12 N E hN hE hl
  have h13 := k13
  rw [KI_list (F := fun6) rfl]
  by_cases ho : E.length ≤ 12
  · rw [show decide (E.length ≤ 12) = true by simpa using ho] at h12
    by_cases hn : l.length ≤ 12
    · have h29 := k29 l hn
      simp only [retV] at h29
      have hrl := refR_el N E
      have hrn := refR_len N E
      have hpr := prog_ref_E N E
      by_cases hb : (asc l && within l (hV N)) = true
      · have h28 := k28_ok (hEs_H N E) (hEs_err N E) hll hb
        have h30 := k30_ok (hV_le N) (hEs_20000 N E) (hEs_big N E) (hEs_err N E) l hll hb (by omega) (fun e he => by have := hrl e he; omega)
        rw [hpr] at h28
        cases hf : (refR (hV N) (hEs N E)).find? (before l) with
        | none =>
          rw [hf] at h28 h30
          simp only [retB, Option.isSome_none] at h28
          simp (maxSteps := 4000000) (disch := first | omega | (simp only [List.length_map, List.length_append, List.length_cons, List.length_nil, List.length_set, List.length_take, List.length_range] <;> omega) | (simp; done) | fail) [fun6, body6, h12, h13, h29, h28, h30, hn]
        | some r =>
          rw [hf] at h28 h30
          have h18 := k18 r r (by have := hrl r (List.mem_of_find?_eq_some hf); omega)
          rw [show (r == r) = true by simp] at h18
          simp only [retB, Option.isSome_some] at h28
          simp (maxSteps := 4000000) (disch := first | omega | (simp only [List.length_map, List.length_append, List.length_cons, List.length_nil, List.length_set, List.length_take, List.length_range] <;> omega) | (simp; done) | fail) [fun6, body6, h12, h13, h29, h28, h30, h18, hn]
      · have hb : (asc l && within l (hV N)) = false := by simpa using hb
        have h28 := k28_bad (hEs_H N E) (hEs_err N E) hll hb
        have h30 := k30_bad (hV_le N) (hEs_20000 N E) (hEs_big N E) (hEs_err N E) l hll hb
        have h18 : KI tab 18 [.p (.sl []), .p (.sl [])] [] = some (.p (.bool true), [], []) := k18 [] [] (by simp)
        simp only [retT] at h28
        simp (maxSteps := 4000000) (disch := first | omega | (simp only [List.length_map, List.length_append, List.length_cons, List.length_nil, List.length_set, List.length_take, List.length_range] <;> omega) | (simp; done) | fail) [fun6, body6, h12, h13, h29, h28, h30, h18, hn]
    · simp (maxSteps := 4000000) (disch := first | omega | (simp only [List.length_map, List.length_append, List.length_cons, List.length_nil, List.length_set, List.length_take, List.length_range] <;> omega) | (simp; done) | fail) [fun6, body6, h12, h13, hn]
  · rw [show decide (E.length ≤ 12) = false by simpa using ho] at h12
    simp (maxSteps := 4000000) (disch := first | omega | (simp only [List.length_map, List.length_append, List.length_cons, List.length_nil, List.length_set, List.length_take, List.length_range] <;> omega) | (simp; done) | fail) [fun6, body6, h12, h13]
end Go.Mid
