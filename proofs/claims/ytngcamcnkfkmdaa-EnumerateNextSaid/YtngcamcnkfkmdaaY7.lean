/- The reference: repairs. -/
import Derived.Test.YtngcamcnkfkmdaaY5
import Derived.Test.YtngcamcnkfkmdaaY3
namespace Go.Mid
set_option linter.unusedSimpArgs false
set_option linter.unusedVariables false
@[simp] abbrev C32x0 (n3 : Nat) (x4 : Int) (l1 : List Int) (l1a : List (List Int)) (a3 : List (List Int)) : St := stL [(1, .ptr 1 none [] 1 0), (3, .own 3 [] 0 n3 1), (4, .p (i64 x4))] [(1, .cell 1 (.p (.agg [(i64s l1), (i64ss l1a)]))), (3, .vec 1 1 (tv (a3.map i64s)))] 2
@[simp] abbrev C32x1 (n3 : Nat) (x4 : Int) (n5 : Nat) (x6 : Int) (l1 : List Int) (l1a : List (List Int)) (a3 : List (List Int)) (a5 : List Int) : St := stL [(1, .ptr 1 none [] 1 0), (3, .own 3 [] 0 n3 1), (4, .p (i64 x4)), (5, .own 5 [] 0 n5 1), (6, .p (i64 x6))] [(1, .cell 1 (.p (.agg [(i64s l1), (i64ss l1a)]))), (3, .vec 1 1 (tv (a3.map i64s))), (5, .vec 1 1 (tv (a5.map i64)))] 2
@[simp] abbrev C32x2 (n3 : Nat) (x4 : Int) (x7 : Int) (l1 : List Int) (l1a : List (List Int)) (a3 : List (List Int)) : St := stL [(1, .ptr 1 none [] 1 0), (3, .own 3 [] 0 n3 1), (4, .p (i64 x4)), (7, .p (i64 x7))] [(1, .cell 1 (.p (.agg [(i64s l1), (i64ss l1a)]))), (3, .vec 1 1 (tv (a3.map i64s)))] 2
@[simp] abbrev C16x0 (l0 : List (List Int)) (l1 : List (List Int)) (x5 : Int) : St := stL [(0, .p (i64ss l0)), (1, .p (i64ss l1)), (5, .p (i64 x5))] [] 2
@[simp] abbrev C18x0 (l0 : List Int) (l1 : List Int) (x5 : Int) : St := stL [(0, .p (i64s l0)), (1, .p (i64s l1)), (5, .p (i64 x5))] [] 2
/-! ### a slice that is frozen -/
def frzO (t : Nat) (s : List (Nat × MV)) (h : List (Nat × Obj Nat)) (n id len g0 : Nat) : Option (Obj Nat) → Res
  | some (.vec g1 _ l) => if g0 = g1 ∧ len ≤ l.length then match pureTs l with | some vs => some (.normal, stL (setL s t (.p (.sl (vs.take len)))) (setL h id .gone) n) | none => none else none
  | _ => none
def frzK (t : Nat) (s : List (Nat × MV)) (h : List (Nat × Obj Nat)) (n : Nat) : MV → Res
  | .own id [] 0 len g0 => frzO t s h n id len g0 (mkH h id)
  | .p v => some (.normal, stL (setL s t (.p v)) h n)
  | .nil _ => some (.normal, stL (setL s t (.p (.sl []))) h n)
  | _ => match runGh (.freeze t) (stL s h n) with | some σ' => some (.normal, σ') | none => none
@[simp] theorem gh_freeze {Φ : Tbl} (t : Nat) (s : List (Nat × MV)) (h : List (Nat × Obj Nat)) (n : Nat) (ht : t < 1000000) : runI Φ (.gh (.freeze t)) (stL s h n) = frzK t s h n (mkS s t) := by
  have h1 : ¬ 3000000 ≤ t := by omega
  have h2 : ¬ 2000000 ≤ t := by omega
  have h3 : ¬ 1000000 ≤ t := by omega
  rw [runI_gh]
  cases hv : mkS s t with
  | own id path off len g0 =>
    cases path with
    | cons _ _ => rfl
    | nil =>
      cases off with
      | succ _ => rfl
      | zero =>
        simp only [runGh, stL_s, stL_h, stL_nx, h1, h2, h3, if_false, hv, frzK]
        cases hm : mkH h id with
        | none => rfl
        | some o =>
          cases o with
          | vec g1 z l =>
            simp only [frzO]
            by_cases hc : g0 = g1 ∧ len ≤ l.length
            · rw [if_pos hc, if_pos hc]
              cases hp : pureTs l with
              | none => rfl
              | some vs => simp only [upd_mkS, upd_mkH, stL]
            · rw [if_neg hc, if_neg hc]
          | _ => rfl
  | p v => simp only [runGh, stL_s, stL_h, stL_nx, h1, h2, h3, if_false, hv, upd_mkS, stL, frzK]
  | nil z => simp only [runGh, stL_s, stL_h, stL_nx, h1, h2, h3, if_false, hv, upd_mkS, stL, frzK]
  | _ => rfl
attribute [simp] frzK frzO
theorem and_i64 (a b : Nat) (ha : a < 9223372036854775808) (hb : b < 9223372036854775808) : binP .and (.int .i64 (a : Int)) (.int .i64 (b : Int)) = some (.int .i64 ((a &&& b : Nat) : Int)) := by
  have h : a &&& b ≤ a := Nat.and_le_left
  have e : binP .and (.int .i64 (a : Int)) (.int .i64 (b : Int)) = some (.int .i64 (IntKind.i64.wrap (BitVec.ofInt 64 (a : Int) &&& BitVec.ofInt 64 (b : Int)).toNat)) := rfl
  rw [e, bv_and 64 a b (by omega) (by omega), IntWalk.i64_in _ ⟨by omega, by omega⟩]
@[simp 1100] theorem and1_i64 (a : Nat) (ha : a < 9223372036854775808) : binP .and (.int .i64 (a : Int)) (.int .i64 1) = some (.int .i64 ((a % 2 : Nat) : Int)) := by
  have := and_i64 a 1 ha (by omega)
  rw [Nat.and_one_is_mod] at this
  exact this
theorem shl1_i64 (v : Nat) (h : v < 63) : binP .shl (.int .i64 1) (.int .i64 (v : Int)) = some (.int .i64 ((1 <<< v : Nat) : Int)) := by
  have h0 : ¬ ((v : Int) < 0) := by omega
  have e : min (v : Int).toNat IntKind.i64.bits = v := by rw [Int.toNat_natCast]; exact Nat.min_eq_left (show v ≤ 64 by omega)
  have h2 : (2 : Nat) ^ v < 2 ^ 63 := Nat.pow_lt_pow_right (by omega) h
  have h3 : (1 : Int) * 2 ^ v = ((2 ^ v : Nat) : Int) := by simp
  simp only [binP, h0, if_false, e, h3]
  rw [Nat.one_shiftLeft]
  generalize 2 ^ v = q at h2 ⊢
  rw [IntWalk.i64_in _ ⟨by omega, by omega⟩]
theorem k18 (a b : List Int) (ha : a.length < 9223372036854775808) : KI tab 18 [.p (i64s a), .p (i64s b)] [] = some (.p (.bool (a == b)), [], []) := by
  by_cases h : a.length = b.length
  · have lp : ∀ σ : St, forget [0, 1, 5] [] σ = C18x0 a b 0 → runI tab (.loop [0, 1, 5] [] loop18x0) σ = some (if a == b then (.exit 0, stL [] [] 2) else (.ret, stL [(4, .p (.bool false))] [] 2)) := by
      intro σ hσ
      rw [loop_anyI a (fun i => C18x0 a b i) (fun i x => x != b.getD i 0) (.ret, stL [(4, .p (.bool false))] [] 2) (.exit 0, stL [] [] 2) (by simp) (by simp) ?_ ?_ σ hσ]
      · have : (a.zipIdx.any fun x => x.1 != b.getD x.2 0) = !(a == b) := by
          apply Bool.eq_iff_iff.2
          simp only [List.any_eq_true, Bool.not_eq_true', beq_eq_false_iff_ne, ne_eq]
          constructor
          · rintro ⟨⟨x, i⟩, hm, hx⟩ e
            subst e
            rw [List.mem_zipIdx_iff_getElem?] at hm
            simp only at hm hx
            simp [List.getD, hm] at hx
          · intro hne
            apply Classical.byContradiction
            intro hall
            apply hne
            apply List.ext_getElem h
            intro i h1 h2
            apply Classical.byContradiction
            intro hx
            exact hall ⟨(a[i], i), by rw [List.mem_zipIdx_iff_getElem?]; simp [h1], by simp [List.getD, h2, hx]⟩
        rw [this]
        cases a == b <;> rfl
      · simp (maxSteps := 4000000) (disch := first | omega | (simp only [List.length_map, List.length_append, List.length_cons, List.length_nil, List.length_set, List.length_take, List.length_range] <;> omega) | fail) [loop18x0]
      · intro i hi
        have hib : i < b.length := by omega
        by_cases hx : a[i] = b[i]
        · simp (maxSteps := 4000000) (disch := first | omega | (simp only [List.length_map, List.length_append, List.length_cons, List.length_nil, List.length_set, List.length_take, List.length_range] <;> omega) | fail) [loop18x0, hi, hx]
        · simp (maxSteps := 4000000) (disch := first | omega | (simp only [List.length_map, List.length_append, List.length_cons, List.length_nil, List.length_set, List.length_take, List.length_range] <;> omega) | fail) [loop18x0, hi, hx]
    have hi : (a.length : Int) = b.length := by omega
    rw [KI_list (F := fun18) rfl]
    cases hab : a == b <;> rw [hab] at lp <;> simp (maxSteps := 4000000) (disch := first | omega | (simp only [List.length_map, List.length_append, List.length_cons, List.length_nil, List.length_set, List.length_take, List.length_range] <;> omega) | (simp; done) | fail) [fun18, body18, lp, hi]
  · have hi : ¬ (a.length : Int) = b.length := by omega
    have hab : (a == b) = false := by
      rw [beq_eq_false_iff_ne]; intro e; subst e; exact h rfl
    rw [KI_list (F := fun18) rfl]
    simp (maxSteps := 4000000) (disch := first | omega | (simp only [List.length_map, List.length_append, List.length_cons, List.length_nil, List.length_set, List.length_take, List.length_range] <;> omega) | (simp; done) | fail) [fun18, body18, hi, hab]
theorem k16 (a b : List (List Int)) (ha : a.length < 9223372036854775808) (hal : ∀ x ∈ a, x.length < 9223372036854775808) : KI tab 16 [.p (i64ss a), .p (i64ss b)] [] = some (.p (.bool (a == b)), [], []) := by
  by_cases h : a.length = b.length
  · have lp : ∀ σ : St, forget [0, 1, 5] [] σ = C16x0 a b 0 → runI tab (.loop [0, 1, 5] [] loop16x0) σ = some (if a == b then (.exit 0, stL [] [] 2) else (.ret, stL [(4, .p (.bool false))] [] 2)) := by
      intro σ hσ
      rw [loop_anyI a (fun i => C16x0 a b i) (fun i x => x != b.getD i []) (.ret, stL [(4, .p (.bool false))] [] 2) (.exit 0, stL [] [] 2) (by simp) (by simp) ?_ ?_ σ hσ]
      · have : (a.zipIdx.any fun x => x.1 != b.getD x.2 []) = !(a == b) := by
          apply Bool.eq_iff_iff.2
          simp only [List.any_eq_true, Bool.not_eq_true', beq_eq_false_iff_ne, ne_eq]
          constructor
          · rintro ⟨⟨x, i⟩, hm, hx⟩ e
            subst e
            rw [List.mem_zipIdx_iff_getElem?] at hm
            simp only at hm hx
            simp [List.getD, hm] at hx
          · intro hne
            apply Classical.byContradiction
            intro hall
            apply hne
            apply List.ext_getElem h
            intro i h1 h2
            apply Classical.byContradiction
            intro hx
            exact hall ⟨(a[i], i), by rw [List.mem_zipIdx_iff_getElem?]; simp [h1], by simp [List.getD, h2, hx]⟩
        rw [this]
        cases a == b <;> rfl
      · simp (maxSteps := 4000000) (disch := first | omega | (simp only [List.length_map, List.length_append, List.length_cons, List.length_nil, List.length_set, List.length_take, List.length_range] <;> omega) | fail) [loop16x0]
      · intro i hi
        have hib : i < b.length := by omega
        have h18 := k18 a[i] b[i] (hal _ (by simp))
        have e : b.getD i [] = b[i] := by simp [List.getD, hib]
        rw [e]
        cases hx : a[i] == b[i] with
        | true =>
          rw [hx] at h18
          have hx' : (a[i] != b[i]) = false := by simp only [bne, hx]; rfl
          simp (maxSteps := 4000000) (disch := first | omega | (simp only [List.length_map, List.length_append, List.length_cons, List.length_nil, List.length_set, List.length_take, List.length_range] <;> omega) | fail) [loop16x0, hi, h18, hx']
        | false =>
          rw [hx] at h18
          have hx' : (a[i] != b[i]) = true := by simp only [bne, hx]; rfl
          simp (maxSteps := 4000000) (disch := first | omega | (simp only [List.length_map, List.length_append, List.length_cons, List.length_nil, List.length_set, List.length_take, List.length_range] <;> omega) | fail) [loop16x0, hi, h18, hx']
    have hi : (a.length : Int) = b.length := by omega
    rw [KI_list (F := fun16) rfl]
    cases hab : a == b <;> rw [hab] at lp <;> simp (maxSteps := 4000000) (disch := first | omega | (simp only [List.length_map, List.length_append, List.length_cons, List.length_nil, List.length_set, List.length_take, List.length_range] <;> omega) | (simp; done) | fail) [fun16, body16, lp, hi]
  · have hi : ¬ (a.length : Int) = b.length := by omega
    have hab : (a == b) = false := by
      rw [beq_eq_false_iff_ne]; intro e; subst e; exact h rfl
    rw [KI_list (F := fun16) rfl]
    simp (maxSteps := 4000000) (disch := first | omega | (simp only [List.length_map, List.length_append, List.length_cons, List.length_nil, List.length_set, List.length_take, List.length_range] <;> omega) | (simp; done) | fail) [fun16, body16, hi, hab]
/-! ### Repairs -/
theorem l32x2 (v : List Int) (es : List (List Int)) (b k0 : Nat) (o0 : List (List Int)) (hk0 : k0 < o0.length) (hlen : o0.length < 9223372036854775808) (ho : ∀ e ∈ o0, e.length < 9223372036854775808)
    (σ : St) (hσ : forget [1, 3, 4, 7] [1, 3, 43] σ = C32x2 o0.length b k0 v es o0) :
    runI tab (.loop [1, 3, 4, 7] [1, 3, 43] loop32x2) σ = some (.exit 4, C32x0 o0.length b v es (sunk k0 o0)) := by
  rw [loop_inv (fun x : Nat × List (List Int) => C32x2 o0.length b x.1 v es x.2) (fun x => some (.exit 4, C32x0 o0.length b v es (sunk x.1 x.2))) (fun x => x.1) (fun x => x.2.length = o0.length ∧ x.1 < x.2.length ∧ ∀ e ∈ x.2, e.length < 9223372036854775808) ?_ (k0, o0) σ ⟨rfl, hk0, ho⟩ hσ]
  rintro ⟨k, out⟩ ⟨h1, h2, h3⟩
  simp only at h1 h2 h3
  cases k with
  | zero =>
    refine .inr ⟨(.exit 4, C32x0 o0.length b v es out), by simp, ?_, rfl⟩
    simp (maxSteps := 4000000) (disch := first | omega | (simp only [List.length_map, List.length_append, List.length_cons, List.length_nil, List.length_set, List.length_take, List.length_range] <;> omega) | fail) [loop32x2]
  | succ k =>
    have h56 := k56 out[k + 1] out[k] (h3 _ (by simp)) (h3 _ (by simp))
    have hs : sunk (k + 1) out = if before out[k + 1] out[k] then sunk k ((out.set (k + 1) out[k]).set k out[k + 1]) else out := by
      simp [sunk, h2, show k < out.length by omega]
    cases hb : before out[k + 1] out[k] with
    | false =>
      rw [hb] at h56
      refine .inr ⟨(.exit 4, C32x0 o0.length b v es out), by simp, ?_, by simp [hs, hb]⟩
      simp (maxSteps := 4000000) (disch := first | omega | (simp only [List.length_map, List.length_append, List.length_cons, List.length_nil, List.length_set, List.length_take, List.length_range] <;> omega) | fail) [loop32x2, h56, h1.symm]
    | true =>
      rw [hb] at h56
      refine .inl ⟨(k, (out.set (k + 1) out[k]).set k out[k + 1]), ⟨by simp [h1], by simp; omega, ?_⟩, by simp, ?_, by simp [hs, hb]⟩
      · intro e he
        rcases List.mem_or_eq_of_mem_set he with he | he
        · rcases List.mem_or_eq_of_mem_set he with he | he
          · exact h3 e he
          · rw [he]; exact h3 _ (by simp)
        · rw [he]; exact h3 _ (by simp)
      · simp (maxSteps := 4000000) (disch := first | omega | (simp only [List.length_map, List.length_append, List.length_cons, List.length_nil, List.length_set, List.length_take, List.length_range] <;> omega) | fail) [loop32x2, h56, h1.symm]
theorem l32x1 (v : List Int) (es : List (List Int)) (b : Nat) (out : List (List Int)) (hv : v.length ≤ 62) (hb : b < 9223372036854775808)
    (σ : St) (hσ : forget [1, 3, 4, 5, 6] [1, 3, 5, 35] σ = C32x1 out.length b 0 0 v es out []) :
    runI tab (.loop [1, 3, 4, 5, 6] [1, 3, 5, 35] loop32x1) σ = some (.exit 2, stL [(1, .ptr 1 none [] 1 0), (3, .own 3 [] 0 out.length 1), (4, .p (i64 b)), (5, .own 5 [] 0 (idsP v b).length 1)] [(1, .cell 1 (.p (.agg [i64s v, i64ss es]))), (3, .vec 1 1 (tv (out.map i64s))), (5, .vec 1 1 (tv ((idsP v b).map i64)))] 2) := by
  rw [loop_fold v (fun i (l : List Int) => C32x1 out.length b l.length i v es out l) (fun i x l => if b.testBit i then l ++ [x] else l) (fun l => (.exit 2, stL [(1, .ptr 1 none [] 1 0), (3, .own 3 [] 0 out.length 1), (4, .p (i64 b)), (5, .own 5 [] 0 l.length 1)] [(1, .cell 1 (.p (.agg [i64s v, i64ss es]))), (3, .vec 1 1 (tv (out.map i64s))), (5, .vec 1 1 (tv (l.map i64)))] 2)) (fun i l => l.length ≤ i) (by simp) ?_ ?_ ?_ [] σ (by simp) (by simpa using hσ)]
  · rw [foldI_filter (fun i _ => b.testBit i) (fun _ x => x) _ (fun _ _ _ => rfl)]
    rfl
  · intro a h; simp (maxSteps := 4000000) (disch := first | omega | (simp only [List.length_map, List.length_append, List.length_cons, List.length_nil, List.length_set, List.length_take, List.length_range] <;> omega) | fail) [loop32x1]
  · intro i a hi h
    split
    · simp; omega
    · omega
  · intro i l hi h
    have h2 := shr_le b i
    have h3 := bit_test b i
    cases hb : b.testBit i with
    | true =>
      rw [hb, decide_eq_true_eq] at h3
      simp (disch := first | omega | (simp only [List.length_map, List.length_append, List.length_cons, List.length_nil, IntKind.bits] <;> omega) | fail) [loop32x1, h3, -Int.natCast_shiftRight]
    | false =>
      rw [hb, decide_eq_false_iff_not] at h3
      simp (disch := first | omega | (simp only [List.length_map, List.length_append, List.length_cons, List.length_nil, IntKind.bits] <;> omega) | fail) [loop32x1, h3, -Int.natCast_shiftRight]
def repStep (v : List Int) (es : List (List Int)) (out : List (List Int)) (b : Nat) : List (List Int) :=
  if maximal v es (idsP v b) then sunk out.length (out ++ [idsP v b]) else out
def refR (v : List Int) (es : List (List Int)) : List (List Int) := (List.range (2 ^ v.length)).foldl (repStep v es) []
theorem repStep_length (v : List Int) (es : List (List Int)) (out : List (List Int)) (b : Nat) : (repStep v es out b).length ≤ out.length + 1 := by
  unfold repStep
  split
  · rw [sunk_length]; simp
  · omega
theorem repStep_mem (v : List Int) (es : List (List Int)) (out : List (List Int)) (b : Nat) (e : List Int) (h : e ∈ repStep v es out b) : e ∈ out ∨ e = idsP v b := by
  unfold repStep at h
  split at h
  · have := sunk_mem _ _ _ h; simpa using this
  · exact .inl h
theorem foldI_foldl {α β : Type} (f : α → β → α) : ∀ (l : List β) (i : Nat) (a : α), foldI (fun _ x a => f a x) l i a = l.foldl f a
  | [], _, _ => rfl
  | x :: r, i, a => by simp only [foldI, List.foldl_cons]; exact foldI_foldl f r (i + 1) _
theorem idsP_len (v : List Int) (s : Nat) : (idsP v s).length ≤ v.length := by
  unfold idsP
  rw [List.length_map]
  exact Nat.le_trans (List.length_filter_le _ _) (by simp)
theorem k32 (v : List Int) (es : List (List Int)) (hv : v.length ≤ 40) (hes : es.length ≤ 20000) (hel : ∀ e ∈ es, e.length < 9223372036854775808) :
    KI tab 32 [.p (.agg [i64s v, i64ss es])] [] = some (retV 1 ((refR v es).map i64s)) := by
  have p40 : 2 ^ v.length ≤ 2 ^ 40 := Nat.pow_le_pow_right (by omega) hv
  have hone : 1 <<< v.length = 2 ^ v.length := Nat.one_shiftLeft _
  have lp : ∀ σ : St, forget [1, 3, 4] [1, 3, 43] σ = C32x0 0 0 v es [] → runI tab (.loop [1, 3, 4] [1, 3, 43] loop32x0) σ = some (.exit 0, stL [(3, .own 3 [] 0 (refR v es).length 1)] [(3, .vec 1 1 (tv ((refR v es).map i64s)))] 2) := by
    intro σ hσ
    rw [loop_fold (List.range (2 ^ v.length)) (fun i (out : List (List Int)) => C32x0 out.length i v es out) (fun _ b out => repStep v es out b) (fun out => (.exit 0, stL [(3, .own 3 [] 0 out.length 1)] [(3, .vec 1 1 (tv (out.map i64s)))] 2)) (fun i out => out.length ≤ i ∧ ∀ e ∈ out, e.length ≤ 40) (by simp) ?_ ?_ ?_ [] σ (by simp) (by simpa using hσ)]
    · rw [foldI_foldl]; rfl
    · intro a h
      rw [List.length_range, ← hone]
      simp (maxSteps := 4000000) (disch := first | omega | (simp only [List.length_map, List.length_append, List.length_cons, List.length_nil, List.length_set, List.length_take, List.length_range] <;> omega) | fail) [loop32x0, shl1_i64, -Int.natCast_shiftLeft]
    · intro i out hi ⟨h1, h2⟩
      refine ⟨by have := repStep_length v es out (List.range (2 ^ v.length))[i]; omega, fun e he => ?_⟩
      rcases repStep_mem _ _ _ _ _ he with h | h
      · exact h2 e h
      · rw [h]; exact Nat.le_trans (idsP_len _ _) hv
    · intro i out hi ⟨h1, h2⟩
      have hi' : i < 2 ^ v.length := by simpa using hi
      have hlt : (i : Int) < ((1 <<< v.length : Nat) : Int) := by rw [hone]; exact Int.ofNat_lt.2 hi'
      have hr : (List.range (2 ^ v.length))[i] = i := by simp
      rw [hr]
      have lx := l32x1 v es i out (by omega) (by omega)
      have hil := idsP_len v i
      have h58 := k58 v es (idsP v i) (by omega) (by omega) hel (by omega)
      have ly := l32x2 v es i out.length (out ++ [idsP v i]) (by simp) (by simp; omega) (fun e he => by
        rcases List.mem_append.1 he with h | h
        · have := h2 e h; omega
        · simp at h; rw [h]; omega)
      simp only [repStep]
      generalize maximal v es (idsP v i) = m at h58 ⊢
      cases m with
      | false =>
        simp (maxSteps := 4000000) (disch := first | omega | (simp only [List.length_map, List.length_append, List.length_cons, List.length_nil, List.length_set, List.length_take, List.length_range] <;> omega) | (simp; done) | fail) [loop32x0, shl1_i64, -Int.natCast_shiftLeft, hlt, lx, h58]
      | true =>
        simp only [List.map_append, List.map_cons, List.map_nil, List.length_append, List.length_cons, List.length_nil, Nat.zero_add] at ly
        simp (maxSteps := 4000000) (disch := first | omega | (simp only [List.length_map, List.length_append, List.length_cons, List.length_nil, List.length_set, List.length_take, List.length_range] <;> omega) | (simp; done) | fail) [loop32x0, shl1_i64, -Int.natCast_shiftLeft, hlt, lx, h58, ly, sunk_length]
  rw [KI_list (F := fun32) rfl]
  simp (maxSteps := 4000000) (disch := first | omega | (simp only [List.length_map, List.length_append, List.length_cons, List.length_nil, List.length_set, List.length_take, List.length_range] <;> omega) | (simp; done) | fail) [fun32, body32, lp]
  simp only [retV, List.length_map]
end Go.Mid
/- The reference: All, Next, In, Degree. -/
namespace Go.Mid
set_option linter.unusedSimpArgs false
set_option linter.unusedVariables false
set_option linter.unusedSectionVars false
@[simp] abbrev C30x0 (l1 : List Int) (l7 : List (List Int)) (x8 : Int) : St := stL [(1, .p (i64s l1)), (7, .p (i64ss l7)), (8, .p (i64 x8))] [] 2
@[simp] abbrev C19x0 (b1 : Bool) (l5 : List (List Int)) (n6 : Nat) (x7 : Int) (l2 : List Int) (l2a : List (List Int)) (a6 : List Int) : St := stL [(1, .p (.bool b1)), (2, .ptr 2 none [] 1 0), (5, .p (i64ss l5)), (6, .own 6 [] 0 n6 1), (7, .p (i64 x7))] [(2, .cell 1 (.p (.agg [(i64s l2), (i64ss l2a)]))), (6, .vec 1 1 (tv (a6.map i64)))] 2
@[simp] abbrev C19x1 (b1 : Bool) (l5 : List (List Int)) (n6 : Nat) (x7 : Int) (x8 : Int) (x9 : Int) (l2 : List Int) (l2a : List (List Int)) (a6 : List Int) : St := stL [(1, .p (.bool b1)), (2, .ptr 2 none [] 1 0), (5, .p (i64ss l5)), (6, .own 6 [] 0 n6 1), (7, .p (i64 x7)), (8, .p (i64 x8)), (9, .p (i64 x9))] [(2, .cell 1 (.p (.agg [(i64s l2), (i64ss l2a)]))), (6, .vec 1 1 (tv (a6.map i64)))] 2
@[simp] abbrev C23x0 (x1 : Int) (x5 : Int) (x6 : Int) (l2 : List Int) (l2a : List (List Int)) : St := stL [(1, .p (i64 x1)), (2, .ptr 2 none [] 1 0), (5, .p (i64 x5)), (6, .p (i64 x6))] [(2, .cell 1 (.p (.agg [(i64s l2), (i64ss l2a)])))] 2
section
variable {v : List Int} {es : List (List Int)} (hv : v.length ≤ 40) (hes : es.length ≤ 20000) (hel : ∀ e ∈ es, e.length < 9223372036854775808)
include hv hes hel
theorem k15_ok (he : errH v es = 0) (most : Int) (hm : ((refR v es).length : Int) ≤ most) (hr : (refR v es).length < 9223372036854775808) : KI tab 15 [.p (.agg [i64s v, i64ss es]), .p (i64 most)] [] = some (.tup [.p (i64ss (refR v es)), .p (i64 0)], [], []) := by
  have h38 := k38 v es (by omega) (by omega) hel
  have h32 := k32 v es hv hes hel
  simp only [retV] at h32
  rw [he] at h38
  rw [KI_list (F := fun15) rfl]
  simp (maxSteps := 4000000) (disch := first | omega | (simp only [List.length_map, List.length_append, List.length_cons, List.length_nil, List.length_set, List.length_take, List.length_range] <;> omega) | (simp; done) | fail) [fun15, body15, h38, h32]
theorem k15_big (he : errH v es = 0) (most : Int) (hm : most < ((refR v es).length : Int)) : KI tab 15 [.p (.agg [i64s v, i64ss es]), .p (i64 most)] [] = some (.tup [.own 2000000 [] 0 0 1, .p (i64 3)], [], [.vec 1 1 []]) := by
  have h38 := k38 v es (by omega) (by omega) hel
  have h32 := k32 v es hv hes hel
  simp only [retV] at h32
  rw [he] at h38
  rw [KI_list (F := fun15) rfl]
  simp (maxSteps := 4000000) (disch := first | omega | (simp only [List.length_map, List.length_append, List.length_cons, List.length_nil, List.length_set, List.length_take, List.length_range] <;> omega) | (simp; done) | fail) [fun15, body15, h38, h32]
theorem k30_bad (he : errH v es = 0) (l : List Int) (hl : l.length < 9223372036854775808) (hb : (asc l && within l v) = false) : KI tab 30 [.p (.agg [i64s v, i64ss es]), .p (i64s l)] [] = some (.tup [.own 2000000 [] 0 0 1, .p (i64 1)], [], [.vec 1 1 []]) := by
  have h38 := k38 v es (by omega) (by omega) hel
  have h50 := k50 l hl
  have h26 := k26 l v hl (by omega)
  rw [he] at h38
  rw [KI_list (F := fun30) rfl]
  cases ha : asc l with
  | false => rw [ha] at h50; simp (maxSteps := 4000000) (disch := first | omega | (simp only [List.length_map, List.length_append, List.length_cons, List.length_nil, List.length_set, List.length_take, List.length_range] <;> omega) | (simp; done) | fail) [fun30, body30, h38, h50]
  | true =>
    rw [ha, Bool.true_and] at hb
    rw [ha] at h50
    rw [hb] at h26
    simp (maxSteps := 4000000) (disch := first | omega | (simp only [List.length_map, List.length_append, List.length_cons, List.length_nil, List.length_set, List.length_take, List.length_range] <;> omega) | (simp; done) | fail) [fun30, body30, h38, h50, h26]
theorem k30_ok (he : errH v es = 0) (l : List Int) (hl : l.length < 9223372036854775808) (hb : (asc l && within l v) = true) (hr : (refR v es).length < 9223372036854775808) (hrl : ∀ e ∈ refR v es, e.length < 9223372036854775808) :
    KI tab 30 [.p (.agg [i64s v, i64ss es]), .p (i64s l)] [] = some (match (refR v es).find? (before l) with | some x => (.tup [.p (i64s x), .p (i64 0)], [], []) | none => (.tup [.own 2000000 [] 0 0 1, .p (i64 4)], [], [.vec 1 1 []])) := by
  have h38 := k38 v es (by omega) (by omega) hel
  have h32 := k32 v es hv hes hel
  simp only [retV] at h32
  have h50 := k50 l hl
  have h26 := k26 l v hl (by omega)
  rw [Bool.and_eq_true] at hb
  rw [he] at h38
  rw [hb.1] at h50
  rw [hb.2] at h26
  have lp : ∀ σ : St, forget [1, 7, 8] [] σ = C30x0 l (refR v es) 0 → runI tab (.loop [1, 7, 8] [] loop30x0) σ = some (match (refR v es).find? (before l) with | some x => (.ret, stL [(4, .p (i64s x)), (5, .p (i64 0))] [] 2) | none => (.exit 0, stL [] [] 2)) := by
    intro σ hσ
    rw [loop_find (refR v es) (fun i => C30x0 l (refR v es) i) (fun _ x => before l x) (fun _ x => (.ret, stL [(4, .p (i64s x)), (5, .p (i64 0))] [] 2)) (.exit 0, stL [] [] 2) (by simp) (by simp) ?_ ?_ σ hσ]
    · have key : ∀ (r : List (List Int)) (i : Nat), findE (fun _ x => before l x) (fun _ x => ((.ret, stL [(4, .p (i64s x)), (5, .p (i64 0))] [] 2) : Ex × St)) (.exit 0, stL [] [] 2) r i = match r.find? (before l) with | some x => (.ret, stL [(4, .p (i64s x)), (5, .p (i64 0))] [] 2) | none => (.exit 0, stL [] [] 2) := by
        intro r
        induction r with
        | nil => intro i; rfl
        | cons x r ih =>
          intro i
          simp only [findE, List.find?_cons]
          cases before l x with
          | true => rfl
          | false => exact ih (i + 1)
      rw [key]
    · simp (maxSteps := 4000000) (disch := first | omega | (simp only [List.length_map, List.length_append, List.length_cons, List.length_nil, List.length_set, List.length_take, List.length_range] <;> omega) | fail) [loop30x0]
    · intro i hi
      have h56 := k56 l (refR v es)[i] hl (hrl _ (by simp))
      cases hb : before l (refR v es)[i] <;> rw [hb] at h56 <;> simp (maxSteps := 4000000) (disch := first | omega | (simp only [List.length_map, List.length_append, List.length_cons, List.length_nil, List.length_set, List.length_take, List.length_range] <;> omega) | fail) [loop30x0, h56, hi, hb]
  rw [KI_list (F := fun30) rfl]
  cases hf : (refR v es).find? (before l) <;> rw [hf] at lp <;> simp (maxSteps := 4000000) (disch := first | omega | (simp only [List.length_map, List.length_append, List.length_cons, List.length_nil, List.length_set, List.length_take, List.length_range] <;> omega) | (simp; done) | fail) [fun30, body30, h38, h50, h26, h32, lp]
/-! ### In -/
theorem l19x1 (R : List (List Int)) (hR : R.length < 9223372036854775808) (hRl : ∀ e ∈ R, e.length < 9223372036854775808) (ev : Bool) (n6 : Nat) (i : Nat) (hi : i < v.length) (a6 : List Int) (σ : St) (hσ : forget [1, 2, 5, 6, 7, 8, 9] [2, 6] σ = C19x1 ev R n6 i 0 0 v es a6) :
    runI tab (.loop [1, 2, 5, 6, 7, 8, 9] [2, 6] loop19x1) σ = some (.exit 2, stL [(1, .p (.bool ev)), (2, .ptr 2 none [] 1 0), (5, .p (i64ss R)), (6, .own 6 [] 0 n6 1), (7, .p (i64 i)), (8, .p (i64 (R.countP fun e => e.contains v[i])))] [(2, .cell 1 (.p (.agg [i64s v, i64ss es]))), (6, .vec 1 1 (tv (a6.map i64)))] 2) := by
  rw [loop_fold R (fun k (n : Nat) => C19x1 ev R n6 i n k v es a6) (fun _ e n => if e.contains v[i] then n + 1 else n) (fun n => (.exit 2, stL [(1, .p (.bool ev)), (2, .ptr 2 none [] 1 0), (5, .p (i64ss R)), (6, .own 6 [] 0 n6 1), (7, .p (i64 i)), (8, .p (i64 n))] [(2, .cell 1 (.p (.agg [i64s v, i64ss es]))), (6, .vec 1 1 (tv (a6.map i64)))] 2)) (fun k n => n ≤ k) (by simp) ?_ ?_ ?_ 0 σ (by simp) (by simpa using hσ)]
  · have key : ∀ (r : List (List Int)) (k n : Nat), foldI (fun _ e n => if e.contains v[i] then n + 1 else n) r k n = n + r.countP fun e => e.contains v[i] := by
      intro r
      induction r with
      | nil => intro k n; rfl
      | cons x r ih =>
        intro k n
        simp only [foldI, ih, List.countP_cons]
        split <;> first | rw [Nat.add_assoc, Nat.add_comm 1] | rfl
    rw [key]; simp
  · intro n hn; simp (maxSteps := 4000000) (disch := first | omega | (simp only [List.length_map, List.length_append, List.length_cons, List.length_nil, List.length_set, List.length_take, List.length_range] <;> omega) | fail) [loop19x1]
  · intro k n hk hn
    split <;> omega
  · intro k n hk hn
    have h22 := k22 R[k] v[i] (hRl _ (by simp))
    cases hc : R[k].contains v[i] <;> rw [hc] at h22 <;> simp (maxSteps := 4000000) (disch := first | omega | (simp only [List.length_map, List.length_append, List.length_cons, List.length_nil, List.length_set, List.length_take, List.length_range] <;> omega) | fail) [loop19x1, h22, hk, hc]
def refIn (R : List (List Int)) (ev : Bool) (x : Int) : Bool := if ev then R.countP (fun e => e.contains x) == R.length else decide (0 < R.countP fun e => e.contains x)
theorem k19 (ev : Bool) (hr : (refR v es).length < 9223372036854775808) (hrl : ∀ e ∈ refR v es, e.length < 9223372036854775808) :
    KI tab 19 [.p (.agg [i64s v, i64ss es]), .p (.bool ev)] [] = some (retV 1 ((v.filter (refIn (refR v es) ev)).map i64)) := by
  have h32 := k32 v es hv hes hel
  simp only [retV] at h32
  generalize refR v es = R at h32 hr hrl ⊢
  have lp : ∀ σ : St, forget [1, 2, 5, 6, 7] [2, 6, 59] σ = C19x0 ev R 0 0 v es [] → runI tab (.loop [1, 2, 5, 6, 7] [2, 6, 59] loop19x0) σ = some (.exit 0, stL [(6, .own 6 [] 0 (v.filter (refIn R ev)).length 1)] [(6, .vec 1 1 (tv ((v.filter (refIn R ev)).map i64)))] 2) := by
    intro σ hσ
    rw [loop_fold v (fun i (out : List Int) => C19x0 ev R out.length i v es out) (fun _ x out => if refIn R ev x then out ++ [x] else out) (fun out => (.exit 0, stL [(6, .own 6 [] 0 out.length 1)] [(6, .vec 1 1 (tv (out.map i64)))] 2)) (fun i out => out.length ≤ i) (by simp) ?_ ?_ ?_ [] σ (by simp) (by simpa using hσ)]
    · rw [foldI_filter' (refIn R ev) (fun x => x) _ (fun _ _ _ => rfl)]; simp
    · intro a h; simp (maxSteps := 4000000) (disch := first | omega | (simp only [List.length_map, List.length_append, List.length_cons, List.length_nil, List.length_set, List.length_take, List.length_range] <;> omega) | fail) [loop19x0]
    · intro i out hi h
      split
      · simp; omega
      · omega
    · intro i out hi h
      have l1 := l19x1 hv hes hel R hr hrl ev out.length i hi out
      have hcl : R.countP (fun e => e.contains v[i]) ≤ R.length := List.countP_le_length
      generalize hcount : R.countP (fun e => e.contains v[i]) = n at l1 hcl
      cases ev with
      | true =>
        by_cases hn : n = R.length
        · have hn' : (n : Int) = R.length := by omega
          have hE : refIn R true v[i] = true := by simp only [refIn, hcount]; simp [hn]
          simp (maxSteps := 4000000) (disch := first | omega | (simp only [List.length_map, List.length_append, List.length_cons, List.length_nil, List.length_set, List.length_take, List.length_range] <;> omega) | (simp; done) | fail) [loop19x0, l1, hi, hE, hn']
        · have hn' : ¬ (n : Int) = R.length := by omega
          have hE : refIn R true v[i] = false := by simp only [refIn, hcount]; simp [hn]
          simp (maxSteps := 4000000) (disch := first | omega | (simp only [List.length_map, List.length_append, List.length_cons, List.length_nil, List.length_set, List.length_take, List.length_range] <;> omega) | (simp; done) | fail) [loop19x0, l1, hi, hE, hn']
      | false =>
        by_cases hn : 0 < n
        · have hn' : (0 : Int) < n := by omega
          have hE : refIn R false v[i] = true := by simp only [refIn, hcount]; simp [hn]
          simp (maxSteps := 4000000) (disch := first | omega | (simp only [List.length_map, List.length_append, List.length_cons, List.length_nil, List.length_set, List.length_take, List.length_range] <;> omega) | (simp; done) | fail) [loop19x0, l1, hi, hE, hn']
        · have hn' : ¬ (0 : Int) < n := by omega
          have hE : refIn R false v[i] = false := by simp only [refIn, hcount]; simp [hn]
          simp (maxSteps := 4000000) (disch := first | omega | (simp only [List.length_map, List.length_append, List.length_cons, List.length_nil, List.length_set, List.length_take, List.length_range] <;> omega) | (simp; done) | fail) [loop19x0, l1, hi, hE, hn']
  rw [KI_list (F := fun19) rfl]
  simp (maxSteps := 4000000) (disch := first | omega | (simp only [List.length_map, List.length_append, List.length_cons, List.length_nil, List.length_set, List.length_take, List.length_range] <;> omega) | (simp; done) | fail) [fun19, body19, h32, lp]
  simp only [retV, List.length_map]
end
theorem k23 (v : List Int) (es : List (List Int)) (x : Int) (hes : es.length < 9223372036854775808) (hel : ∀ e ∈ es, e.length < 9223372036854775808) :
    KI tab 23 [.p (.agg [i64s v, i64ss es]), .p (i64 x)] [] = some (.p (i64 (es.countP fun e => e.contains x)), [], []) := by
  have lp : ∀ σ : St, forget [1, 2, 5, 6] [2] σ = C23x0 x 0 0 v es → runI tab (.loop [1, 2, 5, 6] [2] loop23x0) σ = some (.exit 0, stL [(5, .p (i64 (es.countP fun e => e.contains x)))] [] 2) := by
    intro σ hσ
    rw [loop_fold es (fun k (n : Nat) => C23x0 x n k v es) (fun _ e n => if e.contains x then n + 1 else n) (fun n => (.exit 0, stL [(5, .p (i64 n))] [] 2)) (fun k n => n ≤ k) (by simp) ?_ ?_ ?_ 0 σ (by simp) (by simpa using hσ)]
    · have key : ∀ (r : List (List Int)) (k n : Nat), foldI (fun _ e n => if e.contains x then n + 1 else n) r k n = n + r.countP fun e => e.contains x := by
        intro r
        induction r with
        | nil => intro k n; rfl
        | cons y r ih =>
          intro k n
          simp only [foldI, ih, List.countP_cons]
          split <;> first | rw [Nat.add_assoc, Nat.add_comm 1] | rfl
      rw [key]; simp
    · intro n hn; simp (maxSteps := 4000000) (disch := first | omega | (simp only [List.length_map, List.length_append, List.length_cons, List.length_nil, List.length_set, List.length_take, List.length_range] <;> omega) | fail) [loop23x0]
    · intro k n hk hn
      split <;> omega
    · intro k n hk hn
      have h48 := k48 es[k] x (hel _ (by simp))
      cases hc : es[k].contains x <;> rw [hc] at h48 <;> simp (maxSteps := 4000000) (disch := first | omega | (simp only [List.length_map, List.length_append, List.length_cons, List.length_nil, List.length_set, List.length_take, List.length_range] <;> omega) | fail) [loop23x0, h48, hk, hc]
  rw [KI_list (F := fun23) rfl]
  simp (maxSteps := 4000000) (disch := first | omega | (simp only [List.length_map, List.length_append, List.length_cons, List.length_nil, List.length_set, List.length_take, List.length_range] <;> omega) | (simp; done) | fail) [fun23, body23, lp]
end Go.Mid
/- The hypergraph of a description. -/
namespace Go.Mid
set_option linter.unusedSimpArgs false
set_option linter.unusedVariables false
abbrev u8s (l : List Nat) : PV := .sl (l.map fun (n : Nat) => .int .u8 (n : Int))
abbrev gPV (N : Nat) (E : List Nat) : PV := .agg [.int .u8 (N : Int), u8s E]
def verts (n : Nat) : List Int := (List.range n).map fun (i : Nat) => 2 + 3 * (i : Int)
theorem verts_succ (n : Nat) : verts (n + 1) = verts n ++ [2 + 3 * (n : Int)] := by simp [verts, List.range_succ]
@[simp] theorem verts_length (n : Nat) : (verts n).length = n := by simp [verts]
theorem rem9 (N : Nat) : binP .rem (.int .u8 (N : Int)) (.int .u8 9) = some (.int .u8 ((N % 9 : Nat) : Int)) := by
  simp only [binP]
  simp
  exact Int.tmod_eq_emod_of_nonneg (by omega)
abbrev cZ : T Nat := .agg [.vec 1 1 [] 0, .vec 1 1 [] 0]
theorem l12x0 (G : PV) (n : Nat) (hn : n < 9) (σ : St) (hσ : forget [1, 2, 4, 5, 6] [1, 2, 4] σ = stL [(1, .ptr 1 none [] 1 0), (2, .ptr 2 none [] 1 0), (4, .ptr 4 none [] 1 0), (5, .p (i64 n)), (6, .p (i64 0))] [(1, .cell 1 (.p G)), (2, .cell 1 cZ), (4, .cell 1 cZ)] 2) :
    runI tab (.loop [1, 2, 4, 5, 6] [1, 2, 4] loop12x0) σ = some (.exit 0, stL [(1, .ptr 1 none [] 1 0), (2, .ptr 2 none [] 1 0), (4, .ptr 4 none [] 1 0)]
      [(1, .cell 1 (.p G)), (2, .cell 1 cZ), (4, .cell 1 (.agg [.vec 1 1 (tv ((verts n).map i64)) n, .vec 1 1 [] 0]))] 2) := by
  rw [loop_fold (List.range n) (fun i (a : Unit) => stL [(1, .ptr 1 none [] 1 0), (2, .ptr 2 none [] 1 0), (4, .ptr 4 none [] 1 0), (5, .p (i64 n)), (6, .p (i64 i))] [(1, .cell 1 (.p G)), (2, .cell 1 cZ), (4, .cell 1 (.agg [.vec 1 1 (tv ((verts i).map i64)) i, .vec 1 1 [] 0]))] 2)
    (fun _ _ a => a) (fun _ => (.exit 0, stL [(1, .ptr 1 none [] 1 0), (2, .ptr 2 none [] 1 0), (4, .ptr 4 none [] 1 0)] [(1, .cell 1 (.p G)), (2, .cell 1 cZ), (4, .cell 1 (.agg [.vec 1 1 (tv ((verts n).map i64)) n, .vec 1 1 [] 0]))] 2)) (fun _ _ => True) (by simp) ?_ ?_ ?_ () σ trivial (by simpa [verts] using hσ)]
  · intro a _; simp (maxSteps := 4000000) (disch := first | omega | (simp only [List.length_map, List.length_append, List.length_cons, List.length_nil, List.length_set, List.length_take, List.length_range] <;> omega) | fail) [loop12x0]
  · intros; trivial
  · intro i a hi _
    have hi' : i < n := by simpa using hi
    have hvl := verts_length i
    rw [verts_succ]
    simp (maxSteps := 4000000) (disch := first | omega | (simp only [List.length_map, List.length_append, List.length_cons, List.length_nil, List.length_set, List.length_take, List.length_range] <;> omega) | fail) [loop12x0]
def picks (V : List Int) (E : List Nat) : List (List Int) := ((E.take 12).map (pick V)).filter fun e => !e.isEmpty
theorem pick_length (V : List Int) (s : Nat) : (pick V s).length ≤ V.length := by
  unfold pick
  rw [List.length_map]
  refine Nat.le_trans (List.length_filter_le _ _) ?_
  simp; omega
theorem l12x1 (N n : Nat) (E : List Nat) (V : List Int) (hV : V.length = n) (hn : n < 9) (hE : ∀ e ∈ E, e < 256) (hl : E.length < 9223372036854775808) (σ : St) (hσ : forget [1, 2, 4, 7, 8] [1, 2, 4, 7, 51] σ = stL [(1, .ptr 1 none [] 1 0), (2, .ptr 2 none [] 1 0), (4, .ptr 4 none [] 1 0), (7, .own 7 [] 0 0 1), (8, .p (i64 0))] [(1, .cell 1 (.p (gPV N E))), (2, .cell 1 cZ), (4, .cell 1 (.agg [.vec 1 1 (tv (V.map i64)) n, .vec 1 1 [] 0])), (7, .vec 1 1 [])] 2) :
    runI tab (.loop [1, 2, 4, 7, 8] [1, 2, 4, 7, 51] loop12x1) σ = some (.exit 2, stL [(1, .ptr 1 none [] 1 0), (2, .ptr 2 none [] 1 0), (4, .ptr 4 none [] 1 0), (7, .own 7 [] 0 (picks V E).length 1)] [(1, .cell 1 (.p (gPV N E))), (2, .cell 1 cZ), (4, .cell 1 (.agg [.vec 1 1 (tv (V.map i64)) n, .vec 1 1 [] 0])), (7, .vec 1 1 (tv ((picks V E).map i64s)))] 2) := by
  rw [loop_fold (E.take 12) (fun i (out : List (List Int)) => stL [(1, .ptr 1 none [] 1 0), (2, .ptr 2 none [] 1 0), (4, .ptr 4 none [] 1 0), (7, .own 7 [] 0 out.length 1), (8, .p (i64 i))] [(1, .cell 1 (.p (gPV N E))), (2, .cell 1 cZ), (4, .cell 1 (.agg [.vec 1 1 (tv (V.map i64)) n, .vec 1 1 [] 0])), (7, .vec 1 1 (tv (out.map i64s)))] 2)
    (fun _ s out => if !(pick V s).isEmpty then out ++ [pick V s] else out) (fun out => (.exit 2, stL [(1, .ptr 1 none [] 1 0), (2, .ptr 2 none [] 1 0), (4, .ptr 4 none [] 1 0), (7, .own 7 [] 0 out.length 1)] [(1, .cell 1 (.p (gPV N E))), (2, .cell 1 cZ), (4, .cell 1 (.agg [.vec 1 1 (tv (V.map i64)) n, .vec 1 1 [] 0])), (7, .vec 1 1 (tv (out.map i64s)))] 2)) (fun i out => out.length ≤ i) (by simp) ?_ ?_ ?_ [] σ (by simp) (by simpa using hσ)]
  · rw [foldI_filter' (fun s => !(pick V s).isEmpty) (pick V) _ (fun _ _ _ => rfl)]
    have : (E.take 12 |>.filter fun s => !(pick V s).isEmpty).map (pick V) = picks V E := by
      unfold picks
      rw [List.filter_map]
      rfl
    rw [this]; rfl
  · intro out h
    by_cases h12 : E.length ≤ 12
    · have e : (E.take 12).length = E.length := by simp; omega
      rw [e]
      simp (maxSteps := 4000000) (disch := first | omega | (simp only [List.length_map, List.length_append, List.length_cons, List.length_nil, List.length_set, List.length_take, List.length_range] <;> omega) | fail) [loop12x1]
    · have e : (E.take 12).length = 12 := by simp; omega
      rw [e]
      simp (maxSteps := 4000000) (disch := first | omega | (simp only [List.length_map, List.length_append, List.length_cons, List.length_nil, List.length_set, List.length_take, List.length_range] <;> omega) | fail) [loop12x1]
  · intro i out hi h
    split
    · simp; omega
    · omega
  · intro i out hi h
    have h1 : i < E.length := by simp at hi; omega
    have h2 : i < 12 := by simp at hi; omega
    have hg : (E.take 12)[i] = E[i] := by simp
    rw [hg]
    have h24 := k24 V (.sl []) E[i] (by omega) (hE _ (by simp))
    simp only [retV] at h24
    have hp : (pick V E[i]).length ≤ V.length := pick_length V E[i]
    by_cases he : pick V E[i] = []
    · rw [he] at h24
      simp (maxSteps := 4000000) (disch := first | omega | (simp only [List.length_map, List.length_append, List.length_cons, List.length_nil, List.length_set, List.length_take, List.length_range] <;> omega) | fail) [loop12x1, h24, h1, h2, he, hV]
    · have hne : ¬ (pick V E[i]).length = 0 := fun h => he (List.eq_nil_of_length_eq_zero h)
      have hb : (pick V E[i]).isEmpty = false := by simpa using he
      simp (maxSteps := 4000000) (disch := first | omega | (simp only [List.length_map, List.length_append, List.length_cons, List.length_nil, List.length_set, List.length_take, List.length_range] <;> omega) | fail) [loop12x1, h24, h1, h2, hb, hV, hne, he]
def hEs (N : Nat) (E : List Nat) : List (List Int) := edges (picks (verts (N % 9)) E)
theorem k12 (N : Nat) (E : List Nat) (hN : N < 256) (hE : ∀ e ∈ E, e < 256) (hl : E.length < 9223372036854775808) :
    KI tab 12 [.p (gPV N E)] [] = some (.tup [.agg [.own 2000000 [0] 0 (N % 9) 1, .p (i64ss (hEs N E))], .p (.bool (decide (E.length ≤ 12)))], [], [.cell 1 (.agg [.vec 1 1 (tv ((verts (N % 9)).map i64)) (N % 9), .p (i64ss (hEs N E))])]) := by
  have l0 := l12x0 (gPV N E) (N % 9) (by omega)
  have l1 := l12x1 N (N % 9) E (verts (N % 9)) (by simp) (by omega) hE hl
  have hpl : (picks (verts (N % 9)) E).length ≤ 12 := by
    unfold picks
    refine Nat.le_trans (List.length_filter_le _ _) ?_
    simp; omega
  have hpe : ∀ e ∈ picks (verts (N % 9)) E, e.length ≤ 9 := by
    intro e he
    unfold picks at he
    rw [List.mem_filter, List.mem_map] at he
    obtain ⟨⟨s, _, rfl⟩, _⟩ := he
    have := pick_length (verts (N % 9)) s
    simp at this; omega
  have h39 := k39 (picks (verts (N % 9)) E) (by omega) (fun e he => by have := hpe e he; omega)
  rw [show edges (picks (verts (N % 9)) E) = hEs N E from rfl] at h39
  simp only [retV] at h39
  have hm : N % 9 < 9 := by omega
  have h9 := rem9 N
  generalize N % 9 = n at *
  generalize hEs N E = es at *
  rw [KI_list (F := fun12) rfl]
  simp (maxSteps := 4000000) (disch := first | omega | (simp only [List.length_map, List.length_append, List.length_cons, List.length_nil, List.length_set, List.length_take, List.length_range] <;> omega) | (simp; done) | fail) [fun12, body12, l0, l1, h39, h9, go_loose, looseR, looseOk, foot0, opds, fam, disjointB]
  omega
end Go.Mid
