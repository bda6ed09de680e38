/- The table, and the list functions of the reference. -/
import Derived.Test.YtngcamcnkfkmdaaM7
import Derived.Test.YtngcamcnkfkmdaaY1
import Derived.KernelRfl
namespace Go.Mid
set_option linter.unusedSimpArgs false
set_option linter.unusedVariables false
abbrev big : Nat := 9223372036854775808
/-! ### has, within -/
theorem k22 (l : List Int) (x : Int) (hl : l.length < 9223372036854775808) : KI tab 22 [.p (i64s l), .p (i64 x)] [] = some (.p (.bool (l.contains x)), [], []) := by
  have lp : ∀ σ : St, forget [0,1,5] [] σ = stL [(0, .p (i64s l)), (1, .p (i64 x)), (5, .p (i64 0))] [] 2 →
      runI tab (.loop [0,1,5] [] loop22x0) σ = if l.contains x then some (.ret, stL [(4, .p (.bool true))] [] 2) else some (.exit 0, stL [] [] 2) := by
    intro σ hσ
    rw [loop_list l (fun i (_ : Unit) => stL [(0, .p (i64s l)), (1, .p (i64 x)), (5, .p (i64 i))] [] 2) (fun i y _ => if y == x then .error (.ret, stL [(4, .p (.bool true))] [] 2) else .ok ()) (fun _ => (.exit 0, stL [] [] 2)) (fun _ _ => True) (by simp) ?_ ?_ ?_ ?_ () σ trivial hσ]
    · rw [foldE_any (fun y => y == x) (Ex.ret, stL [(4, .p (.bool true))] [] 2) _ (fun i x a => rfl)]
      simp
    · simp [loop22x0]
    · intro i y a; split <;> simp
    · simp
    · intro i a hi _
      simp (disch := omega) [loop22x0, hi]
  rw [KI_list (F := fun22) rfl]
  simp [fun22, body22, lp]
  split <;> simp_all
theorem k48 (l : List Int) (x : Int) (hl : l.length < 9223372036854775808) : KI tab 48 [.p (i64s l), .p (i64 x)] [] = some (.p (.bool (l.contains x)), [], []) := by
  rw [KI_list (F := fun48) rfl]
  simp [fun48, body48, k22 l x hl]
def within (a b : List Int) : Bool := a.all fun x => b.contains x
theorem k26 (a b : List Int) (ha : a.length < 9223372036854775808) (hb : b.length < 9223372036854775808) : KI tab 26 [.p (i64s a), .p (i64s b)] [] = some (.p (.bool (within a b)), [], []) := by
  have lp : ∀ σ : St, forget [0,1,5] [] σ = stL [(0, .p (i64s a)), (1, .p (i64s b)), (5, .p (i64 0))] [] 2 →
      runI tab (.loop [0,1,5] [] loop26x0) σ = if within a b then some (.exit 0, stL [] [] 2) else some (.ret, stL [(4, .p (.bool false))] [] 2) := by
    intro σ hσ
    rw [loop_list a (fun i (_ : Unit) => stL [(0, .p (i64s a)), (1, .p (i64s b)), (5, .p (i64 i))] [] 2) (fun i y _ => if !b.contains y then .error (.ret, stL [(4, .p (.bool false))] [] 2) else .ok ()) (fun _ => (.exit 0, stL [] [] 2)) (fun _ _ => True) (by simp) ?_ ?_ ?_ ?_ () σ trivial hσ]
    · rw [foldE_any (fun y => !b.contains y) (Ex.ret, stL [(4, .p (.bool false))] [] 2) _ (fun i x a => rfl)]
      have : a.any (fun y => !b.contains y) = !within a b := by rw [within, List.all_eq_not_any_not]; simp only [Bool.not_not]
      rw [this]
      cases within a b <;> simp
    · simp [loop26x0]
    · intro i y a; split <;> simp
    · simp
    · intro i a hi _
      simp (disch := omega) [loop26x0, hi, k48]
  rw [KI_list (F := fun26) rfl]
  simp [fun26, body26, lp]
  split <;> simp_all
/-! ### ascending -/
def asc : List Int → Bool
  | a :: b :: r => decide (a < b) && asc (b :: r)
  | _ => true
theorem asc_short {l : List Int} {i : Nat} (h : l.length ≤ i + 1) : asc (l.drop i) = true := by
  have : (l.drop i).length ≤ 1 := by simp; omega
  match hd : l.drop i with
  | [] => rfl
  | [_] => rfl
  | _ :: _ :: _ => rw [hd] at this; simp at this
theorem asc_step {l : List Int} {i : Nat} (h : i + 1 < l.length) : asc (l.drop i) = (decide (l[i] < l[i + 1]) && asc (l.drop (i + 1))) := by
  rw [List.drop_eq_getElem_cons (by omega), List.drop_eq_getElem_cons (i := i + 1) (by omega)]
  rfl
theorem k50 (l : List Int) (hl : l.length < 9223372036854775808) : KI tab 50 [.p (i64s l)] [] = some (.p (.bool (asc l)), [], []) := by
  have lp : ∀ σ : St, forget [0, 3] [] σ = stL [(0, .p (i64s l)), (3, .p (i64 1))] [] 2 →
      runI tab (.loop [0, 3] [] loop50x0) σ = if asc l then some (.exit 0, stL [] [] 2) else some (.ret, stL [(2, .p (.bool false))] [] 2) := by
    intro σ hσ
    rw [loop_inv (fun i : Nat => stL [(0, .p (i64s l)), (3, .p (i64 (i + 1 : Nat)))] [] 2) (fun i => if asc (l.drop i) then some (.exit 0, stL [] [] 2) else some (.ret, stL [(2, .p (.bool false))] [] 2)) (fun i => l.length - i) (fun _ => True) ?_ 0 σ trivial (by simpa using hσ)]
    · simp
    · intro i _
      by_cases hi : i + 1 < l.length
      · by_cases h : l[i] < l[i + 1]
        · refine .inl ⟨i + 1, trivial, by omega, ?_, by rw [asc_step hi]; simp [h]⟩
          simp (disch := omega) [loop50x0, hi, h]
        · refine .inr ⟨(.ret, stL [(2, .p (.bool false))] [] 2), by simp, ?_, by rw [asc_step hi]; simp [h]⟩
          simp (disch := omega) [loop50x0, hi, h]
      · refine .inr ⟨(.exit 0, stL [] [] 2), by simp, ?_, by rw [asc_short (by omega)]; rfl⟩
        simp (disch := omega) [loop50x0, hi]
  rw [KI_list (F := fun50) rfl]
  simp [fun50, body50, lp]
  split <;> simp_all
/-! ### before -/
/-- the first difference -/
def bef : List Int → List Int → Option Bool
  | a :: r, b :: q => if a = b then bef r q else some (decide (a < b))
  | _, _ => none
def before (a b : List Int) : Bool := match bef a b with | some t => t | none => decide (a.length < b.length)
theorem bef_short {a b : List Int} {i : Nat} (h : a.length ≤ i ∨ b.length ≤ i) : bef (a.drop i) (b.drop i) = none := by
  rcases h with h | h
  · rw [List.drop_eq_nil_of_le h, bef]; simp
  · rw [List.drop_eq_nil_of_le h, bef]; simp
theorem bef_step {a b : List Int} {i : Nat} (ha : i < a.length) (hb : i < b.length) : bef (a.drop i) (b.drop i) = if a[i] = b[i] then bef (a.drop (i + 1)) (b.drop (i + 1)) else some (decide (a[i] < b[i])) := by
  rw [List.drop_eq_getElem_cons ha, List.drop_eq_getElem_cons hb]
  rfl
theorem k56 (a b : List Int) (ha : a.length < 9223372036854775808) (hb : b.length < 9223372036854775808) : KI tab 56 [.p (i64s a), .p (i64s b)] [] = some (.p (.bool (before a b)), [], []) := by
  have lp : ∀ σ : St, forget [0, 1, 5] [] σ = stL [(0, .p (i64s a)), (1, .p (i64s b)), (5, .p (i64 0))] [] 2 → runI tab (.loop [0, 1, 5] [] loop56x0) σ =
      match bef a b with | some t => some (.ret, stL [(4, .p (.bool t))] [] 2) | none => some (.exit 0, stL [(0, .p (i64s a)), (1, .p (i64s b))] [] 2) := by
    intro σ hσ
    rw [loop_inv (fun i : Nat => stL [(0, .p (i64s a)), (1, .p (i64s b)), (5, .p (i64 i))] [] 2) (fun i => match bef (a.drop i) (b.drop i) with | some t => some (.ret, stL [(4, .p (.bool t))] [] 2) | none => some (.exit 0, stL [(0, .p (i64s a)), (1, .p (i64s b))] [] 2)) (fun i => a.length - i) (fun _ => True) ?_ 0 σ trivial (by simpa using hσ)]
    · simp
    · intro i _
      by_cases hi : i < a.length
      · by_cases hj : i < b.length
        · by_cases h : a[i] = b[i]
          · refine .inl ⟨i + 1, trivial, by omega, ?_, by rw [bef_step hi hj, if_pos h]⟩
            simp (disch := omega) [loop56x0]
          · refine .inr ⟨(.ret, stL [(4, .p (.bool (decide (a[i] < b[i]))))] [] 2), by simp, ?_, by rw [bef_step hi hj, if_neg h]⟩
            simp (disch := omega) [loop56x0]
        · refine .inr ⟨(.exit 0, stL [(0, .p (i64s a)), (1, .p (i64s b))] [] 2), by simp, ?_, by rw [bef_short (.inr (by omega))]⟩
          simp (disch := omega) [loop56x0]
      · refine .inr ⟨(.exit 0, stL [(0, .p (i64s a)), (1, .p (i64s b))] [] 2), by simp, ?_, by rw [bef_short (.inl (by omega))]⟩
        simp (disch := omega) [loop56x0]
  rw [KI_list (F := fun56) rfl]
  simp [fun56, body56, lp, before]
  cases bef a b <;> simp
/-! ### free, independent -/
abbrev eH (v : List Int) (es : List (List Int)) : PV := .agg [i64s v, i64ss es]
def free (es : List (List Int)) (l : List Int) : Bool := !es.any fun e => within e l
theorem k51 (v : List Int) (es : List (List Int)) (l : List Int) (hes : es.length < 9223372036854775808) (he : ∀ e ∈ es, e.length < 9223372036854775808) (hl : l.length < 9223372036854775808) :
    KI tab 51 [.p (eH v es), .p (i64s l)] [] = some (.p (.bool (free es l)), [], []) := by
  have lp : ∀ σ : St, forget [1, 2, 5] [2] σ = stL [(1, .p (i64s l)), (2, .ptr 2 none [] 1 0), (5, .p (i64 0))] [(2, .cell 1 (.p (eH v es)))] 2 →
      runI tab (.loop [1, 2, 5] [2] loop51x0) σ = if free es l then some (.exit 0, stL [] [] 2) else some (.ret, stL [(4, .p (.bool false))] [] 2) := by
    intro σ hσ
    rw [loop_list es (fun i (_ : Unit) => stL [(1, .p (i64s l)), (2, .ptr 2 none [] 1 0), (5, .p (i64 i))] [(2, .cell 1 (.p (eH v es)))] 2) (fun i e _ => if within e l then .error (.ret, stL [(4, .p (.bool false))] [] 2) else .ok ()) (fun _ => (.exit 0, stL [] [] 2)) (fun _ _ => True) (by simp) ?_ ?_ ?_ ?_ () σ trivial hσ]
    · rw [foldE_any (fun e => within e l) (Ex.ret, stL [(4, .p (.bool false))] [] 2) _ (fun i x a => rfl), free]
      cases es.any (fun e => within e l) <;> simp
    · simp (disch := omega) [loop51x0]
    · intro i y a; split <;> simp
    · simp
    · intro i a hi _
      have := he es[i] (by simp)
      simp (disch := omega) [loop51x0, k26]
  rw [KI_list (F := fun51) rfl]
  simp [fun51, body51, lp]
  split <;> simp_all
/-! ### pick -/
theorem k49 (s i : Nat) (hs : s < 4294967296) (hi : i < 9223372036854775808) : KI tab 49 [.p (.int .u32 (s : Int)), .p (i64 i)] [] = some (.p (.bool (decide (i < 32) && s.testBit i)), [], []) := by
  rw [KI_list (F := fun49) rfl]
  by_cases h : i < 32
  · have h2 := shr_le s i
    simp (disch := first | omega | (simp [IntKind.bits]; omega)) [fun49, body49, h, -Int.natCast_shiftRight]
    exact bit_test s i
  · simp (disch := omega) [fun49, body49, h]
theorem k49' (s i : Nat) (hs : s < 4294967296) (hi : i < 32) : KI tab 49 [.p (.int .u32 (s : Int)), .p (i64 i)] [] = some (.p (.bool (s.testBit i)), [], []) := by
  rw [k49 s i hs (by omega)]; simp [hi]
def pick (v : List Int) (s : Nat) : List Int := ((v.take 8).zipIdx.filter fun x => s.testBit x.2).map (·.1)
theorem k24 (v : List Int) (es : PV) (s : Nat) (hv : v.length < 9223372036854775808) (hs : s < 256) : KI tab 24 [.p (.agg [i64s v, es]), .p (.int .u8 (s : Int))] [] = some (retV 1 ((pick v s).map i64)) := by
  have lp : ∀ σ : St, forget [1, 2, 5, 6] [2, 5, 29] σ = stL [(1, .p (.int .u8 (s : Int))), (2, .ptr 2 none [] 1 0), (5, .own 5 [] 0 0 1), (6, .p (i64 0))] [(2, .cell 1 (.p (.agg [i64s v, es]))), (5, .vec 1 1 [])] 2 →
      runI tab (.loop [1, 2, 5, 6] [2, 5, 29] loop24x0) σ = some (.exit 0, stL [(5, .own 5 [] 0 (pick v s).length 1)] [(5, .vec 1 1 (tv ((pick v s).map i64)))] 2) := by
    intro σ hσ
    rw [loop_inv (fun x : Nat × List Int => stL [(1, .p (.int .u8 (s : Int))), (2, .ptr 2 none [] 1 0), (5, .own 5 [] 0 x.2.length 1), (6, .p (i64 x.1))] [(2, .cell 1 (.p (.agg [i64s v, es]))), (5, .vec 1 1 (tv (x.2.map i64)))] 2)
      (fun x => let r := x.2 ++ (((v.take 8).zipIdx.drop x.1).filter fun x => s.testBit x.2).map (·.1); some (.exit 0, stL [(5, .own 5 [] 0 r.length 1)] [(5, .vec 1 1 (tv (r.map i64)))] 2)) (fun x => 8 - x.1) (fun x => x.2.length ≤ x.1) ?_ (0, []) σ (by simp) (by simpa using hσ)]
    · simp [pick]
    · rintro ⟨i, out⟩ ho
      simp only at ho
      by_cases hi : i < v.length
      · by_cases h8 : i < 8
        · have hd : (v.take 8).zipIdx.drop i = (v[i], i) :: (v.take 8).zipIdx.drop (i + 1) := by
            rw [List.drop_eq_getElem_cons (by simp; omega)]
            simp
          cases hb : s.testBit i with
          | true =>
            refine .inl ⟨(i + 1, out ++ [v[i]]), by simp; omega, by simp; omega, ?_, by simp [hd, hb]⟩
            simp (disch := first | omega | (simp only [List.length_map, List.length_append, List.length_cons, List.length_nil] <;> omega) | fail) [loop24x0, k49', hb]
          | false =>
            refine .inl ⟨(i + 1, out), by simp; omega, by simp; omega, ?_, by simp [hd, hb]⟩
            simp (disch := omega) [loop24x0, k49', hb]
        · refine .inr ⟨(.exit 0, stL [(5, .own 5 [] 0 out.length 1)] [(5, .vec 1 1 (tv (out.map i64)))] 2), by simp, ?_, ?_⟩
          · simp (disch := omega) [loop24x0]
          · rw [List.drop_eq_nil_of_le (by simp; omega)]; simp
      · refine .inr ⟨(.exit 0, stL [(5, .own 5 [] 0 out.length 1)] [(5, .vec 1 1 (tv (out.map i64)))] 2), by simp, ?_, ?_⟩
        · simp (disch := omega) [loop24x0]
        · rw [List.drop_eq_nil_of_le (by simp; omega)]; simp
  rw [KI_list (F := fun24) rfl]
  simp (disch := first | omega | (simp; done) | fail) [fun24, body24, lp]
  simp only [retV, List.length_map]
end Go.Mid
/- Independent, maximal sets. -/
namespace Go.Mid
set_option linter.unusedSimpArgs false
set_option linter.unusedVariables false
def indep (v : List Int) (es : List (List Int)) (l : List Int) : Bool := asc l && within l v && free es l
theorem k27 (v : List Int) (es : List (List Int)) (l : List Int) (hv : v.length < 9223372036854775808) (hes : es.length < 9223372036854775808) (he : ∀ e ∈ es, e.length < 9223372036854775808) (hl : l.length < 9223372036854775808) :
    KI tab 27 [.p (eH v es), .p (i64s l)] [] = some (.p (.bool (indep v es l)), [], []) := by
  have h51 := k51 v es l hes he hl
  rw [KI_list (F := fun27) rfl]
  cases h1 : asc l with
  | false => simp (disch := first | omega | (simp; omega)) [fun27, body27, k50, indep, h1]
  | true =>
    cases h2 : within l v with
    | false => simp (disch := first | omega | (simp; omega)) [fun27, body27, k50, k26, indep, h1, h2]
    | true => simp (disch := first | omega | (simp; omega)) [fun27, body27, k50, k26, h51, indep, h1, h2]
end Go.Mid
/- Maximal sets. -/
namespace Go.Mid
set_option linter.unusedSimpArgs false
set_option linter.unusedVariables false
def maximal (v : List Int) (es : List (List Int)) (l : List Int) : Bool := indep v es l && v.all fun x => l.contains x || !free es (l ++ [x])
set_option maxHeartbeats 1000000 in
theorem l58 (v : List Int) (es : List (List Int)) (l : List Int) (hv : v.length < 9223372036854775808) (hes : es.length < 9223372036854775808) (he : ∀ e ∈ es, e.length < 9223372036854775808) (hl : l.length < 1000000000)
    (σ : St) (hσ : forget [1, 2, 5] [2] σ = stL [(1, .p (i64s l)), (2, .ptr 2 none [] 1 0), (5, .p (i64 0))] [(2, .cell 1 (.p (eH v es)))] 2) :
    runI tab (.loop [1, 2, 5] [2] loop58x0) σ = if (v.all fun x => l.contains x || !free es (l ++ [x])) then some (.exit 0, stL [] [] 2) else some (.ret, stL [(4, .p (.bool false))] [] 2) := by
  rw [loop_list v (fun i (_ : Unit) => stL [(1, .p (i64s l)), (2, .ptr 2 none [] 1 0), (5, .p (i64 i))] [(2, .cell 1 (.p (eH v es)))] 2) (fun i x _ => if (!(l.contains x || !free es (l ++ [x]))) then .error (.ret, stL [(4, .p (.bool false))] [] 2) else .ok ()) (fun _ => (.exit 0, stL [] [] 2)) (fun _ _ => True) (by simp) ?_ ?_ ?_ ?_ () σ trivial hσ]
  · rw [foldE_any (fun x => !(l.contains x || !free es (l ++ [x]))) (Ex.ret, stL [(4, .p (.bool false))] [] 2) _ (fun i x a => rfl), List.all_eq_not_any_not]
    cases v.any (fun x => !(l.contains x || !free es (l ++ [x]))) <;> simp
  · simp (disch := omega) [loop58x0]
  · intro i y a; split <;> simp
  · simp
  · intro i a hi _
    cases hc : l.contains v[i] with
    | true =>
      have h48 := k48 l v[i] (by omega)
      rw [hc] at h48
      simp (disch := omega) [loop58x0]
      rw [go_loose_ok _ _ _ _ _ (by simp (disch := omega) [h48]; rfl)]
      simp (disch := omega) [h48]
    | false =>
      have h48 := k48 l v[i] (by omega)
      rw [hc] at h48
      have h51 := k51 v es (l ++ [v[i]]) hes he (by simp; omega)
      simp only [i64s, List.map_append, List.map_cons, List.map_nil] at h51
      simp (disch := omega) [loop58x0]
      rw [go_loose_ok _ _ _ _ _ (by simp (disch := first | omega | (simp only [List.length_map, List.length_append, List.length_cons, List.length_nil] <;> omega) | fail) [h48, h51]; simp only [foot0, roots1, opds, List.map_cons, List.map_nil, evO, mkS_cons, refsMs, refsM, List.append_nil, List.nil_append, List.flatMap_cons, List.flatMap_nil, List.cons_append, mkH_cons, mkH_nil, refsO, refsTs_tv, refsTs, refsT, dedup, Nat.reduceEqDiff, if_true, if_false, reduceIte, reduceCtorEq, List.contains_cons, List.contains_nil, Bool.or_false, Nat.reduceBEq, Bool.false_eq_true]; kernel_rfl)]
      simp (disch := first | omega | (simp only [List.length_map, List.length_append, List.length_cons, List.length_nil] <;> omega) | fail) [h48, h51, hc]
theorem k58 (v : List Int) (es : List (List Int)) (l : List Int) (hv : v.length < 9223372036854775808) (hes : es.length < 9223372036854775808) (he : ∀ e ∈ es, e.length < 9223372036854775808) (hl : l.length < 1000000000) :
    KI tab 58 [.p (eH v es), .p (i64s l)] [] = some (.p (.bool (maximal v es l)), [], []) := by
  have h27 := k27 v es l hv hes he (by omega)
  have lp := l58 v es l hv hes he hl
  rw [KI_list (F := fun58) rfl, maximal]
  generalize (v.all fun x => l.contains x || !free es (l ++ [x])) = b at lp ⊢
  generalize indep v es l = c at h27 ⊢
  cases c with
  | false => simp [fun58, body58, h27]
  | true =>
    cases b with
    | false => simp [fun58, body58, h27, lp]
    | true => simp [fun58, body58, h27, lp]
end Go.Mid
/- The insertion of a list, and the minimal edges. -/
namespace Go.Mid
set_option linter.unusedSimpArgs false
set_option linter.unusedVariables false
@[simp] theorem tv_set (l : List PV) (i : Nat) (v : PV) : (tv l).set i (T.p v) = tv (l.set i v) := by simp [tv, List.map_set]
/-- the list at place k sinks to its place -/
def sunk : Nat → List (List Int) → List (List Int)
  | 0, out => out
  | k + 1, out => match out[k + 1]?, out[k]? with
    | some x, some y => if before x y then sunk k ((out.set (k + 1) y).set k x) else out
    | _, _ => out
theorem sunk_length : ∀ (k : Nat) (out : List (List Int)), (sunk k out).length = out.length
  | 0, _ => rfl
  | k + 1, out => by
    unfold sunk
    split
    · split
      · rw [sunk_length]; simp
      · rfl
    · rfl
set_option maxHeartbeats 1000000 in
theorem l39x2 (ls : List (List Int)) (i : Nat) (k0 : Nat) (o0 : List (List Int)) (hk0 : k0 < o0.length) (hlen : o0.length < 1000000000) (ho : ∀ e ∈ o0, e.length < 9223372036854775808)
    (σ : St) (hσ : forget [0, 3, 4, 7] [3, 57] σ = stL [(0, .p (i64ss ls)), (3, .own 3 [] 0 o0.length 1), (4, .p (i64 i)), (7, .p (i64 k0))] [(3, .vec 1 1 (tv (o0.map i64s)))] 2) :
    runI tab (.loop [0, 3, 4, 7] [3, 57] loop39x2) σ = some (.exit 4, stL [(0, .p (i64ss ls)), (3, .own 3 [] 0 o0.length 1), (4, .p (i64 i))] [(3, .vec 1 1 (tv ((sunk k0 o0).map i64s)))] 2) := by
  rw [loop_inv (fun x : Nat × List (List Int) => stL [(0, .p (i64ss ls)), (3, .own 3 [] 0 o0.length 1), (4, .p (i64 i)), (7, .p (i64 x.1))] [(3, .vec 1 1 (tv (x.2.map i64s)))] 2)
    (fun x => some (.exit 4, stL [(0, .p (i64ss ls)), (3, .own 3 [] 0 o0.length 1), (4, .p (i64 i))] [(3, .vec 1 1 (tv ((sunk x.1 x.2).map i64s)))] 2)) (fun x => x.1) (fun x => x.2.length = o0.length ∧ x.1 < x.2.length ∧ ∀ e ∈ x.2, e.length < 9223372036854775808) ?_ (k0, o0) σ ⟨rfl, hk0, ho⟩ hσ]
  rintro ⟨k, out⟩ ⟨h1, h2, h3⟩
  simp only at h1 h2 h3
  cases k with
  | zero =>
    refine .inr ⟨(.exit 4, stL [(0, .p (i64ss ls)), (3, .own 3 [] 0 o0.length 1), (4, .p (i64 i))] [(3, .vec 1 1 (tv (out.map i64s)))] 2), by simp, ?_, rfl⟩
    simp (disch := first | omega | (simp only [List.length_map, List.length_append, List.length_cons, List.length_nil] <;> omega) | fail) [loop39x2]
  | succ k =>
    have h56 := k56 out[k + 1] out[k] (h3 _ (by simp)) (h3 _ (by simp))
    have hs : sunk (k + 1) out = if before out[k + 1] out[k] then sunk k ((out.set (k + 1) out[k]).set k out[k + 1]) else out := by
      simp [sunk, h2, show k < out.length by omega]
    cases hb : before out[k + 1] out[k] with
    | false =>
      rw [hb] at h56
      refine .inr ⟨(.exit 4, stL [(0, .p (i64ss ls)), (3, .own 3 [] 0 o0.length 1), (4, .p (i64 i))] [(3, .vec 1 1 (tv (out.map i64s)))] 2), by simp, ?_, by simp [hs, hb]⟩
      simp (disch := first | omega | (simp only [List.length_map, List.length_append, List.length_cons, List.length_nil] <;> omega) | fail) [loop39x2, h56, h1.symm]
    | true =>
      rw [hb] at h56
      refine .inl ⟨(k, (out.set (k + 1) out[k]).set k out[k + 1]), ⟨by simp [h1], by simp; omega, ?_⟩, by simp, ?_, by simp [hs, hb]⟩
      · intro e he
        rcases List.mem_or_eq_of_mem_set he with he | he
        · rcases List.mem_or_eq_of_mem_set he with he | he
          · exact h3 e he
          · rw [he]; exact h3 _ (by simp)
        · rw [he]; exact h3 _ (by simp)
      · simp (disch := first | omega | (simp only [List.length_map, List.length_append, List.length_cons, List.length_nil] <;> omega) | fail) [loop39x2, h56, h1.symm]
/-- is list i one that remains? -/
def dropped (ls : List (List Int)) (i k : Nat) : Bool := within (ls.getD k []) (ls.getD i []) && (decide ((ls.getD k []).length < (ls.getD i []).length) || decide (k < i))
def kept (ls : List (List Int)) (i : Nat) : Bool := (List.range ls.length).all fun k => !dropped ls i k
theorem foldE_and {β : Type} {ε : Type} (p : Nat → β → Bool) (f : Nat → β → Bool → Except ε Bool) (hf : ∀ i x a, f i x a = .ok (a && !p i x)) : ∀ (l : List β) (i : Nat) (a : Bool), foldE f l i a = .ok (a && (l.zipIdx i).all fun x => !p x.2 x.1)
  | [], _, a => by simp [foldE]
  | x :: r, i, a => by simp [foldE, hf, foldE_and p f hf r (i + 1), Bool.and_assoc]
set_option maxHeartbeats 1000000 in
theorem l39x1 (ls : List (List Int)) (i : Nat) (n : Nat) (o : List PV) (hi : i < ls.length) (hlen : ls.length < 9223372036854775808) (ho : ∀ e ∈ ls, e.length < 9223372036854775808)
    (σ : St) (hσ : forget [0, 3, 4, 5, 6] [3] σ = stL [(0, .p (i64ss ls)), (3, .own 3 [] 0 n 1), (4, .p (i64 i)), (5, .p (.bool true)), (6, .p (i64 0))] [(3, .vec 1 1 (tv o))] 2) :
    runI tab (.loop [0, 3, 4, 5, 6] [3] loop39x1) σ = some (.exit 2, stL [(0, .p (i64ss ls)), (3, .own 3 [] 0 n 1), (4, .p (i64 i)), (5, .p (.bool ((ls.zipIdx).all fun x => !(within x.1 ls[i] && (decide (x.1.length < ls[i].length) || decide (x.2 < i))))))] [(3, .vec 1 1 (tv o))] 2) := by
  rw [loop_list ls (fun k (a : Bool) => stL [(0, .p (i64ss ls)), (3, .own 3 [] 0 n 1), (4, .p (i64 i)), (5, .p (.bool a)), (6, .p (i64 k))] [(3, .vec 1 1 (tv o))] 2) (fun k e a => .ok (a && !(within e ls[i] && (decide (e.length < ls[i].length) || decide (k < i)))))
    (fun a => (.exit 2, stL [(0, .p (i64ss ls)), (3, .own 3 [] 0 n 1), (4, .p (i64 i)), (5, .p (.bool a))] [(3, .vec 1 1 (tv o))] 2)) (fun _ _ => True) (by simp) ?_ ?_ ?_ ?_ true σ trivial hσ]
  · rw [foldE_and (fun k e => within e ls[i] && (decide (e.length < ls[i].length) || decide (k < i))) _ (fun _ _ _ => rfl)]
    simp
  · intro a _; simp (disch := omega) [loop39x1]
  · simp
  · simp
  · intro k a hk _
    have h26 := k26 ls[k] ls[i] (ho _ (by simp)) (ho _ (by simp))
    cases hw : within ls[k] ls[i] with
    | false =>
      rw [hw] at h26
      simp (disch := omega) [loop39x1, h26]
    | true =>
      rw [hw] at h26
      by_cases h1 : ls[k].length < ls[i].length
      · simp (disch := omega) [loop39x1, h26, h1]
      · by_cases h2 : k < i
        · simp (disch := omega) [loop39x1, h26, h1, h2]
        · simp (disch := omega) [loop39x1, h26, h1, h2]
end Go.Mid
/- The minimal edges. -/
namespace Go.Mid
set_option linter.unusedSimpArgs false
set_option linter.unusedVariables false
def keptB (ls : List (List Int)) (i : Nat) (x : List Int) : Bool := (ls.zipIdx).all fun y => !(within y.1 x && (decide (y.1.length < x.length) || decide (y.2 < i)))
def edgesStep (ls : List (List Int)) (i : Nat) (x : List Int) (out : List (List Int)) : List (List Int) := if keptB ls i x then sunk out.length (out ++ [x]) else out
def edgesFrom (ls : List (List Int)) : List (List Int) → Nat → List (List Int) → List (List Int)
  | [], _, out => out
  | x :: r, i, out => edgesFrom ls r (i + 1) (edgesStep ls i x out)
def edges (ls : List (List Int)) : List (List Int) := edgesFrom ls ls 0 []
theorem foldE_edges {ε : Type} (ls : List (List Int)) : ∀ (r : List (List Int)) (i : Nat) (out : List (List Int)), foldE (ε := ε) (fun i x out => .ok (edgesStep ls i x out)) r i out = .ok (edgesFrom ls r i out)
  | [], _, _ => rfl
  | x :: r, i, out => by simp only [foldE, edgesFrom]; exact foldE_edges ls r (i + 1) _
theorem sunk_mem : ∀ (k : Nat) (out : List (List Int)) (e : List Int), e ∈ sunk k out → e ∈ out
  | 0, _, _, h => h
  | k + 1, out, e, h => by
    unfold sunk at h
    split at h
    · rename_i x y hx hy
      split at h
      · have h2 := sunk_mem k _ e h
        rcases List.mem_or_eq_of_mem_set h2 with h3 | h3
        · rcases List.mem_or_eq_of_mem_set h3 with h4 | h4
          · exact h4
          · rw [h4]; exact List.mem_of_getElem? hy
        · rw [h3]; exact List.mem_of_getElem? hx
      · exact h
    · exact h
theorem edgesStep_mem (ls : List (List Int)) (i : Nat) (x : List Int) (out : List (List Int)) (e : List Int) (h : e ∈ edgesStep ls i x out) : e ∈ out ∨ e = x := by
  unfold edgesStep at h
  split at h
  · have := sunk_mem _ _ _ h; simpa using this
  · exact .inl h
theorem edgesStep_length (ls : List (List Int)) (i : Nat) (x : List Int) (out : List (List Int)) : (edgesStep ls i x out).length ≤ out.length + 1 := by
  unfold edgesStep
  split
  · rw [sunk_length]; simp
  · omega
set_option maxHeartbeats 4000000 in
theorem l39x0 (ls : List (List Int)) (hlen : ls.length < 1000000) (ho : ∀ e ∈ ls, e.length < 1000000)
    (σ : St) (hσ : forget [0, 3, 4] [3, 57] σ = stL [(0, .p (i64ss ls)), (3, .own 3 [] 0 0 1), (4, .p (i64 0))] [(3, .vec 1 1 [])] 2) :
    runI tab (.loop [0, 3, 4] [3, 57] loop39x0) σ = some (.exit 0, stL [(3, .own 3 [] 0 (edges ls).length 1)] [(3, .vec 1 1 (tv ((edges ls).map i64s)))] 2) := by
  rw [loop_list ls (fun i (out : List (List Int)) => stL [(0, .p (i64ss ls)), (3, .own 3 [] 0 out.length 1), (4, .p (i64 i))] [(3, .vec 1 1 (tv (out.map i64s)))] 2) (fun i x out => .ok (edgesStep ls i x out))
    (fun out => (.exit 0, stL [(3, .own 3 [] 0 out.length 1)] [(3, .vec 1 1 (tv (out.map i64s)))] 2)) (fun i out => out.length ≤ i ∧ ∀ e ∈ out, e.length < 1000000) (by simp) ?_ ?_ ?_ ?_ [] σ (by simp) (by simpa using hσ)]
  · rw [foldE_edges]; rfl
  · intro a _; simp (disch := omega) [loop39x0]
  · simp
  · intro i a b hi ⟨h1, h2⟩ h
    simp only [Except.ok.injEq] at h
    subst h
    refine ⟨by have := edgesStep_length ls i ls[i] a; omega, fun e he => ?_⟩
    rcases edgesStep_mem _ _ _ _ _ he with h | h
    · exact h2 e h
    · rw [h]; exact ho _ (by simp)
  · intro i out hi ⟨h1, h2⟩
    have hx := ho ls[i] (by simp)
    have lx := l39x1 ls i out.length (out.map i64s) hi (by omega) (fun e he => by have := ho e he; omega)
    have ly := l39x2 ls i out.length (out ++ [ls[i]]) (by simp) (by simp; omega) (fun e he => by
      rcases List.mem_append.1 he with h | h
      · have := h2 e h; omega
      · simp at h; rw [h]; omega)
    have hk : keptB ls i ls[i] = (ls.zipIdx).all fun x => !(within x.1 ls[i] && (decide (x.1.length < ls[i].length) || decide (x.2 < i))) := rfl
    rw [← hk] at lx
    simp only [edgesStep]
    generalize keptB ls i ls[i] = b at lx ⊢
    simp only [List.map_append, List.map_cons, List.map_nil, List.length_append, List.length_cons, List.length_nil, Nat.zero_add] at ly
    cases b with
    | false =>
      simp (disch := first | omega | (simp; done) | fail) [loop39x0, lx]
    | true =>
      simp (disch := first | omega | (simp only [List.length_map, List.length_append, List.length_cons, List.length_nil] <;> omega) | (simp; done) | fail) [loop39x0, lx, ly, sunk_length]
theorem k39 (ls : List (List Int)) (hlen : ls.length < 1000000) (ho : ∀ e ∈ ls, e.length < 1000000) : KI tab 39 [.p (i64ss ls)] [] = some (retV 1 ((edges ls).map i64s)) := by
  have lp := l39x0 ls hlen ho
  rw [KI_list (F := fun39) rfl]
  simp (disch := first | omega | (simp; done) | fail) [fun39, body39, lp]
  simp only [retV, List.length_map]
end Go.Mid
