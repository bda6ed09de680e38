/- The closures of the walks; sets, First, All. -/
import Derived.Test.YtngcamcnkfkmdaaY4
import Derived.Test.YtngcamcnkfkmdaaY5
namespace Go.Mid
set_option linter.unusedSimpArgs false
set_option linter.unusedVariables false
theorem appPlace_eq (g : Nat) (d : Option Nat) (h : Heap) (z bytes id : Nat) (ps : List Nat) (n g0 : Nat) (m : List PV) (hm : (m.all fun v => v.cs == z) = true) : appPlace g d h id ps z bytes n g0 (tv m) = appL g d h id z bytes n g0 m (subO (h id) ps) (put (h id) ps (.hole 1)) := by
  simp only [appL, hm, Bool.not_true, Bool.false_eq_true, if_false]
  simp only [appPlace, tv_length]
  cases subO (h id) ps with
  | none => rfl
  | some t => cases t <;> rfl
@[simp 1100] theorem appK_cell (g : Nat) (d : Option Nat) (h : Heap) (z bytes id n g0 a : Nat) (t : T Nat) (m : List PV) : appK g d h z bytes id n g0 m (some (.cell a t)) = appL g d h id z bytes n g0 m (subO (h id) []) (put (h id) [] (.hole 1)) := by
  cases hm : m.all fun v => v.cs == z with
  | true => simp only [appK, hm, Bool.not_true, Bool.false_eq_true, if_false]; exact appPlace_eq g d h z bytes id [] n g0 m hm
  | false => simp only [appK, appL, hm, Bool.not_false, if_true]
theorem k67 (most : Int) (x : List Nat) (s : Nat) (hx : x.length < 8796093022208) : KI tab 67 [.p (u64 s), .ptr 1000000 none [] 0 0, .ptr 1000001 none [] 0 0] (exA x 0 (i64 most)) = some (.p (.bool (decide ((x.length : Int) + 1 ≤ most))), exA (x ++ [s]) 1 (i64 most), []) := by
  rw [KI_listE (F := fun67) rfl]
  simp only [exA]
  simp (maxSteps := 4000000) (disch := first | omega | (simp only [List.length_map, List.length_append, List.length_cons, List.length_nil, List.length_set, List.length_take, List.length_range] <;> omega) | (simp; done) | fail) [fun67, body67]
theorem k57 (v : List Int) (es : List (List Int)) (x : Option (List Int)) (s : Nat) (hv : v.length ≤ 64) (hs : s < 18446744073709551616) : KI tab 57 [.p (u64 s), .ptr 1000000 none [] 0 0, .ptr 1000001 none [] 0 0] (exF x 0 (.agg [i64s v, i64ss es])) = some (.p (.bool false), exF (some (idsP v s)) 0 (.agg [i64s v, i64ss es]), []) := by
  have h43 := k43 v (i64ss es) s hv hs
  simp only [retV] at h43
  rw [KI_listE (F := fun57) rfl]
  simp only [exF]
  cases x <;> simp (maxSteps := 4000000) (disch := first | omega | (simp only [List.length_map, List.length_append, List.length_cons, List.length_nil, List.length_set, List.length_take, List.length_range] <;> omega) | (simp; done) | fail) [fun57, body57, h43, tB]
def seeF (v : List Int) (s : Nat) (_ : Option (List Int)) : Bool × Option (List Int) := (false, some (idsP v s))
def seeC (v l : List Int) (s : Nat) (x : Option (List Int) × Bool) : Bool × (Option (List Int) × Bool) :=
  if before l (idsP v s) then (false, (some (idsP v s), true)) else (!x.2, x)
theorem k53 (v l : List Int) (es : List (List Int)) (x : Option (List Int) × Bool) (s : Nat) (hv : v.length ≤ 64) (hl : l.length < 9223372036854775808) (hs : s < 18446744073709551616) :
    ∃ q, KI tab 53 [.p (u64 s), .ptr 1000000 none [] 0 0, .ptr 1000001 none [] 0 0, .ptr 1000002 none [] 0 0, .ptr 1000003 none [] 0 0] (exC x 0 (.agg [i64s v, i64ss es]) (i64s l)) = some (.p (.bool (seeC v l s x).1), exC (seeC v l s x).2 q (.agg [i64s v, i64ss es]) (i64s l), []) := by
  have h43 := k43 v (i64ss es) s hv hs
  have hlen : (idsP v s).length ≤ v.length := by
    unfold idsP
    rw [List.length_map]
    exact Nat.le_trans (List.length_filter_le _ _) (by simp)
  have h54 := k54 (idsP v s) l (by omega) hl
  have hgt := cmpL_gt (idsP v s) l
  simp only [retV] at h43
  generalize cmpL (idsP v s) l = q at h54 hgt
  rw [KI_listE (F := fun53) rfl]
  simp only [exC, seeC]
  obtain ⟨x, b⟩ := x
  refine ⟨0, ?_⟩
  cases hb : before l (idsP v s) with
  | true =>
    rw [hb] at hgt
    have hq : 0 < q := by simpa using hgt
    cases x <;> simp (maxSteps := 4000000) (disch := first | omega | (simp only [List.length_map, List.length_append, List.length_cons, List.length_nil, List.length_set, List.length_take, List.length_range] <;> omega) | (simp; done) | fail) [fun53, body53, h43, h54, hq, tB]
  | false =>
    rw [hb] at hgt
    have hq : q ≤ 0 := by simpa using hgt
    cases x <;> simp (maxSteps := 4000000) (disch := first | omega | (simp only [List.length_map, List.length_append, List.length_cons, List.length_nil, List.length_set, List.length_take, List.length_range] <;> omega) | (simp; done) | fail) [fun53, body53, h43, h54, hq, tB]
/-- a result that begins with an array -/
def retT (l : List PV) (r : List MV) : Ret := (.tup (.own 2000000 [] 0 l.length 1 :: r), [], [.vec 1 1 (tv l)])
/-- a result that begins with an array that lies in a place -/
def retTC (l : List PV) (r : List MV) : Ret := (.tup (.own 2000000 [] 0 l.length 1 :: r), [], [.cell 1 (.vec 1 1 (tv l) l.length)])
/-- what the program asks of a hypergraph -/
structure HOk (v : List Int) (es : List (List Int)) : Prop where
  nv : v.length ≤ 40
  ne : es.length ≤ 20000
  el : ∀ e ∈ es, e.length < 9223372036854775808
  inn : ∀ e ∈ es, ∀ y ∈ e, y ∈ v
theorem bitsFrom_lt (v : List Int) (hv : v.length ≤ 63) : ∀ (e : List Int) (b : Nat), (∀ y ∈ e, y ∈ v) → b < 18446744073709551616 → bitsFrom v b e < 18446744073709551616
  | [], b, _, hb => hb
  | y :: e, b, h, hb => by
    have hp := posOf_lt (h y (by simp))
    exact bitsFrom_lt v hv e _ (fun z hz => h z (by simp [hz])) (or_lt64 _ _ hb (one_lt64 _ (by omega)))
section
variable {v : List Int} {es : List (List Int)} (H : HOk v es)
include H
theorem HOk.E : ∀ b ∈ es.map (bitsOf v), b < 18446744073709551616 := by
  intro b hb
  obtain ⟨e, he, rfl⟩ := List.mem_map.1 hb
  exact bitsFrom_lt v (by have := H.nv; omega) e 0 (H.inn e he) (by omega)
theorem HOk.Elen : (es.map (bitsOf v)).length < 9223372036854775808 := by have := H.ne; simp; omega
end
/-- all sets that the walk sees -/
def allS (v : List Int) (es : List (List Int)) : List Nat := walkL (es.map (bitsOf v)) v.length 0 0 0
theorem leaves_length : ∀ k v s, (leaves k v s).length = 2 ^ k
  | 0, _, _ => rfl
  | k + 1, v, s => by simp [leaves, leaves_length k, Nat.pow_succ]; omega
theorem walkL_length (E : List Nat) : ∀ k v a b, (walkL E k v a b).length ≤ 2 ^ k
  | 0, v, a, b => by unfold walkL; split <;> simp
  | k + 1, v, a, b => by
    unfold walkL
    split
    · simp
    · have h1 := walkL_length E k (v + 1) (a ||| 1 <<< v) b
      have h2 := walkL_length E k (v + 1) a (b ||| 1 <<< v)
      rw [List.length_append, Nat.pow_succ]
      split
      · simp; omega
      · omega
theorem walkL_lt (E : List Nat) : ∀ (k v a b : Nat), a < 2 ^ v → ∀ s ∈ walkL E k v a b, s < 2 ^ (v + k)
  | 0, v, a, b, ha, s, hs => by
    unfold walkL at hs
    split at hs
    · cases hs
    · simp at hs; rw [hs]; exact ha
  | k + 1, v, a, b, ha, s, hs => by
    unfold walkL at hs
    split at hs
    · cases hs
    · have m1 : a ||| 1 <<< v < 2 ^ (v + 1) := by
        refine Nat.or_lt_two_pow (Nat.lt_of_lt_of_le ha (Nat.pow_le_pow_right (by omega) (by omega))) ?_
        rw [Nat.one_shiftLeft]; exact Nat.pow_lt_pow_right (by omega) (by omega)
      have m2 : a < 2 ^ (v + 1) := Nat.lt_of_lt_of_le ha (Nat.pow_le_pow_right (by omega) (by omega))
      rw [List.mem_append] at hs
      rw [show v + (k + 1) = v + 1 + k by omega]
      rcases hs with hs | hs
      · split at hs
        · cases hs
        · exact walkL_lt E k (v + 1) _ _ m1 s hs
      · exact walkL_lt E k (v + 1) _ _ m2 s hs
def seeA (most : Int) (s : Nat) (x : List Nat) : Bool × List Nat := (decide ((x.length : Int) + 1 ≤ most), x ++ [s])
theorem seeOkA (most : Int) : ∀ (l x : List Nat), x.length + l.length ≤ 8796093022208 → seeOk (seeA most) (okA (i64 most) (seeA most)) l x
  | [], _, _ => trivial
  | s :: r, x, h => by
    simp only [List.length_cons] at h
    refine ⟨⟨1, k67 most x s (by omega)⟩, fun _ => seeOkA most r _ (by simp [seeA]; omega)⟩
theorem pow40 {n : Nat} (h : n ≤ 40) : 2 ^ n ≤ 1099511627776 := by
  have : 2 ^ n ≤ 2 ^ 40 := Nat.pow_le_pow_right (by omega) h
  omega
theorem k42 {v : List Int} {es : List (List Int)} (H : HOk v es) (most : Int) : KI tab 42 [.p (.agg [i64s v, i64ss es]), .p (i64 most)] [] =
    some (retTC ((walkS (seeA most) (allS v es) []).2.map u64) [.p (.bool (walkS (seeA most) (allS v es) []).1)]) := by
  have hn := H.nv
  have h52 := k52A (i64 most) [] v es (by omega) H.inn (fun e he => by have := H.el e he; omega) (by have := H.ne; omega)
  have hw := walkL_length (es.map (bitsOf v)) v.length 0 0 0
  have hp := pow40 hn
  obtain ⟨q, h55⟩ := k55A (i64 most) (seeA most) v.length (es.map (bitsOf v)) H.E H.Elen (by omega) v.length 0 0 0 [] (by omega) (by simp) (by simp) (seeOkA most _ _ (by simp only [List.length_nil]; omega))
  rw [show walkL (es.map (bitsOf v)) v.length 0 0 0 = allS v es from rfl] at h55
  generalize walkS (seeA most) (allS v es) [] = r at h55 ⊢
  obtain ⟨b, y⟩ := r
  simp only [exA, wkA, List.map_nil, List.length_nil, tv_nil] at h52 h55
  rw [show u64 0 = .int .u64 0 from rfl, show i64 ((0 : Nat) : Int) = .int .i64 0 from rfl] at h55
  rw [KI_list (F := fun42) rfl]
  simp only [retTC]
  simp (maxSteps := 4000000) (disch := first | omega | (simp only [List.length_map, List.length_append, List.length_cons, List.length_nil, List.length_set, List.length_take, List.length_range] <;> omega) | (simp; done) | fail) [fun42, body42, h52, h55]
  by_cases h : q = 0 <;> simp [h]
end Go.Mid
/- All, First and Next of the program. -/
namespace Go.Mid
set_option linter.unusedSimpArgs false
set_option linter.unusedVariables false
@[simp] abbrev C14x0 (n9 : Nat) (l25 : List Int) (x26 : Int) (x27 : Int) (l2 : List Int) (l2a : List (List Int)) (a9 : List (List Int)) : St := stL [(2, .ptr 2 none [] 1 0), (9, .own 9 [] 0 n9 1), (25, .p (.sl (l25.map (.int .u64 ·)))), (26, .p (i64 x26)), (27, .p (i64 x27))] [(2, .cell 1 (.p (.agg [(i64s l2), (i64ss l2a)]))), (9, .vec 1 1 (tv (a9.map i64s)))] 2
@[simp] abbrev C28x0 (l17 : List Int) (x18 : Int) (x19 : Int) (l2 : List Int) (l2a : List (List Int)) (l3 : List Int) : St := stL [(2, .ptr 2 none [] 1 0), (3, .ptr 3 none [] 1 0), (17, .p (i64s l17)), (18, .p (i64 x18)), (19, .p (i64 x19))] [(2, .cell 1 (.p (.agg [(i64s l2), (i64ss l2a)]))), (3, .cell 1 (.p (i64s l3)))] 2
theorem idsP_length (v : List Int) (s : Nat) : (idsP v s).length ≤ v.length := by
  unfold idsP
  rw [List.length_map]
  exact Nat.le_trans (List.length_filter_le _ _) (by simp)
/-- the repairs that the program finds -/
def progR (v : List Int) (es : List (List Int)) : List (List Int) := (allS v es).map (idsP v)
theorem allS_length {v : List Int} {es : List (List Int)} (h : v.length ≤ 40) : (allS v es).length ≤ 1099511627776 :=
  Nat.le_trans (walkL_length _ _ _ _ _) (pow40 h)
theorem allS_lt {v : List Int} {es : List (List Int)} (h : v.length ≤ 40) : ∀ s ∈ allS v es, s < 1099511627776 := by
  intro s hs
  have := walkL_lt _ _ _ _ _ (by simp) s hs
  rw [Nat.zero_add] at this
  exact Nat.lt_of_lt_of_le this (pow40 h)
theorem walkA_fit (most : Int) : ∀ (l x : List Nat), (x.length : Int) + l.length ≤ most → walkS (seeA most) l x = (true, x ++ l)
  | [], x, _ => by simp [walkS]
  | s :: r, x, h => by
    simp only [List.length_cons] at h
    have h1 : (x.length : Int) + 1 ≤ most := by omega
    simp only [walkS, seeA, h1, decide_true, if_true]
    rw [walkA_fit most r (x ++ [s]) (by simp; omega)]
    simp
theorem walkA_big (most : Int) : ∀ (l x : List Nat), l ≠ [] → most < (x.length : Int) + l.length → (walkS (seeA most) l x).1 = false
  | [], x, h, _ => absurd rfl h
  | s :: r, x, _, h => by
    simp only [List.length_cons] at h
    simp only [walkS, seeA]
    by_cases h1 : (x.length : Int) + 1 ≤ most
    · simp only [h1, decide_true, if_true]
      refine walkA_big most r (x ++ [s]) ?_ (by simp; omega)
      intro e; subst e; simp at h; omega
    · simp [h1]
section
variable {v : List Int} {es : List (List Int)} (H : HOk v es)
include H
theorem k14_ok (he : errH v es = 0) (most : Int) (hm : ((allS v es).length : Int) ≤ most) : KI tab 14 [.p (.agg [i64s v, i64ss es]), .p (i64 most)] [] = some (retT ((progR v es).map i64s) [.p (i64 0)]) := by
  have hn := H.nv
  have h41 := k41 v es (by omega) (by have := H.ne; omega) H.el
  have h42 := k42 H most
  rw [walkA_fit most (allS v es) [] (by simpa using hm)] at h42
  rw [he] at h41
  simp only [List.nil_append, retTC] at h42
  have hl := allS_length (es := es) hn
  have hlt := allS_lt (es := es) hn
  have lp : ∀ σ : St, forget [2, 9, 25, 26, 27] [2, 9, 36] σ = stL [(2, .ptr 2 none [] 1 0), (9, .own 9 [] 0 0 1), (25, .p (.sl ((allS v es).map u64))), (26, .p (i64 (allS v es).length)), (27, .p (i64 0))] [(2, .cell 1 (.p (.agg [i64s v, i64ss es]))), (9, .vec 1 1 [])] 2 →
      runI tab (.loop [2, 9, 25, 26, 27] [2, 9, 36] loop14x0) σ = some (.exit 0, stL [(9, .own 9 [] 0 (progR v es).length 1)] [(9, .vec 1 1 (tv ((progR v es).map i64s)))] 2) := by
    intro σ hσ
    rw [loop_fold (allS v es) (fun i (out : List (List Int)) => stL [(2, .ptr 2 none [] 1 0), (9, .own 9 [] 0 out.length 1), (25, .p (.sl ((allS v es).map u64))), (26, .p (i64 (allS v es).length)), (27, .p (i64 i))] [(2, .cell 1 (.p (.agg [i64s v, i64ss es]))), (9, .vec 1 1 (tv (out.map i64s)))] 2)
      (fun _ s out => out ++ [idsP v s]) (fun out => (.exit 0, stL [(9, .own 9 [] 0 out.length 1)] [(9, .vec 1 1 (tv (out.map i64s)))] 2)) (fun i out => out.length ≤ i) (by simp) ?_ ?_ ?_ [] σ (by simp) (by simpa using hσ)]
    · rw [foldI_map (idsP v) _ (fun _ _ _ => rfl)]
      rfl
    · intro a h; simp (maxSteps := 4000000) (disch := first | omega | (simp only [List.length_map, List.length_append, List.length_cons, List.length_nil, List.length_set, List.length_take, List.length_range] <;> omega) | fail) [loop14x0]
    · intro i a hi h; simp; omega
    · intro i out hi h
      have h43 := k43 v (i64ss es) (allS v es)[i] (by omega) (by have := hlt _ (List.getElem_mem hi); omega)
      simp only [retV] at h43
      simp (maxSteps := 4000000) (disch := first | omega | (simp only [List.length_map, List.length_append, List.length_cons, List.length_nil, List.length_set, List.length_take, List.length_range] <;> omega) | fail) [loop14x0, h43]
  rw [KI_list (F := fun14) rfl]
  simp only [retT]
  simp (maxSteps := 4000000) (disch := first | omega | (simp only [List.length_map, List.length_append, List.length_cons, List.length_nil, List.length_set, List.length_take, List.length_range] <;> omega) | (simp; done) | fail) [fun14, body14, h41, h42, lp]
theorem k14_big (he : errH v es = 0) (most : Int) (hne : allS v es ≠ []) (hm : most < ((allS v es).length : Int)) : KI tab 14 [.p (.agg [i64s v, i64ss es]), .p (i64 most)] [] = some (retT [] [.p (i64 3)]) := by
  have hn := H.nv
  have h41 := k41 v es (by omega) (by have := H.ne; omega) H.el
  have h42 := k42 H most
  have hb := walkA_big most (allS v es) [] hne (by simpa using hm)
  generalize walkS (seeA most) (allS v es) [] = r at h42 hb
  obtain ⟨b, y⟩ := r
  simp only at hb
  subst hb
  rw [he] at h41
  simp only [retTC] at h42
  rw [KI_list (F := fun14) rfl]
  simp only [retT]
  simp (maxSteps := 4000000) (disch := first | omega | (simp only [List.length_map, List.length_append, List.length_cons, List.length_nil, List.length_set, List.length_take, List.length_range] <;> omega) | (simp; done) | fail) [fun14, body14, h41, h42]
end
theorem k14_err {v : List Int} {es : List (List Int)} (hv : v.length < 9223372036854775808) (hes : es.length < 9223372036854775808) (hel : ∀ e ∈ es, e.length < 9223372036854775808) (he : errH v es ≠ 0) (most : Int) :
    KI tab 14 [.p (.agg [i64s v, i64ss es]), .p (i64 most)] [] = some (retT [] [.p (i64 (errH v es))]) := by
  have h41 := k41 v es hv hes hel
  rw [KI_list (F := fun14) rfl]
  simp only [retT]
  simp (maxSteps := 4000000) (disch := first | omega | (simp only [List.length_map, List.length_append, List.length_cons, List.length_nil, List.length_set, List.length_take, List.length_range] <;> omega) | (simp; done) | fail) [fun14, body14, h41, he]
end Go.Mid
/- First, Next, Common of the program. -/
namespace Go.Mid
set_option linter.unusedSimpArgs false
set_option linter.unusedVariables false
/-- a result whose first part is a list or nothing -/
def retB (x : Option (List Int)) (r : List MV) : Ret := match x with
  | none => (.tup (.own 2000000 [] 0 0 1 :: r), [], [.cell 1 (.vec 1 1 [] 0)])
  | some l => (.tup (.p (i64s l) :: r), [], [])
theorem seeOkF {v : List Int} {es : List (List Int)} (hv : v.length ≤ 64) : ∀ (l : List Nat) (x : Option (List Int)), (∀ s ∈ l, s < 18446744073709551616) → seeOk (seeF v) (okF (.agg [i64s v, i64ss es]) (seeF v)) l x
  | [], _, _ => trivial
  | s :: r, x, h => ⟨⟨0, k57 v es x s hv (h s (by simp))⟩, fun e => by cases e⟩
theorem seeOkC {v l : List Int} {es : List (List Int)} (hv : v.length ≤ 64) (hl : l.length < 9223372036854775808) : ∀ (r : List Nat) (x : Option (List Int) × Bool), (∀ s ∈ r, s < 18446744073709551616) → seeOk (seeC v l) (okC (.agg [i64s v, i64ss es]) (i64s l) (seeC v l)) r x
  | [], _, _ => trivial
  | s :: r, x, h => ⟨k53 v l es x s hv hl (h s (by simp)), fun _ => seeOkC hv hl r _ (fun t ht => h t (by simp [ht]))⟩
theorem walkF_eq (v : List Int) : ∀ l : List Nat, (walkS (seeF v) l none).2 = (l.head?).map (idsP v)
  | [] => rfl
  | s :: r => by simp [walkS, seeF]
/-- the first list behind l -/
theorem walkC_eq (v l : List Int) : ∀ r : List Nat, (walkS (seeC v l) r (none, false)).2 = match (r.map (idsP v)).find? (before l) with | some x => (some x, true) | none => (none, false)
  | [] => rfl
  | s :: r => by
    simp only [walkS, seeC, List.map_cons, List.find?_cons]
    cases h : before l (idsP v s) with
    | true => simp
    | false => simp only [Bool.false_eq_true, if_false, Bool.not_false, if_true]; exact walkC_eq v l r
section
variable {v : List Int} {es : List (List Int)} (H : HOk v es)
include H
theorem k31_ok (he : errH v es = 0) : KI tab 31 [.p (.agg [i64s v, i64ss es])] [] = some (retB (progR v es).head? [.p (i64 0)]) := by
  have hn := H.nv
  have h41 := k41 v es (by omega) (by have := H.ne; omega) H.el
  rw [he] at h41
  have hlt := allS_lt (es := es) hn
  have h52 := k52F (.agg [i64s v, i64ss es]) none v es (by omega) H.inn (fun e he => by have := H.el e he; omega) (by have := H.ne; omega)
  obtain ⟨q, h55⟩ := k55F (.agg [i64s v, i64ss es]) (seeF v) v.length (es.map (bitsOf v)) H.E H.Elen (by omega) v.length 0 0 0 none (by omega) (by simp) (by simp) (seeOkF (by omega) _ _ (fun s hs => by have := hlt s hs; omega))
  rw [show walkL (es.map (bitsOf v)) v.length 0 0 0 = allS v es from rfl] at h55
  have hw := walkF_eq v (allS v es)
  have hd : (progR v es).head? = (allS v es).head?.map (idsP v) := by simp [progR]
  rw [hd, ← hw]
  generalize walkS (seeF v) (allS v es) none = r at h55 ⊢
  obtain ⟨b, y⟩ := r
  simp only [exF, wkF, tB] at h52 h55
  rw [show u64 0 = .int .u64 0 from rfl, show i64 ((0 : Nat) : Int) = .int .i64 0 from rfl] at h55
  rw [KI_list (F := fun31) rfl]
  cases y with
  | none =>
    simp only [retB] at h55 ⊢
    simp (maxSteps := 4000000) (disch := first | omega | (simp only [List.length_map, List.length_append, List.length_cons, List.length_nil, List.length_set, List.length_take, List.length_range] <;> omega) | (simp; done) | fail) [fun31, body31, h41, h52, h55]
    by_cases h : q = 0 <;> simp [h]
  | some l =>
    simp only [retB] at h55 ⊢
    simp (maxSteps := 4000000) (disch := first | omega | (simp only [List.length_map, List.length_append, List.length_cons, List.length_nil, List.length_set, List.length_take, List.length_range] <;> omega) | (simp; done) | fail) [fun31, body31, h41, h52, h55]
end
theorem k31_err {v : List Int} {es : List (List Int)} (hv : v.length < 9223372036854775808) (hes : es.length < 9223372036854775808) (hel : ∀ e ∈ es, e.length < 9223372036854775808) (he : errH v es ≠ 0) :
    KI tab 31 [.p (.agg [i64s v, i64ss es])] [] = some (retT [] [.p (i64 (errH v es))]) := by
  have h41 := k41 v es hv hes hel
  rw [KI_list (F := fun31) rfl]
  simp only [retT]
  simp (maxSteps := 4000000) (disch := first | omega | (simp only [List.length_map, List.length_append, List.length_cons, List.length_nil, List.length_set, List.length_take, List.length_range] <;> omega) | (simp; done) | fail) [fun31, body31, h41, he]
/-! ### Next -/
def badAt (v l : List Int) (i : Nat) (y : Int) : Bool := (decide (0 < i) && decide (y ≤ l.getD (i - 1) 0)) || !v.contains y
theorem asc_of : ∀ {l : List Int}, (∀ i (h : i + 1 < l.length), l[i] < l[i + 1]) → asc l = true
  | [], _ => rfl
  | [_], _ => rfl
  | x :: y :: r, h => by
    simp only [asc, Bool.and_eq_true, decide_eq_true_eq]
    exact ⟨h 0 (by simp), asc_of fun i hi => h (i + 1) (by simpa using hi)⟩
theorem badAt_eq (v l : List Int) : (l.zipIdx.any fun x => badAt v l x.2 x.1) = !(asc l && within l v) := by
  apply Bool.eq_iff_iff.2
  simp only [List.any_eq_true, Bool.not_eq_true', Bool.and_eq_false_iff]
  constructor
  · rintro ⟨⟨y, i⟩, hm, hb⟩
    rw [List.mem_zipIdx_iff_getElem?] at hm
    simp only at hm hb
    obtain ⟨hi, hy⟩ := List.getElem?_eq_some_iff.1 hm
    simp only [badAt, Bool.or_eq_true, Bool.and_eq_true, decide_eq_true_eq, Bool.not_eq_true'] at hb
    rcases hb with ⟨h0, hle⟩ | hc
    · left
      cases ha : asc l with
      | false => rfl
      | true =>
        have := asc_pair (i := i - 1) (j := i) ha (by omega) hi
        have e : l.getD (i - 1) 0 = l[i - 1] := by simp [List.getD, show i - 1 < l.length by omega]
        rw [e] at hle
        omega
    · right
      cases hw : within l v with
      | false => rfl
      | true =>
        unfold within at hw
        rw [List.all_eq_true] at hw
        have := hw y (hy ▸ List.getElem_mem hi)
        rw [hc] at this; cases this
  · rintro (h | h)
    · have : ¬ ∀ i (h : i + 1 < l.length), l[i] < l[i + 1] := by
        intro hall
        rw [asc_of hall] at h; cases h
      simp only [Classical.not_forall] at this
      obtain ⟨i, hi, hlt⟩ := this
      refine ⟨(l[i + 1], i + 1), by rw [List.mem_zipIdx_iff_getElem?]; simp [hi], ?_⟩
      have e : l.getD (i + 1 - 1) 0 = l[i] := by simp [List.getD, show i < l.length by omega]
      simp only [badAt, e]
      simp
      left; omega
    · unfold within at h
      rw [List.all_eq_false] at h
      obtain ⟨y, hy, hc⟩ := h
      obtain ⟨i, hi, rfl⟩ := List.getElem_of_mem hy
      refine ⟨(l[i], i), by rw [List.mem_zipIdx_iff_getElem?]; simp [hi], ?_⟩
      simp only [badAt]
      have hc : v.contains l[i] = false := by simpa using hc
      rw [hc]; simp
theorem l28 (v l : List Int) (es : List (List Int)) (hv : v.length < 9223372036854775808) (hl : l.length < 9223372036854775808) (σ : St) (hσ : forget [2, 3, 17, 18, 19] [2, 3] σ = C28x0 l l.length 0 v es l) :
    runI tab (.loop [2, 3, 17, 18, 19] [2, 3] loop28x0) σ = some (if !(asc l && within l v) then (.ret, stL [(4, .own 4 [] 0 0 1), (5, .p (.bool false)), (6, .p (i64 1))] [(4, .vec 1 1 [])] 2) else (.exit 0, stL [(2, .ptr 2 none [] 1 0), (3, .ptr 3 none [] 1 0)] [(2, .cell 1 (.p (.agg [i64s v, i64ss es]))), (3, .cell 1 (.p (i64s l)))] 2)) := by
  rw [← badAt_eq]
  refine loop_anyI l (fun i => C28x0 l l.length i v es l) (badAt v l) _ _ (by simp) (by simp) ?_ ?_ σ hσ
  · simp (maxSteps := 4000000) (disch := first | omega | (simp only [List.length_map, List.length_append, List.length_cons, List.length_nil, List.length_set, List.length_take, List.length_range] <;> omega) | fail) [loop28x0]
  · intro i hi
    have h45 := k45 v l[i] (by omega)
    cases i with
    | zero =>
      cases hc : v.contains l[0] with
      | true =>
        have hb : badAt v l 0 l[0] = false := by simp [badAt, hc]; simpa using hc
        rw [hc] at h45
        simp (maxSteps := 4000000) (disch := first | omega | (simp only [List.length_map, List.length_append, List.length_cons, List.length_nil, List.length_set, List.length_take, List.length_range] <;> omega) | fail) [loop28x0, h45, hb, hi]
      | false =>
        have hb : badAt v l 0 l[0] = true := by simp [badAt, hc]; simpa using hc
        rw [hc] at h45
        simp (maxSteps := 4000000) (disch := first | omega | (simp only [List.length_map, List.length_append, List.length_cons, List.length_nil, List.length_set, List.length_take, List.length_range] <;> omega) | fail) [loop28x0, h45, hb, hi]
    | succ i =>
      have e : l.getD (i + 1 - 1) 0 = l[i] := by simp [List.getD, show i < l.length by omega]
      by_cases hle : l[i + 1] ≤ l[i]
      · have hb : badAt v l (i + 1) l[i + 1] = true := by simp only [badAt, e]; simp [hle]
        simp (maxSteps := 4000000) (disch := first | omega | (simp only [List.length_map, List.length_append, List.length_cons, List.length_nil, List.length_set, List.length_take, List.length_range] <;> omega) | fail) [loop28x0, h45, hb, hi, hle]
      · cases hc : v.contains l[i + 1] with
        | true =>
          have hb : badAt v l (i + 1) l[i + 1] = false := by simp only [badAt, e, hc]; simp; omega
          rw [hc] at h45
          simp (maxSteps := 4000000) (disch := first | omega | (simp only [List.length_map, List.length_append, List.length_cons, List.length_nil, List.length_set, List.length_take, List.length_range] <;> omega) | fail) [loop28x0, h45, hb, hi, hle]
        | false =>
          have hb : badAt v l (i + 1) l[i + 1] = true := by simp only [badAt, e, hc]; simp
          rw [hc] at h45
          simp (maxSteps := 4000000) (disch := first | omega | (simp only [List.length_map, List.length_append, List.length_cons, List.length_nil, List.length_set, List.length_take, List.length_range] <;> omega) | fail) [loop28x0, h45, hb, hi, hle]
theorem k28_err {v l : List Int} {es : List (List Int)} (hv : v.length < 9223372036854775808) (hes : es.length < 9223372036854775808) (hel : ∀ e ∈ es, e.length < 9223372036854775808) (he : errH v es ≠ 0) :
    KI tab 28 [.p (.agg [i64s v, i64ss es]), .p (i64s l)] [] = some (retT [] [.p (.bool false), .p (i64 (errH v es))]) := by
  have h41 := k41 v es hv hes hel
  rw [KI_list (F := fun28) rfl]
  simp only [retT]
  simp (maxSteps := 4000000) (disch := first | omega | (simp only [List.length_map, List.length_append, List.length_cons, List.length_nil, List.length_set, List.length_take, List.length_range] <;> omega) | (simp; done) | fail) [fun28, body28, h41, he]
section
variable {v l : List Int} {es : List (List Int)} (H : HOk v es)
include H
theorem k28_bad (he : errH v es = 0) (hl : l.length < 9223372036854775808) (hb : (asc l && within l v) = false) : KI tab 28 [.p (.agg [i64s v, i64ss es]), .p (i64s l)] [] = some (retT [] [.p (.bool false), .p (i64 1)]) := by
  have hn := H.nv
  have h41 := k41 v es (by omega) (by have := H.ne; omega) H.el
  rw [he] at h41
  have lp := l28 v l es (by omega) hl
  rw [hb] at lp
  rw [KI_list (F := fun28) rfl]
  simp only [retT]
  simp (maxSteps := 4000000) (disch := first | omega | (simp only [List.length_map, List.length_append, List.length_cons, List.length_nil, List.length_set, List.length_take, List.length_range] <;> omega) | (simp; done) | fail) [fun28, body28, h41, lp]
theorem k28_ok (he : errH v es = 0) (hl : l.length < 9223372036854775808) (hb : (asc l && within l v) = true) : KI tab 28 [.p (.agg [i64s v, i64ss es]), .p (i64s l)] [] =
    some (retB ((progR v es).find? (before l)) [.p (.bool ((progR v es).find? (before l)).isSome), .p (i64 0)]) := by
  have hn := H.nv
  have h41 := k41 v es (by omega) (by have := H.ne; omega) H.el
  rw [he] at h41
  have lp := l28 v l es (by omega) hl
  rw [hb] at lp
  have hlt := allS_lt (es := es) hn
  have h52 := k52C (.agg [i64s v, i64ss es]) (i64s l) (none, false) v es (by omega) H.inn (fun e he => by have := H.el e he; omega) (by have := H.ne; omega)
  obtain ⟨q, h55⟩ := k55C (.agg [i64s v, i64ss es]) (i64s l) (seeC v l) v.length (es.map (bitsOf v)) H.E H.Elen (by omega) v.length 0 0 0 (none, false) (by omega) (by simp) (by simp) (seeOkC (by omega) (by omega) _ _ (fun s hs => by have := hlt s hs; omega))
  rw [show walkL (es.map (bitsOf v)) v.length 0 0 0 = allS v es from rfl] at h55
  have hw := walkC_eq v l (allS v es)
  generalize hf : (progR v es).find? (before l) = f
  rw [show (allS v es).map (idsP v) = progR v es from rfl, hf] at hw
  generalize walkS (seeC v l) (allS v es) (none, false) = r at h55 hw
  obtain ⟨b, y⟩ := r
  simp only at hw
  subst hw
  simp only [exC, wkC, tB] at h52
  rw [KI_list (F := fun28) rfl]
  cases f with
  | none =>
    simp only [exC, wkC, tB] at h55
    rw [show u64 0 = .int .u64 0 from rfl, show i64 ((0 : Nat) : Int) = .int .i64 0 from rfl] at h55
    simp only [retB]
    simp (maxSteps := 4000000) (disch := first | omega | (simp only [List.length_map, List.length_append, List.length_cons, List.length_nil, List.length_set, List.length_take, List.length_range] <;> omega) | (simp; done) | fail) [fun28, body28, h41, h52, h55, lp]
    by_cases h : q = 0 <;> simp [h]
  | some l =>
    simp only [exC, wkC, tB] at h55
    rw [show u64 0 = .int .u64 0 from rfl, show i64 ((0 : Nat) : Int) = .int .i64 0 from rfl] at h55
    simp only [retB]
    simp (maxSteps := 4000000) (disch := first | omega | (simp only [List.length_map, List.length_append, List.length_cons, List.length_nil, List.length_set, List.length_take, List.length_range] <;> omega) | (simp; done) | fail) [fun28, body28, h41, h52, h55, lp]
end
end Go.Mid
/- Common of the program. -/
namespace Go.Mid
set_option linter.unusedSimpArgs false
set_option linter.unusedVariables false
@[simp] abbrev C17x0 (n6 : Nat) (n7 : Nat) (l17 : List Int) (x18 : Int) (x19 : Int) (l1 : List Int) (l1a : List (List Int)) (a6 : List Int) (a7 : List Int) : St := stL [(1, .ptr 1 none [] 1 0), (6, .own 6 [] 0 n6 1), (7, .own 7 [] 0 n7 1), (17, .p (i64s l17)), (18, .p (i64 x18)), (19, .p (i64 x19))] [(1, .cell 1 (.p (.agg [(i64s l1), (i64ss l1a)]))), (6, .vec 1 1 (tv (a6.map i64))), (7, .vec 1 1 (tv (a7.map i64)))] 2
theorem k44 (e : List Int) (x : Int) (he : e.length < 9223372036854775808) : KI tab 44 [.p (i64s e), .p (.ref (i64 x))] [] = some (.p (.bool (e.contains x)), [], []) := by
  have h45 := k45 e x he
  rw [KI_list (F := fun44) rfl]
  cases h : e.contains x <;> rw [h] at h45 <;> simp (maxSteps := 4000000) (disch := first | omega | (simp only [List.length_map, List.length_append, List.length_cons, List.length_nil, List.length_set, List.length_take, List.length_range] <;> omega) | (simp; done) | fail) [fun44, body44, h45]
theorem k46 (e : List Int) (x : Int) (he : e.length < 9223372036854775808) : KI tab 46 [.p (i64s e), .p (.ref (i64 x))] [] = some (.p (.bool (e == [x])), [], []) := by
  rw [KI_list (F := fun46) rfl]
  match e with
  | [] => simp (maxSteps := 4000000) (disch := first | omega | (simp only [List.length_map, List.length_append, List.length_cons, List.length_nil, List.length_set, List.length_take, List.length_range] <;> omega) | (simp; done) | fail) [fun46, body46]
  | [y] =>
    by_cases h : y = x
    · simp (maxSteps := 4000000) (disch := first | omega | (simp only [List.length_map, List.length_append, List.length_cons, List.length_nil, List.length_set, List.length_take, List.length_range] <;> omega) | (simp; done) | fail) [fun46, body46, h]
    · simp (maxSteps := 4000000) (disch := first | omega | (simp only [List.length_map, List.length_append, List.length_cons, List.length_nil, List.length_set, List.length_take, List.length_range] <;> omega) | (simp; done) | fail) [fun46, body46, h]
  | y :: z :: r =>
    have h : ¬ ((r.length : Int) + 1 + 1 = 1) := by omega
    simp (maxSteps := 4000000) (disch := first | omega | (simp only [List.length_map, List.length_append, List.length_cons, List.length_nil, List.length_set, List.length_take, List.length_range] <;> omega) | (simp; done) | fail) [fun46, body46, h]
def inAll (es : List (List Int)) (x : Int) : Bool := !es.any fun e => e.contains x
def inSome (es : List (List Int)) (x : Int) : Bool := !es.any fun e => e == [x]
theorem foldI_two (p q : Int → Bool) : ∀ (l : List Int) (i : Nat) (a : List Int × List Int), foldI (fun _ x (a : List Int × List Int) => (if p x then a.1 ++ [x] else a.1, if q x then a.2 ++ [x] else a.2)) l i a = (a.1 ++ l.filter p, a.2 ++ l.filter q)
  | [], _, a => by simp [foldI]
  | x :: r, i, a => by
    simp only [foldI]
    rw [foldI_two p q r (i + 1)]
    cases hp : p x <;> cases hq : q x <;> simp [hp, hq]
theorem k17_ok (v : List Int) (es : List (List Int)) (hv : v.length ≤ 40) (hes : es.length ≤ 20000) (hel : ∀ e ∈ es, e.length < 9223372036854775808) (he : errH v es = 0) :
    KI tab 17 [.p (.agg [i64s v, i64ss es])] [] = some (.tup [.own 2000000 [] 0 (v.filter (inAll es)).length 1, .own 2000001 [] 0 (v.filter (inSome es)).length 1, .p (i64 0)], [], [.vec 1 1 (tv ((v.filter (inAll es)).map i64)), .vec 1 1 (tv ((v.filter (inSome es)).map i64))]) := by
  have h41 := k41 v es (by omega) (by omega) hel
  rw [he] at h41
  have lp : ∀ σ : St, forget [1, 6, 7, 17, 18, 19] [1, 6, 7, 32, 41] σ = stL [(1, .ptr 1 none [] 1 0), (6, .own 6 [] 0 0 1), (7, .own 7 [] 0 0 1), (17, .p (i64s v)), (18, .p (i64 v.length)), (19, .p (i64 0))] [(1, .cell 1 (.p (.agg [i64s v, i64ss es]))), (6, .vec 1 1 []), (7, .vec 1 1 [])] 2 →
      runI tab (.loop [1, 6, 7, 17, 18, 19] [1, 6, 7, 32, 41] loop17x0) σ = some (.exit 0, stL [(6, .own 6 [] 0 (v.filter (inAll es)).length 1), (7, .own 7 [] 0 (v.filter (inSome es)).length 1)] [(6, .vec 1 1 (tv ((v.filter (inAll es)).map i64))), (7, .vec 1 1 (tv ((v.filter (inSome es)).map i64)))] 2) := by
    intro σ hσ
    rw [loop_fold v (fun i (a : List Int × List Int) => C17x0 a.1.length a.2.length v v.length i v es a.1 a.2) (fun _ x (a : List Int × List Int) => (if inAll es x then a.1 ++ [x] else a.1, if inSome es x then a.2 ++ [x] else a.2))
      (fun a => (.exit 0, stL [(6, .own 6 [] 0 a.1.length 1), (7, .own 7 [] 0 a.2.length 1)] [(6, .vec 1 1 (tv (a.1.map i64))), (7, .vec 1 1 (tv (a.2.map i64)))] 2)) (fun i a => a.1.length ≤ i ∧ a.2.length ≤ i) (by simp) ?_ ?_ ?_ ([], []) σ (by simp) (by simpa using hσ)]
    · rw [foldI_two]; simp
    · intro a h; simp (maxSteps := 4000000) (disch := first | omega | (simp only [List.length_map, List.length_append, List.length_cons, List.length_nil, List.length_set, List.length_take, List.length_range] <;> omega) | fail) [loop17x0]
    · rintro i ⟨a, b⟩ hi ⟨h1, h2⟩
      simp only at h1 h2 ⊢
      refine ⟨?_, ?_⟩ <;> split <;> first | (simp; omega) | omega
    · rintro i ⟨a, b⟩ hi ⟨h1, h2⟩
      simp only at h1 h2
      have h20 := k20 i64s (fun _ => rfl) (fun _ => rfl) es 44 [.ref (i64 v[i])] (fun e => e.contains v[i]) (by omega) (fun e he => k44 e v[i] (by have := hel e he; omega))
      have h20' := k20 i64s (fun _ => rfl) (fun _ => rfl) es 46 [.ref (i64 v[i])] (fun e => e == [v[i]]) (by omega) (fun e he => k46 e v[i] (by have := hel e he; omega))
      rw [show (es.any fun e => e.contains v[i]) = !inAll es v[i] by simp [inAll]] at h20
      rw [show (es.any fun e => e == [v[i]]) = !inSome es v[i] by simp [inSome]] at h20'
      cases ha : inAll es v[i] <;> cases hb : inSome es v[i] <;> rw [ha] at h20 <;> rw [hb] at h20' <;> simp (maxSteps := 4000000) (disch := first | omega | (simp only [List.length_map, List.length_append, List.length_cons, List.length_nil, List.length_set, List.length_take, List.length_range] <;> omega) | fail) [loop17x0, h20, h20', hi, ha, hb]
  rw [KI_list (F := fun17) rfl]
  simp (maxSteps := 4000000) (disch := first | omega | (simp only [List.length_map, List.length_append, List.length_cons, List.length_nil, List.length_set, List.length_take, List.length_range] <;> omega) | (simp; done) | fail) [fun17, body17, h41, lp]
theorem k17_err {v : List Int} {es : List (List Int)} (hv : v.length < 9223372036854775808) (hes : es.length < 9223372036854775808) (hel : ∀ e ∈ es, e.length < 9223372036854775808) (he : errH v es ≠ 0) :
    KI tab 17 [.p (.agg [i64s v, i64ss es])] [] = some (.tup [.own 2000000 [] 0 0 1, .own 2000001 [] 0 0 1, .p (i64 (errH v es))], [], [.vec 1 1 [], .vec 1 1 []]) := by
  have h41 := k41 v es hv hes hel
  rw [KI_list (F := fun17) rfl]
  simp (maxSteps := 4000000) (disch := first | omega | (simp only [List.length_map, List.length_append, List.length_cons, List.length_nil, List.length_set, List.length_take, List.length_range] <;> omega) | (simp; done) | fail) [fun17, body17, h41, he]
end Go.Mid
