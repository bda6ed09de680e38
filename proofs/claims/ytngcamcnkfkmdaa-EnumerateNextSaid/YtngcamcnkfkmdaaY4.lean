/- Small functions: searches, sets of positions. -/
import Derived.Test.YtngcamcnkfkmdaaM7
import Derived.Test.YtngcamcnkfkmdaaY1
namespace Go.Mid
set_option linter.unusedSimpArgs false
set_option linter.unusedVariables false
/-! ### the first element with a property -/
abbrev noneI (o : Option Nat) : Int := match o with | some k => (k : Int) | none => -1
section
variable {β : Type} (enc : β → PV)
theorem k77 (hc : ∀ x, (enc x).cs = 1) (ha : ∀ x, (enc x).isAgg = false) (l : List β) (f : Nat) (cs : List PV) (p : β → Bool) (hl : l.length < 9223372036854775808) (hp : ∀ x ∈ l, KI tab f (.p (enc x) :: cs.map .p) [] = some (.p (.bool (p x)), [], [])) (hf : f < 1000000 := by first | assumption | decide) :
    KI tab 77 [.p (.sl (l.map enc)), .p (.fn f cs)] [] = some (.p (i64 (noneI (idx p l 0))), [], []) := by
  have lp : ∀ σ : St, forget [0,1,7,8] [] σ = stL [(0, .p (.sl (l.map enc))), (1, .p (.fn f cs)), (7, .p (i64 l.length)), (8, .p (i64 0))] [] 2 → runI tab (.loop [0,1,7,8] [] loop77x0) σ = some (match idx p l 0 with | some k => (.ret, stL [(4, .p (i64 k))] [] 2) | none => (.exit 0, stL [] [] 2)) := by
    intro σ hσ
    refine loop_idx l (fun i => stL [(0, .p (.sl (l.map enc))), (1, .p (.fn f cs)), (7, .p (i64 l.length)), (8, .p (i64 i))] [] 2) p (fun i => (.ret, stL [(4, .p (i64 i))] [] 2)) (.exit 0, stL [] [] 2) (by simp) (by simp) ?_ ?_ σ hσ
    · simp (maxSteps := 4000000) (disch := first | omega | (simp only [List.length_map, List.length_append, List.length_cons, List.length_nil, List.length_set, List.length_take, List.length_range] <;> omega) | fail) [loop77x0, hf]
    · intro i hi
      have h := hp l[i] (by simp)
      simp (maxSteps := 4000000) (disch := first | omega | (simp only [List.length_map, List.length_append, List.length_cons, List.length_nil, List.length_set, List.length_take, List.length_range] <;> omega) | fail) [loop77x0, hi, h, hc, ha, hf]
  rw [KI_list (F := fun77) rfl]
  generalize idx p l 0 = o at lp ⊢
  cases o <;> simp (maxSteps := 4000000) (disch := first | omega | (simp only [List.length_map, List.length_append, List.length_cons, List.length_nil, List.length_set, List.length_take, List.length_range] <;> omega) | (simp; done) | fail) [fun77, body77, lp, hf]
theorem k47 (hc : ∀ x, (enc x).cs = 1) (ha : ∀ x, (enc x).isAgg = false) (l : List β) (f : Nat) (cs : List PV) (p : β → Bool) (hl : l.length < 9223372036854775808) (hp : ∀ x ∈ l, KI tab f (.p (enc x) :: cs.map .p) [] = some (.p (.bool (p x)), [], [])) (hf : f < 1000000 := by first | assumption | decide) :
    KI tab 47 [.p (.sl (l.map enc)), .p (.fn f cs)] [] = some (.p (i64 (noneI (idx p l 0))), [], []) := by
  have lp : ∀ σ : St, forget [0,1,7,8] [] σ = stL [(0, .p (.sl (l.map enc))), (1, .p (.fn f cs)), (7, .p (i64 l.length)), (8, .p (i64 0))] [] 2 → runI tab (.loop [0,1,7,8] [] loop47x0) σ = some (match idx p l 0 with | some k => (.ret, stL [(4, .p (i64 k))] [] 2) | none => (.exit 0, stL [] [] 2)) := by
    intro σ hσ
    refine loop_idx l (fun i => stL [(0, .p (.sl (l.map enc))), (1, .p (.fn f cs)), (7, .p (i64 l.length)), (8, .p (i64 i))] [] 2) p (fun i => (.ret, stL [(4, .p (i64 i))] [] 2)) (.exit 0, stL [] [] 2) (by simp) (by simp) ?_ ?_ σ hσ
    · simp (maxSteps := 4000000) (disch := first | omega | (simp only [List.length_map, List.length_append, List.length_cons, List.length_nil, List.length_set, List.length_take, List.length_range] <;> omega) | fail) [loop47x0, hf]
    · intro i hi
      have h := hp l[i] (by simp)
      simp (maxSteps := 4000000) (disch := first | omega | (simp only [List.length_map, List.length_append, List.length_cons, List.length_nil, List.length_set, List.length_take, List.length_range] <;> omega) | fail) [loop47x0, hi, h, hc, ha, hf]
  rw [KI_list (F := fun47) rfl]
  generalize idx p l 0 = o at lp ⊢
  cases o <;> simp (maxSteps := 4000000) (disch := first | omega | (simp only [List.length_map, List.length_append, List.length_cons, List.length_nil, List.length_set, List.length_take, List.length_range] <;> omega) | (simp; done) | fail) [fun47, body47, lp, hf]
theorem idx_ge (p : β → Bool) (l : List β) : decide (noneI (idx p l 0) ≥ 0) = l.any p := by
  rw [← idx_isSome p l 0]
  cases idx p l 0 with
  | none => rfl
  | some k => simp [noneI]
theorem k70 (hc : ∀ x, (enc x).cs = 1) (ha : ∀ x, (enc x).isAgg = false) (l : List β) (f : Nat) (cs : List PV) (p : β → Bool) (hl : l.length < 9223372036854775808) (hp : ∀ x ∈ l, KI tab f (.p (enc x) :: cs.map .p) [] = some (.p (.bool (p x)), [], [])) (hf : f < 1000000 := by first | assumption | decide) :
    KI tab 70 [.p (.sl (l.map enc)), .p (.fn f cs)] [] = some (.p (.bool (l.any p)), [], []) := by
  have h := k77 enc hc ha l f cs p hl hp
  have h2 := idx_ge p l
  rw [KI_list (F := fun70) rfl]
  generalize noneI (idx p l 0) = o at h h2
  rw [← h2]
  simp [fun70, body70, h]
theorem k20 (hc : ∀ x, (enc x).cs = 1) (ha : ∀ x, (enc x).isAgg = false) (l : List β) (f : Nat) (cs : List PV) (p : β → Bool) (hl : l.length < 9223372036854775808) (hp : ∀ x ∈ l, KI tab f (.p (enc x) :: cs.map .p) [] = some (.p (.bool (p x)), [], [])) (hf : f < 1000000 := by first | assumption | decide) :
    KI tab 20 [.p (.sl (l.map enc)), .p (.fn f cs)] [] = some (.p (.bool (l.any p)), [], []) := by
  have h := k47 enc hc ha l f cs p hl hp
  have h2 := idx_ge p l
  rw [KI_list (F := fun20) rfl]
  generalize noneI (idx p l 0) = o at h h2
  rw [← h2]
  simp [fun20, body20, h]
end
/-! ### slices.Index, slices.Contains -/
theorem k64 (l : List Int) (x : Int) (hl : l.length < 9223372036854775808) : KI tab 64 [.p (i64s l), .p (i64 x)] [] = some (.p (i64 (noneI (idx (· == x) l 0))), [], []) := by
  have lp : ∀ σ : St, forget [0,1,7,8] [] σ = stL [(0, .p (i64s l)), (1, .p (i64 x)), (7, .p (i64 l.length)), (8, .p (i64 0))] [] 2 → runI tab (.loop [0,1,7,8] [] loop64x0) σ = some (match idx (· == x) l 0 with | some k => (.ret, stL [(4, .p (i64 k))] [] 2) | none => (.exit 0, stL [] [] 2)) := by
    intro σ hσ
    refine loop_idx l (fun i => stL [(0, .p (i64s l)), (1, .p (i64 x)), (7, .p (i64 l.length)), (8, .p (i64 i))] [] 2) (· == x) (fun i => (.ret, stL [(4, .p (i64 i))] [] 2)) (.exit 0, stL [] [] 2) (by simp) (by simp) ?_ ?_ σ hσ
    · simp (maxSteps := 4000000) (disch := first | omega | (simp only [List.length_map, List.length_append, List.length_cons, List.length_nil, List.length_set, List.length_take, List.length_range] <;> omega) | fail) [loop64x0]
    · intro i hi
      by_cases h : x = l[i]
      · simp (maxSteps := 4000000) (disch := first | omega | (simp only [List.length_map, List.length_append, List.length_cons, List.length_nil, List.length_set, List.length_take, List.length_range] <;> omega) | fail) [loop64x0, hi, h]
      · have h' : ¬ l[i] = x := fun e => h e.symm
        simp (maxSteps := 4000000) (disch := first | omega | (simp only [List.length_map, List.length_append, List.length_cons, List.length_nil, List.length_set, List.length_take, List.length_range] <;> omega) | fail) [loop64x0, hi, h, h']
  rw [KI_list (F := fun64) rfl]
  generalize idx (· == x) l 0 = o at lp ⊢
  cases o <;> simp (maxSteps := 4000000) (disch := first | omega | (simp only [List.length_map, List.length_append, List.length_cons, List.length_nil, List.length_set, List.length_take, List.length_range] <;> omega) | (simp; done) | fail) [fun64, body64, lp]
theorem k45 (l : List Int) (x : Int) (hl : l.length < 9223372036854775808) : KI tab 45 [.p (i64s l), .p (i64 x)] [] = some (.p (.bool (l.contains x)), [], []) := by
  have h := k64 l x hl
  have h2 := idx_ge (· == x) l
  rw [KI_list (F := fun45) rfl]
  have h3 : l.any (· == x) = l.contains x := by apply Bool.eq_iff_iff.2; simp
  generalize noneI (idx (· == x) l 0) = o at h h2
  rw [← h3, ← h2]
  simp [fun45, body45, h]
/-! ### the vertices of a set of positions -/
def idsP (v : List Int) (s : Nat) : List Int := (v.zipIdx.filter fun x => s.testBit x.2).map (·.1)
@[simp] abbrev C43x0 (x1 : Int) (n5 : Nat) (l9 : List Int) (x10 : Int) (x11 : Int) (a5 : List Int) : St := stL [(1, .p (.int .u64 x1)), (5, .own 5 [] 0 n5 1), (9, .p (i64s l9)), (10, .p (i64 x10)), (11, .p (i64 x11))] [(5, .vec 1 1 (tv (a5.map i64)))] 2
theorem k43 (v : List Int) (es : PV) (s : Nat) (hv : v.length ≤ 64) (hs : s < 18446744073709551616) : KI tab 43 [.p (.agg [i64s v, es]), .p (u64 s)] [] = some (retV 1 ((idsP v s).map i64)) := by
  have lp : ∀ σ : St, forget [1, 5, 9, 10, 11] [5, 24] σ = C43x0 s 0 v v.length 0 [] → runI tab (.loop [1, 5, 9, 10, 11] [5, 24] loop43x0) σ = some (.exit 0, stL [(5, .own 5 [] 0 (idsP v s).length 1)] [(5, .vec 1 1 (tv ((idsP v s).map i64)))] 2) := by
    intro σ hσ
    rw [loop_fold v (fun i (out : List Int) => C43x0 s out.length v v.length i out) (fun i x out => if s.testBit i then out ++ [x] else out) (fun out => (.exit 0, stL [(5, .own 5 [] 0 out.length 1)] [(5, .vec 1 1 (tv (out.map i64)))] 2)) (fun i out => out.length ≤ i) (by simp) ?_ ?_ ?_ [] σ (by simp) (by simpa using hσ)]
    · rw [foldI_filter (fun i _ => s.testBit i) (fun _ x => x) _ (fun _ _ _ => rfl)]
      rfl
    · intro a h; simp (maxSteps := 4000000) (disch := first | omega | (simp only [List.length_map, List.length_append, List.length_cons, List.length_nil, List.length_set, List.length_take, List.length_range] <;> omega) | fail) [loop43x0]
    · intro i a hi h
      split
      · simp; omega
      · omega
    · intro i out hi h
      have h2 := shr_le s i
      have h3 := bit_test s i
      cases hb : s.testBit i with
      | true =>
        rw [hb, decide_eq_true_eq] at h3
        simp (disch := first | omega | (simp only [List.length_map, List.length_append, List.length_cons, List.length_nil, IntKind.bits] <;> omega) | fail) [loop43x0, h3, -Int.natCast_shiftRight]
      | false =>
        rw [hb, decide_eq_false_iff_not] at h3
        simp (disch := first | omega | (simp only [List.length_map, List.length_append, List.length_cons, List.length_nil, IntKind.bits] <;> omega) | fail) [loop43x0, h3, -Int.natCast_shiftRight]
  rw [KI_list (F := fun43) rfl]
  simp only [C43x0, i64s, List.length_nil, tv_nil, List.map_nil] at lp
  simp (maxSteps := 4000000) (disch := first | omega | (simp only [List.length_map, List.length_append, List.length_cons, List.length_nil, List.length_set, List.length_take, List.length_range] <;> omega) | (simp; done) | fail) [fun43, body43, lp]
  simp only [retV, List.length_map]
end Go.Mid
/- The walker: tests on sets of positions. -/
namespace Go.Mid
set_option linter.unusedSimpArgs false
set_option linter.unusedVariables false
theorem k71 (e m : Nat) (he : e < 18446744073709551616) (hm : m < 18446744073709551616) : KI tab 71 [.p (u64 e), .p (.ref (u64 m))] [] = some (.p (.bool (inside e m)), [], []) := by
  rw [KI_list (F := fun71) rfl, ← less_zero]
  simp (maxSteps := 4000000) (disch := first | omega | (simp only [List.length_map, List.length_append, List.length_cons, List.length_nil, List.length_set, List.length_take, List.length_range] <;> omega) | fail) [fun71, body71, andNot_u64]
theorem less_lt (a b : Nat) (h : a < 18446744073709551616) : less a b < 18446744073709551616 := Nat.lt_of_le_of_lt (less_le a b) h
theorem or_lt64 (a b : Nat) (ha : a < 18446744073709551616) (hb : b < 18446744073709551616) : a ||| b < 18446744073709551616 := Nat.or_lt_two_pow (n := 64) ha hb
theorem one_lt64 (v : Nat) (h : v < 64) : 1 <<< v < 18446744073709551616 := by
  rw [Nat.one_shiftLeft]; show 2 ^ v < 2 ^ 64; exact Nat.pow_lt_pow_right (by omega) h
theorem k76 (e v a b : Nat) (he : e < 18446744073709551616) (hv : v < 64) (ha : a < 18446744073709551616) (hb : b < 18446744073709551616) :
    KI tab 76 [.p (u64 e), .p (.ref (i64 v)), .p (.ref (u64 a)), .p (.ref (u64 b))] [] = some (.p (.bool (e.testBit v && inside (less e (1 <<< v)) (a ||| b))), [], []) := by
  have h2 := shr_le e v
  have h3 := bit_test e v
  have h4 := less_lt e (1 <<< v) he
  have h5 := or_lt64 a b ha hb
  have h6 := one_lt64 v hv
  have h7 := less_zero (less e (1 <<< v)) (a ||| b)
  rw [KI_list (F := fun76) rfl]
  cases hb : e.testBit v with
  | true =>
    rw [hb, decide_eq_true_eq] at h3
    rw [← h7]
    simp (disch := first | omega | (simp only [IntKind.bits] <;> omega) | fail) [fun76, body76, h3, -Int.natCast_shiftRight, -Int.natCast_shiftLeft, shl1_u64, andNot_u64, or_u64, -Int.natCast_eq_zero]
  | false =>
    rw [hb, decide_eq_false_iff_not] at h3
    simp (disch := first | omega | (simp only [IntKind.bits] <;> omega) | fail) [fun76, body76, h3, -Int.natCast_shiftRight]
theorem k69 (n : Int) (E : List Nat) (fv : PV) (v a b : Nat) (hE : ∀ e ∈ E, e < 18446744073709551616) (hl : E.length < 9223372036854775808) (hv : v < 64) (ha : a < 18446744073709551616) (hb : b < 18446744073709551616) :
    KI tab 69 [.p (.agg [i64 n, u64s E, fv]), .p (i64 v), .p (u64 a), .p (u64 b)] [] = some (.p (.bool (blockedB E v (a ||| b))), [], []) := by
  have h := k70 u64 (fun _ => rfl) (fun _ => rfl) E 76 [.ref (i64 v), .ref (u64 a), .ref (u64 b)] (fun e => e.testBit v && inside (less e (1 <<< v)) (a ||| b)) hl (fun e he => k76 e v a b (hE e he) hv ha hb)
  rw [KI_list (F := fun69) rfl, blockedB]
  simp (maxSteps := 4000000) (disch := first | omega | (simp only [List.length_map, List.length_append, List.length_cons, List.length_nil, List.length_set, List.length_take, List.length_range] <;> omega) | fail) [fun69, body69, h]
end Go.Mid
/- The walk over the sets, with a closure that sees each of them. -/
namespace Go.Mid
set_option linter.unusedSimpArgs false
set_option linter.unusedVariables false
section
variable {σ : Type} (see : Nat → σ → Bool × σ) (ok : Nat → σ → Prop)
def walkS : List Nat → σ → Bool × σ
  | [], x => (true, x)
  | s :: r, x => if (see s x).1 then walkS r (see s x).2 else (false, (see s x).2)
def seeOk : List Nat → σ → Prop
  | [], _ => True
  | s :: r, x => ok s x ∧ ((see s x).1 = true → seeOk r (see s x).2)
theorem walkS_append : ∀ (a b : List Nat) (x : σ), walkS see (a ++ b) x = if (walkS see a x).1 then walkS see b (walkS see a x).2 else walkS see a x
  | [], b, x => rfl
  | s :: r, b, x => by
    simp only [List.cons_append, walkS]
    split
    · exact walkS_append r b _
    · rfl
theorem seeOk_append : ∀ (a b : List Nat) (x : σ), seeOk see ok (a ++ b) x → seeOk see ok a x ∧ ((walkS see a x).1 = true → seeOk see ok b (walkS see a x).2)
  | [], b, x, h => ⟨trivial, fun _ => h⟩
  | s :: r, b, x, h => by
    simp only [List.cons_append, seeOk] at h
    simp only [seeOk, walkS]
    by_cases hs : (see s x).1 = true
    · have := seeOk_append r b _ (h.2 hs)
      simp only [hs, if_true]
      exact ⟨⟨h.1, fun _ => this.1⟩, this.2⟩
    · simp only [hs, if_false, Bool.false_eq_true]
      exact ⟨⟨h.1, fun h => h.elim⟩, fun h => h.elim⟩
end
def ones (n : Nat) : Nat := 2 ^ n - 1
@[simp 1200] theorem sub1_u64 (n : Nat) (h : n < 64) : binP .sub (.int .u64 ((1 <<< n : Nat) : Int)) (.int .u64 1) = some (.int .u64 ((ones n : Nat) : Int)) := by
  have h2 : (2 : Nat) ^ n < 2 ^ 64 := Nat.pow_lt_pow_right (by omega) h
  have h3 : 0 < (2 : Nat) ^ n := Nat.two_pow_pos n
  rw [Nat.one_shiftLeft, sub_d, ones]
  generalize 2 ^ n = q at h2 h3 ⊢
  rw [IntWalk.u64_in _ ⟨by omega, by omega⟩]
  congr 2
  omega
theorem ones_lt (n : Nat) (h : n < 64) : ones n < 18446744073709551616 := by
  have h2 : (2 : Nat) ^ n < 2 ^ 64 := Nat.pow_lt_pow_right (by omega) h
  unfold ones; omega
theorem later_ones (v n : Nat) (hv : v ≤ n) (hn : n < 64) : later (64 - v) v &&& ones n = later (n - v) v := later_code v n hv hn
/-! ### places in a list, sets of places -/
def posOf (v : List Int) (y : Int) : Nat := (idx (· == y) v 0).getD 0
theorem posOf_lt {v : List Int} {y : Int} (h : y ∈ v) : posOf v y < v.length := by
  have h2 := idx_isSome (· == y) v 0
  have h3 : v.any (· == y) = true := by simp [h]
  rw [h3] at h2
  unfold posOf
  cases hk : idx (· == y) v 0 with
  | none => rw [hk] at h2; cases h2
  | some k => have := idx_some hk; simp; omega
theorem posOf_eq {v : List Int} {y : Int} (h : y ∈ v) : noneI (idx (· == y) v 0) = (posOf v y : Int) := by
  have h2 := idx_isSome (· == y) v 0
  have h3 : v.any (· == y) = true := by simp [h]
  rw [h3] at h2
  unfold posOf
  cases hk : idx (· == y) v 0 with
  | none => rw [hk] at h2; cases h2
  | some k => rfl
def bitsFrom (v : List Int) (b : Nat) (e : List Int) : Nat := e.foldl (fun b y => b ||| 1 <<< posOf v y) b
def bitsOf (v : List Int) (e : List Int) : Nat := bitsFrom v 0 e
theorem foldI_bits (v : List Int) : ∀ (e : List Int) (i b : Nat), foldI (fun _ y b => b ||| 1 <<< posOf v y) e i b = bitsFrom v b e
  | [], _, _ => rfl
  | y :: e, i, b => by simp only [foldI, bitsFrom, List.foldl_cons]; exact foldI_bits v e (i + 1) _
/-! ### a place that holds nothing yet, or a list -/
def tB (x : Option (List Int)) (s : Nat) : T Nat := match x with | none => .vec s 1 [] 0 | some l => .p (i64s l)
def enB (x : Option (List Int)) : PV := i64s (x.getD [])
def mgB (ck : Nat → Nat → Nat) (rs : Nat → Nat) (x y : Option (List Int)) (a b : Nat) : Nat := match x, y with | none, none => ck a b | _, _ => rs b
section
variable (x y : Option (List Int)) (s a b : Nat)
@[simp] theorem refsT_tB : refsT (tB x s) = [] := by cases x <;> rfl
@[simp] theorem mapT_tB (φ : MV → MV) (ζ : Nat → Nat) : mapT φ ζ (tB x s) = tB x (ζ s) := by cases x <;> rfl
@[simp] theorem pureT_tB : pureT (tB x s) = some (enB x) := by cases x <;> rfl
@[simp] theorem cs_tB : (tB x s).cs = 1 := by cases x <;> rfl
@[simp] theorem cs_enB : (enB x).cs = 1 := rfl
@[simp] theorem isAgg_enB : (enB x).isAgg = false := rfl
@[simp] theorem mergeT_tB (ck : Nat → Nat → Nat) (rs : Nat → Nat) : mergeT ck rs (tB x a) (tB y b) = tB y (mgB ck rs x y a b) := by cases x <;> cases y <;> rfl
end
end Go.Mid
/- The walk with one closure. -/
namespace Go.Mid
set_option linter.unusedSimpArgs false
set_option linter.unusedVariables false
def exA (x : List Nat) (s : Nat) (c : PV) : List (Obj Nat) := [.cell 0 (.vec s 1 (tv (x.map u64)) x.length), .cell 0 (.p c)]
def okA (c : PV) (see : Nat → List Nat → Bool × List Nat) (s : Nat) (x : List Nat) : Prop :=
  ∃ q, KI tab 67 [.p (u64 s), .ptr 1000000 none [] 0 0, .ptr 1000001 none [] 0 0] (exA x 0 c) = some (.p (.bool (see s x).1), exA (see s x).2 q c, [])
abbrev wkA (n : Nat) (E : List Nat) : MV := .agg [.p (i64 n), .p (u64s E), .fn 67 [.ptr 1000000 none [] 0 0, .ptr 1000001 none [] 0 0]]
set_option maxHeartbeats 1000000 in
theorem l55A (c : PV) (x : List Nat) (n v inn out lat : Nat) (E : List Nat) (hE : ∀ e ∈ E, e < 18446744073709551616) (hl : E.length < 9223372036854775808) (hv : v ≤ 63) (hi : inn < 18446744073709551616) (ho : out < 18446744073709551616) (ha : lat < 18446744073709551616)
    (σ : St) (hσ : forget [1, 2, 3, 4, 9, 19, 20] [4] σ = stL [(1, .p (i64 v)), (2, .p (u64 inn)), (3, .p (u64 out)), (4, .ptr 4 none [] 1 0), (9, .p (u64 lat)), (19, .p (i64 v)), (20, .p (i64 0))] [(1000000, .cell 0 (.vec 0 1 (tv (x.map u64)) x.length)), (1000001, .cell 0 (.p c)), (4, .cell 1 (.agg [.p (i64 n), .p (u64s E), .m (.fn 67 [.ptr 1000000 none [] 0 0, .ptr 1000001 none [] 0 0])]))] 2) :
    runI tab (.loop [1, 2, 3, 4, 9, 19, 20] [4] loop55x0) σ = some (if ((List.range v).any fun u => out.testBit u && !blockedB E u (inn ||| lat)) then (.ret, stL [(8, .p (.bool true))] [(1000000, .cell 0 (.vec 0 1 (tv (x.map u64)) x.length)), (1000001, .cell 0 (.p c))] 2)
      else (.exit 0, stL [(1, .p (i64 v)), (2, .p (u64 inn)), (3, .p (u64 out)), (4, .ptr 4 none [] 1 0)] [(1000000, .cell 0 (.vec 0 1 (tv (x.map u64)) x.length)), (1000001, .cell 0 (.p c)), (4, .cell 1 (.agg [.p (i64 n), .p (u64s E), .m (.fn 67 [.ptr 1000000 none [] 0 0, .ptr 1000001 none [] 0 0])]))] 2)) := by
  refine loop_any (List.range v) (fun u => stL [(1, .p (i64 v)), (2, .p (u64 inn)), (3, .p (u64 out)), (4, .ptr 4 none [] 1 0), (9, .p (u64 lat)), (19, .p (i64 v)), (20, .p (i64 u))] [(1000000, .cell 0 (.vec 0 1 (tv (x.map u64)) x.length)), (1000001, .cell 0 (.p c)), (4, .cell 1 (.agg [.p (i64 n), .p (u64s E), .m (.fn 67 [.ptr 1000000 none [] 0 0, .ptr 1000001 none [] 0 0])]))] 2) _ _ _ (by simp) (by simp) ?_ ?_ σ hσ
  · simp (maxSteps := 4000000) (disch := first | omega | (simp only [List.length_map, List.length_append, List.length_cons, List.length_nil, List.length_set, List.length_take, List.length_range] <;> omega) | fail) [loop55x0]
  · intro u hu
    have hu' : u < v := by simpa using hu
    have h2 := shr_le out u
    have h3 := bit_test out u
    have h69 := k69 n E (.fn 67 [.ref (.sl (x.map u64)), .ref c]) u inn lat hE hl (by omega) hi ha
    cases hb : out.testBit u with
    | true =>
      rw [hb, decide_eq_true_eq] at h3
      cases hk : blockedB E u (inn ||| lat) with
      | true =>
        rw [hk] at h69
        simp (disch := first | omega | (simp only [IntKind.bits, List.length_map] <;> omega) | fail) [loop55x0, h3, -Int.natCast_shiftRight, h69, hb, hk]
      | false =>
        rw [hk] at h69
        simp (disch := first | omega | (simp only [IntKind.bits, List.length_map] <;> omega) | fail) [loop55x0, h3, -Int.natCast_shiftRight, h69, hb, hk]
    | false =>
      rw [hb, decide_eq_false_iff_not] at h3
      simp (disch := first | omega | (simp only [IntKind.bits, List.length_map] <;> omega) | fail) [loop55x0, h3, -Int.natCast_shiftRight, hb]
set_option maxHeartbeats 4000000 in
theorem k55A (c : PV) (see : Nat → List Nat → Bool × List Nat) (n : Nat) (E : List Nat) (hE : ∀ e ∈ E, e < 18446744073709551616) (hl : E.length < 9223372036854775808) (hn : n ≤ 63) :
    ∀ (k v inn out : Nat) (x : List Nat), n = v + k → inn < 2 ^ v → out < 2 ^ v → seeOk see (okA c see) (walkL E k v inn out) x →
      ∃ q, KI tab 55 [wkA n E, .p (i64 v), .p (u64 inn), .p (u64 out)] (exA x 0 c) = some (.p (.bool (walkS see (walkL E k v inn out) x).1), exA (walkS see (walkL E k v inn out) x).2 q c, []) := by
  intro k
  induction k with
  | zero =>
    intro v inn out x hv hi ho hs
    have hv : n = v := by omega
    subst hv
    have p64 : (2 : Nat) ^ n ≤ 2 ^ 63 := Nat.pow_le_pow_right (by omega) (by omega)
    have lp := l55A c x n n inn out (later 0 n) E hE hl (by omega) (by omega) (by omega) (later_lt 0 n (by omega))
    have hcode := later_ones n n (by omega) (by omega)
    have b1 := later_lt (64 - n) n (by omega)
    have b2 := ones_lt n (by omega)
    rw [show n - n = 0 by omega] at hcode
    have hcut : ((List.range n).any fun u => out.testBit u && !blockedB E u (inn ||| later 0 n)) = cutB E 0 n inn out := rfl
    rw [hcut] at lp
    rw [KI_listE (F := fun55) rfl]
    cases hc : cutB E 0 n inn out with
    | true =>
      refine ⟨0, ?_⟩
      simp only [walkL, hc, walkS, if_true, wkA, exA]
      simp (maxSteps := 4000000) (disch := first | omega | (simp only [List.length_map, List.length_append, List.length_cons, List.length_nil, List.length_set, List.length_take, List.length_range] <;> omega) | (simp; done) | fail) [fun55, body55, lp, shl1_u64, shlm_u64, and_u64, hcode, hc, -Int.natCast_shiftLeft]
    | false =>
      simp only [walkL, hc, Bool.false_eq_true, if_false, seeOk, and_true, okA] at hs
      obtain ⟨⟨q, hq⟩, _⟩ := hs
      have hw : walkS see (walkL E 0 n inn out) x = see inn x := by
        simp only [walkL, hc, walkS, Bool.false_eq_true, if_false]
        split
        · rename_i h; rw [← h]
        · rename_i h; rw [← (by simpa using h : (see inn x).1 = false)]
      rw [hw]
      generalize see inn x = r at hq ⊢
      obtain ⟨b, y⟩ := r
      simp only [exA] at hq
      refine ⟨?w1, ?h1⟩
      case h1 =>
        simp only [wkA, exA]
        simp (maxSteps := 4000000) (disch := first | omega | (simp only [List.length_map, List.length_append, List.length_cons, List.length_nil, List.length_set, List.length_take, List.length_range] <;> omega) | (simp; done) | fail) [fun55, body55, lp, shl1_u64, shlm_u64, and_u64, hcode, hc, -Int.natCast_shiftLeft, hq]
        rfl
  | succ k ih =>
    intro v inn out x hv hi ho hs
    have p64 : (2 : Nat) ^ v ≤ 2 ^ 62 := Nat.pow_le_pow_right (by omega) (by omega)
    have pv : (2 : Nat) ^ (v + 1) = 2 ^ v + 2 ^ v := by rw [Nat.pow_succ]; omega
    have lp := l55A c x n v inn out (later (k + 1) v) E hE hl (by omega) (by omega) (by omega) (later_lt (k + 1) v (by omega))
    have hcode := later_ones v n (by omega) (by omega)
    have b1 := later_lt (64 - v) v (by omega)
    have b2 := ones_lt n (by omega)
    have b3 := one_lt64 v (by omega)
    have m1 : inn ||| 1 <<< v < 2 ^ (v + 1) := by
      refine Nat.or_lt_two_pow (by omega) ?_
      rw [Nat.one_shiftLeft]; exact Nat.pow_lt_pow_right (by omega) (by omega)
    have m2 : out ||| 1 <<< v < 2 ^ (v + 1) := by
      refine Nat.or_lt_two_pow (by omega) ?_
      rw [Nat.one_shiftLeft]; exact Nat.pow_lt_pow_right (by omega) (by omega)
    rw [show n - v = k + 1 by omega] at hcode
    have hcut : ((List.range v).any fun u => out.testBit u && !blockedB E u (inn ||| later (k + 1) v)) = cutB E (k + 1) v inn out := rfl
    rw [hcut] at lp
    have h70 := k70 u64 (fun _ => rfl) (fun _ => rfl) E 71 [.ref (u64 (inn ||| 1 <<< v))] (fun e => inside e (inn ||| 1 <<< v)) hl (fun e he => k71 e (inn ||| 1 <<< v) (hE e he) (by omega))
    have hed : (E.any fun e => inside e (inn ||| 1 <<< v)) = edgeIn E (inn ||| 1 <<< v) := rfl
    rw [hed] at h70
    have hnv : ¬ (v : Int) = (n : Int) := by omega
    rw [KI_listE (F := fun55) rfl]
    cases hc : cutB E (k + 1) v inn out with
    | true =>
      refine ⟨0, ?_⟩
      simp only [walkL, hc, walkS, if_true, wkA, exA]
      simp (maxSteps := 4000000) (disch := first | omega | (simp only [List.length_map, List.length_append, List.length_cons, List.length_nil, List.length_set, List.length_take, List.length_range] <;> omega) | (simp; done) | fail) [fun55, body55, lp, shl1_u64, shlm_u64, and_u64, hcode, hc, -Int.natCast_shiftLeft]
    | false =>
      simp only [walkL, hc, Bool.false_eq_true, if_false] at hs ⊢
      cases he : edgeIn E (inn ||| 1 <<< v) with
      | true =>
        simp only [he, if_true, List.nil_append] at hs ⊢
        obtain ⟨q, hq⟩ := ih (v + 1) inn (out ||| 1 <<< v) x (by omega) (by omega) m2 hs
        rw [he] at h70
        generalize walkS see (walkL E k (v + 1) inn (out ||| 1 <<< v)) x = r at hq ⊢
        obtain ⟨b, y⟩ := r
        simp only [exA, wkA, Int.natCast_add, Int.natCast_one] at hq
        refine ⟨?w2, ?h2⟩
        case h2 =>
          simp only [wkA, exA]
          simp (maxSteps := 4000000) (disch := first | omega | (simp only [List.length_map, List.length_append, List.length_cons, List.length_nil, List.length_set, List.length_take, List.length_range] <;> omega) | (simp; done) | fail) [fun55, body55, lp, shl1_u64, shlm_u64, and_u64, or_u64, hcode, hc, -Int.natCast_shiftLeft, hq, hnv, h70]
          rfl
      | false =>
        simp only [he, Bool.false_eq_true, if_false] at hs ⊢
        obtain ⟨hs1, hs2⟩ := seeOk_append see (okA c see) _ _ _ hs
        obtain ⟨q, hq⟩ := ih (v + 1) (inn ||| 1 <<< v) out x (by omega) m1 (by omega) hs1
        rw [walkS_append]
        rw [he] at h70
        generalize walkS see (walkL E k (v + 1) (inn ||| 1 <<< v) out) x = r at hq hs2 ⊢
        obtain ⟨b, y⟩ := r
        cases b with
        | false =>
          simp only [exA, wkA, Int.natCast_add, Int.natCast_one] at hq
          refine ⟨?w3, ?h3⟩
          case h3 =>
            simp only [wkA, exA, Bool.false_eq_true, if_false]
            simp (maxSteps := 4000000) (disch := first | omega | (simp only [List.length_map, List.length_append, List.length_cons, List.length_nil, List.length_set, List.length_take, List.length_range] <;> omega) | (simp; done) | fail) [fun55, body55, lp, shl1_u64, shlm_u64, and_u64, or_u64, hcode, hc, -Int.natCast_shiftLeft, hq, hnv, h70]
            rfl
        | true =>
          obtain ⟨q2, hq2⟩ := ih (v + 1) inn (out ||| 1 <<< v) y (by omega) (by omega) m2 (hs2 rfl)
          generalize walkS see (walkL E k (v + 1) inn (out ||| 1 <<< v)) y = r2 at hq2 ⊢
          obtain ⟨b2, y2⟩ := r2
          simp only [exA, wkA, Int.natCast_add, Int.natCast_one] at hq hq2
          refine ⟨?w4, ?h4⟩
          case h4 =>
            simp only [wkA, exA, if_true]
            simp (maxSteps := 4000000) (disch := first | omega | (simp only [List.length_map, List.length_append, List.length_cons, List.length_nil, List.length_set, List.length_take, List.length_range] <;> omega) | (simp; done) | fail) [fun55, body55, lp, shl1_u64, shlm_u64, and_u64, or_u64, hcode, hc, -Int.natCast_shiftLeft, hq, hq2, hnv, h70]
            rfl
theorem l52x1A (c : PV) (x : List Nat) (v : List Int) (es : List (List Int)) (B : List Nat) (i b0 : Nat) (e : List Int) (hv : v.length ≤ 63) (he : ∀ y ∈ e, y ∈ v) (hel : e.length < 9223372036854775808) (hb0 : b0 < 18446744073709551616)
    (σ : St) (hσ : forget [2, 4, 5, 8, 17, 18, 19, 23, 24, 25] [2, 4, 5] σ = stL [(2, .ptr 2 none [] 1 0), (4, .ptr 4 none [] 1 0), (5, .ptr 5 none [] 1 0), (8, .p (.int .u64 (b0 : Int))), (17, .p (i64ss es)), (18, .p (i64 es.length)), (19, .p (i64 i)), (23, .p (i64s e)), (24, .p (i64 e.length)), (25, .p (i64 0))]
      [(1000000, .cell 0 (.vec 0 1 (tv (x.map u64)) x.length)), (1000001, .cell 0 (.p c)), (2, .cell 1 (.p (.agg [i64s v, i64ss es]))), (4, .cell 1 (.agg [.p (i64 0), .vec 1 1 [] 0, .p .nilf])), (5, .cell 1 (.agg [.p (i64 v.length), .vec 1 1 (tv (B.map u64)) B.length, .m (.fn 67 [.ptr 1000000 none [] 0 0, .ptr 1000001 none [] 0 0])]))] 2) :
    runI tab (.loop [2, 4, 5, 8, 17, 18, 19, 23, 24, 25] [2, 4, 5] loop52x1) σ = some (.exit 2, stL [(2, .ptr 2 none [] 1 0), (4, .ptr 4 none [] 1 0), (5, .ptr 5 none [] 1 0), (8, .p (u64 (bitsFrom v b0 e))), (17, .p (i64ss es)), (18, .p (i64 es.length)), (19, .p (i64 i))]
      [(1000000, .cell 0 (.vec 0 1 (tv (x.map u64)) x.length)), (1000001, .cell 0 (.p c)), (2, .cell 1 (.p (.agg [i64s v, i64ss es]))), (4, .cell 1 (.agg [.p (i64 0), .vec 1 1 [] 0, .p .nilf])), (5, .cell 1 (.agg [.p (i64 v.length), .vec 1 1 (tv (B.map u64)) B.length, .m (.fn 67 [.ptr 1000000 none [] 0 0, .ptr 1000001 none [] 0 0])]))] 2) := by
  rw [loop_fold e (fun k (b : Nat) => stL [(2, .ptr 2 none [] 1 0), (4, .ptr 4 none [] 1 0), (5, .ptr 5 none [] 1 0), (8, .p (.int .u64 (b : Int))), (17, .p (i64ss es)), (18, .p (i64 es.length)), (19, .p (i64 i)), (23, .p (i64s e)), (24, .p (i64 e.length)), (25, .p (i64 k))]
      [(1000000, .cell 0 (.vec 0 1 (tv (x.map u64)) x.length)), (1000001, .cell 0 (.p c)), (2, .cell 1 (.p (.agg [i64s v, i64ss es]))), (4, .cell 1 (.agg [.p (i64 0), .vec 1 1 [] 0, .p .nilf])), (5, .cell 1 (.agg [.p (i64 v.length), .vec 1 1 (tv (B.map u64)) B.length, .m (.fn 67 [.ptr 1000000 none [] 0 0, .ptr 1000001 none [] 0 0])]))] 2)
    (fun _ y b => b ||| 1 <<< posOf v y) (fun (b : Nat) => (.exit 2, stL [(2, .ptr 2 none [] 1 0), (4, .ptr 4 none [] 1 0), (5, .ptr 5 none [] 1 0), (8, .p (.int .u64 (b : Int))), (17, .p (i64ss es)), (18, .p (i64 es.length)), (19, .p (i64 i))]
      [(1000000, .cell 0 (.vec 0 1 (tv (x.map u64)) x.length)), (1000001, .cell 0 (.p c)), (2, .cell 1 (.p (.agg [i64s v, i64ss es]))), (4, .cell 1 (.agg [.p (i64 0), .vec 1 1 [] 0, .p .nilf])), (5, .cell 1 (.agg [.p (i64 v.length), .vec 1 1 (tv (B.map u64)) B.length, .m (.fn 67 [.ptr 1000000 none [] 0 0, .ptr 1000001 none [] 0 0])]))] 2)) (fun _ (b : Nat) => b < 18446744073709551616) (by simp) ?_ ?_ ?_ b0 σ hb0 hσ]
  · rw [foldI_bits]
  · intro b hb; simp (maxSteps := 4000000) (disch := first | omega | (simp only [List.length_map, List.length_append, List.length_cons, List.length_nil, List.length_set, List.length_take, List.length_range] <;> omega) | fail) [loop52x1]
  · intro k b hk hb
    exact or_lt64 _ _ hb (one_lt64 _ (Nat.lt_of_lt_of_le (posOf_lt (he e[k] (by simp))) hv |> (Nat.lt_succ_of_lt ·)))
  · intro k b hk hb
    have h64 := k64 v e[k] (by omega)
    rw [posOf_eq (he e[k] (by simp))] at h64
    have hp := posOf_lt (he e[k] (by simp))
    have h1 := one_lt64 (posOf v e[k]) (by omega)
    simp (maxSteps := 4000000) (disch := first | omega | (simp only [List.length_map, List.length_append, List.length_cons, List.length_nil, List.length_set, List.length_take, List.length_range] <;> omega) | fail) [loop52x1, h64, shl1_u64, or_u64, -Int.natCast_shiftLeft]
set_option maxHeartbeats 1000000 in
theorem k52A (c : PV) (x : List Nat) (v : List Int) (es : List (List Int)) (hv : v.length ≤ 63) (he : ∀ e ∈ es, ∀ y ∈ e, y ∈ v) (hel : ∀ e ∈ es, e.length < 9223372036854775808) (hes : es.length ≤ 1000000) :
    KI tab 52 [.p (.agg [i64s v, i64ss es]), .fn 67 [.ptr 1000000 none [] 0 0, .ptr 1000001 none [] 0 0]] (exA x 0 c) = some (wkA v.length (es.map (bitsOf v)), exA x 0 c, []) := by
  have lp : ∀ σ : St, forget [2, 4, 5, 17, 18, 19] [2, 4, 5] σ = stL [(2, .ptr 2 none [] 1 0), (4, .ptr 4 none [] 1 0), (5, .ptr 5 none [] 1 0), (17, .p (i64ss es)), (18, .p (i64 es.length)), (19, .p (i64 0))]
      [(1000000, .cell 0 (.vec 0 1 (tv (x.map u64)) x.length)), (1000001, .cell 0 (.p c)), (2, .cell 1 (.p (.agg [i64s v, i64ss es]))), (4, .cell 1 (.agg [.p (i64 0), .vec 1 1 [] 0, .p .nilf])), (5, .cell 1 (.agg [.p (i64 v.length), .vec 1 1 [] 0, .m (.fn 67 [.ptr 1000000 none [] 0 0, .ptr 1000001 none [] 0 0])]))] 2 →
    runI tab (.loop [2, 4, 5, 17, 18, 19] [2, 4, 5] loop52x0) σ = some (.exit 0, stL [(4, .ptr 4 none [] 1 0), (5, .ptr 5 none [] 1 0)]
      [(1000000, .cell 0 (.vec 0 1 (tv (x.map u64)) x.length)), (1000001, .cell 0 (.p c)), (4, .cell 1 (.agg [.p (i64 0), .vec 1 1 [] 0, .p .nilf])), (5, .cell 1 (.agg [.p (i64 v.length), .vec 1 1 (tv ((es.map (bitsOf v)).map u64)) (es.map (bitsOf v)).length, .m (.fn 67 [.ptr 1000000 none [] 0 0, .ptr 1000001 none [] 0 0])]))] 2) := by
    intro σ hσ
    rw [loop_fold es (fun i (B : List Nat) => stL [(2, .ptr 2 none [] 1 0), (4, .ptr 4 none [] 1 0), (5, .ptr 5 none [] 1 0), (17, .p (i64ss es)), (18, .p (i64 es.length)), (19, .p (i64 i))]
      [(1000000, .cell 0 (.vec 0 1 (tv (x.map u64)) x.length)), (1000001, .cell 0 (.p c)), (2, .cell 1 (.p (.agg [i64s v, i64ss es]))), (4, .cell 1 (.agg [.p (i64 0), .vec 1 1 [] 0, .p .nilf])), (5, .cell 1 (.agg [.p (i64 v.length), .vec 1 1 (tv (B.map u64)) B.length, .m (.fn 67 [.ptr 1000000 none [] 0 0, .ptr 1000001 none [] 0 0])]))] 2)
      (fun _ e B => B ++ [bitsOf v e]) (fun B => (.exit 0, stL [(4, .ptr 4 none [] 1 0), (5, .ptr 5 none [] 1 0)]
      [(1000000, .cell 0 (.vec 0 1 (tv (x.map u64)) x.length)), (1000001, .cell 0 (.p c)), (4, .cell 1 (.agg [.p (i64 0), .vec 1 1 [] 0, .p .nilf])), (5, .cell 1 (.agg [.p (i64 v.length), .vec 1 1 (tv (B.map u64)) B.length, .m (.fn 67 [.ptr 1000000 none [] 0 0, .ptr 1000001 none [] 0 0])]))] 2)) (fun i B => B.length = i) (by simp) ?_ ?_ ?_ [] σ rfl (by simpa using hσ)]
    · rw [foldI_map (bitsOf v) _ (fun _ _ _ => rfl)]
      rfl
    · intro B hB; simp (maxSteps := 4000000) (disch := first | omega | (simp only [List.length_map, List.length_append, List.length_cons, List.length_nil, List.length_set, List.length_take, List.length_range] <;> omega) | fail) [loop52x0]
    · intro i B hi hB; simp [hB]
    · intro i B hi hB
      have lp1 := l52x1A c x v es B i 0 es[i] hv (he _ (by simp)) (hel _ (by simp)) (by omega)
      have e1 : bitsFrom v 0 es[i] = bitsOf v es[i] := rfl
      rw [e1] at lp1
      simp (maxSteps := 4000000) (disch := first | omega | (simp only [List.length_map, List.length_append, List.length_cons, List.length_nil, List.length_set, List.length_take, List.length_range] <;> omega) | (simp; done) | fail) [loop52x0, lp1]
  rw [KI_listE (F := fun52) rfl]
  simp (maxSteps := 4000000) (disch := first | omega | (simp only [List.length_map, List.length_append, List.length_cons, List.length_nil, List.length_set, List.length_take, List.length_range] <;> omega) | (simp; done) | fail) [fun52, body52, lp, exA, wkA]
end Go.Mid
/- The walk with one closure. -/
namespace Go.Mid
set_option linter.unusedSimpArgs false
set_option linter.unusedVariables false
def exF (x : Option (List Int)) (s : Nat) (c : PV) : List (Obj Nat) := [.cell 0 (.p c), .cell 0 (tB x s)]
def okF (c : PV) (see : Nat → Option (List Int) → Bool × Option (List Int)) (s : Nat) (x : Option (List Int)) : Prop :=
  ∃ q, KI tab 57 [.p (u64 s), .ptr 1000000 none [] 0 0, .ptr 1000001 none [] 0 0] (exF x 0 c) = some (.p (.bool (see s x).1), exF (see s x).2 q c, [])
abbrev wkF (n : Nat) (E : List Nat) : MV := .agg [.p (i64 n), .p (u64s E), .fn 57 [.ptr 1000000 none [] 0 0, .ptr 1000001 none [] 0 0]]
set_option maxHeartbeats 1000000 in
theorem l55F (c : PV) (x : Option (List Int)) (n v inn out lat : Nat) (E : List Nat) (hE : ∀ e ∈ E, e < 18446744073709551616) (hl : E.length < 9223372036854775808) (hv : v ≤ 63) (hi : inn < 18446744073709551616) (ho : out < 18446744073709551616) (ha : lat < 18446744073709551616)
    (σ : St) (hσ : forget [1, 2, 3, 4, 9, 19, 20] [4] σ = stL [(1, .p (i64 v)), (2, .p (u64 inn)), (3, .p (u64 out)), (4, .ptr 4 none [] 1 0), (9, .p (u64 lat)), (19, .p (i64 v)), (20, .p (i64 0))] [(1000000, .cell 0 (.p c)), (1000001, .cell 0 (tB x 0)), (4, .cell 1 (.agg [.p (i64 n), .p (u64s E), .m (.fn 57 [.ptr 1000000 none [] 0 0, .ptr 1000001 none [] 0 0])]))] 2) :
    runI tab (.loop [1, 2, 3, 4, 9, 19, 20] [4] loop55x0) σ = some (if ((List.range v).any fun u => out.testBit u && !blockedB E u (inn ||| lat)) then (.ret, stL [(8, .p (.bool true))] [(1000000, .cell 0 (.p c)), (1000001, .cell 0 (tB x 0))] 2)
      else (.exit 0, stL [(1, .p (i64 v)), (2, .p (u64 inn)), (3, .p (u64 out)), (4, .ptr 4 none [] 1 0)] [(1000000, .cell 0 (.p c)), (1000001, .cell 0 (tB x 0)), (4, .cell 1 (.agg [.p (i64 n), .p (u64s E), .m (.fn 57 [.ptr 1000000 none [] 0 0, .ptr 1000001 none [] 0 0])]))] 2)) := by
  refine loop_any (List.range v) (fun u => stL [(1, .p (i64 v)), (2, .p (u64 inn)), (3, .p (u64 out)), (4, .ptr 4 none [] 1 0), (9, .p (u64 lat)), (19, .p (i64 v)), (20, .p (i64 u))] [(1000000, .cell 0 (.p c)), (1000001, .cell 0 (tB x 0)), (4, .cell 1 (.agg [.p (i64 n), .p (u64s E), .m (.fn 57 [.ptr 1000000 none [] 0 0, .ptr 1000001 none [] 0 0])]))] 2) _ _ _ (by simp) (by simp) ?_ ?_ σ hσ
  · simp (maxSteps := 4000000) (disch := first | omega | (simp only [List.length_map, List.length_append, List.length_cons, List.length_nil, List.length_set, List.length_take, List.length_range] <;> omega) | fail) [loop55x0]
  · intro u hu
    have hu' : u < v := by simpa using hu
    have h2 := shr_le out u
    have h3 := bit_test out u
    have h69 := k69 n E (.fn 57 [.ref c, .ref (enB x)]) u inn lat hE hl (by omega) hi ha
    cases hb : out.testBit u with
    | true =>
      rw [hb, decide_eq_true_eq] at h3
      cases hk : blockedB E u (inn ||| lat) with
      | true =>
        rw [hk] at h69
        simp (disch := first | omega | (simp only [IntKind.bits, List.length_map] <;> omega) | fail) [loop55x0, h3, -Int.natCast_shiftRight, h69, hb, hk]
      | false =>
        rw [hk] at h69
        simp (disch := first | omega | (simp only [IntKind.bits, List.length_map] <;> omega) | fail) [loop55x0, h3, -Int.natCast_shiftRight, h69, hb, hk]
    | false =>
      rw [hb, decide_eq_false_iff_not] at h3
      simp (disch := first | omega | (simp only [IntKind.bits, List.length_map] <;> omega) | fail) [loop55x0, h3, -Int.natCast_shiftRight, hb]
set_option maxHeartbeats 4000000 in
theorem k55F (c : PV) (see : Nat → Option (List Int) → Bool × Option (List Int)) (n : Nat) (E : List Nat) (hE : ∀ e ∈ E, e < 18446744073709551616) (hl : E.length < 9223372036854775808) (hn : n ≤ 63) :
    ∀ (k v inn out : Nat) (x : Option (List Int)), n = v + k → inn < 2 ^ v → out < 2 ^ v → seeOk see (okF c see) (walkL E k v inn out) x →
      ∃ q, KI tab 55 [wkF n E, .p (i64 v), .p (u64 inn), .p (u64 out)] (exF x 0 c) = some (.p (.bool (walkS see (walkL E k v inn out) x).1), exF (walkS see (walkL E k v inn out) x).2 q c, []) := by
  intro k
  induction k with
  | zero =>
    intro v inn out x hv hi ho hs
    have hv : n = v := by omega
    subst hv
    have p64 : (2 : Nat) ^ n ≤ 2 ^ 63 := Nat.pow_le_pow_right (by omega) (by omega)
    have lp := l55F c x n n inn out (later 0 n) E hE hl (by omega) (by omega) (by omega) (later_lt 0 n (by omega))
    have hcode := later_ones n n (by omega) (by omega)
    have b1 := later_lt (64 - n) n (by omega)
    have b2 := ones_lt n (by omega)
    rw [show n - n = 0 by omega] at hcode
    have hcut : ((List.range n).any fun u => out.testBit u && !blockedB E u (inn ||| later 0 n)) = cutB E 0 n inn out := rfl
    rw [hcut] at lp
    rw [KI_listE (F := fun55) rfl]
    cases hc : cutB E 0 n inn out with
    | true =>
      refine ⟨0, ?_⟩
      simp only [walkL, hc, walkS, if_true, wkF, exF]
      simp (maxSteps := 4000000) (disch := first | omega | (simp only [List.length_map, List.length_append, List.length_cons, List.length_nil, List.length_set, List.length_take, List.length_range] <;> omega) | (simp; done) | fail) [fun55, body55, lp, shl1_u64, shlm_u64, and_u64, hcode, hc, -Int.natCast_shiftLeft]
    | false =>
      simp only [walkL, hc, Bool.false_eq_true, if_false, seeOk, and_true, okF] at hs
      obtain ⟨⟨q, hq⟩, _⟩ := hs
      have hw : walkS see (walkL E 0 n inn out) x = see inn x := by
        simp only [walkL, hc, walkS, Bool.false_eq_true, if_false]
        split
        · rename_i h; rw [← h]
        · rename_i h; rw [← (by simpa using h : (see inn x).1 = false)]
      rw [hw]
      generalize see inn x = r at hq ⊢
      obtain ⟨b, y⟩ := r
      simp only [exF] at hq
      refine ⟨?w1, ?h1⟩
      case h1 =>
        simp only [wkF, exF]
        simp (maxSteps := 4000000) (disch := first | omega | (simp only [List.length_map, List.length_append, List.length_cons, List.length_nil, List.length_set, List.length_take, List.length_range] <;> omega) | (simp; done) | fail) [fun55, body55, lp, shl1_u64, shlm_u64, and_u64, hcode, hc, -Int.natCast_shiftLeft, hq]
        rfl
  | succ k ih =>
    intro v inn out x hv hi ho hs
    have p64 : (2 : Nat) ^ v ≤ 2 ^ 62 := Nat.pow_le_pow_right (by omega) (by omega)
    have pv : (2 : Nat) ^ (v + 1) = 2 ^ v + 2 ^ v := by rw [Nat.pow_succ]; omega
    have lp := l55F c x n v inn out (later (k + 1) v) E hE hl (by omega) (by omega) (by omega) (later_lt (k + 1) v (by omega))
    have hcode := later_ones v n (by omega) (by omega)
    have b1 := later_lt (64 - v) v (by omega)
    have b2 := ones_lt n (by omega)
    have b3 := one_lt64 v (by omega)
    have m1 : inn ||| 1 <<< v < 2 ^ (v + 1) := by
      refine Nat.or_lt_two_pow (by omega) ?_
      rw [Nat.one_shiftLeft]; exact Nat.pow_lt_pow_right (by omega) (by omega)
    have m2 : out ||| 1 <<< v < 2 ^ (v + 1) := by
      refine Nat.or_lt_two_pow (by omega) ?_
      rw [Nat.one_shiftLeft]; exact Nat.pow_lt_pow_right (by omega) (by omega)
    rw [show n - v = k + 1 by omega] at hcode
    have hcut : ((List.range v).any fun u => out.testBit u && !blockedB E u (inn ||| later (k + 1) v)) = cutB E (k + 1) v inn out := rfl
    rw [hcut] at lp
    have h70 := k70 u64 (fun _ => rfl) (fun _ => rfl) E 71 [.ref (u64 (inn ||| 1 <<< v))] (fun e => inside e (inn ||| 1 <<< v)) hl (fun e he => k71 e (inn ||| 1 <<< v) (hE e he) (by omega))
    have hed : (E.any fun e => inside e (inn ||| 1 <<< v)) = edgeIn E (inn ||| 1 <<< v) := rfl
    rw [hed] at h70
    have hnv : ¬ (v : Int) = (n : Int) := by omega
    rw [KI_listE (F := fun55) rfl]
    cases hc : cutB E (k + 1) v inn out with
    | true =>
      refine ⟨0, ?_⟩
      simp only [walkL, hc, walkS, if_true, wkF, exF]
      simp (maxSteps := 4000000) (disch := first | omega | (simp only [List.length_map, List.length_append, List.length_cons, List.length_nil, List.length_set, List.length_take, List.length_range] <;> omega) | (simp; done) | fail) [fun55, body55, lp, shl1_u64, shlm_u64, and_u64, hcode, hc, -Int.natCast_shiftLeft]
    | false =>
      simp only [walkL, hc, Bool.false_eq_true, if_false] at hs ⊢
      cases he : edgeIn E (inn ||| 1 <<< v) with
      | true =>
        simp only [he, if_true, List.nil_append] at hs ⊢
        obtain ⟨q, hq⟩ := ih (v + 1) inn (out ||| 1 <<< v) x (by omega) (by omega) m2 hs
        rw [he] at h70
        generalize walkS see (walkL E k (v + 1) inn (out ||| 1 <<< v)) x = r at hq ⊢
        obtain ⟨b, y⟩ := r
        simp only [exF, wkF, Int.natCast_add, Int.natCast_one] at hq
        refine ⟨?w2, ?h2⟩
        case h2 =>
          simp only [wkF, exF]
          simp (maxSteps := 4000000) (disch := first | omega | (simp only [List.length_map, List.length_append, List.length_cons, List.length_nil, List.length_set, List.length_take, List.length_range] <;> omega) | (simp; done) | fail) [fun55, body55, lp, shl1_u64, shlm_u64, and_u64, or_u64, hcode, hc, -Int.natCast_shiftLeft, hq, hnv, h70]
          rfl
      | false =>
        simp only [he, Bool.false_eq_true, if_false] at hs ⊢
        obtain ⟨hs1, hs2⟩ := seeOk_append see (okF c see) _ _ _ hs
        obtain ⟨q, hq⟩ := ih (v + 1) (inn ||| 1 <<< v) out x (by omega) m1 (by omega) hs1
        rw [walkS_append]
        rw [he] at h70
        generalize walkS see (walkL E k (v + 1) (inn ||| 1 <<< v) out) x = r at hq hs2 ⊢
        obtain ⟨b, y⟩ := r
        cases b with
        | false =>
          simp only [exF, wkF, Int.natCast_add, Int.natCast_one] at hq
          refine ⟨?w3, ?h3⟩
          case h3 =>
            simp only [wkF, exF, Bool.false_eq_true, if_false]
            simp (maxSteps := 4000000) (disch := first | omega | (simp only [List.length_map, List.length_append, List.length_cons, List.length_nil, List.length_set, List.length_take, List.length_range] <;> omega) | (simp; done) | fail) [fun55, body55, lp, shl1_u64, shlm_u64, and_u64, or_u64, hcode, hc, -Int.natCast_shiftLeft, hq, hnv, h70]
            rfl
        | true =>
          obtain ⟨q2, hq2⟩ := ih (v + 1) inn (out ||| 1 <<< v) y (by omega) (by omega) m2 (hs2 rfl)
          generalize walkS see (walkL E k (v + 1) inn (out ||| 1 <<< v)) y = r2 at hq2 ⊢
          obtain ⟨b2, y2⟩ := r2
          simp only [exF, wkF, Int.natCast_add, Int.natCast_one] at hq hq2
          refine ⟨?w4, ?h4⟩
          case h4 =>
            simp only [wkF, exF, if_true]
            simp (maxSteps := 4000000) (disch := first | omega | (simp only [List.length_map, List.length_append, List.length_cons, List.length_nil, List.length_set, List.length_take, List.length_range] <;> omega) | (simp; done) | fail) [fun55, body55, lp, shl1_u64, shlm_u64, and_u64, or_u64, hcode, hc, -Int.natCast_shiftLeft, hq, hq2, hnv, h70]
            rfl
theorem l52x1F (c : PV) (x : Option (List Int)) (v : List Int) (es : List (List Int)) (B : List Nat) (i b0 : Nat) (e : List Int) (hv : v.length ≤ 63) (he : ∀ y ∈ e, y ∈ v) (hel : e.length < 9223372036854775808) (hb0 : b0 < 18446744073709551616)
    (σ : St) (hσ : forget [2, 4, 5, 8, 17, 18, 19, 23, 24, 25] [2, 4, 5] σ = stL [(2, .ptr 2 none [] 1 0), (4, .ptr 4 none [] 1 0), (5, .ptr 5 none [] 1 0), (8, .p (.int .u64 (b0 : Int))), (17, .p (i64ss es)), (18, .p (i64 es.length)), (19, .p (i64 i)), (23, .p (i64s e)), (24, .p (i64 e.length)), (25, .p (i64 0))]
      [(1000000, .cell 0 (.p c)), (1000001, .cell 0 (tB x 0)), (2, .cell 1 (.p (.agg [i64s v, i64ss es]))), (4, .cell 1 (.agg [.p (i64 0), .vec 1 1 [] 0, .p .nilf])), (5, .cell 1 (.agg [.p (i64 v.length), .vec 1 1 (tv (B.map u64)) B.length, .m (.fn 57 [.ptr 1000000 none [] 0 0, .ptr 1000001 none [] 0 0])]))] 2) :
    runI tab (.loop [2, 4, 5, 8, 17, 18, 19, 23, 24, 25] [2, 4, 5] loop52x1) σ = some (.exit 2, stL [(2, .ptr 2 none [] 1 0), (4, .ptr 4 none [] 1 0), (5, .ptr 5 none [] 1 0), (8, .p (u64 (bitsFrom v b0 e))), (17, .p (i64ss es)), (18, .p (i64 es.length)), (19, .p (i64 i))]
      [(1000000, .cell 0 (.p c)), (1000001, .cell 0 (tB x 0)), (2, .cell 1 (.p (.agg [i64s v, i64ss es]))), (4, .cell 1 (.agg [.p (i64 0), .vec 1 1 [] 0, .p .nilf])), (5, .cell 1 (.agg [.p (i64 v.length), .vec 1 1 (tv (B.map u64)) B.length, .m (.fn 57 [.ptr 1000000 none [] 0 0, .ptr 1000001 none [] 0 0])]))] 2) := by
  rw [loop_fold e (fun k (b : Nat) => stL [(2, .ptr 2 none [] 1 0), (4, .ptr 4 none [] 1 0), (5, .ptr 5 none [] 1 0), (8, .p (.int .u64 (b : Int))), (17, .p (i64ss es)), (18, .p (i64 es.length)), (19, .p (i64 i)), (23, .p (i64s e)), (24, .p (i64 e.length)), (25, .p (i64 k))]
      [(1000000, .cell 0 (.p c)), (1000001, .cell 0 (tB x 0)), (2, .cell 1 (.p (.agg [i64s v, i64ss es]))), (4, .cell 1 (.agg [.p (i64 0), .vec 1 1 [] 0, .p .nilf])), (5, .cell 1 (.agg [.p (i64 v.length), .vec 1 1 (tv (B.map u64)) B.length, .m (.fn 57 [.ptr 1000000 none [] 0 0, .ptr 1000001 none [] 0 0])]))] 2)
    (fun _ y b => b ||| 1 <<< posOf v y) (fun (b : Nat) => (.exit 2, stL [(2, .ptr 2 none [] 1 0), (4, .ptr 4 none [] 1 0), (5, .ptr 5 none [] 1 0), (8, .p (.int .u64 (b : Int))), (17, .p (i64ss es)), (18, .p (i64 es.length)), (19, .p (i64 i))]
      [(1000000, .cell 0 (.p c)), (1000001, .cell 0 (tB x 0)), (2, .cell 1 (.p (.agg [i64s v, i64ss es]))), (4, .cell 1 (.agg [.p (i64 0), .vec 1 1 [] 0, .p .nilf])), (5, .cell 1 (.agg [.p (i64 v.length), .vec 1 1 (tv (B.map u64)) B.length, .m (.fn 57 [.ptr 1000000 none [] 0 0, .ptr 1000001 none [] 0 0])]))] 2)) (fun _ (b : Nat) => b < 18446744073709551616) (by simp) ?_ ?_ ?_ b0 σ hb0 hσ]
  · rw [foldI_bits]
  · intro b hb; simp (maxSteps := 4000000) (disch := first | omega | (simp only [List.length_map, List.length_append, List.length_cons, List.length_nil, List.length_set, List.length_take, List.length_range] <;> omega) | fail) [loop52x1]
  · intro k b hk hb
    exact or_lt64 _ _ hb (one_lt64 _ (Nat.lt_of_lt_of_le (posOf_lt (he e[k] (by simp))) hv |> (Nat.lt_succ_of_lt ·)))
  · intro k b hk hb
    have h64 := k64 v e[k] (by omega)
    rw [posOf_eq (he e[k] (by simp))] at h64
    have hp := posOf_lt (he e[k] (by simp))
    have h1 := one_lt64 (posOf v e[k]) (by omega)
    simp (maxSteps := 4000000) (disch := first | omega | (simp only [List.length_map, List.length_append, List.length_cons, List.length_nil, List.length_set, List.length_take, List.length_range] <;> omega) | fail) [loop52x1, h64, shl1_u64, or_u64, -Int.natCast_shiftLeft]
set_option maxHeartbeats 1000000 in
theorem k52F (c : PV) (x : Option (List Int)) (v : List Int) (es : List (List Int)) (hv : v.length ≤ 63) (he : ∀ e ∈ es, ∀ y ∈ e, y ∈ v) (hel : ∀ e ∈ es, e.length < 9223372036854775808) (hes : es.length ≤ 1000000) :
    KI tab 52 [.p (.agg [i64s v, i64ss es]), .fn 57 [.ptr 1000000 none [] 0 0, .ptr 1000001 none [] 0 0]] (exF x 0 c) = some (wkF v.length (es.map (bitsOf v)), exF x 0 c, []) := by
  have lp : ∀ σ : St, forget [2, 4, 5, 17, 18, 19] [2, 4, 5] σ = stL [(2, .ptr 2 none [] 1 0), (4, .ptr 4 none [] 1 0), (5, .ptr 5 none [] 1 0), (17, .p (i64ss es)), (18, .p (i64 es.length)), (19, .p (i64 0))]
      [(1000000, .cell 0 (.p c)), (1000001, .cell 0 (tB x 0)), (2, .cell 1 (.p (.agg [i64s v, i64ss es]))), (4, .cell 1 (.agg [.p (i64 0), .vec 1 1 [] 0, .p .nilf])), (5, .cell 1 (.agg [.p (i64 v.length), .vec 1 1 [] 0, .m (.fn 57 [.ptr 1000000 none [] 0 0, .ptr 1000001 none [] 0 0])]))] 2 →
    runI tab (.loop [2, 4, 5, 17, 18, 19] [2, 4, 5] loop52x0) σ = some (.exit 0, stL [(4, .ptr 4 none [] 1 0), (5, .ptr 5 none [] 1 0)]
      [(1000000, .cell 0 (.p c)), (1000001, .cell 0 (tB x 0)), (4, .cell 1 (.agg [.p (i64 0), .vec 1 1 [] 0, .p .nilf])), (5, .cell 1 (.agg [.p (i64 v.length), .vec 1 1 (tv ((es.map (bitsOf v)).map u64)) (es.map (bitsOf v)).length, .m (.fn 57 [.ptr 1000000 none [] 0 0, .ptr 1000001 none [] 0 0])]))] 2) := by
    intro σ hσ
    rw [loop_fold es (fun i (B : List Nat) => stL [(2, .ptr 2 none [] 1 0), (4, .ptr 4 none [] 1 0), (5, .ptr 5 none [] 1 0), (17, .p (i64ss es)), (18, .p (i64 es.length)), (19, .p (i64 i))]
      [(1000000, .cell 0 (.p c)), (1000001, .cell 0 (tB x 0)), (2, .cell 1 (.p (.agg [i64s v, i64ss es]))), (4, .cell 1 (.agg [.p (i64 0), .vec 1 1 [] 0, .p .nilf])), (5, .cell 1 (.agg [.p (i64 v.length), .vec 1 1 (tv (B.map u64)) B.length, .m (.fn 57 [.ptr 1000000 none [] 0 0, .ptr 1000001 none [] 0 0])]))] 2)
      (fun _ e B => B ++ [bitsOf v e]) (fun B => (.exit 0, stL [(4, .ptr 4 none [] 1 0), (5, .ptr 5 none [] 1 0)]
      [(1000000, .cell 0 (.p c)), (1000001, .cell 0 (tB x 0)), (4, .cell 1 (.agg [.p (i64 0), .vec 1 1 [] 0, .p .nilf])), (5, .cell 1 (.agg [.p (i64 v.length), .vec 1 1 (tv (B.map u64)) B.length, .m (.fn 57 [.ptr 1000000 none [] 0 0, .ptr 1000001 none [] 0 0])]))] 2)) (fun i B => B.length = i) (by simp) ?_ ?_ ?_ [] σ rfl (by simpa using hσ)]
    · rw [foldI_map (bitsOf v) _ (fun _ _ _ => rfl)]
      rfl
    · intro B hB; simp (maxSteps := 4000000) (disch := first | omega | (simp only [List.length_map, List.length_append, List.length_cons, List.length_nil, List.length_set, List.length_take, List.length_range] <;> omega) | fail) [loop52x0]
    · intro i B hi hB; simp [hB]
    · intro i B hi hB
      have lp1 := l52x1F c x v es B i 0 es[i] hv (he _ (by simp)) (hel _ (by simp)) (by omega)
      have e1 : bitsFrom v 0 es[i] = bitsOf v es[i] := rfl
      rw [e1] at lp1
      simp (maxSteps := 4000000) (disch := first | omega | (simp only [List.length_map, List.length_append, List.length_cons, List.length_nil, List.length_set, List.length_take, List.length_range] <;> omega) | (simp; done) | fail) [loop52x0, lp1]
  rw [KI_listE (F := fun52) rfl]
  simp (maxSteps := 4000000) (disch := first | omega | (simp only [List.length_map, List.length_append, List.length_cons, List.length_nil, List.length_set, List.length_take, List.length_range] <;> omega) | (simp; done) | fail) [fun52, body52, lp, exF, wkF]
end Go.Mid
/- The walk with one closure. -/
namespace Go.Mid
set_option linter.unusedSimpArgs false
set_option linter.unusedVariables false
def exC (x : Option (List Int) × Bool) (s : Nat) (c c2 : PV) : List (Obj Nat) := [.cell 0 (.p c), .cell 0 (.p c2), .cell 0 (tB x.1 s), .cell 0 (.p (.bool x.2))]
def okC (c c2 : PV) (see : Nat → Option (List Int) × Bool → Bool × Option (List Int) × Bool) (s : Nat) (x : Option (List Int) × Bool) : Prop :=
  ∃ q, KI tab 53 [.p (u64 s), .ptr 1000000 none [] 0 0, .ptr 1000001 none [] 0 0, .ptr 1000002 none [] 0 0, .ptr 1000003 none [] 0 0] (exC x 0 c c2) = some (.p (.bool (see s x).1), exC (see s x).2 q c c2, [])
abbrev wkC (n : Nat) (E : List Nat) : MV := .agg [.p (i64 n), .p (u64s E), .fn 53 [.ptr 1000000 none [] 0 0, .ptr 1000001 none [] 0 0, .ptr 1000002 none [] 0 0, .ptr 1000003 none [] 0 0]]
set_option maxHeartbeats 1000000 in
theorem l55C (c c2 : PV) (x : Option (List Int) × Bool) (n v inn out lat : Nat) (E : List Nat) (hE : ∀ e ∈ E, e < 18446744073709551616) (hl : E.length < 9223372036854775808) (hv : v ≤ 63) (hi : inn < 18446744073709551616) (ho : out < 18446744073709551616) (ha : lat < 18446744073709551616)
    (σ : St) (hσ : forget [1, 2, 3, 4, 9, 19, 20] [4] σ = stL [(1, .p (i64 v)), (2, .p (u64 inn)), (3, .p (u64 out)), (4, .ptr 4 none [] 1 0), (9, .p (u64 lat)), (19, .p (i64 v)), (20, .p (i64 0))] [(1000000, .cell 0 (.p c)), (1000001, .cell 0 (.p c2)), (1000002, .cell 0 (tB x.1 0)), (1000003, .cell 0 (.p (.bool x.2))), (4, .cell 1 (.agg [.p (i64 n), .p (u64s E), .m (.fn 53 [.ptr 1000000 none [] 0 0, .ptr 1000001 none [] 0 0, .ptr 1000002 none [] 0 0, .ptr 1000003 none [] 0 0])]))] 2) :
    runI tab (.loop [1, 2, 3, 4, 9, 19, 20] [4] loop55x0) σ = some (if ((List.range v).any fun u => out.testBit u && !blockedB E u (inn ||| lat)) then (.ret, stL [(8, .p (.bool true))] [(1000000, .cell 0 (.p c)), (1000001, .cell 0 (.p c2)), (1000002, .cell 0 (tB x.1 0)), (1000003, .cell 0 (.p (.bool x.2)))] 2)
      else (.exit 0, stL [(1, .p (i64 v)), (2, .p (u64 inn)), (3, .p (u64 out)), (4, .ptr 4 none [] 1 0)] [(1000000, .cell 0 (.p c)), (1000001, .cell 0 (.p c2)), (1000002, .cell 0 (tB x.1 0)), (1000003, .cell 0 (.p (.bool x.2))), (4, .cell 1 (.agg [.p (i64 n), .p (u64s E), .m (.fn 53 [.ptr 1000000 none [] 0 0, .ptr 1000001 none [] 0 0, .ptr 1000002 none [] 0 0, .ptr 1000003 none [] 0 0])]))] 2)) := by
  refine loop_any (List.range v) (fun u => stL [(1, .p (i64 v)), (2, .p (u64 inn)), (3, .p (u64 out)), (4, .ptr 4 none [] 1 0), (9, .p (u64 lat)), (19, .p (i64 v)), (20, .p (i64 u))] [(1000000, .cell 0 (.p c)), (1000001, .cell 0 (.p c2)), (1000002, .cell 0 (tB x.1 0)), (1000003, .cell 0 (.p (.bool x.2))), (4, .cell 1 (.agg [.p (i64 n), .p (u64s E), .m (.fn 53 [.ptr 1000000 none [] 0 0, .ptr 1000001 none [] 0 0, .ptr 1000002 none [] 0 0, .ptr 1000003 none [] 0 0])]))] 2) _ _ _ (by simp) (by simp) ?_ ?_ σ hσ
  · simp (maxSteps := 4000000) (disch := first | omega | (simp only [List.length_map, List.length_append, List.length_cons, List.length_nil, List.length_set, List.length_take, List.length_range] <;> omega) | fail) [loop55x0]
  · intro u hu
    have hu' : u < v := by simpa using hu
    have h2 := shr_le out u
    have h3 := bit_test out u
    have h69 := k69 n E (.fn 53 [.ref c, .ref c2, .ref (enB x.1), .ref (.bool x.2)]) u inn lat hE hl (by omega) hi ha
    cases hb : out.testBit u with
    | true =>
      rw [hb, decide_eq_true_eq] at h3
      cases hk : blockedB E u (inn ||| lat) with
      | true =>
        rw [hk] at h69
        simp (disch := first | omega | (simp only [IntKind.bits, List.length_map] <;> omega) | fail) [loop55x0, h3, -Int.natCast_shiftRight, h69, hb, hk]
      | false =>
        rw [hk] at h69
        simp (disch := first | omega | (simp only [IntKind.bits, List.length_map] <;> omega) | fail) [loop55x0, h3, -Int.natCast_shiftRight, h69, hb, hk]
    | false =>
      rw [hb, decide_eq_false_iff_not] at h3
      simp (disch := first | omega | (simp only [IntKind.bits, List.length_map] <;> omega) | fail) [loop55x0, h3, -Int.natCast_shiftRight, hb]
set_option maxHeartbeats 4000000 in
theorem k55C (c c2 : PV) (see : Nat → Option (List Int) × Bool → Bool × Option (List Int) × Bool) (n : Nat) (E : List Nat) (hE : ∀ e ∈ E, e < 18446744073709551616) (hl : E.length < 9223372036854775808) (hn : n ≤ 63) :
    ∀ (k v inn out : Nat) (x : Option (List Int) × Bool), n = v + k → inn < 2 ^ v → out < 2 ^ v → seeOk see (okC c c2 see) (walkL E k v inn out) x →
      ∃ q, KI tab 55 [wkC n E, .p (i64 v), .p (u64 inn), .p (u64 out)] (exC x 0 c c2) = some (.p (.bool (walkS see (walkL E k v inn out) x).1), exC (walkS see (walkL E k v inn out) x).2 q c c2, []) := by
  intro k
  induction k with
  | zero =>
    intro v inn out x hv hi ho hs
    have hv : n = v := by omega
    subst hv
    have p64 : (2 : Nat) ^ n ≤ 2 ^ 63 := Nat.pow_le_pow_right (by omega) (by omega)
    have lp := l55C c c2 x n n inn out (later 0 n) E hE hl (by omega) (by omega) (by omega) (later_lt 0 n (by omega))
    have hcode := later_ones n n (by omega) (by omega)
    have b1 := later_lt (64 - n) n (by omega)
    have b2 := ones_lt n (by omega)
    rw [show n - n = 0 by omega] at hcode
    have hcut : ((List.range n).any fun u => out.testBit u && !blockedB E u (inn ||| later 0 n)) = cutB E 0 n inn out := rfl
    rw [hcut] at lp
    rw [KI_listE (F := fun55) rfl]
    cases hc : cutB E 0 n inn out with
    | true =>
      refine ⟨0, ?_⟩
      simp only [walkL, hc, walkS, if_true, wkC, exC]
      simp (maxSteps := 4000000) (disch := first | omega | (simp only [List.length_map, List.length_append, List.length_cons, List.length_nil, List.length_set, List.length_take, List.length_range] <;> omega) | (simp; done) | fail) [fun55, body55, lp, shl1_u64, shlm_u64, and_u64, hcode, hc, -Int.natCast_shiftLeft]
    | false =>
      simp only [walkL, hc, Bool.false_eq_true, if_false, seeOk, and_true, okC] at hs
      obtain ⟨⟨q, hq⟩, _⟩ := hs
      have hw : walkS see (walkL E 0 n inn out) x = see inn x := by
        simp only [walkL, hc, walkS, Bool.false_eq_true, if_false]
        split
        · rename_i h; rw [← h]
        · rename_i h; rw [← (by simpa using h : (see inn x).1 = false)]
      rw [hw]
      generalize see inn x = r at hq ⊢
      obtain ⟨b, y⟩ := r
      simp only [exC] at hq
      refine ⟨?w1, ?h1⟩
      case h1 =>
        simp only [wkC, exC]
        simp (maxSteps := 4000000) (disch := first | omega | (simp only [List.length_map, List.length_append, List.length_cons, List.length_nil, List.length_set, List.length_take, List.length_range] <;> omega) | (simp; done) | fail) [fun55, body55, lp, shl1_u64, shlm_u64, and_u64, hcode, hc, -Int.natCast_shiftLeft, hq]
        rfl
  | succ k ih =>
    intro v inn out x hv hi ho hs
    have p64 : (2 : Nat) ^ v ≤ 2 ^ 62 := Nat.pow_le_pow_right (by omega) (by omega)
    have pv : (2 : Nat) ^ (v + 1) = 2 ^ v + 2 ^ v := by rw [Nat.pow_succ]; omega
    have lp := l55C c c2 x n v inn out (later (k + 1) v) E hE hl (by omega) (by omega) (by omega) (later_lt (k + 1) v (by omega))
    have hcode := later_ones v n (by omega) (by omega)
    have b1 := later_lt (64 - v) v (by omega)
    have b2 := ones_lt n (by omega)
    have b3 := one_lt64 v (by omega)
    have m1 : inn ||| 1 <<< v < 2 ^ (v + 1) := by
      refine Nat.or_lt_two_pow (by omega) ?_
      rw [Nat.one_shiftLeft]; exact Nat.pow_lt_pow_right (by omega) (by omega)
    have m2 : out ||| 1 <<< v < 2 ^ (v + 1) := by
      refine Nat.or_lt_two_pow (by omega) ?_
      rw [Nat.one_shiftLeft]; exact Nat.pow_lt_pow_right (by omega) (by omega)
    rw [show n - v = k + 1 by omega] at hcode
    have hcut : ((List.range v).any fun u => out.testBit u && !blockedB E u (inn ||| later (k + 1) v)) = cutB E (k + 1) v inn out := rfl
    rw [hcut] at lp
    have h70 := k70 u64 (fun _ => rfl) (fun _ => rfl) E 71 [.ref (u64 (inn ||| 1 <<< v))] (fun e => inside e (inn ||| 1 <<< v)) hl (fun e he => k71 e (inn ||| 1 <<< v) (hE e he) (by omega))
    have hed : (E.any fun e => inside e (inn ||| 1 <<< v)) = edgeIn E (inn ||| 1 <<< v) := rfl
    rw [hed] at h70
    have hnv : ¬ (v : Int) = (n : Int) := by omega
    rw [KI_listE (F := fun55) rfl]
    cases hc : cutB E (k + 1) v inn out with
    | true =>
      refine ⟨0, ?_⟩
      simp only [walkL, hc, walkS, if_true, wkC, exC]
      simp (maxSteps := 4000000) (disch := first | omega | (simp only [List.length_map, List.length_append, List.length_cons, List.length_nil, List.length_set, List.length_take, List.length_range] <;> omega) | (simp; done) | fail) [fun55, body55, lp, shl1_u64, shlm_u64, and_u64, hcode, hc, -Int.natCast_shiftLeft]
    | false =>
      simp only [walkL, hc, Bool.false_eq_true, if_false] at hs ⊢
      cases he : edgeIn E (inn ||| 1 <<< v) with
      | true =>
        simp only [he, if_true, List.nil_append] at hs ⊢
        obtain ⟨q, hq⟩ := ih (v + 1) inn (out ||| 1 <<< v) x (by omega) (by omega) m2 hs
        rw [he] at h70
        generalize walkS see (walkL E k (v + 1) inn (out ||| 1 <<< v)) x = r at hq ⊢
        obtain ⟨b, y⟩ := r
        simp only [exC, wkC, Int.natCast_add, Int.natCast_one] at hq
        refine ⟨?w2, ?h2⟩
        case h2 =>
          simp only [wkC, exC]
          simp (maxSteps := 4000000) (disch := first | omega | (simp only [List.length_map, List.length_append, List.length_cons, List.length_nil, List.length_set, List.length_take, List.length_range] <;> omega) | (simp; done) | fail) [fun55, body55, lp, shl1_u64, shlm_u64, and_u64, or_u64, hcode, hc, -Int.natCast_shiftLeft, hq, hnv, h70]
          rfl
      | false =>
        simp only [he, Bool.false_eq_true, if_false] at hs ⊢
        obtain ⟨hs1, hs2⟩ := seeOk_append see (okC c c2 see) _ _ _ hs
        obtain ⟨q, hq⟩ := ih (v + 1) (inn ||| 1 <<< v) out x (by omega) m1 (by omega) hs1
        rw [walkS_append]
        rw [he] at h70
        generalize walkS see (walkL E k (v + 1) (inn ||| 1 <<< v) out) x = r at hq hs2 ⊢
        obtain ⟨b, y⟩ := r
        cases b with
        | false =>
          simp only [exC, wkC, Int.natCast_add, Int.natCast_one] at hq
          refine ⟨?w3, ?h3⟩
          case h3 =>
            simp only [wkC, exC, Bool.false_eq_true, if_false]
            simp (maxSteps := 4000000) (disch := first | omega | (simp only [List.length_map, List.length_append, List.length_cons, List.length_nil, List.length_set, List.length_take, List.length_range] <;> omega) | (simp; done) | fail) [fun55, body55, lp, shl1_u64, shlm_u64, and_u64, or_u64, hcode, hc, -Int.natCast_shiftLeft, hq, hnv, h70]
            rfl
        | true =>
          obtain ⟨q2, hq2⟩ := ih (v + 1) inn (out ||| 1 <<< v) y (by omega) (by omega) m2 (hs2 rfl)
          generalize walkS see (walkL E k (v + 1) inn (out ||| 1 <<< v)) y = r2 at hq2 ⊢
          obtain ⟨b2, y2⟩ := r2
          simp only [exC, wkC, Int.natCast_add, Int.natCast_one] at hq hq2
          refine ⟨?w4, ?h4⟩
          case h4 =>
            simp only [wkC, exC, if_true]
            simp (maxSteps := 4000000) (disch := first | omega | (simp only [List.length_map, List.length_append, List.length_cons, List.length_nil, List.length_set, List.length_take, List.length_range] <;> omega) | (simp; done) | fail) [fun55, body55, lp, shl1_u64, shlm_u64, and_u64, or_u64, hcode, hc, -Int.natCast_shiftLeft, hq, hq2, hnv, h70]
            rfl
theorem l52x1C (c c2 : PV) (x : Option (List Int) × Bool) (v : List Int) (es : List (List Int)) (B : List Nat) (i b0 : Nat) (e : List Int) (hv : v.length ≤ 63) (he : ∀ y ∈ e, y ∈ v) (hel : e.length < 9223372036854775808) (hb0 : b0 < 18446744073709551616)
    (σ : St) (hσ : forget [2, 4, 5, 8, 17, 18, 19, 23, 24, 25] [2, 4, 5] σ = stL [(2, .ptr 2 none [] 1 0), (4, .ptr 4 none [] 1 0), (5, .ptr 5 none [] 1 0), (8, .p (.int .u64 (b0 : Int))), (17, .p (i64ss es)), (18, .p (i64 es.length)), (19, .p (i64 i)), (23, .p (i64s e)), (24, .p (i64 e.length)), (25, .p (i64 0))]
      [(1000000, .cell 0 (.p c)), (1000001, .cell 0 (.p c2)), (1000002, .cell 0 (tB x.1 0)), (1000003, .cell 0 (.p (.bool x.2))), (2, .cell 1 (.p (.agg [i64s v, i64ss es]))), (4, .cell 1 (.agg [.p (i64 0), .vec 1 1 [] 0, .p .nilf])), (5, .cell 1 (.agg [.p (i64 v.length), .vec 1 1 (tv (B.map u64)) B.length, .m (.fn 53 [.ptr 1000000 none [] 0 0, .ptr 1000001 none [] 0 0, .ptr 1000002 none [] 0 0, .ptr 1000003 none [] 0 0])]))] 2) :
    runI tab (.loop [2, 4, 5, 8, 17, 18, 19, 23, 24, 25] [2, 4, 5] loop52x1) σ = some (.exit 2, stL [(2, .ptr 2 none [] 1 0), (4, .ptr 4 none [] 1 0), (5, .ptr 5 none [] 1 0), (8, .p (u64 (bitsFrom v b0 e))), (17, .p (i64ss es)), (18, .p (i64 es.length)), (19, .p (i64 i))]
      [(1000000, .cell 0 (.p c)), (1000001, .cell 0 (.p c2)), (1000002, .cell 0 (tB x.1 0)), (1000003, .cell 0 (.p (.bool x.2))), (2, .cell 1 (.p (.agg [i64s v, i64ss es]))), (4, .cell 1 (.agg [.p (i64 0), .vec 1 1 [] 0, .p .nilf])), (5, .cell 1 (.agg [.p (i64 v.length), .vec 1 1 (tv (B.map u64)) B.length, .m (.fn 53 [.ptr 1000000 none [] 0 0, .ptr 1000001 none [] 0 0, .ptr 1000002 none [] 0 0, .ptr 1000003 none [] 0 0])]))] 2) := by
  rw [loop_fold e (fun k (b : Nat) => stL [(2, .ptr 2 none [] 1 0), (4, .ptr 4 none [] 1 0), (5, .ptr 5 none [] 1 0), (8, .p (.int .u64 (b : Int))), (17, .p (i64ss es)), (18, .p (i64 es.length)), (19, .p (i64 i)), (23, .p (i64s e)), (24, .p (i64 e.length)), (25, .p (i64 k))]
      [(1000000, .cell 0 (.p c)), (1000001, .cell 0 (.p c2)), (1000002, .cell 0 (tB x.1 0)), (1000003, .cell 0 (.p (.bool x.2))), (2, .cell 1 (.p (.agg [i64s v, i64ss es]))), (4, .cell 1 (.agg [.p (i64 0), .vec 1 1 [] 0, .p .nilf])), (5, .cell 1 (.agg [.p (i64 v.length), .vec 1 1 (tv (B.map u64)) B.length, .m (.fn 53 [.ptr 1000000 none [] 0 0, .ptr 1000001 none [] 0 0, .ptr 1000002 none [] 0 0, .ptr 1000003 none [] 0 0])]))] 2)
    (fun _ y b => b ||| 1 <<< posOf v y) (fun (b : Nat) => (.exit 2, stL [(2, .ptr 2 none [] 1 0), (4, .ptr 4 none [] 1 0), (5, .ptr 5 none [] 1 0), (8, .p (.int .u64 (b : Int))), (17, .p (i64ss es)), (18, .p (i64 es.length)), (19, .p (i64 i))]
      [(1000000, .cell 0 (.p c)), (1000001, .cell 0 (.p c2)), (1000002, .cell 0 (tB x.1 0)), (1000003, .cell 0 (.p (.bool x.2))), (2, .cell 1 (.p (.agg [i64s v, i64ss es]))), (4, .cell 1 (.agg [.p (i64 0), .vec 1 1 [] 0, .p .nilf])), (5, .cell 1 (.agg [.p (i64 v.length), .vec 1 1 (tv (B.map u64)) B.length, .m (.fn 53 [.ptr 1000000 none [] 0 0, .ptr 1000001 none [] 0 0, .ptr 1000002 none [] 0 0, .ptr 1000003 none [] 0 0])]))] 2)) (fun _ (b : Nat) => b < 18446744073709551616) (by simp) ?_ ?_ ?_ b0 σ hb0 hσ]
  · rw [foldI_bits]
  · intro b hb; simp (maxSteps := 4000000) (disch := first | omega | (simp only [List.length_map, List.length_append, List.length_cons, List.length_nil, List.length_set, List.length_take, List.length_range] <;> omega) | fail) [loop52x1]
  · intro k b hk hb
    exact or_lt64 _ _ hb (one_lt64 _ (Nat.lt_of_lt_of_le (posOf_lt (he e[k] (by simp))) hv |> (Nat.lt_succ_of_lt ·)))
  · intro k b hk hb
    have h64 := k64 v e[k] (by omega)
    rw [posOf_eq (he e[k] (by simp))] at h64
    have hp := posOf_lt (he e[k] (by simp))
    have h1 := one_lt64 (posOf v e[k]) (by omega)
    simp (maxSteps := 4000000) (disch := first | omega | (simp only [List.length_map, List.length_append, List.length_cons, List.length_nil, List.length_set, List.length_take, List.length_range] <;> omega) | fail) [loop52x1, h64, shl1_u64, or_u64, -Int.natCast_shiftLeft]
set_option maxHeartbeats 1000000 in
theorem k52C (c c2 : PV) (x : Option (List Int) × Bool) (v : List Int) (es : List (List Int)) (hv : v.length ≤ 63) (he : ∀ e ∈ es, ∀ y ∈ e, y ∈ v) (hel : ∀ e ∈ es, e.length < 9223372036854775808) (hes : es.length ≤ 1000000) :
    KI tab 52 [.p (.agg [i64s v, i64ss es]), .fn 53 [.ptr 1000000 none [] 0 0, .ptr 1000001 none [] 0 0, .ptr 1000002 none [] 0 0, .ptr 1000003 none [] 0 0]] (exC x 0 c c2) = some (wkC v.length (es.map (bitsOf v)), exC x 0 c c2, []) := by
  have lp : ∀ σ : St, forget [2, 4, 5, 17, 18, 19] [2, 4, 5] σ = stL [(2, .ptr 2 none [] 1 0), (4, .ptr 4 none [] 1 0), (5, .ptr 5 none [] 1 0), (17, .p (i64ss es)), (18, .p (i64 es.length)), (19, .p (i64 0))]
      [(1000000, .cell 0 (.p c)), (1000001, .cell 0 (.p c2)), (1000002, .cell 0 (tB x.1 0)), (1000003, .cell 0 (.p (.bool x.2))), (2, .cell 1 (.p (.agg [i64s v, i64ss es]))), (4, .cell 1 (.agg [.p (i64 0), .vec 1 1 [] 0, .p .nilf])), (5, .cell 1 (.agg [.p (i64 v.length), .vec 1 1 [] 0, .m (.fn 53 [.ptr 1000000 none [] 0 0, .ptr 1000001 none [] 0 0, .ptr 1000002 none [] 0 0, .ptr 1000003 none [] 0 0])]))] 2 →
    runI tab (.loop [2, 4, 5, 17, 18, 19] [2, 4, 5] loop52x0) σ = some (.exit 0, stL [(4, .ptr 4 none [] 1 0), (5, .ptr 5 none [] 1 0)]
      [(1000000, .cell 0 (.p c)), (1000001, .cell 0 (.p c2)), (1000002, .cell 0 (tB x.1 0)), (1000003, .cell 0 (.p (.bool x.2))), (4, .cell 1 (.agg [.p (i64 0), .vec 1 1 [] 0, .p .nilf])), (5, .cell 1 (.agg [.p (i64 v.length), .vec 1 1 (tv ((es.map (bitsOf v)).map u64)) (es.map (bitsOf v)).length, .m (.fn 53 [.ptr 1000000 none [] 0 0, .ptr 1000001 none [] 0 0, .ptr 1000002 none [] 0 0, .ptr 1000003 none [] 0 0])]))] 2) := by
    intro σ hσ
    rw [loop_fold es (fun i (B : List Nat) => stL [(2, .ptr 2 none [] 1 0), (4, .ptr 4 none [] 1 0), (5, .ptr 5 none [] 1 0), (17, .p (i64ss es)), (18, .p (i64 es.length)), (19, .p (i64 i))]
      [(1000000, .cell 0 (.p c)), (1000001, .cell 0 (.p c2)), (1000002, .cell 0 (tB x.1 0)), (1000003, .cell 0 (.p (.bool x.2))), (2, .cell 1 (.p (.agg [i64s v, i64ss es]))), (4, .cell 1 (.agg [.p (i64 0), .vec 1 1 [] 0, .p .nilf])), (5, .cell 1 (.agg [.p (i64 v.length), .vec 1 1 (tv (B.map u64)) B.length, .m (.fn 53 [.ptr 1000000 none [] 0 0, .ptr 1000001 none [] 0 0, .ptr 1000002 none [] 0 0, .ptr 1000003 none [] 0 0])]))] 2)
      (fun _ e B => B ++ [bitsOf v e]) (fun B => (.exit 0, stL [(4, .ptr 4 none [] 1 0), (5, .ptr 5 none [] 1 0)]
      [(1000000, .cell 0 (.p c)), (1000001, .cell 0 (.p c2)), (1000002, .cell 0 (tB x.1 0)), (1000003, .cell 0 (.p (.bool x.2))), (4, .cell 1 (.agg [.p (i64 0), .vec 1 1 [] 0, .p .nilf])), (5, .cell 1 (.agg [.p (i64 v.length), .vec 1 1 (tv (B.map u64)) B.length, .m (.fn 53 [.ptr 1000000 none [] 0 0, .ptr 1000001 none [] 0 0, .ptr 1000002 none [] 0 0, .ptr 1000003 none [] 0 0])]))] 2)) (fun i B => B.length = i) (by simp) ?_ ?_ ?_ [] σ rfl (by simpa using hσ)]
    · rw [foldI_map (bitsOf v) _ (fun _ _ _ => rfl)]
      rfl
    · intro B hB; simp (maxSteps := 4000000) (disch := first | omega | (simp only [List.length_map, List.length_append, List.length_cons, List.length_nil, List.length_set, List.length_take, List.length_range] <;> omega) | fail) [loop52x0]
    · intro i B hi hB; simp [hB]
    · intro i B hi hB
      have lp1 := l52x1C c c2 x v es B i 0 es[i] hv (he _ (by simp)) (hel _ (by simp)) (by omega)
      have e1 : bitsFrom v 0 es[i] = bitsOf v es[i] := rfl
      rw [e1] at lp1
      simp (maxSteps := 4000000) (disch := first | omega | (simp only [List.length_map, List.length_append, List.length_cons, List.length_nil, List.length_set, List.length_take, List.length_range] <;> omega) | (simp; done) | fail) [loop52x0, lp1]
  rw [KI_listE (F := fun52) rfl]
  simp (maxSteps := 4000000) (disch := first | omega | (simp only [List.length_map, List.length_append, List.length_cons, List.length_nil, List.length_set, List.length_take, List.length_range] <;> omega) | (simp; done) | fail) [fun52, body52, lp, exC, wkC]
end Go.Mid
