/- Typed values: codes of types, their values in Lean, and their pure values; decision trees. -/
import Derived.Test.YtngcamcnkfkmdaaM7
import Derived.Test.YtngcamcnkfkmdaaM5
import Derived.Lib.SliceRun
namespace Go.Mid
set_option linter.unusedSimpArgs false
set_option linter.unusedVariables false

/-- codes of types; 'vec' is a slice in owned memory that owns its array -/
inductive Ty where
  | int (k : IntKind) | bool | str | sl (t : Ty) | agg (ts : List Ty) | ref (t : Ty) | fn (f : Nat) (ts : List Ty) | mp (k v : Ty) | nilp | nilf | vec (z : Nat) (t : Ty) | opr (t : Ty)
  deriving Inhabited
def pairT (A R : Type) : List Ty → Type
  | [] => A
  | _ :: _ => A × R
mutual
def El : Ty → Type
  | .int _ => Int
  | .bool => Bool
  | .str => ByteArray
  | .sl t => List (El t)
  | .agg ts => Els ts
  | .ref t => El t
  | .fn _ ts => Els ts
  | .mp k v => List (El k × El v)
  | .nilp => Unit
  | .nilf => Unit
  | .vec _ t => List (El t)
  | .opr t => Option (El t)
def Els : List Ty → Type
  | [] => Unit
  | t :: r => pairT (El t) (Els r) r
end
def hdE {t : Ty} : (r : List Ty) → Els (t :: r) → El t
  | [], x => x
  | _ :: _, x => x.1
def tlE {t : Ty} : (r : List Ty) → Els (t :: r) → Els r
  | [], _ => ()
  | _ :: _, x => x.2
def mkE {t : Ty} : (r : List Ty) → El t → Els r → Els (t :: r)
  | [], a, _ => a
  | _ :: _, a, b => (a, b)
@[simp] theorem hd_mk {t : Ty} (r : List Ty) (a : El t) (b : Els r) : hdE r (mkE r a b) = a := by cases r <;> rfl
@[simp] theorem tl_mk {t : Ty} (r : List Ty) (a : El t) (b : Els r) : tlE r (mkE r a b) = b := by cases r <;> rfl
/-- a pointer that may be nil -/
def optR : Option PV → PV
  | none => .nilp
  | some v => .ref v
mutual
def enc : (t : Ty) → El t → PV
  | .opr t, x => optR (Option.map (enc t) x)
  | .int k, x => .int k x
  | .bool, x => .bool x
  | .str, x => .str x
  | .sl t, x => .sl (List.map (enc t) x)
  | .agg ts, x => .agg (encs ts x)
  | .ref t, x => .ref (enc t x)
  | .fn f ts, x => .fn f (encs ts x)
  | .mp k v, x => .mp (List.map (fun p => enc k p.1) x) (List.map (fun p => enc v p.2) x)
  | .nilp, _ => .nilp
  | .nilf, _ => .nilf
  | .vec _ t, x => .sl (List.map (enc t) x)
def encs : (ts : List Ty) → Els ts → List PV
  | [], _ => []
  | t :: r, x => enc t (hdE r x) :: encs r (tlE r x)
end
mutual
def dflt : (t : Ty) → El t
  | .int _ => (0 : Int)
  | .bool => false
  | .str => (⟨#[]⟩ : ByteArray)
  | .sl _ => []
  | .agg ts => dflts ts
  | .ref t => dflt t
  | .fn _ ts => dflts ts
  | .mp _ _ => []
  | .nilp => ()
  | .nilf => ()
  | .vec _ _ => []
  | .opr _ => none
def dflts : (ts : List Ty) → Els ts
  | [] => ()
  | t :: r => mkE r (dflt t) (dflts r)
end
mutual
def Ty.cs : Ty → Nat
  | .agg l => Ty.css l
  | _ => 1
def Ty.css : List Ty → Nat
  | [] => 0
  | x :: xs => x.cs + Ty.css xs
end
def Ty.isAgg : Ty → Bool | .agg _ => true | _ => false
mutual
/-- no owned memory inside -/
def Ty.pure : Ty → Bool
  | .vec .. => false
  | .agg l => Ty.pures l
  | _ => true
def Ty.pures : List Ty → Bool
  | [] => true
  | x :: xs => x.pure && Ty.pures xs
end
mutual
theorem enc_cs : ∀ (t : Ty) (x : El t), (enc t x).cs = t.cs
  | .opr t, x => by
    have h : ∀ y : Option (El t), (optR (y.map (enc t))).cs = 1 := fun y => by cases y <;> rfl
    exact h x
  | .agg ts, x => by simp only [enc, PV.cs, Ty.cs]; exact encs_cs ts x
  | .int _, _ | .bool, _ | .str, _ | .sl _, _ | .ref _, _ | .fn _ _, _ | .mp _ _, _ | .nilp, _ | .nilf, _ | .vec _ _, _ => rfl
theorem encs_cs : ∀ (ts : List Ty) (x : Els ts), PV.css (encs ts x) = Ty.css ts
  | [], _ => rfl
  | t :: r, x => by simp only [encs, PV.css, Ty.css]; rw [enc_cs t, encs_cs r]
end
@[simp] theorem enc_isAgg : ∀ (t : Ty) (x : El t), (enc t x).isAgg = t.isAgg
  | .opr t, x => by
    have h : ∀ y : Option (El t), (optR (y.map (enc t))).isAgg = false := fun y => by cases y <;> rfl
    exact h x
  | .agg ts, x => rfl
  | .int _, _ | .bool, _ | .str, _ | .sl _, _ | .ref _, _ | .fn _ _, _ | .mp _ _, _ | .nilp, _ | .nilf, _ | .vec _ _, _ => rfl
theorem encs_length : ∀ (ts : List Ty) (x : Els ts), (encs ts x).length = ts.length
  | [], _ => rfl
  | t :: r, x => by simp only [encs, List.length_cons, encs_length r]
mutual
def Ty.eq : Ty → Ty → Bool
  | .int k, .int l => k == l
  | .bool, .bool => true
  | .str, .str => true
  | .sl t, .sl u => Ty.eq t u
  | .agg l, .agg m => Ty.eqs l m
  | .ref t, .ref u => Ty.eq t u
  | .fn f l, .fn g m => f == g && Ty.eqs l m
  | .mp k v, .mp l w => Ty.eq k l && Ty.eq v w
  | .nilp, .nilp => true
  | .nilf, .nilf => true
  | .vec z t, .vec y u => z == y && Ty.eq t u
  | .opr t, .opr u => Ty.eq t u
  | _, _ => false
def Ty.eqs : List Ty → List Ty → Bool
  | [], [] => true
  | t :: r, u :: q => Ty.eq t u && Ty.eqs r q
  | _, _ => false
end
mutual
theorem Ty.eq_of : ∀ t u, Ty.eq t u = true → t = u
  | .int k, u, h => by cases u <;> simp [Ty.eq] at h; rw [h]
  | .bool, u, h => by cases u <;> simp [Ty.eq] at h; rfl
  | .str, u, h => by cases u <;> simp [Ty.eq] at h; rfl
  | .nilp, u, h => by cases u <;> simp [Ty.eq] at h; rfl
  | .nilf, u, h => by cases u <;> simp [Ty.eq] at h; rfl
  | .sl t, u, h => by cases u <;> simp [Ty.eq] at h; rw [Ty.eq_of t _ h]
  | .ref t, u, h => by cases u <;> simp [Ty.eq] at h; rw [Ty.eq_of t _ h]
  | .opr t, u, h => by cases u <;> simp [Ty.eq] at h; rw [Ty.eq_of t _ h]
  | .agg l, u, h => by cases u <;> simp [Ty.eq] at h; rw [Ty.eqs_of l _ h]
  | .fn f l, u, h => by cases u <;> simp [Ty.eq] at h; rw [h.1, Ty.eqs_of l _ h.2]
  | .mp k v, u, h => by cases u <;> simp [Ty.eq] at h; rw [Ty.eq_of k _ h.1, Ty.eq_of v _ h.2]
  | .vec z t, u, h => by cases u <;> simp [Ty.eq] at h; rw [h.1, Ty.eq_of t _ h.2]
theorem Ty.eqs_of : ∀ t u, Ty.eqs t u = true → t = u
  | [], u, h => by cases u <;> simp [Ty.eqs] at h; rfl
  | t :: r, u, h => by cases u <;> simp [Ty.eqs] at h; rw [Ty.eq_of t _ h.1, Ty.eqs_of r _ h.2]
end
/-- a value of one type as one of another, if they are the same -/
def castE {t : Ty} (u : Ty) (x : El t) : Option (El u) := if h : Ty.eq t u = true then some (cast (congrArg El (Ty.eq_of t u h)) x) else none
theorem castE_enc {t u : Ty} {x : El t} {y : El u} (h : castE u x = some y) : t = u ∧ HEq x y ∧ enc t x = enc u y := by
  unfold castE at h
  split at h
  · rename_i e
    have e := Ty.eq_of t u e
    subst e
    simp only [cast_eq, Option.some.injEq] at h
    subst h
    exact ⟨rfl, HEq.rfl, rfl⟩
  · cases h
def asI' (k : IntKind) : PV → Option Int | .int l n => if k == l then some n else none | _ => none
def asB' : PV → Option Bool | .bool b => some b | _ => none
def asS' : PV → Option ByteArray | .str b => some b | _ => none
mutual
/-- a constant as a value of a type -/
def dec : (t : Ty) → PV → Option (El t)
  | .int k, v => asI' k v
  | .bool, v => asB' v
  | .str, v => asS' v
  | .sl t, v => match v with | .sl [] => some ([] : List (El t)) | _ => none
  | .agg ts, v => match v with | .agg l => decs ts l | _ => none
  | .nilp, v => match v with | .nilp => some () | _ => none
  | .nilf, v => match v with | .nilf => some () | _ => none
  | .fn f ts, v => match v with | .fn g l => if f == g then decs ts l else none | _ => none
  | .mp k w, v => match v with | .mp [] [] => some ([] : List (El k × El w)) | _ => none
  | .ref _, _ => none
  | .vec _ _, _ => none
  | .opr t, v => match v with | .nilp => some (none : Option (El t)) | _ => none
def decs : (ts : List Ty) → List PV → Option (Els ts)
  | [], l => match l with | [] => some () | _ :: _ => none
  | t :: r, l => match l with
    | [] => none
    | v :: q => match dec t v, decs r q with | some a, some b => some (mkE r a b) | _, _ => none
end
theorem dec_int (k : IntKind) (v : PV) : dec (.int k) v = asI' k v := by rfl
theorem dec_bool (v : PV) : dec .bool v = asB' v := by rfl
theorem dec_str (v : PV) : dec .str v = asS' v := by rfl
theorem dec_agg (ts : List Ty) (l : List PV) : dec (.agg ts) (.agg l) = decs ts l := by rfl
mutual
theorem dec_enc : ∀ (t : Ty) (v : PV) (x : El t), dec t v = some x → enc t x = v
  | .int k, v, x, h => by
    rw [dec_int] at h
    cases v <;> simp only [asI', reduceCtorEq] at h
    split at h
    · rename_i e; cases h; simp only [beq_iff_eq] at e; subst e; rfl
    · cases h
  | .bool, v, x, h => by rw [dec_bool] at h; cases v <;> simp only [asB', reduceCtorEq] at h; cases h; rfl
  | .str, v, x, h => by rw [dec_str] at h; cases v <;> simp only [asS', reduceCtorEq] at h; cases h; rfl
  | .nilp, v, x, h => by cases v <;> first | rfl | cases h
  | .nilf, v, x, h => by cases v <;> first | rfl | cases h
  | .ref t, v, x, h => by cases h
  | .opr t, v, x, h => by cases v <;> first | (cases h; rfl) | cases h
  | .vec z t, v, x, h => by cases h
  | .sl t, v, x, h => by
    cases v <;> first | cases h | skip
    rename_i l
    cases l <;> cases h
    rfl
  | .mp k w, v, x, h => by
    cases v <;> first | cases h | skip
    rename_i l m
    cases l <;> cases m <;> cases h
    rfl
  | .agg ts, v, x, h => by
    cases v <;> first | cases h | skip
    rename_i l
    have h : decs ts l = some x := h
    show PV.agg (encs ts x) = _
    rw [decs_enc ts _ x h]
  | .fn f ts, v, x, h => by
    cases v <;> first | cases h | skip
    rename_i g l
    by_cases e : (f == g) = true
    · have h1 : dec (.fn f ts) (.fn g l) = decs ts l := if_pos e
      have h2 : decs ts l = some x := h1.symm.trans h
      simp only [beq_iff_eq] at e; subst e
      show PV.fn f (encs ts x) = _
      rw [decs_enc ts _ x h2]
    · have h1 : dec (.fn f ts) (.fn g l) = none := if_neg e
      rw [h1] at h; cases h
theorem decs_enc : ∀ (ts : List Ty) (l : List PV) (x : Els ts), decs ts l = some x → encs ts x = l
  | [], l, x, h => by
    cases l with
    | nil => rfl
    | cons v q => cases h
  | t :: r, l, x, h => by
    cases l with
    | nil => cases h
    | cons v q =>
      have h : (match dec t v, decs r q with | some a, some b => some (mkE r a b) | _, _ => none) = some x := h
      cases h1 : dec t v with
      | none => rw [h1] at h; cases h
      | some a =>
        cases h2 : decs r q with
        | none => rw [h1, h2] at h; cases h
        | some b =>
          rw [h1, h2] at h
          cases h
          show enc t (hdE r (mkE r a b)) :: encs r (tlE r (mkE r a b)) = _
          rw [hd_mk, tl_mk, dec_enc t v a h1, decs_enc r q b h2]
end
/-- the type of a constant -/
def tyP : PV → Option Ty
  | .int k _ => some (.int k)
  | .bool _ => some .bool
  | .str _ => some .str
  | .agg l => match tyPs l with | some ts => some (.agg ts) | none => none
  | .fn f l => match tyPs l with | some ts => some (.fn f ts) | none => none
  | .nilp => some .nilp
  | .nilf => some .nilf
  | _ => none
where tyPs : List PV → Option (List Ty)
  | [] => some []
  | x :: r => match tyP x, tyPs r with | some t, some ts => some (t :: ts) | _, _ => none

/-! ### decision trees -/
inductive Tree (α : Type) : Type 1 where
  | fail
  | leaf (a : α)
  | ite (c : Bool) (x y : Tree α)
  | opt {A : Type} (d : A) (o : Option A) (k : A → Tree α)
  | sum {A B : Type} (d : A) (e : B) (o : A ⊕ B) (k : A → Tree α) (l : B → Tree α)
namespace Tree
def den {α : Type} : Tree α → Option α
  | fail => none
  | leaf a => some a
  | ite c x y => bif c then x.den else y.den
  | opt _ o k => o.bind fun a => (k a).den
  | sum _ _ o k l => Sum.elim (fun a => (k a).den) (fun b => (l b).den) o
def bind {α β : Type} : Tree α → (α → Tree β) → Tree β
  | fail, _ => fail
  | leaf a, f => f a
  | ite c x y, f => ite c (x.bind f) (y.bind f)
  | opt d o k, f => opt d o (fun a => (k a).bind f)
  | sum d e o k l, f => sum d e o (fun a => (k a).bind f) (fun b => (l b).bind f)
theorem den_bind {α β : Type} (t : Tree α) (f : α → Tree β) (r : β) : (t.bind f).den = some r ↔ ∃ a, t.den = some a ∧ (f a).den = some r := by
  induction t with
  | fail => simp [bind, den]
  | leaf a => simp [bind, den]
  | ite c x y hx hy => cases c <;> simp [bind, den, hx, hy]
  | opt d o k ih => cases o <;> simp [bind, den, ih]
  | sum d e o k l ih1 ih2 => cases o <;> simp [bind, den, ih1, ih2]
/-- all that may come out, whatever the tests say -/
def leaves {α : Type} : Tree α → List α
  | fail => []
  | leaf a => [a]
  | ite _ x y => x.leaves ++ y.leaves
  | opt d _ k => (k d).leaves
  | sum d e _ k l => (k d).leaves ++ (l e).leaves
/-- a test on structure: decided when the tree is made -/
def chk (b : Bool) : Tree Unit := match b with | true => leaf () | false => fail
/-- a test on values: stays -/
def ask (b : Bool) : Tree Unit := ite b (leaf ()) fail
def ofO {α : Type} : Option α → Tree α
  | none => fail
  | some a => leaf a
@[simp] theorem den_leaf {α : Type} (a r : α) : (leaf a).den = some r ↔ a = r := by simp [den]
@[simp] theorem den_fail {α : Type} (r : α) : (fail : Tree α).den = some r ↔ False := by simp [den]
@[simp] theorem den_chk (b : Bool) (r : Unit) : (chk b).den = some r ↔ b = true := by cases b <;> simp [chk, den]
@[simp] theorem den_ask (b : Bool) (r : Unit) : (ask b).den = some r ↔ b = true := by cases b <;> simp [ask, den]
@[simp] theorem den_ofO {α : Type} (o : Option α) (r : α) : (ofO o).den = some r ↔ o = some r := by cases o <;> simp [ofO, den]
theorem den_ite {α : Type} (c : Bool) (x y : Tree α) (r : α) : (ite c x y).den = some r ↔ (c = true ∧ x.den = some r) ∨ (c = false ∧ y.den = some r) := by cases c <;> simp [den]
theorem den_opt {α A : Type} (d : A) (o : Option A) (k : A → Tree α) (r : α) : (opt d o k).den = some r ↔ ∃ a, o = some a ∧ (k a).den = some r := by cases o <;> simp [den]
end Tree
end Go.Mid
/- Symbolic states: what is known about slots and owned memory, with typed values at the leaves; what they stand for. -/
namespace Go.Mid
set_option linter.unusedSimpArgs false
set_option linter.unusedVariables false

/-- a step of a path: a field with its offset, or an index with the cells of an element -/
inductive Step where
  | f (i o : Nat) | k (i z : Nat)
def Step.ix : Step → Nat | .f i _ => i | .k i _ => i
def Step.of : Step → Nat | .f _ o => o | .k i z => i * z
def ixs : List Step → List Nat
  | [] => []
  | x :: r => x.ix :: ixs r
def ofs : List Step → Nat
  | [] => 0
  | x :: r => x.of + ofs r
theorem ixs_append : ∀ p q : List Step, ixs (p ++ q) = ixs p ++ ixs q
  | [], q => rfl
  | x :: r, q => by simp only [List.cons_append, ixs, ixs_append r q]
theorem ofs_append : ∀ p q : List Step, ofs (p ++ q) = ofs p + ofs q
  | [], q => by simp [ofs]
  | x :: r, q => by simp only [List.cons_append, ofs, ofs_append r q]; omega

inductive W where
  | c (v : PV)
  | v (t : Ty) (x : El t)
  | nil (z : Nat)
  | own (id : Nat) (path : List Step) (off : Option Nat) (len g : Nat)
  | ptr (id : Nat) (np : Option (List Step)) (rp : List Step) (g : Nat)
  | mref (id : Nat) (path : List Step) (g : Nat)
  | agg (l : List W)
  | fn (f : Nat) (caps : List W)
  | tup (l : List W)
  | dead (n : Nat)
instance : Inhabited W := ⟨.dead 0⟩
def npI : Option (List Step) → Option (List Nat)
  | none => none
  | some p => some (ixs p)
mutual
def cW : W → MV
  | .c v => .p v
  | .v t x => .p (enc t x)
  | .nil z => .nil z
  | .own id path off len g => .own id (ixs path) (off.getD 0) len g
  | .ptr id np rp g => .ptr id (npI np) (ixs rp) g (ofs rp)
  | .mref id path g => .mref id (ixs path) g
  | .agg l => .agg (cWs l)
  | .fn f l => .fn f (cWs l)
  | .tup l => .tup (cWs l)
  | .dead n => .dead n
def cWs : List W → List MV
  | [] => []
  | x :: r => cW x :: cWs r
end
theorem cWs_map : ∀ l : List W, cWs l = l.map cW
  | [] => rfl
  | x :: r => by simp only [cWs, List.map_cons, cWs_map r]

/-! ### typed values in owned memory: all inner arrays bear the same stamp -/
mutual
def encT (s : Nat) : (t : Ty) → El t → T Nat
  | .vec z t, x => .vec s z (List.map (encT s t) x) (List.length x)
  | .agg ts, x => mkTAgg (encTs s ts x)
  | .int k, x => .p (enc (.int k) x)
  | .bool, x => .p (enc .bool x)
  | .str, x => .p (enc .str x)
  | .sl t, x => .p (enc (.sl t) x)
  | .ref t, x => .p (enc (.ref t) x)
  | .opr t, x => .p (enc (.opr t) x)
  | .fn f ts, x => .p (enc (.fn f ts) x)
  | .mp k v, x => .p (enc (.mp k v) x)
  | .nilp, x => .p (enc .nilp x)
  | .nilf, x => .p (enc .nilf x)
def encTs (s : Nat) : (ts : List Ty) → Els ts → List (T Nat)
  | [], _ => []
  | t :: r, x => encT s t (hdE r x) :: encTs s r (tlE r x)
end
theorem encTs_length (s : Nat) : ∀ (ts : List Ty) (x : Els ts), (encTs s ts x).length = ts.length
  | [], _ => rfl
  | t :: r, x => by simp only [encTs, List.length_cons, encTs_length s r]
theorem allTP_some {α : Type} : ∀ {l : List (T α)} {vs : List PV}, allTP l = some vs → l = vs.map T.p
  | [], vs, h => by simp only [allTP, Option.some.injEq] at h; subst h; rfl
  | .p v :: r, vs, h => by
    simp only [allTP] at h
    cases h1 : allTP r with
    | none => rw [h1] at h; cases h
    | some l => rw [h1] at h; cases h; rw [allTP_some h1]; rfl
  | .m _ :: _, vs, h | .agg _ :: _, vs, h | .vec .. :: _, vs, h | .mp .. :: _, vs, h | .hole _ :: _, vs, h => by simp [allTP] at h
theorem allTP_ps {α : Type} : ∀ vs : List PV, allTP (vs.map (T.p (α := α))) = some vs
  | [] => rfl
  | v :: r => by simp only [List.map_cons, allTP, allTP_ps r]
theorem mkTAgg_cases {α : Type} (l : List (T α)) : (∃ vs, l = vs.map T.p ∧ mkTAgg l = .p (.agg vs)) ∨ mkTAgg l = .agg l := by
  unfold mkTAgg
  cases h : allTP l with
  | none => exact .inr rfl
  | some vs => exact .inl ⟨vs, allTP_some h, rfl⟩
theorem css_map_p {α : Type} : ∀ vs : List PV, T.css (vs.map (T.p (α := α))) = PV.css vs
  | [] => rfl
  | v :: r => by simp only [List.map_cons, T.css, T.cs, PV.css, css_map_p r]
theorem mkTAgg_css {α : Type} (l : List (T α)) : (mkTAgg l).cs = T.css l := by
  rcases mkTAgg_cases l with ⟨vs, rfl, h⟩ | h
  · rw [h, css_map_p]; rfl
  · rw [h]; rfl
mutual
theorem encT_cs (s : Nat) : ∀ (t : Ty) (x : El t), (encT s t x).cs = t.cs
  | .opr t, x => enc_cs (.opr t) x
  | .agg ts, x => by simp only [encT, mkTAgg_css, Ty.cs]; exact encTs_cs s ts x
  | .int _, _ | .bool, _ | .str, _ | .sl _, _ | .ref _, _ | .fn _ _, _ | .mp _ _, _ | .nilp, _ | .nilf, _ | .vec _ _, _ => rfl
theorem encTs_cs (s : Nat) : ∀ (ts : List Ty) (x : Els ts), T.css (encTs s ts x) = Ty.css ts
  | [], _ => rfl
  | t :: r, x => by simp only [encTs, T.css, Ty.css]; rw [encT_cs s t, encTs_cs s r]
end
mutual
theorem encT_pure (s : Nat) : ∀ (t : Ty) (x : El t), t.pure = true → encT s t x = .p (enc t x)
  | .agg ts, x, h => by
    simp only [encT, enc]
    rw [encTs_pure s ts x h]
    simp only [mkTAgg, allTP_ps]
  | .int _, _, _ | .bool, _, _ | .str, _, _ | .sl _, _, _ | .ref _, _, _ | .fn _ _, _, _ | .mp _ _, _, _ | .nilp, _, _ | .nilf, _, _ | .opr _, _, _ => rfl
  | .vec _ _, _, h => by simp [Ty.pure] at h
theorem encTs_pure (s : Nat) : ∀ (ts : List Ty) (x : Els ts), Ty.pures ts = true → encTs s ts x = (encs ts x).map T.p
  | [], _, _ => rfl
  | t :: r, x, h => by
    simp only [Ty.pures, Bool.and_eq_true] at h
    simp only [encTs, encs, List.map_cons]
    rw [encT_pure s t _ h.1, encTs_pure s r _ h.2]
end
theorem pureTs_map : ∀ vs : List PV, pureTs (vs.map T.p) = some vs
  | [] => rfl
  | v :: r => by simp only [List.map_cons, pureTs, pureT, pureTs_map r]
theorem pureT_mk (l : List (T Nat)) : pureT (mkTAgg l) = match pureTs l with | some vs => some (.agg vs) | none => none := by
  rcases mkTAgg_cases l with ⟨vs, rfl, h⟩ | h
  · rw [h, pureTs_map]; rfl
  · rw [h]; rfl
mutual
theorem pureT_enc (s : Nat) : ∀ (t : Ty) (x : El t), pureT (encT s t x) = some (enc t x)
  | .agg ts, x => by simp only [encT, pureT_mk, pureTs_encs s ts x]; rfl
  | .vec z t, x => by
    have h : ∀ l : List (El t), pureTs (l.map (encT s t)) = some (l.map (enc t)) := by
      intro l
      induction l with
      | nil => rfl
      | cons a r ih => simp only [List.map_cons, pureTs, pureT_enc s t a, ih]
    have key : ∀ l : List (El t), (match pureTs (l.map (encT s t)) with | some vs => some (PV.sl (vs.take l.length)) | none => none) = some (PV.sl (l.map (enc t))) := by
      intro l
      rw [h]
      simp only
      rw [List.take_of_length_le (by simp)]
    exact key x
  | .int _, _ | .bool, _ | .str, _ | .sl _, _ | .ref _, _ | .fn _ _, _ | .mp _ _, _ | .nilp, _ | .nilf, _ | .opr _, _ => rfl
theorem pureTs_encs (s : Nat) : ∀ (ts : List Ty) (x : Els ts), pureTs (encTs s ts x) = some (encs ts x)
  | [], _ => rfl
  | t :: r, x => by simp only [encTs, encs, pureTs]; rw [pureT_enc s t, pureTs_encs s r]
end
theorem mapTs_map (φ : MV → MV) (ζ : Nat → Nat) : ∀ l : List (T Nat), mapTs φ ζ l = l.map (mapT φ ζ)
  | [] => rfl
  | x :: r => by simp only [mapTs, List.map_cons, mapTs_map φ ζ r]
theorem mapT_mk (φ : MV → MV) (ζ : Nat → Nat) (l : List (T Nat)) (h : ∀ t ∈ l, ∀ v, t ≠ .m v) : mapT φ ζ (mkTAgg l) = mkTAgg (l.map (mapT φ ζ)) := by
  have hp : ∀ l : List (T Nat), (∀ t ∈ l, ∀ v, t ≠ T.m v) → allTP (l.map (mapT φ ζ)) = allTP l := by
    intro l h
    induction l with
    | nil => rfl
    | cons a r ih =>
      have ih := ih (fun t ht => h t (by simp [ht]))
      cases a with
      | p v => simp only [List.map_cons, mapT, allTP, ih]
      | m v => exact absurd rfl (h _ (by simp) v)
      | _ => rfl
  unfold mkTAgg
  rw [hp l h]
  cases allTP l with
  | none => simp only [mapT, mapTs_map]
  | some vs => rfl
mutual
theorem encT_nm (s : Nat) : ∀ (t : Ty) (x : El t) (v : MV), encT s t x ≠ .m v
  | .agg ts, x, v => by
    simp only [encT]
    rcases mkTAgg_cases (encTs s ts x) with ⟨vs, _, h⟩ | h <;> rw [h] <;> simp
  | .int _, _, _ | .bool, _, _ | .str, _, _ | .sl _, _, _ | .ref _, _, _ | .fn _ _, _, _ | .mp _ _, _, _ | .nilp, _, _ | .nilf, _, _ | .vec _ _, _, _ | .opr _, _, _ => by simp [encT]
end
theorem encTs_nm (s : Nat) : ∀ (ts : List Ty) (x : Els ts), ∀ u ∈ encTs s ts x, ∀ v, u ≠ .m v
  | [], _, u, h => by simp [encTs] at h
  | t :: r, x, u, h => by
    simp only [encTs, List.mem_cons] at h
    rcases h with rfl | h
    · exact encT_nm s t _
    · exact encTs_nm s r _ u h
mutual
theorem mapT_enc (φ : MV → MV) (ζ : Nat → Nat) (s : Nat) : ∀ (t : Ty) (x : El t), mapT φ ζ (encT s t x) = encT (ζ s) t x
  | .agg ts, x => by
    simp only [encT]
    rw [mapT_mk _ _ _ (encTs_nm s ts x), ← mapTs_map, mapTs_encs φ ζ s ts x]
  | .vec z t, x => by
    have h : ∀ l : List (El t), mapTs φ ζ (l.map (encT s t)) = l.map (encT (ζ s) t) := by
      intro l
      induction l with
      | nil => rfl
      | cons a r ih => simp only [List.map_cons, mapTs, mapT_enc φ ζ s t a, ih]
    have key : ∀ l : List (El t), T.vec (ζ s) z (mapTs φ ζ (l.map (encT s t))) l.length = T.vec (ζ s) z (l.map (encT (ζ s) t)) l.length := by
      intro l
      rw [h]
    exact key x
  | .int _, _ | .bool, _ | .str, _ | .sl _, _ | .ref _, _ | .fn _ _, _ | .mp _ _, _ | .nilp, _ | .nilf, _ | .opr _, _ => rfl
theorem mapTs_encs (φ : MV → MV) (ζ : Nat → Nat) (s : Nat) : ∀ (ts : List Ty) (x : Els ts), mapTs φ ζ (encTs s ts x) = encTs (ζ s) ts x
  | [], _ => rfl
  | t :: r, x => by simp only [encTs, mapTs]; rw [mapT_enc φ ζ s t, mapTs_encs φ ζ s r]
end
theorem refsTs_p : ∀ vs : List PV, refsTs (vs.map (T.p (α := Nat))) = []
  | [] => rfl
  | v :: r => by simp only [List.map_cons, refsTs, refsT, refsTs_p r, List.nil_append]
theorem refsT_mk (l : List (T Nat)) : refsT (mkTAgg l) = refsTs l := by
  rcases mkTAgg_cases l with ⟨vs, rfl, h⟩ | h
  · rw [h, refsTs_p]; rfl
  · rw [h]; rfl
mutual
theorem refsT_enc (s : Nat) : ∀ (t : Ty) (x : El t), refsT (encT s t x) = []
  | .agg ts, x => by simp only [encT, refsT_mk]; exact refsTs_encs s ts x
  | .vec z t, x => by
    have h : ∀ l : List (El t), refsTs (l.map (encT s t)) = [] := by
      intro l
      induction l with
      | nil => rfl
      | cons a r ih => simp only [List.map_cons, refsTs, refsT_enc s t a, ih, List.nil_append]
    show refsTs (List.map (encT s t) x) = _
    exact h x
  | .int _, _ | .bool, _ | .str, _ | .sl _, _ | .ref _, _ | .fn _ _, _ | .mp _ _, _ | .nilp, _ | .nilf, _ | .opr _, _ => rfl
theorem refsTs_encs (s : Nat) : ∀ (ts : List Ty) (x : Els ts), refsTs (encTs s ts x) = []
  | [], _ => rfl
  | t :: r, x => by simp only [encTs, refsTs]; rw [refsT_enc s t, refsTs_encs s r]; rfl
end
theorem refsTs_base (s : Nat) (t : Ty) : ∀ l : List (El t), refsTs (l.map (encT s t)) = []
  | [] => rfl
  | a :: r => by simp only [List.map_cons, refsTs, refsT_enc s t a, refsTs_base s t r, List.nil_append]
theorem mapTs_base (φ : MV → MV) (ζ : Nat → Nat) (s : Nat) (t : Ty) (l : List (El t)) : mapTs φ ζ (l.map (encT s t)) = l.map (encT (ζ s) t) := by
  rw [mapTs_map, List.map_map]
  congr 1
  funext x
  exact mapT_enc φ ζ s t x
theorem pureTs_base (s : Nat) (t : Ty) : ∀ l : List (El t), pureTs (l.map (encT s t)) = some (l.map (enc t))
  | [] => rfl
  | a :: r => by simp only [List.map_cons, pureTs, pureT_enc s t a, pureTs_base s t r]

/-! ### owned memory -/
mutual
inductive T2 where
  | e (s : Nat) (t : Ty) (x : El t)
  | w (v : W)
  | agg (l : List T2)
  | vec (g z : Nat) (l : SL) (n : Nat)
  | hole (n : Nat)
/-- the elements of an array: a list of typed values, changed at a place, or with one more at the end -/
inductive SL where
  | base (s : Nat) (t : Ty) (l : List (El t))
  | set (a : SL) (i : Nat) (u : T2)
  | app (a : SL) (u : T2)
end
instance : Inhabited T2 := ⟨.hole 0⟩
inductive O2 where
  | cell (g : Nat) (t : T2)
  | vec (g z : Nat) (l : SL)
  | mp (g : Nat) (k v : Ty) (l : List (El k × El v))
  | gone
instance : Inhabited O2 := ⟨.gone⟩
mutual
def cT : T2 → T Nat
  | .e s t x => encT s t x
  | .w v => .m (cW v)
  | .agg l => mkTAgg (cTs l)
  | .vec g z l n => .vec g z (cSL l) n
  | .hole n => .hole n
def cTs : List T2 → List (T Nat)
  | [] => []
  | x :: r => cT x :: cTs r
def cSL : SL → List (T Nat)
  | .base s t l => l.map (encT s t)
  | .set a i u => (cSL a).set i (cT u)
  | .app a u => cSL a ++ [cT u]
end
def cO : O2 → Obj Nat
  | .cell g t => .cell g (cT t)
  | .vec g z l => .vec g z (cSL l)
  | .mp g k v l => .mp g (l.map fun p => enc k p.1) (l.map fun p => .p (enc v p.2))
  | .gone => .gone
theorem cTs_map : ∀ l : List T2, cTs l = l.map cT
  | [] => rfl
  | x :: r => by simp only [cTs, List.map_cons, cTs_map r]
def SL.len : SL → Nat
  | .base _ _ l => l.length
  | .set a _ _ => a.len
  | .app a _ => a.len + 1
theorem SL.len_eq : ∀ a : SL, (cSL a).length = a.len
  | .base _ _ l => by simp [cSL, SL.len]
  | .set a i u => by simp only [cSL, List.length_set, SL.len]; exact SL.len_eq a
  | .app a u => by simp only [cSL, List.length_append, List.length_cons, List.length_nil, SL.len]; rw [SL.len_eq a]

abbrev S2 := List (Nat × W)
abbrev H2 := List (Nat × O2)
def getS : S2 → Nat → W
  | [], _ => .dead 0
  | (j, v) :: r, k => if k == j then v else getS r k
def getH : H2 → Nat → Option O2
  | [], _ => none
  | (j, v) :: r, k => if k == j then some v else getH r k
def setA {α : Type} : List (Nat × α) → Nat → α → List (Nat × α)
  | [], k, v => [(k, v)]
  | (j, u) :: r, k, v => if k == j then (k, v) :: r else (j, u) :: setA r k v
def cSs : S2 → List (Nat × MV)
  | [] => []
  | (j, v) :: r => (j, cW v) :: cSs r
def cHs : H2 → List (Nat × Obj Nat)
  | [] => []
  | (j, v) :: r => (j, cO v) :: cHs r
abbrev cS (s : S2) : Slots := mkS (cSs s)
abbrev cH (h : H2) : Heap := mkH (cHs h)
theorem cS_get : ∀ (s : S2) (k : Nat), cS s k = cW (getS s k)
  | [], k => rfl
  | (j, v) :: r, k => by
    show mkS ((j, cW v) :: cSs r) k = cW (if k == j then v else getS r k)
    rw [mkS_cons]
    by_cases h : k = j
    · simp [h]
    · rw [if_neg h, if_neg (by simpa using h)]; exact cS_get r k
theorem cH_get : ∀ (h : H2) (k : Nat), cH h k = (getH h k).map cO
  | [], k => rfl
  | (j, v) :: r, k => by
    show mkH ((j, cO v) :: cHs r) k = Option.map cO (if k == j then some v else getH r k)
    rw [mkH_cons]
    by_cases h : k = j
    · simp [h]
    · rw [if_neg h, if_neg (by simpa using h)]; exact cH_get r k
theorem cSs_set : ∀ (s : S2) (k : Nat) (v : W), cSs (setA s k v) = setL (cSs s) k (cW v)
  | [], k, v => rfl
  | (j, u) :: r, k, v => by
    simp only [setA, cSs, setL]
    by_cases h : k = j
    · simp [h, cSs]
    · rw [if_neg h, if_neg (by simpa using h)]; simp only [cSs, cSs_set r k v]
theorem cHs_set : ∀ (s : H2) (k : Nat) (v : O2), cHs (setA s k v) = setL (cHs s) k (cO v)
  | [], k, v => rfl
  | (j, u) :: r, k, v => by
    simp only [setA, cHs, setL]
    by_cases h : k = j
    · simp [h, cHs]
    · rw [if_neg h, if_neg (by simpa using h)]; simp only [cHs, cHs_set r k v]
theorem cH_upd (h : H2) (k : Nat) (o : O2) : upd (cH h) k (some (cO o)) = cH (setA h k o) := by
  rw [upd_mkH, ← cHs_set]
theorem cS_upd (s : S2) (k : Nat) (v : W) : upd (cS s) k (cW v) = cS (setA s k v) := by
  rw [upd_mkS, ← cSs_set]

/-! ### views -/
mutual
def wcs : W → Nat
  | .c p => p.cs
  | .v t _ => t.cs
  | .agg l => wcss l
  | .tup _ => 0
  | .dead n => n
  | .nil _ | .own .. | .ptr .. | .mref .. | .fn .. => 1
def wcss : List W → Nat
  | [] => 0
  | x :: r => wcs x + wcss r
end
mutual
theorem wcs_eq : ∀ w : W, (cW w).cs = wcs w
  | .c p => rfl
  | .v t x => enc_cs t x
  | .agg l => by simp only [cW, MV.cs, wcs]; exact wcss_eq l
  | .tup _ => rfl
  | .dead n => rfl
  | .nil _ | .own .. | .ptr .. | .mref .. | .fn .. => rfl
theorem wcss_eq : ∀ l : List W, MV.css (cWs l) = wcss l
  | [] => rfl
  | x :: r => by simp only [cWs, MV.css, wcss]; rw [wcs_eq x, wcss_eq r]
end
def wlive : W → Bool
  | .dead _ | .tup _ => false
  | _ => true
theorem wlive_eq (w : W) : liveM (cW w) = wlive w := by cases w <;> rfl
def wagg : W → Bool
  | .c p => p.isAgg
  | .v t _ => t.isAgg
  | .agg _ => true
  | _ => false
theorem wagg_eq (w : W) : (cW w).isAgg = wagg w := by
  cases w <;> simp only [cW, wagg] <;> first | rfl | exact enc_isAgg _ _
mutual
def wrefs : W → List Nat
  | .own id .. | .ptr id .. | .mref id .. => [id]
  | .agg l | .fn _ l | .tup l => wrefss l
  | _ => []
def wrefss : List W → List Nat
  | [] => []
  | x :: r => wrefs x ++ wrefss r
end
mutual
theorem wrefs_eq : ∀ w : W, refsM (cW w) = wrefs w
  | .own .. | .ptr .. | .mref .. | .c _ | .v _ _ | .nil _ | .dead _ => rfl
  | .agg l | .fn _ l | .tup l => by simp only [cW, refsM, wrefs]; exact wrefss_eq l
theorem wrefss_eq : ∀ l : List W, refsMs (cWs l) = wrefss l
  | [] => rfl
  | x :: r => by simp only [cWs, refsMs, wrefss]; rw [wrefs_eq x, wrefss_eq r]
end
mutual
/-- the roots that are referred to; none: not told -/
def trefs : T2 → Option (List Nat)
  | .e .. => some []
  | .hole _ => some []
  | .w v => some (wrefs v)
  | .agg l => trefss l
  | .vec _ _ l _ => if slfree l then some [] else none
def trefss : List T2 → Option (List Nat)
  | [] => some []
  | x :: r => match trefs x, trefss r with | some a, some b => some (a ++ b) | _, _ => none
def slfree : SL → Bool
  | .base .. => true
  | .set a _ u => slfree a && (match trefs u with | some [] => true | _ => false)
  | .app a u => slfree a && (match trefs u with | some [] => true | _ => false)
end
def orefs : O2 → Option (List Nat)
  | .cell _ t => trefs t
  | .vec _ _ l => if slfree l then some [] else none
  | .mp .. => some []
  | .gone => some []
theorem refsTs_nil {l : List (T Nat)} : refsTs l = [] ↔ ∀ t ∈ l, refsT t = [] := by
  induction l with
  | nil => simp [refsTs]
  | cons a r ih => simp [refsTs, ih]
mutual
theorem trefs_eq : ∀ (t : T2) (l : List Nat), trefs t = some l → refsT (cT t) = l
  | .e s t x, l, h => by simp only [trefs, Option.some.injEq] at h; subst h; exact refsT_enc s t x
  | .hole _, l, h => by simp only [trefs, Option.some.injEq] at h; subst h; rfl
  | .w v, l, h => by simp only [trefs, Option.some.injEq] at h; subst h; exact wrefs_eq v
  | .agg q, l, h => by
    simp only [trefs] at h
    simp only [cT, refsT_mk]; exact trefss_eq q l h
  | .vec g z q n, l, h => by
    simp only [trefs] at h
    split at h
    · rename_i hf; cases h; exact slfree_eq q hf
    · cases h
theorem trefss_eq : ∀ (q : List T2) (l : List Nat), trefss q = some l → refsTs (cTs q) = l
  | [], l, h => by simp only [trefss, Option.some.injEq] at h; subst h; rfl
  | x :: r, l, h => by
    simp only [trefss] at h
    cases h1 : trefs x with
    | none => rw [h1] at h; cases h
    | some a =>
      cases h2 : trefss r with
      | none => rw [h1, h2] at h; cases h
      | some b =>
        rw [h1, h2] at h
        cases h
        simp only [cTs, refsTs]
        rw [trefs_eq x a h1, trefss_eq r b h2]
theorem slfree_eq : ∀ q : SL, slfree q = true → refsTs (cSL q) = []
  | .base s t l, _ => refsTs_base s t l
  | .set a i u, h => by
    simp only [slfree, Bool.and_eq_true] at h
    obtain ⟨h1, h2⟩ := h
    have h3 := slfree_eq a h1
    have h4 : refsT (cT u) = [] := by
      cases hu : trefs u with
      | none => rw [hu] at h2; cases h2
      | some l =>
        cases l with
        | nil => exact trefs_eq u [] hu
        | cons _ _ => rw [hu] at h2; cases h2
    rw [refsTs_nil] at h3 ⊢
    intro t ht
    simp only [cSL] at ht
    rcases List.mem_or_eq_of_mem_set ht with ht | ht
    · exact h3 t ht
    · rw [ht, h4]
  | .app a u, h => by
    simp only [slfree, Bool.and_eq_true] at h
    obtain ⟨h1, h2⟩ := h
    have h3 := slfree_eq a h1
    have h4 : refsT (cT u) = [] := by
      cases hu : trefs u with
      | none => rw [hu] at h2; cases h2
      | some l =>
        cases l with
        | nil => exact trefs_eq u [] hu
        | cons _ _ => rw [hu] at h2; cases h2
    rw [refsTs_nil] at h3 ⊢
    intro t ht
    simp only [cSL, List.mem_append, List.mem_singleton] at ht
    rcases ht with ht | ht
    · exact h3 t ht
    · rw [ht, h4]
end
theorem orefs_eq (o : O2) (l : List Nat) (h : orefs o = some l) : refsO (some (cO o)) = l := by
  cases o with
  | cell g t => exact trefs_eq t l h
  | vec g z q =>
    simp only [orefs] at h
    split at h
    · rename_i hf; cases h; exact slfree_eq q hf
    · cases h
  | mp g k v m =>
    simp only [orefs, Option.some.injEq] at h; subst h
    show refsTs (m.map fun p => T.p (enc v p.2)) = []
    rw [refsTs_nil]
    intro t ht
    simp only [List.mem_map] at ht
    obtain ⟨p, _, rfl⟩ := ht
    rfl
  | gone => simp only [orefs, Option.some.injEq] at h; subst h; rfl
/-- a typed value with its type -/
abbrev TV := (t : Ty) × El t
/-- a pure value with its type -/
def pv? : W → Option TV
  | .v t x => some ⟨t, x⟩
  | .c p => match tyP p with
    | some t => match dec t p with | some x => some ⟨t, x⟩ | none => none
    | none => none
  | _ => none
theorem pv?_eq {w : W} {t : Ty} {x : El t} (h : pv? w = some ⟨t, x⟩) : cW w = .p (enc t x) := by
  cases w <;> simp only [pv?, reduceCtorEq] at h
  case v => cases h; rfl
  case c p =>
    cases h1 : tyP p with
    | none => rw [h1] at h; cases h
    | some u =>
      rw [h1] at h
      simp only at h
      cases h2 : dec u p with
      | none => rw [h2] at h; cases h
      | some y => rw [h2] at h; cases h; rw [dec_enc _ _ _ h2]; rfl
/-- a pure value at a given type -/
def as? (t : Ty) : W → Option (El t)
  | .v _ x => castE t x
  | .c p => dec t p
  | _ => none
theorem as?_eq {t : Ty} {w : W} {x : El t} (h : as? t w = some x) : cW w = .p (enc t x) := by
  cases w <;> simp only [as?, reduceCtorEq] at h
  case v u y => rw [← (castE_enc h).2.2]; rfl
  case c p => rw [dec_enc _ _ _ h]; rfl
def int? : W → Option (IntKind × Int)
  | .v (.int k) x => some (k, x)
  | .c (.int k n) => some (k, n)
  | _ => none
theorem int?_eq {w : W} {k : IntKind} {n : Int} (h : int? w = some (k, n)) : cW w = .p (.int k n) := by
  unfold int? at h
  split at h <;> cases h <;> rfl
def bool? : W → Option Bool
  | .v .bool x => some x
  | .c (.bool b) => some b
  | _ => none
theorem bool?_eq {w : W} {b : Bool} (h : bool? w = some b) : cW w = .p (.bool b) := by
  unfold bool? at h
  split at h <;> cases h <;> rfl
def str? : W → Option ByteArray
  | .v .str x => some x
  | .c (.str b) => some b
  | _ => none
theorem str?_eq {w : W} {b : ByteArray} (h : str? w = some b) : cW w = .p (.str b) := by
  unfold str? at h
  split at h <;> cases h <;> rfl
/-- the index of a constant or another one: as a step into elements of z cells -/
def stepOf (z : Nat) (n : Nat) : W → Step
  | .c _ => .f n (n * z)
  | _ => .k n z
theorem stepOf_ix (z n : Nat) (w : W) : (stepOf z n w).ix = n := by cases w <;> rfl
theorem stepOf_of (z n : Nat) (w : W) : (stepOf z n w).of = n * z := by cases w <;> rfl
end Go.Mid
/- slices.Clone: its contract, by hand (the test for nil asks more than values). -/
namespace Go.Mid
set_option linter.unusedSimpArgs false
set_option linter.unusedVariables false
open Go.RowKit
variable {P : Program}
def cloneB : Ann := { keep := [([2], [2]), ([2], [5])], mt := [5] }
def noTbl : Tbl := fun _ => none
theorem noTbl_ok (hmix : P.follows .mixedOrders = true) : TblOk P noTbl := ⟨hmix, fun _ _ h => (by cases h), fun _ _ h => (by cases h)⟩
def cloneC1 (z : Nat) : MC := .reg [] [⟨some 2, none, .nilv z⟩]
def cloneC2 (z : Nat) : MC := .seq (.reg [] [⟨some 2, none, .nilv z⟩]) (.seq (.gh (.keep [2] [2])) .ret)
def cloneC3 (z b : Nat) : MC := .seq (.reg [] [⟨some 5, none, .bsl true z []⟩, ⟨some 6, none, .move (.t 0)⟩, ⟨some 7, none, .app false z b (.t 5) (.t 6)⟩, ⟨some 2, none, .move (.t 7)⟩]) (.seq (.gh (.keep [2] [5])) .ret)
theorem all_plain (l : List PV) : (l.map (T.p (α := Nat))).all plainT = true := by simp [plainT]
theorem all_cs (z : Nat) (l : List PV) (h : l.all (fun v => v.cs == z) = true) : csAll z (l.map (T.p (α := Nat))) = true := by
  simpa [csAll, T.cs] using h
theorem mapTs_pv (φ : MV → MV) (ζ : Nat → Nat) (l : List PV) : mapTs φ ζ (l.map T.p) = l.map T.p := by
  induction l with
  | nil => rfl
  | cons x r ih => simp only [List.map_cons, mapTs, mapT, ih]
theorem clone_tk (h : Heap) (l : List PV) : takeElems h (.p (.sl l)) = some (l.map .p, h) := by
  unfold takeElems elems
  simp only [all_plain, if_true]
theorem clone_app (z b : Nat) (l : List PV) (h : Heap) (hz : l.all (fun v => v.cs == z) = true) (hb : l.length * b ≤ room) (h5 : h 5 = some (.vec 2 z [])) :
    appOp 4 (some 7) h z b (.own 5 [] 0 0 2) (.p (.sl l)) = some (.own 5 [] 0 l.length 4, upd h 5 (some (.vec 4 z (l.map .p)))) := by
  unfold appOp
  rw [clone_tk]
  simp only [all_cs z l hz, Bool.not_true, Bool.false_eq_true, if_false, if_true, h5, appRoot, List.length_map, Nat.zero_add, hb, List.length_nil, Nat.le_refl, and_self, stamps_p, List.take_nil, List.nil_append]
theorem clone_r3 (z b : Nat) (l : List PV) (s : Slots) (h : Heap) (h0 : s 0 = .p (.sl l)) (hz : l.all (fun v => v.cs == z) = true) (hb : l.length * b ≤ room) :
    ∃ σ, run noTbl 5 (cloneC3 z b) ⟨s, h, 2⟩ = some (.ret, σ) ∧ σ.s 2 = .own 5 [] 0 l.length 1 ∧ σ.h 5 = some (.vec 1 z (l.map .p)) := by
  have hreg : runReg (callF noTbl (run noTbl 3)) [] [⟨some 5, none, .bsl true z []⟩, ⟨some 6, none, .move (.t 0)⟩, ⟨some 7, none, .app false z b (.t 5) (.t 6)⟩, ⟨some 2, none, .move (.t 7)⟩] ⟨s, h, 2⟩ =
      some ⟨upd (upd (upd (upd s 5 (.own 5 [] 0 0 2)) 6 (.p (.sl l))) 7 (.own 5 [] 0 l.length 4)) 2 (.own 5 [] 0 l.length 4), upd (upd h 5 (some (.vec 2 z []))) 5 (some (.vec 4 z (l.map .p))), 6⟩ := by
    have e1 : evalOp (callF noTbl (run noTbl 3)) 2 (some 5) s h (.bsl true z []) = some (.own 5 [] 0 0 2, upd h 5 (some (.vec 2 z []))) := rfl
    have e2 : evalOp (callF noTbl (run noTbl 3)) 3 (some 6) (upd s 5 (.own 5 [] 0 0 2)) (upd h 5 (some (.vec 2 z []))) (.move (.t 0)) = some (.p (.sl l), upd h 5 (some (.vec 2 z []))) := by
      show some (upd s 5 (.own 5 [] 0 0 2) 0, _) = _
      rw [upd_other _ _ (by decide), h0]
    have e3 : evalOp (callF noTbl (run noTbl 3)) 4 (some 7) (upd (upd s 5 (.own 5 [] 0 0 2)) 6 (.p (.sl l))) (upd h 5 (some (.vec 2 z []))) (.app false z b (.t 5) (.t 6)) =
        some (.own 5 [] 0 l.length 4, upd (upd h 5 (some (.vec 2 z []))) 5 (some (.vec 4 z (l.map .p)))) := by
      show (match appOp 4 (some 7) (upd h 5 (some (.vec 2 z []))) z b (.own 5 [] 0 0 2) (.p (.sl l)) with
        | some (MV.own id [] off len g1, h1) => if false = true then (match pureM h1 (.own id [] off len g1) with | some v => some (MV.p v, upd h1 id (some .gone)) | none => none) else some (MV.own id [] off len g1, h1)
        | _ => none) = _
      rw [clone_app z b l _ hz hb (upd_same _ _ _)]
      rfl
    simp only [runReg, stepAll, stepIns, wantedM, e1, updo, e2, e3]
    rfl
  have hr : run noTbl 4 (.reg [] [⟨some 5, none, .bsl true z []⟩, ⟨some 6, none, .move (.t 0)⟩, ⟨some 7, none, .app false z b (.t 5) (.t 6)⟩, ⟨some 2, none, .move (.t 7)⟩]) ⟨s, h, 2⟩ = some (.normal, ⟨upd (upd (upd (upd s 5 (.own 5 [] 0 0 2)) 6 (.p (.sl l))) 7 (.own 5 [] 0 l.length 4)) 2 (.own 5 [] 0 l.length 4), upd (upd h 5 (some (.vec 2 z []))) 5 (some (.vec 4 z (l.map .p))), 6⟩) := by
    show (match runReg _ _ _ _ with | some σ' => some (Ex.normal, σ') | none => none) = _
    rw [hreg]
  refine ⟨forget [2] [5] ⟨upd (upd (upd (upd s 5 (.own 5 [] 0 0 2)) 6 (.p (.sl l))) 7 (.own 5 [] 0 l.length 4)) 2 (.own 5 [] 0 l.length 4), upd (upd h 5 (some (.vec 2 z []))) 5 (some (.vec 4 z (l.map .p))), 6⟩, ?_, ?_, ?_⟩
  · show (match run noTbl 4 _ _ with | some (.normal, σ') => run noTbl 4 (.seq (.gh (.keep [2] [5])) .ret) σ' | r => r) = _
    rw [hr]
    rfl
  · simp [forget, keepB, keepIds, cleanM, okOwn, vecAt, touched, upd]
  · simp [forget, keepB, keepIds, upd, mapO, mapTs_pv, touched]
theorem clone_r2 (z : Nat) (s : Slots) (h : Heap) : ∃ σ, run noTbl 5 (cloneC2 z) ⟨s, h, 2⟩ = some (.ret, σ) ∧ σ.s 2 = .own 2 [] 0 0 1 ∧ σ.h 2 = some (.vec 1 z []) := by
  refine ⟨_, rfl, ?_, ?_⟩
  · simp [forget, keepB, keepIds, cleanM, okOwn, vecAt, touched, updo, upd]
  · simp [forget, keepB, keepIds, upd, mapO, mapTs, touched]
theorem clone_fin (k z : Nat) (l : List PV) (σ : St) (mc : MC) (hk : k < extBase) (h1 : σ.s 2 = .own k [] 0 l.length 1) (h2 : σ.h k = some (.vec 1 z (l.map .p))) :
    finish ⟨mc, [.tmp 2], false⟩ 0 σ = some (.own escBase [] 0 l.length 1, [], [.vec 1 z (l.map .p)]) := by
  have hr : refsO (σ.h k) = [] := by rw [h2]; exact refsTs_p l
  have r1 : roots1 σ.h [k] = [k] := by
    simp only [roots1, List.flatMap_cons, List.flatMap_nil, hr, List.append_nil]
    rfl
  have e1 : readAll σ.s σ.h [.tmp 2] = some [.own k [] 0 l.length 1] := by simp [readAll, readRes, h1]
  have e2 : [k].filter isLocal = [k] := by simp only [List.filter, isLocal, decide_eq_true hk]
  have e3 : getAll σ.h [k] = some [.vec 1 z (l.map .p)] := by simp [getAll, h2]
  unfold finish
  rw [if_neg (by decide)]
  simp only [e1, packRes, refsM, List.range_zero, List.map_nil, List.append_nil, r1, e2, e3, getAll, Bool.false_eq_true, if_false]
  have e4 : outId 0 [k] k = some escBase := by
    unfold outId
    rw [if_neg (by omega)]
    simp [indexIn]
  have e5 : okOwn σ.h k [] 1 = true := by simp [okOwn, h2, vecAt]
  simp only [cleanM, e4, e5, if_true, List.map_cons, List.map_nil, mapO, mapTs_pv]
  rfl
set_option maxHeartbeats 1000000 in
theorem clone_ok {f T E z b : Nat} {fn : Func} {i0 i1 i2 i3 : Nat} {o0 o2 o3 : Array Oper} {m q : Oper}
    (hmix : P.follows .mixedOrders = true) (hfn : P.funcs[f]? = some fn) (hname : (fn.name == "runtime.NumGoroutine") = false) (hnt : fn.ntmps = 8)
    (hbody : fn.body = some (.seq (.region i0 o0 false) (.seq (.seq (.region i1 #[m, q] false) (.cond (.tmp 4) (.seq (.region i2 o2 false) .ret) .skip)) (.seq (.region i3 o3 false) .ret))))
    (hm1 : m.op = .move (.tmp 0)) (hm2 : m.dst = some 3) (hm3 : m.guard = none)
    (hq1 : q.op = .binOp .eql T (.tmp 3) (.const (.slice none 0 0)) T) (hq2 : q.dst = some 4) (hq3 : q.guard = none)
    (hu : P.underlying T = some (.slice E))
    (c1 : codeC P cloneB 8 (.region i0 o0 false) 0 = some (cloneC1 z, 0))
    (c2 : codeC P cloneB 8 (.seq (.region i2 o2 false) .ret) 0 = some (cloneC2 z, 1))
    (c3 : codeC P cloneB 8 (.seq (.region i3 o3 false) .ret) 1 = some (cloneC3 z b, 2))
    (hres : ressC P 8 fn.results.toList = some [.tmp 2]) : PrimOk P f (.clone z b) := by
  intro args ext r ext' esc hp
  have hp0 : ∃ l, args = [.p (.sl l)] ∧ ext = [] := by
    cases ext with
    | cons e es => cases args with
      | nil => cases hp
      | cons a as => simp [primF] at hp
    | nil => cases args with
      | nil => cases hp
      | cons a as => cases as with
        | cons b bs => simp [primF] at hp
        | nil => cases a with
          | p v => cases v with
            | sl l => exact ⟨l, rfl, rfl⟩
            | _ => simp [primF] at hp
          | _ => simp [primF] at hp
  obtain ⟨l, rfl, rfl⟩ := hp0
  have hp : (if l.all (fun v => v.cs == z) && decide (l.length * b ≤ room) then some ((.own escBase [] 0 l.length 1 : MV), ([] : List (Obj Nat)), [Obj.vec 1 z (l.map .p)]) else none) = some (r, ext', esc) := hp
  · split at hp
    · rename_i hcond
      simp only [Bool.and_eq_true, decide_eq_true_eq] at hcond
      simp only [Option.some.injEq, Prod.mk.injEq] at hp
      obtain ⟨rfl, rfl, rfl⟩ := hp
      refine ⟨⟨fn, hfn, hname, by rw [hbody]; rfl⟩, ?_⟩
      intro w A Eh vals hgl hv hm
      have hT := noTbl_ok hmix
      simp only [MVvs] at hv
      obtain ⟨v, d, rfl, hv, rfl⟩ := hv
      obtain ⟨ad, cap, rfl, hcap, hel⟩ := MVv_sl.1 hv
      have hsim : Sim P w A Eh 8 ⟨argSlots [.p (.sl l)], extHeap [], 1⟩ { tmps := #[.slice ad l.length cap] ++ Array.replicate (fn.ntmps - 1) undef, defers := [] } := by
        have hle : S0.le (· < 1) := S0_le (Nat.le_refl 1)
        refine ⟨⟨fun i => ?_, hgl⟩, hm.mono hle, Nat.le_refl 1, rfl, ?_⟩
        · cases i with
          | zero =>
            have h2 : (#[Value.slice ad l.length cap] ++ Array.replicate (fn.ntmps - 1) undef).getD 0 undef = .slice ad l.length cap := by
              simp only [Array.getD_eq_getD_getElem?]
              rw [Array.getElem?_append_left (by simp)]
              rfl
            rw [h2]
            exact hv.frame (Fr.same w A Eh hle)
          | succ i =>
            show MVv w A Eh _ (.dead 0) _
            simp only [MVv]
        · rw [hnt]; simp
      have fin2 : ∀ (k : Nat) (σ : St) (a' : Act) (w' : World) (A' : Nat → Prop) (E' : HeapA An), k < extBase → σ.s 2 = .own k [] 0 l.length 1 → σ.h k = some (.vec 1 z (l.map .p)) → Sim P w' A' E' 8 σ a' → Go1 w A Eh S0 w' A' E' →
          bodyPost P fn (fun e w' => ∃ v, e = .returned v ∧ ∃ A' E' nx', MR w' A' E' (retHeap [] [.vec 1 z (l.map .p)]) nx' ∧ Go1 w A Eh S0 w' A' E' ∧ MVv w' A' E' nx' (.own escBase [] 0 l.length 1) v) .ret a' w' := by
        intro k σ a' w' A' E' hk h1 h2 k1 g1
        obtain ⟨v, hv1, A2, E2, nx2, q1, q2, q3⟩ := finish_sim k1 (fn := fn) (F := ⟨.skip, [.tmp 2], false⟩) (by rw [hnt]; exact hres) (clone_fin k z l σ .skip hk h1 h2)
        exact ⟨k1.df, v, hv1, v, rfl, A2, E2, nx2, q1, g1.trans q2 (Stp.le_refl _), q3⟩
      refine calls_of_wp hfn hbody ?_
      refine wp_seq ?_
      have hr1 : run noTbl 2 (cloneC1 z) ⟨argSlots [.p (.sl l)], extHeap [], 1⟩ = some (.normal, ⟨upd (argSlots [.p (.sl l)]) 2 (.own 2 [] 0 0 1), upd (extHeap []) 2 (some (.vec 1 z [])), 2⟩) := rfl
      refine run_ok hT 2 cloneB 8 _ 0 _ _ c1 _ _ _ hr1 _ _ w A Eh hsim ?_
      intro a1 w1 A1 E1 k1 g1
      have hs0 := k1.sl.sl 0
      have h00 : upd (argSlots [.p (.sl l)]) 2 (.own 2 [] 0 0 1) 0 = .p (.sl l) := rfl
      simp only [h00] at hs0
      obtain ⟨ad1, cap1, hv1, hcap1, hel1⟩ := MVv_sl.1 hs0
      refine wp_seq (wp_seq ?_)
      refine wp_region_list ?_
      refine wpList_plain hm3 fun K hK => ?_
      refine wp_of_value (val := .slice ad1 l.length cap1) (w' := w1) ?_ (hK _ _ ?_)
      · have : a1.eval (.tmp 0) = .slice ad1 l.length cap1 := hv1
        simp [execOp, hm1, this]
      refine wpList_plain hq3 fun K2 hK2 => ?_
      have hsz : 8 ≤ a1.tmps.size := k1.sz
      have hev : (a1.put m.dst (.slice ad1 l.length cap1)).eval (.tmp 3) = .slice ad1 l.length cap1 := by
        rw [hm2]
        have : 3 < a1.tmps.size := by omega
        simp [Act.put, Act.eval, this]
      refine wp_of_value (val := .bool ad1.isNone) (w' := w1) ?_ (hK2 _ _ ?_)
      · have h2 : (eqGuard .eql T (.tmp 3) (.const (.slice none 0 0)) (.slice ad1 l.length cap1) (.slice none 0 0)).run P w1 = .ok () w1 := by
          unfold eqGuard; simp
        simp [execOp, hq1, hev, eval_const, h2, Lib.run_eql_slice_nil w1 T E ad1 l.length cap1 0 0 hu]
      refine wpList_nil ?_
      show (Code.cond (.tmp 4) _ _).wp P _ _ _
      have k2 : Sim P w1 A1 E1 8 ⟨upd (upd (upd (argSlots [.p (.sl l)]) 2 (.own 2 [] 0 0 1)) 3 (.dead 1)) 4 (.p (.bool ad1.isNone)), upd (extHeap []) 2 (some (.vec 1 z [])), 2⟩ ((a1.put m.dst (.slice ad1 l.length cap1)).put q.dst (.bool ad1.isNone)) := by
        refine ⟨⟨fun i => ?_, k1.sl.gl⟩, k1.mr, k1.nx, ?_, ?_⟩
        · rw [hm2, hq2]
          show MVv w1 A1 E1 _ (upd (upd (upd (argSlots [.p (.sl l)]) 2 (.own 2 [] 0 0 1)) 3 (.dead 1)) 4 (.p (.bool ad1.isNone)) i) _
          by_cases h4 : i = 4
          · subst h4
            have : 4 < a1.tmps.size := by omega
            rw [upd_same]
            have : ((a1.put (some 3) (.slice ad1 l.length cap1)).put (some 4) (.bool ad1.isNone)).tmps.getD 4 undef = .bool ad1.isNone := by simp [Act.put, this]
            rw [this]
            exact MVv_bool.2 rfl
          · rw [upd_other _ _ h4]
            by_cases h3 : i = 3
            · subst h3
              rw [upd_same]
              simp only [MVv]
            · rw [upd_other _ _ h3]
              have : ((a1.put (some 3) (.slice ad1 l.length cap1)).put (some 4) (.bool ad1.isNone)).tmps.getD i undef = a1.tmps.getD i undef := by
                simp [Act.put, Array.getElem?_setIfInBounds_ne (Ne.symm h4), Array.getElem?_setIfInBounds_ne (Ne.symm h3)]
              rw [this]
              exact k1.sl.sl i
        · rw [hm2, hq2]; exact k1.df
        · rw [hm2, hq2]; simp [Act.put]; exact k1.sz
      have hc4 : ((a1.put m.dst (.slice ad1 l.length cap1)).put q.dst (.bool ad1.isNone)).eval (.tmp 4) = .bool ad1.isNone := by
        have : 4 < a1.tmps.size := by omega
        rw [hm2, hq2]
        simp [Act.put, Act.eval, this]
      cases had : ad1.isNone with
      | true =>
        have hl : l = [] := by
          rcases hel1 with h | ⟨b', o', z', h, _⟩
          · exact h
          · rw [h] at had; cases had
        subst hl
        rw [had] at hc4 k2
        refine wp_cond_true hc4 ?_
        obtain ⟨σ, q1, q2, q3⟩ := clone_r2 z (upd (upd (upd (argSlots [.p (.sl [])]) 2 (.own 2 [] 0 0 1)) 3 (.dead 1)) 4 (.p (.bool true))) (upd (extHeap []) 2 (some (.vec 1 z [])))
        refine run_ok hT 5 cloneB 8 _ 0 _ _ c2 _ _ _ q1 _ _ w1 A1 E1 k2 ?_
        intro a3 w3 A3 E3 k3 g3
        exact fin2 2 σ a3 w3 A3 E3 (by decide) q2 q3 k3 (g1.trans g3 (Stp.le_refl _))
      | false =>
        rw [had] at hc4 k2
        refine wp_cond_false hc4 (wp_skip ?_)
        show (Code.seq _ _).wp P _ _ _
        obtain ⟨σ, q1, q2, q3⟩ := clone_r3 z b l (upd (upd (upd (argSlots [.p (.sl l)]) 2 (.own 2 [] 0 0 1)) 3 (.dead 1)) 4 (.p (.bool false))) (upd (extHeap []) 2 (some (.vec 1 z []))) rfl hcond.1 hcond.2
        refine run_ok hT 5 cloneB 8 _ 1 _ _ c3 _ _ _ q1 _ _ w1 A1 E1 k2 ?_
        intro a3 w3 A3 E3 k3 g3
        exact fin2 5 σ a3 w3 A3 E3 (by decide) q2 q3 k3 (g1.trans g3 (Stp.le_refl _))
    · cases hp
end Go.Mid
