/- Typed values: codes of types, their values in Lean, and their pure values; decision trees. -/
import Derived.Test.YtibenanokfodaaaM7
namespace Go.Mid
set_option linter.unusedSimpArgs false
set_option linter.unusedVariables false

/-- codes of types; 'vec' is a slice in owned memory that owns its array -/
inductive Ty where
  | int (k : IntKind) | bool | str | sl (t : Ty) | agg (ts : List Ty) | ref (t : Ty) | fn (f : Nat) (ts : List Ty) | mp (k v : Ty) | nilp | nilf | vec (z : Nat) (t : Ty)
  deriving Inhabited
def pairT (A R : Type) : List Ty → Type
  | [] => A
  | _ :: _ => A × R
mutual
def El : Ty → Type
  | .int _ => Int
  | .bool => Bool
  | .str => ByteArray
  | .sl t => List (El t)
  | .agg ts => Els ts
  | .ref t => El t
  | .fn _ ts => Els ts
  | .mp k v => List (El k × El v)
  | .nilp => Unit
  | .nilf => Unit
  | .vec _ t => List (El t)
def Els : List Ty → Type
  | [] => Unit
  | t :: r => pairT (El t) (Els r) r
end
def hdE {t : Ty} : (r : List Ty) → Els (t :: r) → El t
  | [], x => x
  | _ :: _, x => x.1
def tlE {t : Ty} : (r : List Ty) → Els (t :: r) → Els r
  | [], _ => ()
  | _ :: _, x => x.2
def mkE {t : Ty} : (r : List Ty) → El t → Els r → Els (t :: r)
  | [], a, _ => a
  | _ :: _, a, b => (a, b)
@[simp] theorem hd_mk {t : Ty} (r : List Ty) (a : El t) (b : Els r) : hdE r (mkE r a b) = a := by cases r <;> rfl
@[simp] theorem tl_mk {t : Ty} (r : List Ty) (a : El t) (b : Els r) : tlE r (mkE r a b) = b := by cases r <;> rfl
mutual
def enc : (t : Ty) → El t → PV
  | .int k, x => .int k x
  | .bool, x => .bool x
  | .str, x => .str x
  | .sl t, x => .sl (List.map (enc t) x)
  | .agg ts, x => .agg (encs ts x)
  | .ref t, x => .ref (enc t x)
  | .fn f ts, x => .fn f (encs ts x)
  | .mp k v, x => .mp (List.map (fun p => enc k p.1) x) (List.map (fun p => enc v p.2) x)
  | .nilp, _ => .nilp
  | .nilf, _ => .nilf
  | .vec _ t, x => .sl (List.map (enc t) x)
def encs : (ts : List Ty) → Els ts → List PV
  | [], _ => []
  | t :: r, x => enc t (hdE r x) :: encs r (tlE r x)
end
mutual
def dflt : (t : Ty) → El t
  | .int _ => (0 : Int)
  | .bool => false
  | .str => (⟨#[]⟩ : ByteArray)
  | .sl _ => []
  | .agg ts => dflts ts
  | .ref t => dflt t
  | .fn _ ts => dflts ts
  | .mp _ _ => []
  | .nilp => ()
  | .nilf => ()
  | .vec _ _ => []
def dflts : (ts : List Ty) → Els ts
  | [] => ()
  | t :: r => mkE r (dflt t) (dflts r)
end
mutual
def Ty.cs : Ty → Nat
  | .agg l => Ty.css l
  | _ => 1
def Ty.css : List Ty → Nat
  | [] => 0
  | x :: xs => x.cs + Ty.css xs
end
def Ty.isAgg : Ty → Bool | .agg _ => true | _ => false
mutual
/-- no owned memory inside -/
def Ty.pure : Ty → Bool
  | .vec .. => false
  | .agg l => Ty.pures l
  | _ => true
def Ty.pures : List Ty → Bool
  | [] => true
  | x :: xs => x.pure && Ty.pures xs
end
mutual
theorem enc_cs : ∀ (t : Ty) (x : El t), (enc t x).cs = t.cs
  | .agg ts, x => by simp only [enc, PV.cs, Ty.cs]; exact encs_cs ts x
  | .int _, _ | .bool, _ | .str, _ | .sl _, _ | .ref _, _ | .fn _ _, _ | .mp _ _, _ | .nilp, _ | .nilf, _ | .vec _ _, _ => rfl
theorem encs_cs : ∀ (ts : List Ty) (x : Els ts), PV.css (encs ts x) = Ty.css ts
  | [], _ => rfl
  | t :: r, x => by simp only [encs, PV.css, Ty.css]; rw [enc_cs t, encs_cs r]
end
@[simp] theorem enc_isAgg : ∀ (t : Ty) (x : El t), (enc t x).isAgg = t.isAgg
  | .agg ts, x => rfl
  | .int _, _ | .bool, _ | .str, _ | .sl _, _ | .ref _, _ | .fn _ _, _ | .mp _ _, _ | .nilp, _ | .nilf, _ | .vec _ _, _ => rfl
mutual
def Ty.eq : Ty → Ty → Bool
  | .int k, .int l => k == l
  | .bool, .bool => true
  | .str, .str => true
  | .sl t, .sl u => Ty.eq t u
  | .agg l, .agg m => Ty.eqs l m
  | .ref t, .ref u => Ty.eq t u
  | .fn f l, .fn g m => f == g && Ty.eqs l m
  | .mp k v, .mp l w => Ty.eq k l && Ty.eq v w
  | .nilp, .nilp => true
  | .nilf, .nilf => true
  | .vec z t, .vec y u => z == y && Ty.eq t u
  | _, _ => false
def Ty.eqs : List Ty → List Ty → Bool
  | [], [] => true
  | t :: r, u :: q => Ty.eq t u && Ty.eqs r q
  | _, _ => false
end
mutual
theorem Ty.eq_of : ∀ t u, Ty.eq t u = true → t = u
  | .int k, u, h => by cases u <;> simp [Ty.eq] at h; rw [h]
  | .bool, u, h => by cases u <;> simp [Ty.eq] at h; rfl
  | .str, u, h => by cases u <;> simp [Ty.eq] at h; rfl
  | .nilp, u, h => by cases u <;> simp [Ty.eq] at h; rfl
  | .nilf, u, h => by cases u <;> simp [Ty.eq] at h; rfl
  | .sl t, u, h => by cases u <;> simp [Ty.eq] at h; rw [Ty.eq_of t _ h]
  | .ref t, u, h => by cases u <;> simp [Ty.eq] at h; rw [Ty.eq_of t _ h]
  | .agg l, u, h => by cases u <;> simp [Ty.eq] at h; rw [Ty.eqs_of l _ h]
  | .fn f l, u, h => by cases u <;> simp [Ty.eq] at h; rw [h.1, Ty.eqs_of l _ h.2]
  | .mp k v, u, h => by cases u <;> simp [Ty.eq] at h; rw [Ty.eq_of k _ h.1, Ty.eq_of v _ h.2]
  | .vec z t, u, h => by cases u <;> simp [Ty.eq] at h; rw [h.1, Ty.eq_of t _ h.2]
theorem Ty.eqs_of : ∀ t u, Ty.eqs t u = true → t = u
  | [], u, h => by cases u <;> simp [Ty.eqs] at h; rfl
  | t :: r, u, h => by cases u <;> simp [Ty.eqs] at h; rw [Ty.eq_of t _ h.1, Ty.eqs_of r _ h.2]
end
/-- a value of one type as one of another, if they are the same -/
def castE {t : Ty} (u : Ty) (x : El t) : Option (El u) := if h : Ty.eq t u = true then some (cast (congrArg El (Ty.eq_of t u h)) x) else none
theorem castE_enc {t u : Ty} {x : El t} {y : El u} (h : castE u x = some y) : t = u ∧ HEq x y ∧ enc t x = enc u y := by
  unfold castE at h
  split at h
  · rename_i e
    have e := Ty.eq_of t u e
    subst e
    simp only [cast_eq, Option.some.injEq] at h
    subst h
    exact ⟨rfl, HEq.rfl, rfl⟩
  · cases h
def asI' (k : IntKind) : PV → Option Int | .int l n => if k == l then some n else none | _ => none
def asB' : PV → Option Bool | .bool b => some b | _ => none
def asS' : PV → Option ByteArray | .str b => some b | _ => none
mutual
/-- a constant as a value of a type -/
def dec : (t : Ty) → PV → Option (El t)
  | .int k, v => asI' k v
  | .bool, v => asB' v
  | .str, v => asS' v
  | .sl t, v => match v with | .sl [] => some ([] : List (El t)) | _ => none
  | .agg ts, v => match v with | .agg l => decs ts l | _ => none
  | .nilp, v => match v with | .nilp => some () | _ => none
  | .nilf, v => match v with | .nilf => some () | _ => none
  | .fn f ts, v => match v with | .fn g l => if f == g then decs ts l else none | _ => none
  | .mp k w, v => match v with | .mp [] [] => some ([] : List (El k × El w)) | _ => none
  | .ref _, _ => none
  | .vec _ _, _ => none
def decs : (ts : List Ty) → List PV → Option (Els ts)
  | [], l => match l with | [] => some () | _ :: _ => none
  | t :: r, l => match l with
    | [] => none
    | v :: q => match dec t v, decs r q with | some a, some b => some (mkE r a b) | _, _ => none
end
theorem dec_int (k : IntKind) (v : PV) : dec (.int k) v = asI' k v := by rfl
theorem dec_bool (v : PV) : dec .bool v = asB' v := by rfl
theorem dec_str (v : PV) : dec .str v = asS' v := by rfl
mutual
theorem dec_enc : ∀ (t : Ty) (v : PV) (x : El t), dec t v = some x → enc t x = v
  | .int k, v, x, h => by
    rw [dec_int] at h
    cases v <;> simp only [asI', reduceCtorEq] at h
    split at h
    · rename_i e; cases h; simp only [beq_iff_eq] at e; subst e; rfl
    · cases h
  | .bool, v, x, h => by rw [dec_bool] at h; cases v <;> simp only [asB', reduceCtorEq] at h; cases h; rfl
  | .str, v, x, h => by rw [dec_str] at h; cases v <;> simp only [asS', reduceCtorEq] at h; cases h; rfl
  | .nilp, v, x, h => by cases v <;> first | rfl | cases h
  | .nilf, v, x, h => by cases v <;> first | rfl | cases h
  | .ref t, v, x, h => by cases h
  | .vec z t, v, x, h => by cases h
  | .sl t, v, x, h => by
    cases v <;> first | cases h | skip
    rename_i l
    cases l <;> cases h
    rfl
  | .mp k w, v, x, h => by
    cases v <;> first | cases h | skip
    rename_i l m
    cases l <;> cases m <;> cases h
    rfl
  | .agg ts, v, x, h => by
    cases v <;> first | cases h | skip
    rename_i l
    have h : decs ts l = some x := h
    show PV.agg (encs ts x) = _
    rw [decs_enc ts _ x h]
  | .fn f ts, v, x, h => by
    cases v <;> first | cases h | skip
    rename_i g l
    by_cases e : (f == g) = true
    · have h1 : dec (.fn f ts) (.fn g l) = decs ts l := if_pos e
      have h2 : decs ts l = some x := h1.symm.trans h
      simp only [beq_iff_eq] at e; subst e
      show PV.fn f (encs ts x) = _
      rw [decs_enc ts _ x h2]
    · have h1 : dec (.fn f ts) (.fn g l) = none := if_neg e
      rw [h1] at h; cases h
theorem decs_enc : ∀ (ts : List Ty) (l : List PV) (x : Els ts), decs ts l = some x → encs ts x = l
  | [], l, x, h => by
    cases l with
    | nil => rfl
    | cons v q => cases h
  | t :: r, l, x, h => by
    cases l with
    | nil => cases h
    | cons v q =>
      have h : (match dec t v, decs r q with | some a, some b => some (mkE r a b) | _, _ => none) = some x := h
      cases h1 : dec t v with
      | none => rw [h1] at h; cases h
      | some a =>
        cases h2 : decs r q with
        | none => rw [h1, h2] at h; cases h
        | some b =>
          rw [h1, h2] at h
          cases h
          show enc t (hdE r (mkE r a b)) :: encs r (tlE r (mkE r a b)) = _
          rw [hd_mk, tl_mk, dec_enc t v a h1, decs_enc r q b h2]
end
/-- the type of a constant -/
def tyP : PV → Option Ty
  | .int k _ => some (.int k)
  | .bool _ => some .bool
  | .str _ => some .str
  | .agg l => match tyPs l with | some ts => some (.agg ts) | none => none
  | .fn f l => match tyPs l with | some ts => some (.fn f ts) | none => none
  | .nilp => some .nilp
  | .nilf => some .nilf
  | _ => none
where tyPs : List PV → Option (List Ty)
  | [] => some []
  | x :: r => match tyP x, tyPs r with | some t, some ts => some (t :: ts) | _, _ => none

/-! ### decision trees -/
inductive Tree (α : Type) : Type 1 where
  | fail
  | leaf (a : α)
  | ite (c : Bool) (x y : Tree α)
  | opt {A : Type} (d : A) (o : Option A) (k : A → Tree α)
  | sum {A B : Type} (d : A) (e : B) (o : A ⊕ B) (k : A → Tree α) (l : B → Tree α)
namespace Tree
def den {α : Type} : Tree α → Option α
  | fail => none
  | leaf a => some a
  | ite c x y => bif c then x.den else y.den
  | opt _ o k => o.bind fun a => (k a).den
  | sum _ _ o k l => Sum.elim (fun a => (k a).den) (fun b => (l b).den) o
def bind {α β : Type} : Tree α → (α → Tree β) → Tree β
  | fail, _ => fail
  | leaf a, f => f a
  | ite c x y, f => ite c (x.bind f) (y.bind f)
  | opt d o k, f => opt d o (fun a => (k a).bind f)
  | sum d e o k l, f => sum d e o (fun a => (k a).bind f) (fun b => (l b).bind f)
theorem den_bind {α β : Type} (t : Tree α) (f : α → Tree β) (r : β) : (t.bind f).den = some r ↔ ∃ a, t.den = some a ∧ (f a).den = some r := by
  induction t with
  | fail => simp [bind, den]
  | leaf a => simp [bind, den]
  | ite c x y hx hy => cases c <;> simp [bind, den, hx, hy]
  | opt d o k ih => cases o <;> simp [bind, den, ih]
  | sum d e o k l ih1 ih2 => cases o <;> simp [bind, den, ih1, ih2]
/-- all that may come out, whatever the tests say -/
def leaves {α : Type} : Tree α → List α
  | fail => []
  | leaf a => [a]
  | ite _ x y => x.leaves ++ y.leaves
  | opt d _ k => (k d).leaves
  | sum d e _ k l => (k d).leaves ++ (l e).leaves
/-- a test on structure: decided when the tree is made -/
def chk (b : Bool) : Tree Unit := match b with | true => leaf () | false => fail
/-- a test on values: stays -/
def ask (b : Bool) : Tree Unit := ite b (leaf ()) fail
def ofO {α : Type} : Option α → Tree α
  | none => fail
  | some a => leaf a
@[simp] theorem den_leaf {α : Type} (a r : α) : (leaf a).den = some r ↔ a = r := by simp [den]
@[simp] theorem den_fail {α : Type} (r : α) : (fail : Tree α).den = some r ↔ False := by simp [den]
@[simp] theorem den_chk (b : Bool) (r : Unit) : (chk b).den = some r ↔ b = true := by cases b <;> simp [chk, den]
@[simp] theorem den_ask (b : Bool) (r : Unit) : (ask b).den = some r ↔ b = true := by cases b <;> simp [ask, den]
@[simp] theorem den_ofO {α : Type} (o : Option α) (r : α) : (ofO o).den = some r ↔ o = some r := by cases o <;> simp [ofO, den]
theorem den_ite {α : Type} (c : Bool) (x y : Tree α) (r : α) : (ite c x y).den = some r ↔ (c = true ∧ x.den = some r) ∨ (c = false ∧ y.den = some r) := by cases c <;> simp [den]
theorem den_opt {α A : Type} (d : A) (o : Option A) (k : A → Tree α) (r : α) : (opt d o k).den = some r ↔ ∃ a, o = some a ∧ (k a).den = some r := by cases o <;> simp [den]
end Tree
end Go.Mid
/- Symbolic states: what is known about slots and owned memory, with typed values at the leaves; what they stand for. -/
namespace Go.Mid
set_option linter.unusedSimpArgs false
set_option linter.unusedVariables false

/-- a step of a path: a field with its offset, or an index with the cells of an element -/
inductive Step where
  | f (i o : Nat) | k (i z : Nat)
def Step.ix : Step → Nat | .f i _ => i | .k i _ => i
def Step.of : Step → Nat | .f _ o => o | .k i z => i * z
def ixs : List Step → List Nat
  | [] => []
  | x :: r => x.ix :: ixs r
def ofs : List Step → Nat
  | [] => 0
  | x :: r => x.of + ofs r
theorem ixs_append : ∀ p q : List Step, ixs (p ++ q) = ixs p ++ ixs q
  | [], q => rfl
  | x :: r, q => by simp only [List.cons_append, ixs, ixs_append r q]
theorem ofs_append : ∀ p q : List Step, ofs (p ++ q) = ofs p + ofs q
  | [], q => by simp [ofs]
  | x :: r, q => by simp only [List.cons_append, ofs, ofs_append r q]; omega

inductive W where
  | c (v : PV)
  | v (t : Ty) (x : El t)
  | nil (z : Nat)
  | own (id : Nat) (path : List Step) (off : Option Nat) (len g : Nat)
  | ptr (id : Nat) (np : Option (List Step)) (rp : List Step) (g : Nat)
  | mref (id : Nat) (path : List Step) (g : Nat)
  | agg (l : List W)
  | fn (f : Nat) (caps : List W)
  | tup (l : List W)
  | dead (n : Nat)
instance : Inhabited W := ⟨.dead 0⟩
def npI : Option (List Step) → Option (List Nat)
  | none => none
  | some p => some (ixs p)
mutual
def cW : W → MV
  | .c v => .p v
  | .v t x => .p (enc t x)
  | .nil z => .nil z
  | .own id path off len g => .own id (ixs path) (off.getD 0) len g
  | .ptr id np rp g => .ptr id (npI np) (ixs rp) g (ofs rp)
  | .mref id path g => .mref id (ixs path) g
  | .agg l => .agg (cWs l)
  | .fn f l => .fn f (cWs l)
  | .tup l => .tup (cWs l)
  | .dead n => .dead n
def cWs : List W → List MV
  | [] => []
  | x :: r => cW x :: cWs r
end
theorem cWs_map : ∀ l : List W, cWs l = l.map cW
  | [] => rfl
  | x :: r => by simp only [cWs, List.map_cons, cWs_map r]

/-! ### typed values in owned memory: all inner arrays bear the same stamp -/
mutual
def encT (s : Nat) : (t : Ty) → El t → T Nat
  | .vec z t, x => .vec s z (List.map (encT s t) x) (List.length x)
  | .agg ts, x => mkTAgg (encTs s ts x)
  | .int k, x => .p (enc (.int k) x)
  | .bool, x => .p (enc .bool x)
  | .str, x => .p (enc .str x)
  | .sl t, x => .p (enc (.sl t) x)
  | .ref t, x => .p (enc (.ref t) x)
  | .fn f ts, x => .p (enc (.fn f ts) x)
  | .mp k v, x => .p (enc (.mp k v) x)
  | .nilp, x => .p (enc .nilp x)
  | .nilf, x => .p (enc .nilf x)
def encTs (s : Nat) : (ts : List Ty) → Els ts → List (T Nat)
  | [], _ => []
  | t :: r, x => encT s t (hdE r x) :: encTs s r (tlE r x)
end
theorem allTP_some {α : Type} : ∀ {l : List (T α)} {vs : List PV}, allTP l = some vs → l = vs.map T.p
  | [], vs, h => by simp only [allTP, Option.some.injEq] at h; subst h; rfl
  | .p v :: r, vs, h => by
    simp only [allTP] at h
    cases h1 : allTP r with
    | none => rw [h1] at h; cases h
    | some l => rw [h1] at h; cases h; rw [allTP_some h1]; rfl
  | .m _ :: _, vs, h | .agg _ :: _, vs, h | .vec .. :: _, vs, h | .mp .. :: _, vs, h | .hole _ :: _, vs, h => by simp [allTP] at h
theorem allTP_ps {α : Type} : ∀ vs : List PV, allTP (vs.map (T.p (α := α))) = some vs
  | [] => rfl
  | v :: r => by simp only [List.map_cons, allTP, allTP_ps r]
theorem mkTAgg_cases {α : Type} (l : List (T α)) : (∃ vs, l = vs.map T.p ∧ mkTAgg l = .p (.agg vs)) ∨ mkTAgg l = .agg l := by
  unfold mkTAgg
  cases h : allTP l with
  | none => exact .inr rfl
  | some vs => exact .inl ⟨vs, allTP_some h, rfl⟩
theorem css_map_p {α : Type} : ∀ vs : List PV, T.css (vs.map (T.p (α := α))) = PV.css vs
  | [] => rfl
  | v :: r => by simp only [List.map_cons, T.css, T.cs, PV.css, css_map_p r]
theorem mkTAgg_css {α : Type} (l : List (T α)) : (mkTAgg l).cs = T.css l := by
  rcases mkTAgg_cases l with ⟨vs, rfl, h⟩ | h
  · rw [h, css_map_p]; rfl
  · rw [h]; rfl
mutual
theorem encT_cs (s : Nat) : ∀ (t : Ty) (x : El t), (encT s t x).cs = t.cs
  | .agg ts, x => by simp only [encT, mkTAgg_css, Ty.cs]; exact encTs_cs s ts x
  | .int _, _ | .bool, _ | .str, _ | .sl _, _ | .ref _, _ | .fn _ _, _ | .mp _ _, _ | .nilp, _ | .nilf, _ | .vec _ _, _ => rfl
theorem encTs_cs (s : Nat) : ∀ (ts : List Ty) (x : Els ts), T.css (encTs s ts x) = Ty.css ts
  | [], _ => rfl
  | t :: r, x => by simp only [encTs, T.css, Ty.css]; rw [encT_cs s t, encTs_cs s r]
end
mutual
theorem encT_pure (s : Nat) : ∀ (t : Ty) (x : El t), t.pure = true → encT s t x = .p (enc t x)
  | .agg ts, x, h => by
    simp only [encT, enc]
    rw [encTs_pure s ts x h]
    simp only [mkTAgg, allTP_ps]
  | .int _, _, _ | .bool, _, _ | .str, _, _ | .sl _, _, _ | .ref _, _, _ | .fn _ _, _, _ | .mp _ _, _, _ | .nilp, _, _ | .nilf, _, _ => rfl
  | .vec _ _, _, h => by simp [Ty.pure] at h
theorem encTs_pure (s : Nat) : ∀ (ts : List Ty) (x : Els ts), Ty.pures ts = true → encTs s ts x = (encs ts x).map T.p
  | [], _, _ => rfl
  | t :: r, x, h => by
    simp only [Ty.pures, Bool.and_eq_true] at h
    simp only [encTs, encs, List.map_cons]
    rw [encT_pure s t _ h.1, encTs_pure s r _ h.2]
end
theorem pureTs_map : ∀ vs : List PV, pureTs (vs.map T.p) = some vs
  | [] => rfl
  | v :: r => by simp only [List.map_cons, pureTs, pureT, pureTs_map r]
theorem pureT_mk (l : List (T Nat)) : pureT (mkTAgg l) = match pureTs l with | some vs => some (.agg vs) | none => none := by
  rcases mkTAgg_cases l with ⟨vs, rfl, h⟩ | h
  · rw [h, pureTs_map]; rfl
  · rw [h]; rfl
mutual
theorem pureT_enc (s : Nat) : ∀ (t : Ty) (x : El t), pureT (encT s t x) = some (enc t x)
  | .agg ts, x => by simp only [encT, pureT_mk, pureTs_encs s ts x]; rfl
  | .vec z t, x => by
    have h : ∀ l : List (El t), pureTs (l.map (encT s t)) = some (l.map (enc t)) := by
      intro l
      induction l with
      | nil => rfl
      | cons a r ih => simp only [List.map_cons, pureTs, pureT_enc s t a, ih]
    have key : ∀ l : List (El t), (match pureTs (l.map (encT s t)) with | some vs => some (PV.sl (vs.take l.length)) | none => none) = some (PV.sl (l.map (enc t))) := by
      intro l
      rw [h]
      simp only
      rw [List.take_of_length_le (by simp)]
    exact key x
  | .int _, _ | .bool, _ | .str, _ | .sl _, _ | .ref _, _ | .fn _ _, _ | .mp _ _, _ | .nilp, _ | .nilf, _ => rfl
theorem pureTs_encs (s : Nat) : ∀ (ts : List Ty) (x : Els ts), pureTs (encTs s ts x) = some (encs ts x)
  | [], _ => rfl
  | t :: r, x => by simp only [encTs, encs, pureTs]; rw [pureT_enc s t, pureTs_encs s r]
end
theorem mapTs_map (φ : MV → MV) (ζ : Nat → Nat) : ∀ l : List (T Nat), mapTs φ ζ l = l.map (mapT φ ζ)
  | [] => rfl
  | x :: r => by simp only [mapTs, List.map_cons, mapTs_map φ ζ r]
theorem mapT_mk (φ : MV → MV) (ζ : Nat → Nat) (l : List (T Nat)) (h : ∀ t ∈ l, ∀ v, t ≠ .m v) : mapT φ ζ (mkTAgg l) = mkTAgg (l.map (mapT φ ζ)) := by
  have hp : ∀ l : List (T Nat), (∀ t ∈ l, ∀ v, t ≠ T.m v) → allTP (l.map (mapT φ ζ)) = allTP l := by
    intro l h
    induction l with
    | nil => rfl
    | cons a r ih =>
      have ih := ih (fun t ht => h t (by simp [ht]))
      cases a with
      | p v => simp only [List.map_cons, mapT, allTP, ih]
      | m v => exact absurd rfl (h _ (by simp) v)
      | _ => rfl
  unfold mkTAgg
  rw [hp l h]
  cases allTP l with
  | none => simp only [mapT, mapTs_map]
  | some vs => rfl
mutual
theorem encT_nm (s : Nat) : ∀ (t : Ty) (x : El t) (v : MV), encT s t x ≠ .m v
  | .agg ts, x, v => by
    simp only [encT]
    rcases mkTAgg_cases (encTs s ts x) with ⟨vs, _, h⟩ | h <;> rw [h] <;> simp
  | .int _, _, _ | .bool, _, _ | .str, _, _ | .sl _, _, _ | .ref _, _, _ | .fn _ _, _, _ | .mp _ _, _, _ | .nilp, _, _ | .nilf, _, _ | .vec _ _, _, _ => by simp [encT]
end
theorem encTs_nm (s : Nat) : ∀ (ts : List Ty) (x : Els ts), ∀ u ∈ encTs s ts x, ∀ v, u ≠ .m v
  | [], _, u, h => by simp [encTs] at h
  | t :: r, x, u, h => by
    simp only [encTs, List.mem_cons] at h
    rcases h with rfl | h
    · exact encT_nm s t _
    · exact encTs_nm s r _ u h
mutual
theorem mapT_enc (φ : MV → MV) (ζ : Nat → Nat) (s : Nat) : ∀ (t : Ty) (x : El t), mapT φ ζ (encT s t x) = encT (ζ s) t x
  | .agg ts, x => by
    simp only [encT]
    rw [mapT_mk _ _ _ (encTs_nm s ts x), ← mapTs_map, mapTs_encs φ ζ s ts x]
  | .vec z t, x => by
    have h : ∀ l : List (El t), mapTs φ ζ (l.map (encT s t)) = l.map (encT (ζ s) t) := by
      intro l
      induction l with
      | nil => rfl
      | cons a r ih => simp only [List.map_cons, mapTs, mapT_enc φ ζ s t a, ih]
    have key : ∀ l : List (El t), T.vec (ζ s) z (mapTs φ ζ (l.map (encT s t))) l.length = T.vec (ζ s) z (l.map (encT (ζ s) t)) l.length := by
      intro l
      rw [h]
    exact key x
  | .int _, _ | .bool, _ | .str, _ | .sl _, _ | .ref _, _ | .fn _ _, _ | .mp _ _, _ | .nilp, _ | .nilf, _ => rfl
theorem mapTs_encs (φ : MV → MV) (ζ : Nat → Nat) (s : Nat) : ∀ (ts : List Ty) (x : Els ts), mapTs φ ζ (encTs s ts x) = encTs (ζ s) ts x
  | [], _ => rfl
  | t :: r, x => by simp only [encTs, mapTs]; rw [mapT_enc φ ζ s t, mapTs_encs φ ζ s r]
end
theorem refsTs_p : ∀ vs : List PV, refsTs (vs.map (T.p (α := Nat))) = []
  | [] => rfl
  | v :: r => by simp only [List.map_cons, refsTs, refsT, refsTs_p r, List.nil_append]
theorem refsT_mk (l : List (T Nat)) : refsT (mkTAgg l) = refsTs l := by
  rcases mkTAgg_cases l with ⟨vs, rfl, h⟩ | h
  · rw [h, refsTs_p]; rfl
  · rw [h]; rfl
mutual
theorem refsT_enc (s : Nat) : ∀ (t : Ty) (x : El t), refsT (encT s t x) = []
  | .agg ts, x => by simp only [encT, refsT_mk]; exact refsTs_encs s ts x
  | .vec z t, x => by
    have h : ∀ l : List (El t), refsTs (l.map (encT s t)) = [] := by
      intro l
      induction l with
      | nil => rfl
      | cons a r ih => simp only [List.map_cons, refsTs, refsT_enc s t a, ih, List.nil_append]
    show refsTs (List.map (encT s t) x) = _
    exact h x
  | .int _, _ | .bool, _ | .str, _ | .sl _, _ | .ref _, _ | .fn _ _, _ | .mp _ _, _ | .nilp, _ | .nilf, _ => rfl
theorem refsTs_encs (s : Nat) : ∀ (ts : List Ty) (x : Els ts), refsTs (encTs s ts x) = []
  | [], _ => rfl
  | t :: r, x => by simp only [encTs, refsTs]; rw [refsT_enc s t, refsTs_encs s r]; rfl
end
theorem refsTs_base (s : Nat) (t : Ty) : ∀ l : List (El t), refsTs (l.map (encT s t)) = []
  | [] => rfl
  | a :: r => by simp only [List.map_cons, refsTs, refsT_enc s t a, refsTs_base s t r, List.nil_append]
theorem mapTs_base (φ : MV → MV) (ζ : Nat → Nat) (s : Nat) (t : Ty) (l : List (El t)) : mapTs φ ζ (l.map (encT s t)) = l.map (encT (ζ s) t) := by
  rw [mapTs_map, List.map_map]
  congr 1
  funext x
  exact mapT_enc φ ζ s t x
theorem pureTs_base (s : Nat) (t : Ty) : ∀ l : List (El t), pureTs (l.map (encT s t)) = some (l.map (enc t))
  | [] => rfl
  | a :: r => by simp only [List.map_cons, pureTs, pureT_enc s t a, pureTs_base s t r]

/-! ### owned memory -/
mutual
inductive T2 where
  | e (s : Nat) (t : Ty) (x : El t)
  | w (v : W)
  | agg (l : List T2)
  | vec (g z : Nat) (l : SL) (n : Nat)
  | hole (n : Nat)
/-- the elements of an array: a list of typed values, changed at a place, or with one more at the end -/
inductive SL where
  | base (s : Nat) (t : Ty) (l : List (El t))
  | set (a : SL) (i : Nat) (u : T2)
  | app (a : SL) (u : T2)
end
instance : Inhabited T2 := ⟨.hole 0⟩
inductive O2 where
  | cell (g : Nat) (t : T2)
  | vec (g z : Nat) (l : SL)
  | mp (g : Nat) (k v : Ty) (l : List (El k × El v))
  | gone
instance : Inhabited O2 := ⟨.gone⟩
mutual
def cT : T2 → T Nat
  | .e s t x => encT s t x
  | .w v => .m (cW v)
  | .agg l => mkTAgg (cTs l)
  | .vec g z l n => .vec g z (cSL l) n
  | .hole n => .hole n
def cTs : List T2 → List (T Nat)
  | [] => []
  | x :: r => cT x :: cTs r
def cSL : SL → List (T Nat)
  | .base s t l => l.map (encT s t)
  | .set a i u => (cSL a).set i (cT u)
  | .app a u => cSL a ++ [cT u]
end
def cO : O2 → Obj Nat
  | .cell g t => .cell g (cT t)
  | .vec g z l => .vec g z (cSL l)
  | .mp g k v l => .mp g (l.map fun p => enc k p.1) (l.map fun p => .p (enc v p.2))
  | .gone => .gone
theorem cTs_map : ∀ l : List T2, cTs l = l.map cT
  | [] => rfl
  | x :: r => by simp only [cTs, List.map_cons, cTs_map r]
def SL.len : SL → Nat
  | .base _ _ l => l.length
  | .set a _ _ => a.len
  | .app a _ => a.len + 1
theorem SL.len_eq : ∀ a : SL, (cSL a).length = a.len
  | .base _ _ l => by simp [cSL, SL.len]
  | .set a i u => by simp only [cSL, List.length_set, SL.len]; exact SL.len_eq a
  | .app a u => by simp only [cSL, List.length_append, List.length_cons, List.length_nil, SL.len]; rw [SL.len_eq a]

abbrev S2 := List (Nat × W)
abbrev H2 := List (Nat × O2)
def getS : S2 → Nat → W
  | [], _ => .dead 0
  | (j, v) :: r, k => if k == j then v else getS r k
def getH : H2 → Nat → Option O2
  | [], _ => none
  | (j, v) :: r, k => if k == j then some v else getH r k
def setA {α : Type} : List (Nat × α) → Nat → α → List (Nat × α)
  | [], k, v => [(k, v)]
  | (j, u) :: r, k, v => if k == j then (k, v) :: r else (j, u) :: setA r k v
def cSs : S2 → List (Nat × MV)
  | [] => []
  | (j, v) :: r => (j, cW v) :: cSs r
def cHs : H2 → List (Nat × Obj Nat)
  | [] => []
  | (j, v) :: r => (j, cO v) :: cHs r
abbrev cS (s : S2) : Slots := mkS (cSs s)
abbrev cH (h : H2) : Heap := mkH (cHs h)
theorem cS_get : ∀ (s : S2) (k : Nat), cS s k = cW (getS s k)
  | [], k => rfl
  | (j, v) :: r, k => by
    show mkS ((j, cW v) :: cSs r) k = cW (if k == j then v else getS r k)
    rw [mkS_cons]
    by_cases h : k = j
    · simp [h]
    · rw [if_neg h, if_neg (by simpa using h)]; exact cS_get r k
theorem cH_get : ∀ (h : H2) (k : Nat), cH h k = (getH h k).map cO
  | [], k => rfl
  | (j, v) :: r, k => by
    show mkH ((j, cO v) :: cHs r) k = Option.map cO (if k == j then some v else getH r k)
    rw [mkH_cons]
    by_cases h : k = j
    · simp [h]
    · rw [if_neg h, if_neg (by simpa using h)]; exact cH_get r k
theorem cSs_set : ∀ (s : S2) (k : Nat) (v : W), cSs (setA s k v) = setL (cSs s) k (cW v)
  | [], k, v => rfl
  | (j, u) :: r, k, v => by
    simp only [setA, cSs, setL]
    by_cases h : k = j
    · simp [h, cSs]
    · rw [if_neg h, if_neg (by simpa using h)]; simp only [cSs, cSs_set r k v]
theorem cHs_set : ∀ (s : H2) (k : Nat) (v : O2), cHs (setA s k v) = setL (cHs s) k (cO v)
  | [], k, v => rfl
  | (j, u) :: r, k, v => by
    simp only [setA, cHs, setL]
    by_cases h : k = j
    · simp [h, cHs]
    · rw [if_neg h, if_neg (by simpa using h)]; simp only [cHs, cHs_set r k v]
theorem cH_upd (h : H2) (k : Nat) (o : O2) : upd (cH h) k (some (cO o)) = cH (setA h k o) := by
  rw [upd_mkH, ← cHs_set]
theorem cS_upd (s : S2) (k : Nat) (v : W) : upd (cS s) k (cW v) = cS (setA s k v) := by
  rw [upd_mkS, ← cSs_set]

/-! ### views -/
mutual
def wcs : W → Nat
  | .c p => p.cs
  | .v t _ => t.cs
  | .agg l => wcss l
  | .tup _ => 0
  | .dead n => n
  | .nil _ | .own .. | .ptr .. | .mref .. | .fn .. => 1
def wcss : List W → Nat
  | [] => 0
  | x :: r => wcs x + wcss r
end
mutual
theorem wcs_eq : ∀ w : W, (cW w).cs = wcs w
  | .c p => rfl
  | .v t x => enc_cs t x
  | .agg l => by simp only [cW, MV.cs, wcs]; exact wcss_eq l
  | .tup _ => rfl
  | .dead n => rfl
  | .nil _ | .own .. | .ptr .. | .mref .. | .fn .. => rfl
theorem wcss_eq : ∀ l : List W, MV.css (cWs l) = wcss l
  | [] => rfl
  | x :: r => by simp only [cWs, MV.css, wcss]; rw [wcs_eq x, wcss_eq r]
end
def wlive : W → Bool
  | .dead _ | .tup _ => false
  | _ => true
theorem wlive_eq (w : W) : liveM (cW w) = wlive w := by cases w <;> rfl
def wagg : W → Bool
  | .c p => p.isAgg
  | .v t _ => t.isAgg
  | .agg _ => true
  | _ => false
theorem wagg_eq (w : W) : (cW w).isAgg = wagg w := by
  cases w <;> simp only [cW, wagg] <;> first | rfl | exact enc_isAgg _ _
mutual
def wrefs : W → List Nat
  | .own id .. | .ptr id .. | .mref id .. => [id]
  | .agg l | .fn _ l | .tup l => wrefss l
  | _ => []
def wrefss : List W → List Nat
  | [] => []
  | x :: r => wrefs x ++ wrefss r
end
mutual
theorem wrefs_eq : ∀ w : W, refsM (cW w) = wrefs w
  | .own .. | .ptr .. | .mref .. | .c _ | .v _ _ | .nil _ | .dead _ => rfl
  | .agg l | .fn _ l | .tup l => by simp only [cW, refsM, wrefs]; exact wrefss_eq l
theorem wrefss_eq : ∀ l : List W, refsMs (cWs l) = wrefss l
  | [] => rfl
  | x :: r => by simp only [cWs, refsMs, wrefss]; rw [wrefs_eq x, wrefss_eq r]
end
mutual
/-- the roots that are referred to; none: not told -/
def trefs : T2 → Option (List Nat)
  | .e .. => some []
  | .hole _ => some []
  | .w v => some (wrefs v)
  | .agg l => trefss l
  | .vec _ _ l _ => if slfree l then some [] else none
def trefss : List T2 → Option (List Nat)
  | [] => some []
  | x :: r => match trefs x, trefss r with | some a, some b => some (a ++ b) | _, _ => none
def slfree : SL → Bool
  | .base .. => true
  | .set a _ u => slfree a && (match trefs u with | some [] => true | _ => false)
  | .app a u => slfree a && (match trefs u with | some [] => true | _ => false)
end
def orefs : O2 → Option (List Nat)
  | .cell _ t => trefs t
  | .vec _ _ l => if slfree l then some [] else none
  | .mp .. => some []
  | .gone => some []
theorem refsTs_nil {l : List (T Nat)} : refsTs l = [] ↔ ∀ t ∈ l, refsT t = [] := by
  induction l with
  | nil => simp [refsTs]
  | cons a r ih => simp [refsTs, ih]
mutual
theorem trefs_eq : ∀ (t : T2) (l : List Nat), trefs t = some l → refsT (cT t) = l
  | .e s t x, l, h => by simp only [trefs, Option.some.injEq] at h; subst h; exact refsT_enc s t x
  | .hole _, l, h => by simp only [trefs, Option.some.injEq] at h; subst h; rfl
  | .w v, l, h => by simp only [trefs, Option.some.injEq] at h; subst h; exact wrefs_eq v
  | .agg q, l, h => by
    simp only [trefs] at h
    simp only [cT, refsT_mk]; exact trefss_eq q l h
  | .vec g z q n, l, h => by
    simp only [trefs] at h
    split at h
    · rename_i hf; cases h; exact slfree_eq q hf
    · cases h
theorem trefss_eq : ∀ (q : List T2) (l : List Nat), trefss q = some l → refsTs (cTs q) = l
  | [], l, h => by simp only [trefss, Option.some.injEq] at h; subst h; rfl
  | x :: r, l, h => by
    simp only [trefss] at h
    cases h1 : trefs x with
    | none => rw [h1] at h; cases h
    | some a =>
      cases h2 : trefss r with
      | none => rw [h1, h2] at h; cases h
      | some b =>
        rw [h1, h2] at h
        cases h
        simp only [cTs, refsTs]
        rw [trefs_eq x a h1, trefss_eq r b h2]
theorem slfree_eq : ∀ q : SL, slfree q = true → refsTs (cSL q) = []
  | .base s t l, _ => refsTs_base s t l
  | .set a i u, h => by
    simp only [slfree, Bool.and_eq_true] at h
    obtain ⟨h1, h2⟩ := h
    have h3 := slfree_eq a h1
    have h4 : refsT (cT u) = [] := by
      cases hu : trefs u with
      | none => rw [hu] at h2; cases h2
      | some l =>
        cases l with
        | nil => exact trefs_eq u [] hu
        | cons _ _ => rw [hu] at h2; cases h2
    rw [refsTs_nil] at h3 ⊢
    intro t ht
    simp only [cSL] at ht
    rcases List.mem_or_eq_of_mem_set ht with ht | ht
    · exact h3 t ht
    · rw [ht, h4]
  | .app a u, h => by
    simp only [slfree, Bool.and_eq_true] at h
    obtain ⟨h1, h2⟩ := h
    have h3 := slfree_eq a h1
    have h4 : refsT (cT u) = [] := by
      cases hu : trefs u with
      | none => rw [hu] at h2; cases h2
      | some l =>
        cases l with
        | nil => exact trefs_eq u [] hu
        | cons _ _ => rw [hu] at h2; cases h2
    rw [refsTs_nil] at h3 ⊢
    intro t ht
    simp only [cSL, List.mem_append, List.mem_singleton] at ht
    rcases ht with ht | ht
    · exact h3 t ht
    · rw [ht, h4]
end
theorem orefs_eq (o : O2) (l : List Nat) (h : orefs o = some l) : refsO (some (cO o)) = l := by
  cases o with
  | cell g t => exact trefs_eq t l h
  | vec g z q =>
    simp only [orefs] at h
    split at h
    · rename_i hf; cases h; exact slfree_eq q hf
    · cases h
  | mp g k v m =>
    simp only [orefs, Option.some.injEq] at h; subst h
    show refsTs (m.map fun p => T.p (enc v p.2)) = []
    rw [refsTs_nil]
    intro t ht
    simp only [List.mem_map] at ht
    obtain ⟨p, _, rfl⟩ := ht
    rfl
  | gone => simp only [orefs, Option.some.injEq] at h; subst h; rfl
/-- a typed value with its type -/
abbrev TV := (t : Ty) × El t
/-- a pure value with its type -/
def pv? : W → Option TV
  | .v t x => some ⟨t, x⟩
  | .c p => match tyP p with
    | some t => match dec t p with | some x => some ⟨t, x⟩ | none => none
    | none => none
  | _ => none
theorem pv?_eq {w : W} {t : Ty} {x : El t} (h : pv? w = some ⟨t, x⟩) : cW w = .p (enc t x) := by
  cases w <;> simp only [pv?, reduceCtorEq] at h
  case v => cases h; rfl
  case c p =>
    cases h1 : tyP p with
    | none => rw [h1] at h; cases h
    | some u =>
      rw [h1] at h
      simp only at h
      cases h2 : dec u p with
      | none => rw [h2] at h; cases h
      | some y => rw [h2] at h; cases h; rw [dec_enc _ _ _ h2]; rfl
/-- a pure value at a given type -/
def as? (t : Ty) : W → Option (El t)
  | .v _ x => castE t x
  | .c p => dec t p
  | _ => none
theorem as?_eq {t : Ty} {w : W} {x : El t} (h : as? t w = some x) : cW w = .p (enc t x) := by
  cases w <;> simp only [as?, reduceCtorEq] at h
  case v u y => rw [← (castE_enc h).2.2]; rfl
  case c p => rw [dec_enc _ _ _ h]; rfl
def int? : W → Option (IntKind × Int)
  | .v (.int k) x => some (k, x)
  | .c (.int k n) => some (k, n)
  | _ => none
theorem int?_eq {w : W} {k : IntKind} {n : Int} (h : int? w = some (k, n)) : cW w = .p (.int k n) := by
  unfold int? at h
  split at h <;> cases h <;> rfl
def bool? : W → Option Bool
  | .v .bool x => some x
  | .c (.bool b) => some b
  | _ => none
theorem bool?_eq {w : W} {b : Bool} (h : bool? w = some b) : cW w = .p (.bool b) := by
  unfold bool? at h
  split at h <;> cases h <;> rfl
def str? : W → Option ByteArray
  | .v .str x => some x
  | .c (.str b) => some b
  | _ => none
theorem str?_eq {w : W} {b : ByteArray} (h : str? w = some b) : cW w = .p (.str b) := by
  unfold str? at h
  split at h <;> cases h <;> rfl
/-- the index of a constant or another one: as a step into elements of z cells -/
def stepOf (z : Nat) (n : Nat) : W → Step
  | .c _ => .f n (n * z)
  | _ => .k n z
theorem stepOf_ix (z n : Nat) (w : W) : (stepOf z n w).ix = n := by cases w <;> rfl
theorem stepOf_of (z n : Nat) (w : W) : (stepOf z n w).of = n * z := by cases w <;> rfl
end Go.Mid
/- Ways through owned memory: reading and changing a place. -/
namespace Go.Mid
set_option linter.unusedSimpArgs false
set_option linter.unusedVariables false

/-! ### parts of typed values -/
def compE : (ts : List Ty) → Els ts → Nat → Option TV
  | [], _, _ => none
  | t :: r, x, i => match i with
    | 0 => some ⟨t, hdE r x⟩
    | i + 1 => compE r (tlE r x) i
theorem compE_eq (s : Nat) : ∀ (ts : List Ty) (x : Els ts) (i : Nat) (t : Ty) (y : El t), compE ts x i = some ⟨t, y⟩ →
    (encs ts x)[i]? = some (enc t y) ∧ (encTs s ts x)[i]? = some (encT s t y)
  | [], _, _, _, _, h => by cases h
  | u :: r, x, 0, t, y, h => by
    simp only [compE, Option.some.injEq] at h
    cases h
    exact ⟨rfl, rfl⟩
  | u :: r, x, i + 1, t, y, h => by
    simp only [compE] at h
    have := compE_eq s r (tlE r x) i t y h
    simpa only [encs, encTs, List.getElem?_cons_succ] using this
def setE : (ts : List Ty) → Els ts → Nat → (t : Ty) → El t → Option (Els ts)
  | [], _, _, _, _ => none
  | u :: r, x, i, t, y => match i with
    | 0 => match castE u y with | some z => some (mkE r z (tlE r x)) | none => none
    | i + 1 => match setE r (tlE r x) i t y with | some q => some (mkE r (hdE r x) q) | none => none
theorem setE_eq (s : Nat) : ∀ (ts : List Ty) (x : Els ts) (i : Nat) (t : Ty) (y : El t) (x' : Els ts), setE ts x i t y = some x' →
    encTs s ts x' = (encTs s ts x).set i (encT s t y)
  | [], _, _, _, _, _, h => by cases h
  | u :: r, x, 0, t, y, x', h => by
    simp only [setE] at h
    cases hc : castE u y with
    | none => rw [hc] at h; cases h
    | some z =>
      rw [hc] at h
      simp only [Option.some.injEq] at h
      subst h
      obtain ⟨rfl, he, _⟩ := castE_enc hc
      cases he
      simp only [encTs, hd_mk, tl_mk, List.set_cons_zero]
  | u :: r, x, i + 1, t, y, x', h => by
    simp only [setE] at h
    cases hc : setE r (tlE r x) i t y with
    | none => rw [hc] at h; cases h
    | some z =>
      rw [hc] at h
      simp only [Option.some.injEq] at h
      subst h
      simp only [encTs, hd_mk, tl_mk, List.set_cons_succ]
      rw [setE_eq s r _ i t y z hc]
/-- the i-th of parts of one type, i not known -/
def selE (t : Ty) (i : Nat) : (ts : List Ty) → Els ts → Nat → Option (El t)
  | [], _, _ => none
  | [_], x, _ => castE t (hdE [] x)
  | _ :: u2 :: r, x, j => match castE t (hdE (u2 :: r) x), selE t i (u2 :: r) (tlE (u2 :: r) x) (j + 1) with
      | some a, some b => some (bif i == j then a else b)
      | _, _ => none
theorem selE_eq (s : Nat) (t : Ty) (i : Nat) : ∀ (ts : List Ty) (x : Els ts) (j : Nat) (y : El t), selE t i ts x j = some y → j ≤ i → i < j + ts.length →
    (encs ts x)[i - j]? = some (enc t y) ∧ (encTs s ts x)[i - j]? = some (encT s t y)
  | [], _, _, _, h, _, _ => by cases h
  | [u], x, j, y, h, h1, h2 => by
    have h : castE t (hdE [] x) = some y := h
    have e : i - j = 0 := by simp at h2; omega
    rw [e]
    obtain ⟨rfl, he, _⟩ := castE_enc h
    cases he
    exact ⟨rfl, rfl⟩
  | u :: u2 :: r, x, j, y, h, h1, h2 => by
    simp only [selE] at h
    cases hc : castE t (hdE (u2 :: r) x) with
    | none => rw [hc] at h; cases h
    | some a =>
      cases hd : selE t i (u2 :: r) (tlE (u2 :: r) x) (j + 1) with
      | none => rw [hc, hd] at h; cases h
      | some b =>
        rw [hc, hd] at h
        simp only [Option.some.injEq] at h
        by_cases e : i = j
        · subst e
          simp only [beq_self_eq_true, cond_true] at h
          subst h
          obtain ⟨rfl, he, _⟩ := castE_enc hc
          cases he
          rw [Nat.sub_self]
          exact ⟨rfl, rfl⟩
        · have e2 : (i == j) = false := by simpa using e
          rw [e2] at h
          simp only [cond_false] at h
          subst h
          have := selE_eq s t i (u2 :: r) (tlE (u2 :: r) x) (j + 1) b hd (by omega) (by simp only [List.length_cons] at h2 ⊢; omega)
          have e3 : i - j = (i - (j + 1)) + 1 := by omega
          rw [e3]
          simpa only [encs, encTs, List.getElem?_cons_succ] using this
def putE (t : Ty) (y : El t) (i : Nat) : (ts : List Ty) → Els ts → Nat → Option (Els ts)
  | [], _, _ => some ()
  | u :: r, x, j => match castE u y, putE t y i r (tlE r x) (j + 1) with
    | some a, some b => some (mkE r (bif i == j then a else hdE r x) b)
    | _, _ => none
theorem putE_eq (s : Nat) (t : Ty) (y : El t) (i : Nat) : ∀ (ts : List Ty) (x : Els ts) (j : Nat) (x' : Els ts), putE t y i ts x j = some x' →
    encTs s ts x' = if j ≤ i then (encTs s ts x).set (i - j) (encT s t y) else encTs s ts x
  | [], _, _, _, h => by simp [encTs]
  | u :: r, x, j, x', h => by
    simp only [putE] at h
    cases hc : castE u y with
    | none => rw [hc] at h; cases h
    | some a =>
      cases hd : putE t y i r (tlE r x) (j + 1) with
      | none => rw [hc, hd] at h; cases h
      | some b =>
        rw [hc, hd] at h
        simp only [Option.some.injEq] at h
        subst h
        obtain ⟨rfl, he, _⟩ := castE_enc hc
        cases he
        have ih := putE_eq s t y i r (tlE r x) (j + 1) b hd
        simp only [encTs, hd_mk, tl_mk]
        rw [ih]
        by_cases e : i = j
        · subst e
          simp only [beq_self_eq_true, cond_true, Nat.le_refl, if_true, Nat.sub_self, List.set_cons_zero]
          rw [if_neg (by omega)]
        · have e2 : (i == j) = false := by simpa using e
          rw [e2]
          simp only [cond_false]
          by_cases h1 : j ≤ i
          · rw [if_pos (by omega), if_pos h1]
            have e3 : i - j = (i - (j + 1)) + 1 := by omega
            rw [e3, List.set_cons_succ]
          · rw [if_neg (by omega), if_neg h1]
def allTy (t : Ty) : List Ty → Bool
  | [] => true
  | u :: r => Ty.eq t u && allTy t r
theorem allTy_css {t : Ty} : ∀ {ts : List Ty} {i : Nat}, allTy t ts = true → i ≤ ts.length → Ty.css (ts.take i) = i * t.cs
  | [], i, _, h => by simp at h; subst h; simp [Ty.css]
  | u :: r, 0, _, _ => by simp [Ty.css]
  | u :: r, i + 1, h, h1 => by
    simp only [allTy, Bool.and_eq_true] at h
    have e := Ty.eq_of _ _ h.1
    subst e
    simp only [List.take_succ_cons, Ty.css]
    rw [allTy_css h.2 (by simpa using h1), Nat.succ_mul]; omega
theorem encTs_css_take (s : Nat) : ∀ (ts : List Ty) (x : Els ts) (i : Nat), T.css ((encTs s ts x).take i) = Ty.css (ts.take i)
  | [], _, i => by simp [encTs, T.css, Ty.css]
  | t :: r, x, 0 => by simp [T.css, Ty.css]
  | t :: r, x, i + 1 => by
    simp only [encTs, List.take_succ_cons, T.css, Ty.css]
    rw [encT_cs, encTs_css_take s r]
theorem encs_css_take : ∀ (ts : List Ty) (x : Els ts) (i : Nat), PV.css ((encs ts x).take i) = Ty.css (ts.take i)
  | [], _, i => by simp [encs, PV.css, Ty.css]
  | t :: r, x, 0 => by simp [PV.css, Ty.css]
  | t :: r, x, i + 1 => by
    simp only [encs, List.take_succ_cons, PV.css, Ty.css]
    rw [enc_cs, encs_css_take r]

/-! ### aggregates in the model's memory, whether pure or not -/
theorem css_append : ∀ l m : List PV, PV.css (l ++ m) = PV.css l + PV.css m
  | [], m => by simp [PV.css]
  | x :: r, m => by simp only [List.cons_append, PV.css, css_append r m]; omega
theorem lookF_mk (L : List (T Nat)) (i : Nat) (r : List Nat) (o : Nat) : lookF (mkTAgg L) (i :: r) o = match L[i]? with | some t => lookF t r (o + T.css (L.take i)) | none => none := by
  rcases mkTAgg_cases L with ⟨vs, rfl, h⟩ | h
  · rw [h]
    simp only [lookF, List.getElem?_map]
    cases hv : vs[i]? with
    | none => rfl
    | some v =>
      simp only [Option.map_some]
      rw [← List.map_take, css_map_p]
  · rw [h]; simp only [lookF]; cases L[i]? <;> rfl
theorem subT_mk (L : List (T Nat)) (i : Nat) (r : List Nat) : subT (mkTAgg L) (i :: r) = match L[i]? with | some t => subT t r | none => none := by
  rcases mkTAgg_cases L with ⟨vs, rfl, h⟩ | h
  · rw [h]
    simp only [subT, List.getElem?_map]
    cases vs[i]? with
    | none => rfl
    | some v => rfl
  · rw [h]; simp only [subT]; cases L[i]? <;> rfl
theorem putT_mk (L : List (T Nat)) (i : Nat) (r : List Nat) (u : T Nat) : putT (mkTAgg L) (i :: r) u = match L[i]? with
    | some t => match putT t r u with | some w => some (mkTAgg (L.set i w)) | none => none
    | none => none := by
  rcases mkTAgg_cases L with ⟨vs, rfl, h⟩ | h
  · rw [h]
    simp only [putT, List.getElem?_map]
    cases vs[i]? with
    | none => rfl
    | some v => simp only [Option.map_some]; cases putT (T.p v) r u <;> rfl
  · rw [h]; simp only [putT]; cases L[i]? with
    | none => rfl
    | some v => simp only; cases putT v r u <;> rfl

def SL.get : SL → Nat → Tree T2
  | .base s t l, i => .opt (dflt t) l[i]? fun x => .leaf (.e s t x)
  | .set a j u, i => .ite (i == j) ((Tree.ask (Nat.blt j a.len)).bind fun _ => .leaf u) (a.get i)
  | .app a u, i => .ite (i == a.len) (.leaf u) (a.get i)
theorem SL.get_eq : ∀ (a : SL) (i : Nat) (u : T2), (a.get i).den = some u → (cSL a)[i]? = some (cT u)
  | .base s t l, i, u, h => by
    simp only [SL.get, Tree.den_opt, Tree.den_leaf] at h
    obtain ⟨x, h1, rfl⟩ := h
    simp only [cSL, List.getElem?_map, h1]; rfl
  | .set a j v, i, u, h => by
    simp only [SL.get, Tree.den_ite, Tree.den_bind, Tree.den_ask, Tree.den_leaf] at h
    rcases h with ⟨h1, _, h2, rfl⟩ | ⟨h1, h2⟩
    · simp only [beq_iff_eq] at h1; subst h1
      have h3 : i < a.len := Nat.blt_eq.mp h2
      simp only [cSL]
      rw [List.getElem?_set_self (by rw [SL.len_eq]; exact h3)]
    · have h1 : ¬ i = j := by simpa using h1
      simp only [cSL]
      rw [List.getElem?_set_ne (Ne.symm h1)]
      exact SL.get_eq a i u h2
  | .app a v, i, u, h => by
    simp only [SL.get, Tree.den_ite, Tree.den_leaf] at h
    rcases h with ⟨h1, rfl⟩ | ⟨h1, h2⟩
    · simp only [beq_iff_eq] at h1; subst h1
      simp only [cSL]
      rw [List.getElem?_append_right (by rw [SL.len_eq]; exact Nat.le_refl _), SL.len_eq, Nat.sub_self]; rfl
    · have := SL.get_eq a i u h2
      simp only [cSL]
      rw [List.getElem?_append_left (List.getElem?_eq_some_iff.1 this).1]; exact this
/-- a typed element that fits a list's elements -/
def fitE (s : Nat) (t : Ty) : T2 → Option (El t)
  | .e s' _ x => if s' == s || t.pure then castE t x else none
  | _ => none
theorem fitE_eq {s : Nat} {t : Ty} {u : T2} {x : El t} (h : fitE s t u = some x) : cT u = encT s t x := by
  cases u <;> simp only [fitE, reduceCtorEq] at h
  rename_i s' t' y
  split at h
  · rename_i hc
    obtain ⟨rfl, he, _⟩ := castE_enc h
    cases he
    simp only [Bool.or_eq_true, beq_iff_eq] at hc
    rcases hc with rfl | hc
    · rfl
    · simp only [cT]; rw [encT_pure _ _ _ hc, encT_pure _ _ _ hc]
  · cases h
def SL.put : SL → Nat → T2 → SL
  | .base s t l, i, u => match fitE s t u with | some x => .base s t (l.set i x) | none => .set (.base s t l) i u
  | a, i, u => .set a i u
theorem SL.put_eq (a : SL) (i : Nat) (u : T2) : cSL (a.put i u) = (cSL a).set i (cT u) := by
  cases a with
  | base s t l =>
    simp only [SL.put]
    cases h : fitE s t u with
    | none => rfl
    | some x => simp only [cSL]; rw [List.map_set, fitE_eq h]
  | set a j v => rfl
  | app a v => rfl
/-- the same, where a change of the same place before is overwritten -/
def SL.putT (i : Nat) (u : T2) : SL → Tree SL
  | .set a j v => .ite (i == j) (.leaf (a.put i u)) (.leaf (.set (.set a j v) i u))
  | a => .leaf (a.put i u)
theorem SL.putT_eq {i : Nat} {u : T2} {a b : SL} (h : (SL.putT i u a).den = some b) : cSL b = (cSL a).set i (cT u) := by
  cases a with
  | set a j v =>
    simp only [SL.putT, Tree.den_ite, Tree.den_leaf] at h
    rcases h with ⟨h1, rfl⟩ | ⟨_, rfl⟩
    · simp only [beq_iff_eq] at h1
      subst h1
      rw [SL.put_eq]
      simp only [cSL, List.set_set]
    · rfl
  | base s t l => simp only [SL.putT, Tree.den_leaf] at h; subst h; exact SL.put_eq _ _ _
  | app a v => simp only [SL.putT, Tree.den_leaf] at h; subst h; exact SL.put_eq _ _ _
def SL.push : SL → T2 → SL
  | .base s t l, u => match fitE s t u with | some x => .base s t (l ++ [x]) | none => .app (.base s t l) u
  | a, u => .app a u
theorem SL.push_eq (a : SL) (u : T2) : cSL (a.push u) = cSL a ++ [cT u] := by
  cases a with
  | base s t l =>
    simp only [SL.push]
    cases h : fitE s t u with
    | none => rfl
    | some x => simp only [cSL, List.map_append, List.map_cons, List.map_nil]; rw [fitE_eq h]
  | set a j v => rfl
  | app a v => rfl

/-! ### a place in a tree -/
mutual
def tcs : T2 → Nat
  | .e _ t _ => t.cs
  | .w v => wcs v
  | .agg l => tcss l
  | .vec .. => 1
  | .hole n => n
def tcss : List T2 → Nat
  | [] => 0
  | x :: r => tcs x + tcss r
end
mutual
theorem tcs_eq : ∀ t : T2, (cT t).cs = tcs t
  | .e s t x => encT_cs s t x
  | .w v => wcs_eq v
  | .agg l => by simp only [cT, mkTAgg_css, tcs]; exact tcss_eq l
  | .vec .. => rfl
  | .hole n => rfl
theorem tcss_eq : ∀ l : List T2, T.css (cTs l) = tcss l
  | [] => rfl
  | x :: r => by simp only [cTs, T.css, tcss]; rw [tcs_eq x, tcss_eq r]
end
def arrTy : List Ty → Nat → Option Ty
  | [], _ => none
  | t :: r, z => if allTy t (t :: r) && t.cs == z then some t else none
/-- a part within one variable or array -/
def kidF : T2 → Step → Tree T2
  | .e s (.agg ts) x, st => match st with
    | .f i o => if Ty.css (ts.take i) == o then (Tree.ofO (compE ts x i)).bind fun p => .leaf (.e s p.1 p.2) else .fail
    | .k i z => match arrTy ts z with
      | some t => (Tree.ask (Nat.blt i ts.length)).bind fun _ => (Tree.ofO (selE t i ts x 0)).bind fun y => .leaf (.e s t y)
      | none => .fail
  | .agg l, .f i o => if tcss (l.take i) == o then Tree.ofO l[i]? else .fail
  | _, _ => .fail
theorem kidF_eq {t : T2} {st : Step} {u : T2} (h : (kidF t st).den = some u) : ∃ L, cT t = mkTAgg L ∧ L[st.ix]? = some (cT u) ∧ T.css (L.take st.ix) = st.of := by
  unfold kidF at h
  split at h
  · rename_i s ts x
    refine ⟨encTs s ts x, rfl, ?_⟩
    split at h
    · rename_i i o
      split at h
      · rename_i ho
        simp only [Tree.den_bind, Tree.den_ofO, Tree.den_leaf] at h
        obtain ⟨⟨t, y⟩, h1, rfl⟩ := h
        exact ⟨(compE_eq s ts x i t y h1).2, (encTs_css_take s ts x i).trans (beq_iff_eq.mp ho)⟩
      · simp at h
    · rename_i i z
      split at h
      · rename_i t ht
        simp only [Tree.den_bind, Tree.den_ask, Tree.den_ofO, Tree.den_leaf] at h
        obtain ⟨_, h1, y, h2, rfl⟩ := h
        have h1 : i < ts.length := Nat.blt_eq.mp h1
        have := (selE_eq s t i ts x 0 y h2 (Nat.zero_le _) (by omega)).2
        rw [Nat.sub_zero] at this
        refine ⟨this, (encTs_css_take s ts x i).trans ?_⟩
        unfold arrTy at ht
        split at ht
        · cases ht
        · split at ht
          · rename_i hc
            cases ht
            simp only [Bool.and_eq_true, beq_iff_eq] at hc
            rw [← hc.2]
            exact allTy_css hc.1 (by show i ≤ _; omega)
          · cases ht
      · simp at h
  · rename_i l i o
    split at h
    · rename_i ho
      rw [Tree.den_ofO] at h
      refine ⟨cTs l, rfl, ?_, ?_⟩
      · rw [cTs_map, List.getElem?_map]
        show Option.map cT l[i]? = _
        rw [h]; rfl
      · show T.css ((cTs l).take i) = o
        rw [cTs_map, ← List.map_take, ← cTs_map, tcss_eq]
        simpa using ho
    · simp at h
  · simp at h
/-- the parts of an aggregate, one by one -/
def comps (s : Nat) : (ts : List Ty) → Els ts → List T2
  | [], _ => []
  | t :: r, x => .e s t (hdE r x) :: comps s r (tlE r x)
theorem comps_eq (s : Nat) : ∀ (ts : List Ty) (x : Els ts), cTs (comps s ts x) = encTs s ts x
  | [], _ => rfl
  | t :: r, x => by simp only [comps, cTs, encTs, comps_eq s r]; rfl
/-- another part in its place -/
def repF : T2 → Step → T2 → Tree T2
  | .e s (.agg ts) x, st, u => match st with
    | .f i _ => match (match u with | .e s' t y => if s' == s || t.pure then setE ts x i t y else none | _ => none) with
      | some x' => .leaf (.e s (.agg ts) x')
      | none => .leaf (.agg ((comps s ts x).set i u))
    | .k i _ => match u with
      | .e s' t y => if s' == s || t.pure then (Tree.ofO (putE t y i ts x 0)).bind fun x' => .leaf (.e s (.agg ts) x') else .fail
      | _ => .fail
  | .agg l, .f i _, u => .leaf (.agg (l.set i u))
  | _, _, _ => .fail
theorem repF_eq {t : T2} {st : Step} {u t' : T2} (h : (repF t st u).den = some t') : ∃ L, cT t = mkTAgg L ∧ cT t' = mkTAgg (L.set st.ix (cT u)) := by
  have hs : ∀ (s s' : Nat) (t : Ty) (y : El t), (s' == s || t.pure) = true → encT s t y = encT s' t y := by
    intro s s' t y hc
    simp only [Bool.or_eq_true, beq_iff_eq] at hc
    rcases hc with rfl | hc
    · rfl
    · rw [encT_pure _ _ _ hc, encT_pure _ _ _ hc]
  unfold repF at h
  split at h
  · rename_i s ts x
    refine ⟨encTs s ts x, rfl, ?_⟩
    split at h
    · rename_i i o
      split at h
      · rename_i x' hx
        simp only [Tree.den_leaf] at h
        subst h
        split at hx
        · rename_i s' t y
          split at hx
          · rename_i hc
            simp only [cT, encT, Step.ix]
            rw [setE_eq s ts x i t y x' hx, hs s s' t y hc]
          · cases hx
        · cases hx
      · simp only [Tree.den_leaf] at h
        subst h
        simp only [cT, Step.ix]
        rw [cTs_map, List.map_set, ← cTs_map]
        exact congrArg (fun q => mkTAgg (List.set q i (cT u))) (comps_eq s ts x)
    · rename_i i z
      split at h
      · rename_i s' t y
        split at h
        · rename_i hc
          simp only [Tree.den_bind, Tree.den_ofO, Tree.den_leaf] at h
          obtain ⟨x', h1, rfl⟩ := h
          have := putE_eq s t y i ts x 0 x' h1
          simp only [Nat.zero_le, if_true, Nat.sub_zero] at this
          simp only [cT, encT, Step.ix]
          rw [this, hs s s' t y hc]
        · simp at h
      · simp at h
  · rename_i l i o
    simp only [Tree.den_leaf] at h
    subst h
    refine ⟨cTs l, rfl, ?_⟩
    simp only [cT, Step.ix]
    rw [cTs_map, List.map_set, ← cTs_map]
  · simp at h
def lookF2 : List Step → T2 → Tree T2
  | [], t => .leaf t
  | s :: r, t => (kidF t s).bind (lookF2 r)
theorem lookF2_eq : ∀ {p : List Step} {t u : T2} {o : Nat}, (lookF2 p t).den = some u → lookF (cT t) (ixs p) o = some (cT u, o + ofs p)
  | [], t, u, o, h => by
    simp only [lookF2, Tree.den_leaf] at h
    subst h
    cases hc : cT t <;> rfl
  | s :: r, t, u, o, h => by
    simp only [lookF2, Tree.den_bind] at h
    obtain ⟨v, h1, h2⟩ := h
    obtain ⟨L, e1, e2, e3⟩ := kidF_eq h1
    simp only [ixs, ofs]
    rw [e1, lookF_mk, e2]
    simp only
    rw [e3, lookF2_eq h2, Nat.add_assoc]
/-- a part, also of an array that lies inside -/
def kidT : T2 → Step → Tree T2
  | .vec _ _ l _, st => l.get st.ix
  | .e s (.vec z t) l, st => SL.get (.base s t l) st.ix
  | t, st => kidF t st
theorem kidT_eq {t : T2} {st : Step} {u : T2} (h : (kidT t st).den = some u) (r : List Nat) : subT (cT t) (st.ix :: r) = subT (cT u) r := by
  unfold kidT at h
  split at h
  · rename_i g z l n
    have := SL.get_eq _ _ _ h
    simp only [cT, subT, this]
  · rename_i s z t l
    have := SL.get_eq _ _ _ h
    have e : cT (.e s (.vec z t) l) = .vec s z (cSL (.base s t l)) (List.length (α := El t) l) := rfl
    rw [e]
    simp only [subT, this]
  · obtain ⟨L, e1, e2, _⟩ := kidF_eq h
    rw [e1, subT_mk, e2]
def repT : T2 → Step → T2 → Tree T2
  | .vec g z l n, st, u => (SL.putT st.ix u l).bind fun l' => .leaf (.vec g z l' n)
  | .e s (.vec z t) l, st, u => .leaf (.vec s z (SL.put (.base s t l) st.ix u) (List.length (α := El t) l))
  | t, st, u => repF t st u
theorem repT_eq {t : T2} {st : Step} {u v t' : T2} {r : List Nat} {w : T Nat} (hk : (kidT t st).den = some u) (hp : putT (cT u) r w = some (cT v)) (h : (repT t st v).den = some t') : putT (cT t) (st.ix :: r) w = some (cT t') := by
  unfold repT at h
  split at h
  · rename_i g z l n
    have := SL.get_eq _ _ _ hk
    simp only [Tree.den_bind, Tree.den_leaf] at h
    obtain ⟨l', hl, rfl⟩ := h
    simp only [cT, putT, this, hp, SL.putT_eq hl]
  · rename_i s z t l
    have := SL.get_eq _ _ _ hk
    simp only [Tree.den_leaf] at h
    subst h
    have e : cT (.e s (.vec z t) l) = .vec s z (cSL (.base s t l)) (List.length (α := El t) l) := rfl
    rw [e]
    simp only [putT, this, hp, cT, SL.put_eq]
  · rename_i hx1 hx2
    have hk : (kidF t st).den = some u := by
      unfold kidT at hk
      split at hk
      · exact absurd rfl (hx1 _ _ _ _)
      · exact absurd rfl (hx2 _ _ _ _)
      · exact hk
    obtain ⟨L, e1, e2, _⟩ := kidF_eq hk
    obtain ⟨L', e3, e4⟩ := repF_eq h
    have hL : L = L' := by
      have e : mkTAgg L = mkTAgg L' := by rw [← e1, ← e3]
      rcases mkTAgg_cases L with ⟨vs, rfl, h1⟩ | h1 <;> rcases mkTAgg_cases L' with ⟨vs', rfl, h2⟩ | h2 <;> rw [h1, h2] at e
      · simp only [T.p.injEq, PV.agg.injEq] at e; rw [e]
      · cases e
      · cases e
      · simpa using e
    subst hL
    rw [e1, putT_mk, e2]
    simp only [hp]
    rw [e4]
def subT2 : List Step → T2 → Tree T2
  | [], t => .leaf t
  | s :: r, t => (kidT t s).bind (subT2 r)
theorem subT2_eq : ∀ {p : List Step} {t u : T2}, (subT2 p t).den = some u → subT (cT t) (ixs p) = some (cT u)
  | [], t, u, h => by
    simp only [subT2, Tree.den_leaf] at h
    subst h
    cases hc : cT t <;> rfl
  | s :: r, t, u, h => by
    simp only [subT2, Tree.den_bind] at h
    obtain ⟨v, h1, h2⟩ := h
    simp only [ixs]
    rw [kidT_eq h1, subT2_eq h2]
def putT2 (u : T2) : List Step → T2 → Tree T2
  | [], _ => .leaf u
  | s :: r, t => (kidT t s).bind fun c => (putT2 u r c).bind fun c' => repT t s c'
theorem putT2_eq : ∀ {p : List Step} {t u t' : T2}, (putT2 u p t).den = some t' → putT (cT t) (ixs p) (cT u) = some (cT t')
  | [], t, u, t', h => by
    simp only [putT2, Tree.den_leaf] at h
    subst h
    cases hc : cT t <;> rfl
  | s :: r, t, u, t', h => by
    simp only [putT2, Tree.den_bind] at h
    obtain ⟨c, h1, c', h2, h3⟩ := h
    simp only [ixs]
    exact repT_eq h1 (putT2_eq h2) h3
def subO2 : O2 → List Step → Tree T2
  | .cell _ t, p => subT2 p t
  | .vec _ _ l, s :: r => (l.get s.ix).bind (subT2 r)
  | _, _ => .fail
theorem subO2_eq {o : O2} {p : List Step} {u : T2} (h : (subO2 o p).den = some u) : subO (some (cO o)) (ixs p) = some (cT u) := by
  unfold subO2 at h
  split at h
  · exact subT2_eq h
  · simp only [Tree.den_bind] at h
    obtain ⟨v, h1, h2⟩ := h
    simp only [cO, ixs, subO, SL.get_eq _ _ _ h1]
    exact subT2_eq h2
  · simp at h
def putO2 (u : T2) : O2 → List Step → Tree O2
  | .cell g t, p => (putT2 u p t).bind fun t' => .leaf (.cell g t')
  | .vec g z l, s :: r => (l.get s.ix).bind fun c => (putT2 u r c).bind fun c' => (SL.putT s.ix c' l).bind fun l' => .leaf (.vec g z l')
  | _, _ => .fail
theorem putO2_eq {o o' : O2} {p : List Step} {u : T2} (h : (putO2 u o p).den = some o') : put (some (cO o)) (ixs p) (cT u) = some (cO o') := by
  unfold putO2 at h
  split at h
  · simp only [Tree.den_bind, Tree.den_leaf] at h
    obtain ⟨t', h1, rfl⟩ := h
    simp only [cO, put, putT2_eq h1]
  · simp only [Tree.den_bind, Tree.den_leaf] at h
    obtain ⟨c, h1, c', h2, l', h3, rfl⟩ := h
    simp only [cO, ixs, put, SL.get_eq _ _ _ h1, putT2_eq h2, SL.putT_eq h3]
  · simp at h
/-- the array at a place: stamp, cells an element, elements -/
def vecT2 : T2 → Tree (Nat × Nat × SL)
  | .vec g z l _ => .leaf (g, z, l)
  | .e s (.vec z t) l => .leaf (s, z, .base s t l)
  | _ => .fail
theorem vecT2_eq {t : T2} {g z : Nat} {l : SL} (h : (vecT2 t).den = some (g, z, l)) : ∃ n, cT t = .vec g z (cSL l) n := by
  unfold vecT2 at h
  split at h
  · simp only [Tree.den_leaf, Prod.mk.injEq] at h
    obtain ⟨rfl, rfl, rfl⟩ := h
    exact ⟨_, rfl⟩
  · simp only [Tree.den_leaf, Prod.mk.injEq] at h
    obtain ⟨rfl, rfl, rfl⟩ := h
    exact ⟨_, rfl⟩
  · simp at h
def vecAt2 : O2 → List Step → Tree (Nat × Nat × SL)
  | .vec g z l, [] => .leaf (g, z, l)
  | o, p => (subO2 o p).bind vecT2
theorem vecAt_sub2 {o : Obj Nat} {p : List Nat} {a z : Nat} {l : List (T Nat)} {n : Nat} (h : subO (some o) p = some (.vec a z l n)) : vecAt (some o) p = some (a, z, l) := by
  unfold vecAt
  split
  · rename_i h1; cases h1; simp [subO] at h
  · rw [h]
theorem vecAt2_eq {o : O2} {p : List Step} {g z : Nat} {l : SL} (h : (vecAt2 o p).den = some (g, z, l)) : vecAt (some (cO o)) (ixs p) = some (g, z, cSL l) := by
  unfold vecAt2 at h
  split at h
  · simp only [Tree.den_leaf, Prod.mk.injEq] at h
    obtain ⟨rfl, rfl, rfl⟩ := h
    rfl
  · simp only [Tree.den_bind] at h
    obtain ⟨u, h1, h2⟩ := h
    obtain ⟨n, h3⟩ := vecT2_eq h2
    have := subO2_eq h1
    rw [h3] at this
    exact vecAt_sub2 this
def stepOk (s : Step) (z : Nat) : Bool := match s with | .f i o => i * z == o | .k _ y => y == z
theorem stepOk_eq {s : Step} {z : Nat} (h : stepOk s z = true) : s.ix * z = s.of := by
  cases s with
  | f i o => simpa [Step.ix, Step.of, stepOk] using h
  | k i y => simp only [stepOk, beq_iff_eq] at h; subst h; rfl
/-- what lies at a place that is addressed from a variable or from an array, and the stamp -/
def look2 (o : O2) (np : Option (List Step)) (rp : List Step) : Tree (T2 × Nat) :=
  match np with
  | none => match o with
    | .cell a t => (lookF2 rp t).bind fun u => .leaf (u, a)
    | _ => .fail
  | some p => match rp with
    | s :: r => (vecAt2 o p).bind fun x => if stepOk s x.2.1 then (x.2.2.get s.ix).bind fun t => (lookF2 r t).bind fun u => .leaf (u, x.1) else .fail
    | [] => .fail
theorem look2_eq {o : O2} {np : Option (List Step)} {rp : List Step} {u : T2} {g : Nat} (h : (look2 o np rp).den = some (u, g)) : look (some (cO o)) (npI np) (ixs rp) = some (cT u, g, ofs rp) := by
  unfold look2 at h
  split at h
  · split at h
    · simp only [Tree.den_bind, Tree.den_leaf, Prod.mk.injEq] at h
      obtain ⟨v, h1, rfl, rfl⟩ := h
      simp only [cO, npI, look]
      rw [lookF2_eq h1, Nat.zero_add]
    · simp at h
  · split at h
    · rename_i p s r
      simp only [Tree.den_bind] at h
      obtain ⟨⟨a, z, l⟩, h1, h⟩ := h
      split at h
      · rename_i hc
        simp only [Tree.den_bind, Tree.den_leaf, Prod.mk.injEq] at h
        obtain ⟨t, h2, v, h3, rfl, rfl⟩ := h
        have e := stepOk_eq hc
        simp only [npI, ixs, look, vecAt2_eq h1, SL.get_eq _ _ _ h2]
        rw [lookF2_eq h3, e]
        rfl
      · simp at h
    · simp at h
end Go.Mid
/- Operations on symbolic states: values. -/
namespace Go.Mid
set_option linter.unusedSimpArgs false
set_option linter.unusedVariables false

/-! ### pure aggregates -/
/-- several pure values -/
def pvs? : List W → Option ((ts : List Ty) × Els ts)
  | [] => some ⟨[], ()⟩
  | w :: r => match pv? w, pvs? r with | some p, some q => some ⟨p.1 :: q.1, mkE q.1 p.2 q.2⟩ | _, _ => none
theorem pvs?_eq : ∀ {l : List W} {ts : List Ty} {x : Els ts}, pvs? l = some ⟨ts, x⟩ → l.map cW = (encs ts x).map .p
  | [], ts, x, h => by simp only [pvs?, Option.some.injEq] at h; cases h; rfl
  | w :: r, ts, x, h => by
    simp only [pvs?] at h
    cases h1 : pv? w with
    | none => rw [h1] at h; cases h
    | some p =>
      cases h2 : pvs? r with
      | none => rw [h1, h2] at h; cases h
      | some q =>
        rw [h1, h2] at h
        obtain ⟨t, y⟩ := p
        obtain ⟨us, z⟩ := q
        simp only [Option.some.injEq] at h
        cases h
        simp only [List.map_cons, encs, hd_mk, tl_mk]
        rw [pv?_eq h1, pvs?_eq h2]
theorem allP_ps : ∀ l : List PV, allP (l.map .p) = some l
  | [] => rfl
  | x :: r => by simp only [List.map_cons, allP, allP_ps r]
def nonP : W → Bool
  | .c _ => false
  | .v _ _ => false
  | _ => true
theorem nonP_allP : ∀ {l : List W}, l.any nonP = true → allP (l.map cW) = none
  | w :: r, h => by
    simp only [List.any_cons, Bool.or_eq_true] at h
    simp only [List.map_cons]
    rcases h with h | h
    · cases w <;> simp only [nonP, Bool.false_eq_true] at h <;> rfl
    · have := nonP_allP h
      cases hw : cW w <;> simp only [allP, this]
def mkAggW (l : List W) : Tree W := match pvs? l with
  | some q => .leaf (.v (.agg q.1) q.2)
  | none => if l.any nonP then .leaf (.agg l) else .fail
theorem mkAggW_eq {l : List W} {w : W} (h : (mkAggW l).den = some w) : mkAgg (l.map cW) = cW w := by
  unfold mkAggW at h
  split at h
  · rename_i q hq
    obtain ⟨ts, x⟩ := q
    simp only [Tree.den_leaf] at h
    subst h
    unfold mkAgg
    rw [pvs?_eq hq, allP_ps]
    rfl
  · split at h
    · rename_i hn
      simp only [Tree.den_leaf] at h
      subst h
      unfold mkAgg
      rw [nonP_allP hn, cW, cWs_map]
    · simp at h
/-! ### the value of a place -/
mutual
def valE (s id : Nat) (p : List Step) : (t : Ty) → El t → Tree W
  | .vec _ t, x => .leaf (.own id p none (List.length (α := El t) x) s)
  | .agg ts, x => if Ty.pures ts then .leaf (.v (.agg ts) x) else (valEs s id p 0 0 ts x).bind mkAggW
  | t, x => .leaf (.v t x)
def valEs (s id : Nat) (p : List Step) (i o : Nat) : (ts : List Ty) → Els ts → Tree (List W)
  | [], _ => .leaf []
  | t :: r, x => (valE s id (p ++ [.f i o]) t (hdE r x)).bind fun w => (valEs s id p (i + 1) (o + t.cs) r (tlE r x)).bind fun l => .leaf (w :: l)
end
mutual
def val2 (id : Nat) (p : List Step) : T2 → Tree W
  | .e s t x => valE s id p t x
  | .w v => .leaf v
  | .agg l => (val2s id p 0 0 l).bind mkAggW
  | .vec g _ _ n => .leaf (.own id p none n g)
  | .hole n => .leaf (.dead n)
def val2s (id : Nat) (p : List Step) (i o : Nat) : List T2 → Tree (List W)
  | [] => .leaf []
  | t :: r => (val2 id (p ++ [.f i o]) t).bind fun w => (val2s id p (i + 1) (o + tcs t) r).bind fun l => .leaf (w :: l)
end
theorem valTs_ps (id : Nat) : ∀ (vs : List PV) (p : List Nat) (i : Nat), valTs id p i (vs.map T.p) = vs.map .p
  | [], _, _ => rfl
  | v :: r, p, i => by simp only [List.map_cons, valTs, valT, valTs_ps id r]
theorem valT_mk (id : Nat) (p : List Nat) (L : List (T Nat)) : valT id p (mkTAgg L) = mkAgg (valTs id p 0 L) := by
  rcases mkTAgg_cases L with ⟨vs, rfl, h⟩ | h
  · rw [h, valTs_ps]
    unfold mkAgg
    rw [allP_ps]
    rfl
  · rw [h]; rfl
theorem ixs_snoc (p : List Step) (i o : Nat) : ixs (p ++ [.f i o]) = ixs p ++ [i] := by rw [ixs_append]; rfl
mutual
theorem valE_eq (s id : Nat) : ∀ (t : Ty) (p : List Step) (x : El t) (w : W), (valE s id p t x).den = some w → valT id (ixs p) (encT s t x) = cW w
  | .vec z t, p, x, w, h => by
    simp only [valE, Tree.den_leaf] at h
    subst h
    rfl
  | .agg ts, p, x, w, h => by
    simp only [valE] at h
    split at h
    · rename_i hp
      simp only [Tree.den_leaf] at h
      subst h
      rw [encT_pure s (.agg ts) x (by simpa only [Ty.pure] using hp)]
      rfl
    · simp only [Tree.den_bind] at h
      obtain ⟨l, h1, h2⟩ := h
      simp only [encT]
      rw [valT_mk]
      have := valEs_eq s id ts p 0 0 x l h1
      rw [this]
      exact mkAggW_eq h2
  | .int k, p, x, w, h => by simp only [valE, Tree.den_leaf] at h; subst h; rfl
  | .bool, p, x, w, h => by simp only [valE, Tree.den_leaf] at h; subst h; rfl
  | .str, p, x, w, h => by simp only [valE, Tree.den_leaf] at h; subst h; rfl
  | .sl t, p, x, w, h => by simp only [valE, Tree.den_leaf] at h; subst h; rfl
  | .ref t, p, x, w, h => by simp only [valE, Tree.den_leaf] at h; subst h; rfl
  | .fn f ts, p, x, w, h => by simp only [valE, Tree.den_leaf] at h; subst h; rfl
  | .mp k v, p, x, w, h => by simp only [valE, Tree.den_leaf] at h; subst h; rfl
  | .nilp, p, x, w, h => by simp only [valE, Tree.den_leaf] at h; subst h; rfl
  | .nilf, p, x, w, h => by simp only [valE, Tree.den_leaf] at h; subst h; rfl
theorem valEs_eq (s id : Nat) : ∀ (ts : List Ty) (p : List Step) (i o : Nat) (x : Els ts) (l : List W), (valEs s id p i o ts x).den = some l → valTs id (ixs p) i (encTs s ts x) = l.map cW
  | [], p, i, o, x, l, h => by simp only [valEs, Tree.den_leaf] at h; subst h; rfl
  | t :: r, p, i, o, x, l, h => by
    simp only [valEs, Tree.den_bind, Tree.den_leaf] at h
    obtain ⟨w, h1, l', h2, rfl⟩ := h
    simp only [encTs, valTs, List.map_cons]
    have := valE_eq s id t _ _ w h1
    rw [ixs_snoc] at this
    rw [this, valEs_eq s id r p (i + 1) _ _ l' h2]
end
mutual
theorem val2_eq (id : Nat) : ∀ (t : T2) (p : List Step) (w : W), (val2 id p t).den = some w → valT id (ixs p) (cT t) = cW w
  | .e s t x, p, w, h => valE_eq s id t p x w h
  | .w v, p, w, h => by simp only [val2, Tree.den_leaf] at h; subst h; rfl
  | .agg l, p, w, h => by
    simp only [val2, Tree.den_bind] at h
    obtain ⟨ws, h1, h2⟩ := h
    simp only [cT]
    rw [valT_mk, val2s_eq id l p 0 0 ws h1]
    exact mkAggW_eq h2
  | .vec g z l n, p, w, h => by simp only [val2, Tree.den_leaf] at h; subst h; rfl
  | .hole n, p, w, h => by simp only [val2, Tree.den_leaf] at h; subst h; rfl
theorem val2s_eq (id : Nat) : ∀ (l : List T2) (p : List Step) (i o : Nat) (ws : List W), (val2s id p i o l).den = some ws → valTs id (ixs p) i (cTs l) = ws.map cW
  | [], p, i, o, ws, h => by simp only [val2s, Tree.den_leaf] at h; subst h; rfl
  | t :: r, p, i, o, ws, h => by
    simp only [val2s, Tree.den_bind, Tree.den_leaf] at h
    obtain ⟨w, h1, l', h2, rfl⟩ := h
    simp only [cTs, valTs, List.map_cons]
    have := val2_eq id t _ w h1
    rw [ixs_snoc] at this
    rw [this, val2s_eq id r p (i + 1) _ l' h2]
end
/-! ### pure copies -/
mutual
def pur : Ty → Ty
  | .vec _ t => .sl (pur t)
  | .agg ts => .agg (purs ts)
  | .int k => .int k
  | .bool => .bool
  | .str => .str
  | .sl t => .sl t
  | .ref t => .ref t
  | .fn f ts => .fn f ts
  | .mp k v => .mp k v
  | .nilp => .nilp
  | .nilf => .nilf
def purs : List Ty → List Ty
  | [] => []
  | t :: r => pur t :: purs r
end
mutual
def purE : (t : Ty) → El t → El (pur t)
  | .vec _ t, x => List.map (purE t) x
  | .agg ts, x => pursE ts x
  | .int _, x => x
  | .bool, x => x
  | .str, x => x
  | .sl _, x => x
  | .ref _, x => x
  | .fn _ _, x => x
  | .mp _ _, x => x
  | .nilp, x => x
  | .nilf, x => x
def pursE : (ts : List Ty) → Els ts → Els (purs ts)
  | [], _ => ()
  | t :: r, x => mkE (purs r) (purE t (hdE r x)) (pursE r (tlE r x))
end
mutual
theorem purE_eq : ∀ (t : Ty) (x : El t), enc (pur t) (purE t x) = enc t x
  | .vec z t, x => by
    have h : ∀ l : List (El t), (l.map (purE t)).map (enc (pur t)) = l.map (enc t) := by
      intro l
      induction l with
      | nil => rfl
      | cons a r ih => simp only [List.map_cons, purE_eq t a, ih]
    exact congrArg PV.sl (h x)
  | .agg ts, x => congrArg PV.agg (pursE_eq ts x)
  | .int _, _ | .bool, _ | .str, _ | .sl _, _ | .ref _, _ | .fn _ _, _ | .mp _ _, _ | .nilp, _ | .nilf, _ => rfl
theorem pursE_eq : ∀ (ts : List Ty) (x : Els ts), encs (purs ts) (pursE ts x) = encs ts x
  | [], _ => rfl
  | t :: r, x => by
    simp only [purs, pursE, encs, hd_mk, tl_mk]
    rw [purE_eq t, pursE_eq r]
end
/-- a pure copy of a list of elements -/
def listP (t : Ty) (l : List (El t)) : TV := if t.pure then ⟨.sl t, l⟩ else ⟨.sl (pur t), List.map (purE t) l⟩
theorem listP_eq (t : Ty) (l : List (El t)) : enc (listP t l).1 (listP t l).2 = .sl (l.map (enc t)) := by
  by_cases hp : t.pure = true
  · rw [show listP t l = ⟨.sl t, l⟩ from if_pos hp]
    rfl
  · rw [show listP t l = ⟨.sl (pur t), List.map (purE t) l⟩ from if_neg hp]
    show PV.sl ((l.map (purE t)).map (enc (pur t))) = _
    rw [List.map_map]
    congr 2
    funext x
    exact purE_eq t x
def toQ : (t : Ty) → El t → TV
  | .vec _ u, l => listP u l
  | t, x => ⟨pur t, purE t x⟩
theorem toQ_eq (t : Ty) (x : El t) : enc (toQ t x).1 (toQ t x).2 = enc t x := by
  cases t with
  | vec z u => exact listP_eq _ _
  | _ => exact purE_eq _ _
def toP (t : Ty) (x : El t) : TV := if t.pure then ⟨t, x⟩ else toQ t x
theorem toP_eq (t : Ty) (x : El t) : enc (toP t x).1 (toP t x).2 = enc t x := by
  by_cases hp : t.pure = true
  · rw [show toP t x = ⟨t, x⟩ from if_pos hp]
  · rw [show toP t x = toQ t x from if_neg hp]
    exact toQ_eq t x
/-- a pure copy of all elements of an array -/
def listQ (t : Ty) (l : List (El t)) : (t : Ty) × List (El t) := if t.pure then ⟨t, l⟩ else ⟨pur t, List.map (purE t) l⟩
theorem listQ_eq (t : Ty) (l : List (El t)) : (listQ t l).2.map (enc (listQ t l).1) = l.map (enc t) := by
  by_cases hp : t.pure = true
  · rw [show listQ t l = ⟨t, l⟩ from if_pos hp]
  · rw [show listQ t l = ⟨pur t, List.map (purE t) l⟩ from if_neg hp]
    show (l.map (purE t)).map (enc (pur t)) = _
    rw [List.map_map]
    congr 1
    funext x
    exact purE_eq t x
def cutP (n : Nat) (o : Tree ((t : Ty) × List (El t))) : SL → Tree TV
  | .base _ t l => .leaf (listP t (l.take n))
  | _ => o.bind fun q => .leaf ⟨.sl q.1, q.2.take n⟩
mutual
def tP : T2 → Tree TV
  | .e _ t x => .leaf (toP t x)
  | .agg l => (tPs l).bind fun q => .leaf ⟨.agg q.1, q.2⟩
  | .vec _ _ a n => cutP n (slQ a) a
  | .w _ => .fail
  | .hole _ => .fail
def tPs : List T2 → Tree ((ts : List Ty) × Els ts)
  | [] => .leaf ⟨[], ()⟩
  | t :: r => (tP t).bind fun p => (tPs r).bind fun q => .leaf ⟨p.1 :: q.1, mkE q.1 p.2 q.2⟩
def slQ : SL → Tree ((t : Ty) × List (El t))
  | .base _ t l => .leaf (listQ t l)
  | .set a i u => (slQ a).bind fun q => (tP u).bind fun v => (Tree.ofO (castE q.1 v.2)).bind fun x => .leaf ⟨q.1, q.2.set i x⟩
  | .app a u => (slQ a).bind fun q => (tP u).bind fun v => (Tree.ofO (castE q.1 v.2)).bind fun x => .leaf ⟨q.1, q.2 ++ [x]⟩
end
theorem pureTs_set : ∀ {l : List (T Nat)} {vs : List PV} {i : Nat} {t : T Nat} {v : PV}, pureTs l = some vs → pureT t = some v → pureTs (l.set i t) = some (vs.set i v)
  | [], vs, i, t, v, h, _ => by simp only [pureTs, Option.some.injEq] at h; subst h; rfl
  | a :: r, vs, i, t, v, h, hv => by
    simp only [pureTs] at h
    cases h1 : pureT a with
    | none => rw [h1] at h; cases h
    | some x =>
      cases h2 : pureTs r with
      | none => rw [h1, h2] at h; cases h
      | some q =>
        rw [h1, h2] at h
        simp only [Option.some.injEq] at h
        subst h
        cases i with
        | zero => simp only [List.set_cons_zero, pureTs, hv, h2]
        | succ i => simp only [List.set_cons_succ, pureTs, h1, pureTs_set h2 hv]
theorem pureTs_snoc : ∀ {l : List (T Nat)} {vs : List PV} {t : T Nat} {v : PV}, pureTs l = some vs → pureT t = some v → pureTs (l ++ [t]) = some (vs ++ [v])
  | [], vs, t, v, h, hv => by simp only [pureTs, Option.some.injEq] at h; subst h; simp only [List.nil_append, pureTs, hv]
  | a :: r, vs, t, v, h, hv => by
    simp only [pureTs] at h
    cases h1 : pureT a with
    | none => rw [h1] at h; cases h
    | some x =>
      cases h2 : pureTs r with
      | none => rw [h1, h2] at h; cases h
      | some q =>
        rw [h1, h2] at h
        simp only [Option.some.injEq] at h
        subst h
        simp only [List.cons_append, pureTs, h1, pureTs_snoc h2 hv]
theorem cutP_eq {n : Nat} {o : Tree ((t : Ty) × List (El t))} {a : SL} (ho : ∀ q, o.den = some q → pureTs (cSL a) = some (q.2.map (enc q.1))) {v : TV} (h : (cutP n o a).den = some v) : ∃ vs, pureTs (cSL a) = some vs ∧ enc v.1 v.2 = .sl (vs.take n) := by
  cases a with
  | base s t l =>
    simp only [cutP, Tree.den_leaf] at h
    subst h
    refine ⟨l.map (enc t), by simp only [cSL, pureTs_base], ?_⟩
    rw [listP_eq, List.map_take]
  | _ =>
    simp only [cutP, Tree.den_bind, Tree.den_leaf] at h
    obtain ⟨q, h1, rfl⟩ := h
    refine ⟨_, ho q h1, ?_⟩
    show PV.sl ((q.2.take n).map (enc q.1)) = _
    rw [List.map_take]
mutual
theorem tP_eq : ∀ (t : T2) (v : TV), (tP t).den = some v → pureT (cT t) = some (enc v.1 v.2)
  | .e s t x, v, h => by
    simp only [tP, Tree.den_leaf] at h
    subst h
    rw [toP_eq]
    exact pureT_enc s t x
  | .agg l, v, h => by
    simp only [tP, Tree.den_bind, Tree.den_leaf] at h
    obtain ⟨q, h1, rfl⟩ := h
    simp only [cT, pureT_mk]
    rw [tPs_eq l q h1]
    rfl
  | .vec g z a n, v, h => by
    simp only [tP] at h
    obtain ⟨vs, h1, h2⟩ := cutP_eq (fun q hq => slQ_eq a q hq) h
    simp only [cT, pureT, h1, h2]
  | .w _, v, h => by simp [tP, Tree.den] at h
  | .hole _, v, h => by simp [tP, Tree.den] at h
theorem tPs_eq : ∀ (l : List T2) (q : (ts : List Ty) × Els ts), (tPs l).den = some q → pureTs (cTs l) = some (encs q.1 q.2)
  | [], q, h => by simp only [tPs, Tree.den_leaf] at h; subst h; rfl
  | t :: r, q, h => by
    simp only [tPs, Tree.den_bind, Tree.den_leaf] at h
    obtain ⟨p, h1, q', h2, rfl⟩ := h
    simp only [cTs, pureTs, encs, hd_mk, tl_mk]
    rw [tP_eq t p h1, tPs_eq r q' h2]
theorem slQ_eq : ∀ (a : SL) (q : (t : Ty) × List (El t)), (slQ a).den = some q → pureTs (cSL a) = some (q.2.map (enc q.1))
  | .base s t l, q, h => by
    simp only [slQ, Tree.den_leaf] at h
    subst h
    rw [listQ_eq]
    simp only [cSL, pureTs_base]
  | .set a i u, q, h => by
    simp only [slQ, Tree.den_bind, Tree.den_ofO, Tree.den_leaf] at h
    obtain ⟨q', h1, v, h2, x, h3, rfl⟩ := h
    obtain ⟨e1, e2, e3⟩ := castE_enc h3
    simp only [cSL, List.map_set]
    exact pureTs_set (slQ_eq a q' h1) (by rw [tP_eq u v h2, e3])
  | .app a u, q, h => by
    simp only [slQ, Tree.den_bind, Tree.den_ofO, Tree.den_leaf] at h
    obtain ⟨q', h1, v, h2, x, h3, rfl⟩ := h
    obtain ⟨e1, e2, e3⟩ := castE_enc h3
    simp only [cSL, List.map_append, List.map_cons, List.map_nil]
    exact pureTs_snoc (slQ_eq a q' h1) (by rw [tP_eq u v h2, e3])
end
/-- the elements of an array, from a place on so many, as a pure list -/
def slP (off : Option Nat) (len : Nat) : SL → Tree TV
  | .base _ t l => .leaf (listP t ((match off with | none => l | some o => l.drop o).take len))
  | a => (slQ a).bind fun q => .leaf ⟨.sl q.1, (match off with | none => q.2 | some o => q.2.drop o).take len⟩
theorem slP_eq {off : Option Nat} {len : Nat} {a : SL} {v : TV} (h : (slP off len a).den = some v) : ∃ vs, pureTs (cSL a) = some vs ∧ enc v.1 v.2 = .sl ((vs.drop (off.getD 0)).take len) := by
  cases a with
  | base s t l =>
    simp only [slP, Tree.den_leaf] at h
    subst h
    refine ⟨l.map (enc t), by simp only [cSL, pureTs_base], ?_⟩
    rw [listP_eq]
    cases off with
    | none => simp [List.map_take]
    | some o => simp [List.map_take, List.map_drop]
  | _ =>
    simp only [slP, Tree.den_bind, Tree.den_leaf] at h
    obtain ⟨q, h1, rfl⟩ := h
    refine ⟨_, slQ_eq _ q h1, ?_⟩
    cases off with
    | none => exact congrArg PV.sl (by simp [List.map_take])
    | some o => exact congrArg PV.sl (by simp [List.map_take, List.map_drop])
def hintAgg : Option Ty → Nat → Option Ty
  | some (.agg ts), i => ts[i]?
  | some (.fn _ ts), i => ts[i]?
  | _, _ => none
def hintSl : Option Ty → Option Ty
  | some (.sl t) => some t
  | some (.vec _ t) => some t
  | _ => none
-- a pure copy of a value
mutual
def snap (h : H2) : Option Ty → W → Tree TV
  | _, .v t x => .leaf ⟨t, x⟩
  | u, .c p => match pv? (.c p) with
    | some x => .leaf x
    | none => match u with
      | some u => match dec u p with | some x => .leaf ⟨u, x⟩ | none => .fail
      | none => .fail
  | u, .nil _ => match hintSl u with | some t => .leaf ⟨.sl t, ([] : List (El t))⟩ | none => .fail
  | _, .own id path off len g => (Tree.ofO (getH h id)).bind fun o => (vecAt2 o path).bind fun x => if x.1 == g then (Tree.ask (Nat.ble (match off with | none => len | some o => o + len) x.2.2.len)).bind fun _ => slP off len x.2.2 else .fail
  | _, .ptr id np rp g => (Tree.ofO (getH h id)).bind fun o => (look2 o np rp).bind fun x => if x.2 == g then (tP x.1).bind fun v => .leaf ⟨.ref v.1, v.2⟩ else .fail
  | u, .agg l => (snaps h u 0 l).bind fun q => .leaf ⟨.agg q.1, q.2⟩
  | u, .fn f l => (snaps h u 0 l).bind fun q => .leaf ⟨.fn f q.1, q.2⟩
  | _, .mref .. => .fail
  | _, .tup _ => .fail
  | _, .dead _ => .fail
def snaps (h : H2) (u : Option Ty) (i : Nat) : List W → Tree ((ts : List Ty) × Els ts)
  | [] => .leaf ⟨[], ()⟩
  | w :: r => (snap h (hintAgg u i) w).bind fun p => (snaps h u (i + 1) r).bind fun q => .leaf ⟨p.1 :: q.1, mkE q.1 p.2 q.2⟩
end
theorem getH_c {h : H2} {id : Nat} {o : O2} (e : getH h id = some o) : cH h id = some (cO o) := by rw [cH_get, e]; rfl
mutual
theorem snap_eq (h : H2) : ∀ (w : W) (u : Option Ty) (v : TV), (snap h u w).den = some v → pureM (cH h) (cW w) = some (enc v.1 v.2)
  | .v t x, u, v, e => by simp only [snap, Tree.den_leaf] at e; subst e; rfl
  | .c p, u, v, e => by
    simp only [snap] at e
    split at e
    · rename_i x hx
      simp only [Tree.den_leaf] at e
      subst e
      have := pv?_eq hx
      rw [this]
      rfl
    · split at e
      · split at e
        · rename_i hd
          simp only [Tree.den_leaf] at e
          subst e
          show some p = _
          rw [dec_enc _ _ _ hd]
        · simp at e
      · simp at e
  | .nil z, u, v, e => by
    simp only [snap] at e
    split at e
    · simp only [Tree.den_leaf] at e; subst e; rfl
    · simp at e
  | .own id path off len g, u, v, e => by
    simp only [snap, Tree.den_bind, Tree.den_ofO] at e
    obtain ⟨o, h1, ⟨g', z, a⟩, h2, e⟩ := e
    split at e
    · rename_i hg
      simp only [beq_iff_eq] at hg
      simp only [Tree.den_bind, Tree.den_ask] at e
      obtain ⟨_, h3, h4⟩ := e
      obtain ⟨vs, h5, h6⟩ := slP_eq h4
      have h3 : off.getD 0 + len ≤ a.len := by
        cases off with
        | none => simpa using Nat.ble_eq.mp h3
        | some o => exact Nat.ble_eq.mp h3
      simp only [cW, pureM]
      rw [getH_c h1, vecAt2_eq h2]
      simp only [hg, true_and, SL.len_eq, h3, if_true, h5, h6]
    · simp at e
  | .ptr id np rp g, u, v, e => by
    simp only [snap, Tree.den_bind, Tree.den_ofO] at e
    obtain ⟨o, h1, ⟨t, g'⟩, h2, e⟩ := e
    split at e
    · rename_i hg
      simp only [beq_iff_eq] at hg
      simp only [Tree.den_bind, Tree.den_leaf] at e
      obtain ⟨x, h3, rfl⟩ := e
      simp only [cW, pureM]
      rw [getH_c h1, look2_eq h2]
      simp only [hg, true_and, if_true, tP_eq _ _ h3]
      rfl
    · simp at e
  | .agg l, u, v, e => by
    simp only [snap, Tree.den_bind, Tree.den_leaf] at e
    obtain ⟨q, h1, rfl⟩ := e
    simp only [cW, pureM]
    rw [snaps_eq h l u 0 q h1]
    rfl
  | .fn f l, u, v, e => by
    simp only [snap, Tree.den_bind, Tree.den_leaf] at e
    obtain ⟨q, h1, rfl⟩ := e
    simp only [cW, pureM]
    rw [snaps_eq h l u 0 q h1]
    rfl
  | .mref .., u, v, e => by simp [snap, Tree.den] at e
  | .tup _, u, v, e => by simp [snap, Tree.den] at e
  | .dead _, u, v, e => by simp [snap, Tree.den] at e
theorem snaps_eq (h : H2) : ∀ (l : List W) (u : Option Ty) (i : Nat) (q : (ts : List Ty) × Els ts), (snaps h u i l).den = some q → pureMs (cH h) (cWs l) = some (encs q.1 q.2)
  | [], u, i, q, e => by simp only [snaps, Tree.den_leaf] at e; subst e; rfl
  | w :: r, u, i, q, e => by
    simp only [snaps, Tree.den_bind, Tree.den_leaf] at e
    obtain ⟨p, h1, q', h2, rfl⟩ := e
    simp only [cWs, pureMs, encs, hd_mk, tl_mk]
    rw [snap_eq h w _ p h1, snaps_eq h r u (i + 1) q' h2]
end
end Go.Mid
/- Operations on symbolic states: changes of trees; scalars. -/
namespace Go.Mid
set_option linter.unusedSimpArgs false
set_option linter.unusedVariables false

/-! ### changing all references and stamps of a tree -/
theorem allTP_mapT (φ : MV → MV) (ζ : Nat → Nat) : ∀ l : List (T Nat), allTP (l.map (mapT φ ζ)) = allTP l
  | [] => rfl
  | .p v :: r => by simp only [List.map_cons, mapT, allTP, allTP_mapT φ ζ r]
  | .m _ :: r | .agg _ :: r | .vec .. :: r | .mp .. :: r | .hole _ :: r => rfl
theorem mapT_mk' (φ : MV → MV) (ζ : Nat → Nat) (l : List (T Nat)) : mapT φ ζ (mkTAgg l) = mkTAgg (mapTs φ ζ l) := by
  unfold mkTAgg
  rw [mapTs_map, allTP_mapT]
  cases allTP l with
  | none => simp only [mapT, mapTs_map]
  | some vs => rfl
section
variable (φ : W → Tree W) (ζ : Nat → Nat)
mutual
def mapT2 : T2 → Tree T2
  | .e s t x => .leaf (.e (ζ s) t x)
  | .w v => (φ v).bind fun v' => .leaf (.w v')
  | .agg l => (mapT2s l).bind fun l' => .leaf (.agg l')
  | .vec g z a n => (mapSL a).bind fun a' => .leaf (.vec (ζ g) z a' n)
  | .hole n => .leaf (.hole n)
def mapT2s : List T2 → Tree (List T2)
  | [] => .leaf []
  | t :: r => (mapT2 t).bind fun t' => (mapT2s r).bind fun r' => .leaf (t' :: r')
def mapSL : SL → Tree SL
  | .base s t l => .leaf (.base (ζ s) t l)
  | .set a i u => (mapSL a).bind fun a' => (mapT2 u).bind fun u' => .leaf (.set a' i u')
  | .app a u => (mapSL a).bind fun a' => (mapT2 u).bind fun u' => .leaf (.app a' u')
end
def mapO2 : O2 → Tree O2
  | .cell g t => (mapT2 φ ζ t).bind fun t' => .leaf (.cell (ζ g) t')
  | .vec g z a => (mapSL φ ζ a).bind fun a' => .leaf (.vec (ζ g) z a')
  | .mp g k v l => .leaf (.mp (ζ g) k v l)
  | .gone => .leaf .gone
end
section
variable (ζ : Nat → Nat) {φ : W → Tree W} {φ' : MV → MV}
mutual
theorem mapT2_eq (hφ : ∀ w w', (φ w).den = some w' → φ' (cW w) = cW w') : ∀ (t t' : T2), (mapT2 φ ζ t).den = some t' → mapT φ' ζ (cT t) = cT t'
  | .e s t x, t', h => by
    simp only [mapT2, Tree.den_leaf] at h
    subst h
    exact mapT_enc φ' ζ s t x
  | .w v, t', h => by
    simp only [mapT2, Tree.den_bind, Tree.den_leaf] at h
    obtain ⟨v', h1, rfl⟩ := h
    simp only [cT, mapT, hφ _ _ h1]
  | .agg l, t', h => by
    simp only [mapT2, Tree.den_bind, Tree.den_leaf] at h
    obtain ⟨l', h1, rfl⟩ := h
    simp only [cT, mapT_mk', mapT2s_eq hφ l l' h1]
  | .vec g z a n, t', h => by
    simp only [mapT2, Tree.den_bind, Tree.den_leaf] at h
    obtain ⟨a', h1, rfl⟩ := h
    simp only [cT, mapT, mapSL_eq hφ a a' h1]
  | .hole n, t', h => by simp only [mapT2, Tree.den_leaf] at h; subst h; rfl
theorem mapT2s_eq (hφ : ∀ w w', (φ w).den = some w' → φ' (cW w) = cW w') : ∀ (l l' : List T2), (mapT2s φ ζ l).den = some l' → mapTs φ' ζ (cTs l) = cTs l'
  | [], l', h => by simp only [mapT2s, Tree.den_leaf] at h; subst h; rfl
  | t :: r, l', h => by
    simp only [mapT2s, Tree.den_bind, Tree.den_leaf] at h
    obtain ⟨t', h1, r', h2, rfl⟩ := h
    simp only [cTs, mapTs, mapT2_eq hφ t t' h1, mapT2s_eq hφ r r' h2]
theorem mapSL_eq (hφ : ∀ w w', (φ w).den = some w' → φ' (cW w) = cW w') : ∀ (a a' : SL), (mapSL φ ζ a).den = some a' → mapTs φ' ζ (cSL a) = cSL a'
  | .base s t l, a', h => by
    simp only [mapSL, Tree.den_leaf] at h
    subst h
    exact mapTs_base φ' ζ s t l
  | .set a i u, a', h => by
    simp only [mapSL, Tree.den_bind, Tree.den_leaf] at h
    obtain ⟨b, h1, u', h2, rfl⟩ := h
    simp only [cSL]
    rw [mapTs_map, List.map_set, ← mapTs_map, mapSL_eq hφ a b h1, mapT2_eq hφ u u' h2]
  | .app a u, a', h => by
    simp only [mapSL, Tree.den_bind, Tree.den_leaf] at h
    obtain ⟨b, h1, u', h2, rfl⟩ := h
    simp only [cSL]
    rw [mapTs_map, List.map_append, ← mapTs_map, mapSL_eq hφ a b h1, List.map_cons, mapT2_eq hφ u u' h2]
    rfl
end
theorem mapO2_eq (hφ : ∀ w w', (φ w).den = some w' → φ' (cW w) = cW w') (o o' : O2) (h : (mapO2 φ ζ o).den = some o') : mapO φ' ζ (cO o) = cO o' := by
  cases o with
  | cell g t =>
    simp only [mapO2, Tree.den_bind, Tree.den_leaf] at h
    obtain ⟨t', h1, rfl⟩ := h
    simp only [cO, mapO, mapT2_eq ζ hφ t t' h1]
  | vec g z a =>
    simp only [mapO2, Tree.den_bind, Tree.den_leaf] at h
    obtain ⟨a', h1, rfl⟩ := h
    simp only [cO, mapO, mapSL_eq ζ hφ a a' h1]
  | mp g k v l =>
    simp only [mapO2, Tree.den_leaf] at h
    subst h
    have : ∀ l : List (El k × El v), mapTs φ' ζ (l.map fun p => T.p (enc v p.2)) = l.map fun p => T.p (enc v p.2) := by
      intro l
      induction l with
      | nil => rfl
      | cons a r ih => simp only [List.map_cons, mapTs, mapT, ih]
    simp only [cO, mapO, this]
  | gone => simp only [mapO2, Tree.den_leaf] at h; subst h; rfl
end
def stampSL (g : Nat) (a : SL) : Tree SL := mapSL .leaf (fun _ => g) a
theorem leaf_id (w w' : W) (h : (Tree.leaf w).den = some w') : (fun v : MV => v) (cW w) = cW w' := by simp only [Tree.den_leaf] at h; rw [h]
theorem stampSL_eq {g : Nat} {a a' : SL} (h : (stampSL g a).den = some a') : stamps g (cSL a) = cSL a' := mapSL_eq _ leaf_id a a' h
/-! ### arrays whose elements are typed values throughout -/
mutual
def uniT (s : Nat) : T2 → Tree TV
  | .e s' t x => if s' == s || t.pure then .leaf ⟨t, x⟩ else .fail
  | .agg l => (uniTs s l).bind fun q => .leaf ⟨.agg q.1, q.2⟩
  | .vec g z a n => if g == s then (normSL a).bind fun b => match b with
      | .base s' t l => if s' == s || t.pure then (Tree.ask (n == l.length)).bind fun _ => .leaf ⟨.vec z t, l⟩ else .fail
      | _ => .fail
    else .fail
  | .w _ => .fail
  | .hole _ => .fail
def uniTs (s : Nat) : List T2 → Tree ((ts : List Ty) × Els ts)
  | [] => .leaf ⟨[], ()⟩
  | t :: r => (uniT s t).bind fun p => (uniTs s r).bind fun q => .leaf ⟨p.1 :: q.1, mkE q.1 p.2 q.2⟩
def normSL : SL → Tree SL
  | .base s t l => .leaf (.base s t l)
  | .set a i u => (normSL a).bind fun b => match b with
    | .base s t l => (uniT s u).bind fun v => (Tree.ofO (castE t v.2)).bind fun x => .leaf (.base s t (l.set i x))
    | _ => .fail
  | .app a u => (normSL a).bind fun b => match b with
    | .base s t l => (uniT s u).bind fun v => (Tree.ofO (castE t v.2)).bind fun x => .leaf (.base s t (l ++ [x]))
    | _ => .fail
end
theorem encT_stamp {s s' : Nat} {t : Ty} (hc : (s' == s || t.pure) = true) (y : El t) : encT s' t y = encT s t y := by
  simp only [Bool.or_eq_true, beq_iff_eq] at hc
  rcases hc with rfl | hc
  · rfl
  · rw [encT_pure _ _ _ hc, encT_pure _ _ _ hc]
mutual
theorem uniT_eq (s : Nat) : ∀ (t : T2) (v : TV), (uniT s t).den = some v → cT t = encT s v.1 v.2
  | .e s' t x, v, h => by
    simp only [uniT] at h
    by_cases hc : (s' == s || t.pure) = true
    · rw [if_pos hc, Tree.den_leaf] at h
      subst h
      exact encT_stamp hc x
    · rw [if_neg hc] at h; simp at h
  | .agg l, v, h => by
    simp only [uniT, Tree.den_bind, Tree.den_leaf] at h
    obtain ⟨q, h1, rfl⟩ := h
    simp only [cT, encT, uniTs_eq s l q h1]
  | .vec g z a n, v, h => by
    simp only [uniT] at h
    split at h
    · rename_i hg
      simp only [beq_iff_eq] at hg
      simp only [Tree.den_bind] at h
      obtain ⟨b, h1, h⟩ := h
      have hb := normSL_eq a b h1
      split at h
      · rename_i s' t l
        by_cases hc : (s' == s || t.pure) = true
        · rw [if_pos hc] at h
          simp only [Tree.den_bind, Tree.den_ask, Tree.den_leaf, beq_iff_eq] at h
          obtain ⟨_, h2, rfl⟩ := h
          have e1 : ∀ l : List (El t), l.map (encT s' t) = l.map (encT s t) := by
            intro l; congr 1; funext y; exact encT_stamp hc y
          simp only [cT, hb, cSL, hg, h2, encT, e1]
        · rw [if_neg hc] at h; simp at h
      · simp at h
    · simp at h
  | .w _, v, h => by simp [uniT, Tree.den] at h
  | .hole _, v, h => by simp [uniT, Tree.den] at h
theorem uniTs_eq (s : Nat) : ∀ (l : List T2) (q : (ts : List Ty) × Els ts), (uniTs s l).den = some q → cTs l = encTs s q.1 q.2
  | [], q, h => by simp only [uniTs, Tree.den_leaf] at h; subst h; rfl
  | t :: r, q, h => by
    simp only [uniTs, Tree.den_bind, Tree.den_leaf] at h
    obtain ⟨p, h1, q', h2, rfl⟩ := h
    simp only [cTs, encTs, hd_mk, tl_mk]
    rw [uniT_eq s t p h1, uniTs_eq s r q' h2]
theorem normSL_eq : ∀ (a b : SL), (normSL a).den = some b → cSL a = cSL b
  | .base s t l, b, h => by simp only [normSL, Tree.den_leaf] at h; subst h; rfl
  | .set a i u, b, h => by
    simp only [normSL, Tree.den_bind] at h
    obtain ⟨b', h1, h⟩ := h
    have hb := normSL_eq a b' h1
    split at h
    · rename_i s t l
      simp only [Tree.den_bind, Tree.den_ofO, Tree.den_leaf] at h
      obtain ⟨v, h2, x, h3, rfl⟩ := h
      have hu := uniT_eq s u v h2
      obtain ⟨t', y⟩ := v
      obtain ⟨e, he, _⟩ := castE_enc h3
      simp only at e he
      subst e
      cases he
      simp only [cSL, hb, hu, List.map_set]
    · simp at h
  | .app a u, b, h => by
    simp only [normSL, Tree.den_bind] at h
    obtain ⟨b', h1, h⟩ := h
    have hb := normSL_eq a b' h1
    split at h
    · rename_i s t l
      simp only [Tree.den_bind, Tree.den_ofO, Tree.den_leaf] at h
      obtain ⟨v, h2, x, h3, rfl⟩ := h
      have hu := uniT_eq s u v h2
      obtain ⟨t', y⟩ := v
      obtain ⟨e, he, _⟩ := castE_enc h3
      simp only at e he
      subst e
      cases he
      simp only [cSL, hb, hu, List.map_append, List.map_cons, List.map_nil]
    · simp at h
end
mutual
def normT : T2 → Tree T2
  | .vec g z a n => (normSL a).bind fun b => .leaf (.vec g z b n)
  | .agg l => (normTs l).bind fun l' => .leaf (.agg l')
  | .e s t x => .leaf (.e s t x)
  | .w v => .leaf (.w v)
  | .hole n => .leaf (.hole n)
def normTs : List T2 → Tree (List T2)
  | [] => .leaf []
  | t :: r => (normT t).bind fun t' => (normTs r).bind fun r' => .leaf (t' :: r')
end
mutual
theorem normT_eq : ∀ (t t' : T2), (normT t).den = some t' → cT t = cT t'
  | .vec g z a n, t', h => by
    simp only [normT, Tree.den_bind, Tree.den_leaf] at h
    obtain ⟨b, h1, rfl⟩ := h
    simp only [cT, normSL_eq a b h1]
  | .agg l, t', h => by
    simp only [normT, Tree.den_bind, Tree.den_leaf] at h
    obtain ⟨l', h1, rfl⟩ := h
    simp only [cT, normTs_eq l l' h1]
  | .e s t x, t', h => by simp only [normT, Tree.den_leaf] at h; subst h; rfl
  | .w v, t', h => by simp only [normT, Tree.den_leaf] at h; subst h; rfl
  | .hole n, t', h => by simp only [normT, Tree.den_leaf] at h; subst h; rfl
theorem normTs_eq : ∀ (l l' : List T2), (normTs l).den = some l' → cTs l = cTs l'
  | [], l', h => by simp only [normTs, Tree.den_leaf] at h; subst h; rfl
  | t :: r, l', h => by
    simp only [normTs, Tree.den_bind, Tree.den_leaf] at h
    obtain ⟨t', h1, r', h2, rfl⟩ := h
    simp only [cTs, normT_eq t t' h1, normTs_eq r r' h2]
end
def normO : O2 → Tree O2
  | .cell g t => (normT t).bind fun t' => .leaf (.cell g t')
  | .vec g z a => (normSL a).bind fun b => .leaf (.vec g z b)
  | o => .leaf o
theorem normO_eq (o o' : O2) (h : (normO o).den = some o') : cO o = cO o' := by
  cases o with
  | cell g t =>
    simp only [normO, Tree.den_bind, Tree.den_leaf] at h
    obtain ⟨t', h1, rfl⟩ := h
    simp only [cO, normT_eq t t' h1]
  | vec g z a =>
    simp only [normO, Tree.den_bind, Tree.den_leaf] at h
    obtain ⟨b, h1, rfl⟩ := h
    simp only [cO, normSL_eq a b h1]
  | mp g k v l => simp only [normO, Tree.den_leaf] at h; subst h; rfl
  | gone => simp only [normO, Tree.den_leaf] at h; subst h; rfl
/-! ### values on their way into owned memory -/
def noneE (g : Nat) (u : Option Ty) : SL := match hintSl u with | some t => .base g t [] | none => .base g .bool []
theorem noneE_eq (g : Nat) (u : Option Ty) : cSL (noneE g u) = [] := by
  unfold noneE
  split <;> rfl
mutual
def into2 (g : Nat) (u : Option Ty) (h : H2) : W → Tree (T2 × H2)
  | .v t x => if t.pure then .leaf (.e g t x, h) else .fail
  | .c p => match pv? (.c p) with
    | some v => if v.1.pure then .leaf (.e g v.1 v.2, h) else .fail
    | none => match u with
      | some u => match dec u p with | some x => if u.pure then .leaf (.e g u x, h) else .fail | none => .fail
      | none => .fail
  | .own id path off len g' => match off with
    | some _ => .fail
    | none => (Tree.ofO (getH h id)).bind fun o => match o, path with
      | .vec g'' z a, [] => if g' == g'' then (Tree.ask (Nat.ble len a.len)).bind fun _ => (stampSL g a).bind fun b => .leaf (.vec g z b len, setA h id .gone) else .fail
      | o, path => (subO2 o path).bind fun t => (vecT2 t).bind fun x => if g' == x.1 then
          (Tree.ask (Nat.ble len x.2.2.len)).bind fun _ => (stampSL g x.2.2).bind fun b => (putO2 (.hole 1) o path).bind fun o' => .leaf (.vec g x.2.1 b len, setA h id o') else .fail
  | .agg l => (intos2 g u 0 h l).bind fun x => .leaf (.agg x.1, x.2)
  | .nil z => .leaf (.vec g z (noneE g u) 0, h)
  | .ptr id np rp g' => .leaf (.w (.ptr id np rp g'), h)
  | .fn f l => .leaf (.w (.fn f l), h)
  | .mref .. => .fail
  | .tup _ => .fail
  | .dead _ => .fail
def intos2 (g : Nat) (u : Option Ty) (i : Nat) (h : H2) : List W → Tree (List T2 × H2)
  | [] => .leaf ([], h)
  | w :: r => (into2 g (hintAgg u i) h w).bind fun x => (intos2 g u (i + 1) x.2 r).bind fun y => .leaf (x.1 :: y.1, y.2)
end
theorem cO_vec {o : O2} {g z : Nat} {l : List (T Nat)} (h : cO o = .vec g z l) : ∃ a, o = .vec g z a := by
  cases o with
  | vec g1 z1 a => simp only [cO, Obj.vec.injEq] at h; obtain ⟨rfl, rfl, _⟩ := h; exact ⟨a, rfl⟩
  | _ => simp [cO] at h
theorem intoT_place {g id len g' : Nat} {h : Heap} {ob : Obj Nat} {p : List Nat} (ho : h id = some ob) (hn : ∀ g1 z1 l1, ob = .vec g1 z1 l1 → p = [] → False) :
    intoT g h (.own id p 0 len g') = match subO (some ob) p with
      | some (.vec g'' z l _) => if g' = g'' ∧ len ≤ l.length then
          match put (some ob) p (.hole 1) with | some o => some (.vec g z (stamps g l) len, upd h id (some o)) | none => none
        else none
      | _ => none := by
  simp only [intoT, ho, true_and]
  split
  · rename_i h1
    simp only [Option.some.injEq] at h1
    exact absurd rfl (hn _ _ _ h1)
  · rfl
mutual
theorem into2_eq (g : Nat) : ∀ (w : W) (u : Option Ty) (h : H2) (t : T2) (h' : H2), (into2 g u h w).den = some (t, h') → intoT g (cH h) (cW w) = some (cT t, cH h')
  | .v t x, u, h, t', h', e => by
    simp only [into2] at e
    split at e
    · rename_i hp
      simp only [Tree.den_leaf, Prod.mk.injEq] at e
      obtain ⟨rfl, rfl⟩ := e
      show some (T.p (enc t x), cH h) = some (encT g t x, cH h)
      rw [encT_pure g t x hp]
    · simp at e
  | .c p, u, h, t', h', e => by
    simp only [into2] at e
    split at e
    · rename_i v hv
      split at e
      · rename_i hp
        simp only [Tree.den_leaf, Prod.mk.injEq] at e
        obtain ⟨rfl, rfl⟩ := e
        rw [pv?_eq hv]
        show some (T.p (enc v.1 v.2), cH h) = some (encT g v.1 v.2, cH h)
        rw [encT_pure g _ _ hp]
      · simp at e
    · split at e
      · rename_i u
        split at e
        · rename_i x hx
          split at e
          · rename_i hp
            simp only [Tree.den_leaf, Prod.mk.injEq] at e
            obtain ⟨rfl, rfl⟩ := e
            show some (T.p p, cH h) = some (encT g u x, cH h)
            rw [encT_pure g _ _ hp, dec_enc _ _ _ hx]
          · simp at e
        · simp at e
      · simp at e
  | .own id path off len g', u, h, t', h', e => by
    simp only [into2] at e
    split at e
    · simp at e
    · simp only [Tree.den_bind, Tree.den_ofO] at e
      obtain ⟨o, h1, e⟩ := e
      have ho := getH_c h1
      split at e
      · rename_i g'' z a
        split at e
        · rename_i hg
          simp only [beq_iff_eq] at hg
          subst hg
          simp only [Tree.den_bind, Tree.den_ask, Tree.den_leaf, Prod.mk.injEq] at e
          obtain ⟨_, h2, b, h3, rfl, rfl⟩ := e
          have h2 := Nat.ble_eq.mp h2
          simp only [cW, ixs, Option.getD_none, intoT, ho, cO]
          rw [if_pos ⟨trivial, trivial, by rw [SL.len_eq]; exact h2⟩, stampSL_eq h3, ← cH_upd]
          rfl
        · simp at e
      · rename_i hno
        simp only [Tree.den_bind] at e
        obtain ⟨t, h2, ⟨g'', z, a⟩, h3, e⟩ := e
        split at e
        · rename_i hg
          simp only [beq_iff_eq] at hg
          subst hg
          simp only [Tree.den_bind, Tree.den_ask, Tree.den_leaf, Prod.mk.injEq] at e
          obtain ⟨_, h4, b, h5, o'', h6, rfl, rfl⟩ := e
          have h4 := Nat.ble_eq.mp h4
          have hsub := subO2_eq h2
          obtain ⟨n, hv⟩ := vecT2_eq h3
          rw [hv] at hsub
          have hput : put (some (cO o)) (ixs path) (.hole 1) = some (cO o'') := putO2_eq h6
          have key := intoT_place (g := g) (g' := g') (len := len) ho (p := ixs path) (fun g1 z1 l1 e1 e2 => by
            obtain ⟨a1, ha⟩ := cO_vec e1
            cases path with
            | nil => exact hno _ _ _ ha rfl
            | cons s r => simp [ixs] at e2)
          refine key.trans ?_
          rw [hsub]
          simp only
          rw [if_pos ⟨trivial, by rw [SL.len_eq]; exact h4⟩, hput, stampSL_eq h5, ← cH_upd]
          rfl
        · simp at e
  | .agg l, u, h, t', h', e => by
    simp only [into2, Tree.den_bind, Tree.den_leaf, Prod.mk.injEq] at e
    obtain ⟨⟨ts, h1⟩, e1, rfl, rfl⟩ := e
    simp only [cW, intoT, intos2_eq g l u 0 h ts h1 e1, cT]
  | .nil z, u, h, t', h', e => by
    simp only [into2, Tree.den_leaf, Prod.mk.injEq] at e
    obtain ⟨rfl, rfl⟩ := e
    simp only [cW, intoT, cT, noneE_eq]
  | .ptr id np rp g', u, h, t', h', e => by
    simp only [into2, Tree.den_leaf, Prod.mk.injEq] at e
    obtain ⟨rfl, rfl⟩ := e
    rfl
  | .fn f l, u, h, t', h', e => by
    simp only [into2, Tree.den_leaf, Prod.mk.injEq] at e
    obtain ⟨rfl, rfl⟩ := e
    rfl
  | .mref .., u, h, t', h', e => by simp [into2, Tree.den] at e
  | .tup _, u, h, t', h', e => by simp [into2, Tree.den] at e
  | .dead _, u, h, t', h', e => by simp [into2, Tree.den] at e
theorem intos2_eq (g : Nat) : ∀ (l : List W) (u : Option Ty) (i : Nat) (h : H2) (ts : List T2) (h' : H2), (intos2 g u i h l).den = some (ts, h') → intoTs g (cH h) (cWs l) = some (cTs ts, cH h')
  | [], u, i, h, ts, h', e => by
    simp only [intos2, Tree.den_leaf, Prod.mk.injEq] at e
    obtain ⟨rfl, rfl⟩ := e
    rfl
  | w :: r, u, i, h, ts, h', e => by
    simp only [intos2, Tree.den_bind, Tree.den_leaf, Prod.mk.injEq] at e
    obtain ⟨⟨t, h1⟩, e1, ⟨q, h2⟩, e2, rfl, rfl⟩ := e
    simp only [cWs, intoTs, into2_eq g w _ h t h1 e1, intos2_eq g r u (i + 1) h1 q h2 e2, cTs]
end
end Go.Mid
/- Operations on symbolic states: scalars, strings, pure lists. -/
namespace Go.Mid
set_option linter.unusedSimpArgs false
set_option linter.unusedVariables false
abbrev wI (k : IntKind) (n : Int) : W := .v (.int k) n
abbrev wB (b : Bool) : W := .v .bool b
abbrev wS (s : ByteArray) : W := .v .str s
/-- is it a constant? -/
def isC : W → Bool
  | .c _ => true
  | _ => false
/-- a test: decided at once for a constant, else it stays -/
def askIf (w : W) (b : Bool) : Tree Unit := match w with
  | .c _ => Tree.chk b
  | _ => Tree.ask b
@[simp] theorem den_askIf (w : W) (b : Bool) (r : Unit) : (askIf w b).den = some r ↔ b = true := by cases w <;> simp [askIf]
def andI (k : IntKind) (x y : Int) : Int := k.wrap (BitVec.ofInt k.bits x &&& BitVec.ofInt k.bits y).toNat
def orI (k : IntKind) (x y : Int) : Int := k.wrap (BitVec.ofInt k.bits x ||| BitVec.ofInt k.bits y).toNat
def xorI (k : IntKind) (x y : Int) : Int := k.wrap (BitVec.ofInt k.bits x ^^^ BitVec.ofInt k.bits y).toNat
def andNotI (k : IntKind) (x y : Int) : Int := k.wrap (BitVec.ofInt k.bits x &&& ~~~ BitVec.ofInt k.bits y).toNat
def shlI (k : IntKind) (x y : Int) : Int := k.wrap (x * 2 ^ min y.toNat k.bits)
def shrI (k : IntKind) (x y : Int) : Int := x.fdiv (2 ^ min y.toNat k.bits)
def strEq (a b : ByteArray) : Bool := a.toList == b.toList
def strLt (a b : ByteArray) : Bool := Op.bytesLess a.toList b.toList
def ints2 (op : BinOp) (k : IntKind) (x y : Int) (b : W) : Tree W :=
  match op with
  | .add => .leaf (wI k (k.wrap (x + y)))
  | .sub => .leaf (wI k (k.wrap (x - y)))
  | .mul => .leaf (wI k (k.wrap (x * y)))
  | .quo => (askIf b (y != 0)).bind fun _ => .leaf (wI k (k.wrap (x.tdiv y)))
  | .rem => (askIf b (y != 0)).bind fun _ => .leaf (wI k (x.tmod y))
  | .eql => .leaf (wB (x == y))
  | .neq => .leaf (wB (x != y))
  | .lss => .leaf (wB (decide (x < y)))
  | .leq => .leaf (wB (decide (x ≤ y)))
  | .gtr => .leaf (wB (decide (x > y)))
  | .geq => .leaf (wB (decide (x ≥ y)))
  | .and => .leaf (wI k (andI k x y))
  | .or => .leaf (wI k (orI k x y))
  | .xor => .leaf (wI k (xorI k x y))
  | .andNot => .leaf (wI k (andNotI k x y))
  | _ => .fail
def shift2 (op : BinOp) (k : IntKind) (x y : Int) (b : W) : Tree W :=
  match op with
  | .shl => (askIf b (decide (0 ≤ y))).bind fun _ => .leaf (wI k (shlI k x y))
  | .shr => (askIf b (decide (0 ≤ y))).bind fun _ => .leaf (wI k (shrI k x y))
  | _ => .fail
def strs2 (op : BinOp) (a b : ByteArray) : Tree W :=
  match op with
  | .add => (Tree.ask (Nat.ble (a.size + b.size) 9223372036854775807)).bind fun _ => .leaf (wS (a ++ b))
  | .eql => .leaf (wB (strEq a b))
  | .neq => .leaf (wB !(strEq a b))
  | .lss => .leaf (wB (strLt a b))
  | .leq => .leaf (wB (strLt a b || strEq a b))
  | .gtr => .leaf (wB !(strLt a b || strEq a b))
  | .geq => .leaf (wB !(strLt a b))
  | _ => .fail
def bools2 (op : BinOp) (a b : Bool) : Tree W :=
  match op with
  | .eql => .leaf (wB (a == b))
  | .neq => .leaf (wB !(a == b))
  | _ => .fail
def isShift : BinOp → Bool
  | .shl => true
  | .shr => true
  | _ => false
def bin2 (bl : Bool) (op : BinOp) (a b : W) : Tree W :=
  match bl with
  | true => match bool? a, bool? b with | some x, some y => bools2 op x y | _, _ => .fail
  | false => match int? a, int? b with
    | some (k, x), some (k', y) => match isShift op with
      | true => shift2 op k x y b
      | false => if k == k' then ints2 op k x y b else .fail
    | _, _ => match str? a, str? b with | some x, some y => strs2 op x y | _, _ => .fail
theorem binP_ints {op : BinOp} {k : IntKind} {x y : Int} {b w : W} (hs : isShift op = false) (h : (ints2 op k x y b).den = some w) : ∃ v, binP op (.int k x) (.int k y) = some v ∧ cW w = .p v := by
  cases op <;> simp only [isShift, Bool.true_eq_false, reduceCtorEq] at hs <;>
    simp only [ints2, Tree.den_leaf, Tree.den_bind, den_askIf, Tree.den_fail] at h
  case quo =>
    obtain ⟨_, h1, rfl⟩ := h
    exact ⟨_, by simp only [binP, ne_eq, not_true_eq_false, if_false]; rw [if_neg (by simpa using h1)]; rfl, rfl⟩
  case rem =>
    obtain ⟨_, h1, rfl⟩ := h
    exact ⟨_, by simp only [binP, ne_eq, not_true_eq_false, if_false]; rw [if_neg (by simpa using h1)]; rfl, rfl⟩
  all_goals
    subst h
    exact ⟨_, by simp only [binP, ne_eq, not_true_eq_false, if_false, bitsP]; rfl, rfl⟩
theorem binP_shift {op : BinOp} {k k' : IntKind} {x y : Int} {b w : W} (h : (shift2 op k x y b).den = some w) : ∃ v, binP op (.int k x) (.int k' y) = some v ∧ cW w = .p v := by
  cases op <;> simp only [shift2, Tree.den_leaf, Tree.den_bind, den_askIf, Tree.den_fail, decide_eq_true_eq] at h
  all_goals
    obtain ⟨_, h1, rfl⟩ := h
    exact ⟨_, by simp only [binP]; rw [if_neg (by omega)]; rfl, rfl⟩
theorem binP_strs {op : BinOp} {x y : ByteArray} {w : W} (h : (strs2 op x y).den = some w) : ∃ v, binP op (.str x) (.str y) = some v ∧ cW w = .p v := by
  cases op <;> simp only [strs2, Tree.den_leaf, Tree.den_bind, Tree.den_ask, Tree.den_fail] at h
  case add =>
    obtain ⟨_, h1, rfl⟩ := h
    exact ⟨_, by simp only [binP]; rw [if_pos (Nat.ble_eq.mp h1)]; rfl, rfl⟩
  all_goals
    subst h
    exact ⟨_, by simp only [binP]; rfl, rfl⟩
theorem binP_bools {op : BinOp} {x y : Bool} {w : W} (h : (bools2 op x y).den = some w) : ∃ v, binP op (.bool x) (.bool y) = some v ∧ cW w = .p v := by
  cases op <;> simp only [bools2, Tree.den_leaf, Tree.den_fail] at h
  all_goals
    subst h
    exact ⟨_, by simp only [binP]; rfl, rfl⟩
/-- what 'bin' does with two values -/
def binM (bl : Bool) (op : BinOp) (a b : MV) : Option MV := match a, b with
  | .p a, .p b => if isB a = bl then (match binP op a b with | some v => some (.p v) | none => none) else none
  | _, _ => none
theorem bin2_eq {bl : Bool} {op : BinOp} {a b w : W} (h : (bin2 bl op a b).den = some w) : binM bl op (cW a) (cW b) = some (cW w) := by
  unfold bin2 at h
  split at h
  · split at h
    · rename_i x y hx hy
      rw [bool?_eq hx, bool?_eq hy]
      obtain ⟨v, h1, h2⟩ := binP_bools h
      simp only [binM, h1, h2, isB, if_true]
    · simp at h
  · split at h
    · rename_i k x k' y hx hy
      rw [int?_eq hx, int?_eq hy]
      split at h
      · obtain ⟨v, h1, h2⟩ := binP_shift (k' := k') h
        simp only [binM, h1, h2, isB, if_true]
      · rename_i hs
        split at h
        · rename_i hk
          simp only [beq_iff_eq] at hk
          subst hk
          obtain ⟨v, h1, h2⟩ := binP_ints hs h
          simp only [binM, h1, h2, isB, if_true]
        · simp at h
    · split at h
      · rename_i x y hx hy
        rw [str?_eq hx, str?_eq hy]
        obtain ⟨v, h1, h2⟩ := binP_strs h
        simp only [binM, h1, h2, isB, if_true]
      · simp at h
/-! ### equality of structs and arrays -/
mutual
def tyTD : TD → Ty
  | .int k => .int k
  | .bool => .bool
  | .str => .str
  | .agg l => .agg (tyTDs l)
def tyTDs : List TD → List Ty
  | [] => []
  | t :: r => tyTD t :: tyTDs r
end
mutual
def eqE : (td : TD) → El (tyTD td) → El (tyTD td) → Bool
  | .int _, x, y => (show Int from x) == y
  | .bool, x, y => (show Bool from x) == y
  | .str, x, y => strEq x y
  | .agg l, x, y => eqEs l x y
def eqEs : (l : List TD) → Els (tyTDs l) → Els (tyTDs l) → Bool
  | [], _, _ => true
  | [t], x, y => eqE t (hdE [] x) (hdE [] y)
  | t :: u :: r, x, y => eqE t (hdE (tyTDs (u :: r)) x) (hdE (tyTDs (u :: r)) y) && eqEs (u :: r) (tlE (tyTDs (u :: r)) x) (tlE (tyTDs (u :: r)) y)
end
mutual
theorem eqE_eq : ∀ (td : TD) (x y : El (tyTD td)), eqV (enc (tyTD td) x) (enc (tyTD td) y) = eqE td x y
  | .int _, x, y => rfl
  | .bool, x, y => rfl
  | .str, x, y => rfl
  | .agg l, x, y => eqEs_eq l x y
theorem eqEs_eq : ∀ (l : List TD) (x y : Els (tyTDs l)), eqVs (encs (tyTDs l) x) (encs (tyTDs l) y) = eqEs l x y
  | [], x, y => rfl
  | [t], x, y => by
    have h : eqV (enc (tyTD t) (hdE [] x)) (enc (tyTD t) (hdE [] y)) = eqE t (hdE [] x) (hdE [] y) := eqE_eq t _ _
    show (eqV (enc (tyTD t) (hdE [] x)) (enc (tyTD t) (hdE [] y)) && true) = eqE t (hdE [] x) (hdE [] y)
    rw [h, Bool.and_true]
  | t :: u :: r, x, y => by
    have h1 := eqE_eq t (hdE (tyTDs (u :: r)) x) (hdE (tyTDs (u :: r)) y)
    have h2 := eqEs_eq (u :: r) (tlE (tyTDs (u :: r)) x) (tlE (tyTDs (u :: r)) y)
    show (eqV (enc (tyTD t) (hdE (tyTDs (u :: r)) x)) (enc (tyTD t) (hdE (tyTDs (u :: r)) y)) && eqVs (encs (tyTDs (u :: r)) (tlE (tyTDs (u :: r)) x)) (encs (tyTDs (u :: r)) (tlE (tyTDs (u :: r)) y))) = (eqE t (hdE (tyTDs (u :: r)) x) (hdE (tyTDs (u :: r)) y) && eqEs (u :: r) (tlE (tyTDs (u :: r)) x) (tlE (tyTDs (u :: r)) y))
    rw [h1, h2]
end
mutual
theorem fits_ty : ∀ (td : TD) (x : El (tyTD td)), fits td (enc (tyTD td) x) = true
  | .int _, x => by simp [tyTD, enc, fits]
  | .bool, x => rfl
  | .str, x => rfl
  | .agg l, x => fitss_ty l x
theorem fitss_ty : ∀ (l : List TD) (x : Els (tyTDs l)), fitss l (encs (tyTDs l) x) = true
  | [], x => rfl
  | t :: r, x => by
    simp only [tyTDs, encs, fitss, Bool.and_eq_true]
    exact ⟨fits_ty t _, fitss_ty r _⟩
end
def eqs2 (neg : Bool) (td : TD) (a b : W) : Tree W := match as? (tyTD td) a, as? (tyTD td) b with
  | some x, some y => .leaf (wB (match neg with | false => eqE td x y | true => !(eqE td x y)))
  | _, _ => .fail
def eqsM (neg : Bool) (td : TD) (a b : MV) : Option MV := match a, b with
  | .p a, .p b => if fits td a && fits td b then some (boolV (eqV a b != neg)) else none
  | _, _ => none
theorem eqs2_eq {neg : Bool} {td : TD} {a b w : W} (h : (eqs2 neg td a b).den = some w) : eqsM neg td (cW a) (cW b) = some (cW w) := by
  unfold eqs2 at h
  split at h
  · rename_i x y hx hy
    simp only [Tree.den_leaf] at h
    subst h
    rw [as?_eq hx, as?_eq hy]
    simp only [eqsM, fits_ty, Bool.and_self, if_true, eqE_eq]
    cases neg <;> cases eqE td x y <;> rfl
  · simp at h
/-! ### other operations on values -/
def wnd : W → Bool
  | .dead _ => false
  | _ => true
/-- an operation with one operand -/
def un2 : MOp → W → Tree W
  | .not _, w => match w with
    | .c (.bool b) => .leaf (.c (.bool !b))
    | w => match bool? w with | some b => .leaf (wB !b) | none => .fail
  | .neg _, w => match int? w with | some (k, n) => .leaf (wI k (k.wrap (0 - n))) | none => .fail
  | .inv _, w => match int? w with | some (k, n) => .leaf (wI k (xorI k (if k.signed then -1 else k.max) n)) | none => .fail
  | .convI k _, w => match int? w with | some (_, n) => .leaf (wI k (k.wrap n)) | none => .fail
  | .convS _, w => match str? w with | some s => .leaf (wS s) | none => .fail
  | .convR _, w => match int? w with | some (_, n) => .leaf (wS (Utf8.encode n)) | none => .fail
  | .lenS _, w => match str? w with | some s => .leaf (wI .i64 (s.size : Nat)) | none => .fail
  | .capn _, w => match w with | .nil _ => .leaf (wI .i64 (0 : Nat)) | _ => .fail
  | .isnil fk neg _, w => match fk, w with
    | false, .c .nilp => .leaf (.c (.bool (true != neg)))
    | true, .c .nilf => .leaf (.c (.bool (true != neg)))
    | false, .v .nilp _ => .leaf (.c (.bool (true != neg)))
    | true, .v .nilf _ => .leaf (.c (.bool (true != neg)))
    | false, .v (.ref _) _ => .leaf (.c (.bool (false != neg)))
    | false, .ptr .. => .leaf (.c (.bool (false != neg)))
    | true, .v (.fn _ _) _ => .leaf (.c (.bool (false != neg)))
    | true, .c (.fn _ _) => .leaf (.c (.bool (false != neg)))
    | true, .fn _ _ => .leaf (.c (.bool (false != neg)))
    | _, _ => .fail
  | .nilc _, w => match w with
    | .v (.ref t) x => .leaf (.v (.ref t) x)
    | .ptr id np rp g => .leaf (.ptr id np rp g)
    | _ => .fail
  | .len _, w => match w with
    | .v (.sl t) l => .leaf (wI .i64 (List.length (α := El t) l : Nat))
    | .c (.sl l) => .leaf (.c (.int .i64 (l.length : Nat)))
    | .nil _ => .leaf (.c (.int .i64 0))
    | .own _ _ _ n _ => .leaf (wI .i64 (n : Nat))
    | _ => .fail
  | .cut0 z _, w => match w with
    | .v (.sl _) _ => .leaf (.nil z)
    | .c (.sl _) => .leaf (.nil z)
    | .nil _ => .leaf (.nil z)
    | .own .. => .leaf (.nil z)
    | _ => .fail
  | .ext _ i, w => match w with
    | .tup l => Tree.ofO l[i]?
    | _ => .fail
  | .fld agg n o _ i, w => match w with
    | .v (.agg ts) x => match compE ts x i with
      | some v => if Ty.css (ts.take i) == o && v.1.cs == n && v.1.isAgg == agg then .leaf (.v v.1 v.2) else .fail
      | none => .fail
    | .c (.agg l) => match l[i]? with
      | some v => if PV.css (l.take i) == o && v.cs == n && v.isAgg == agg then .leaf (.c v) else .fail
      | none => .fail
    | .agg l => match l[i]? with
      | some v => if wcss (l.take i) == o && wcs v == n && wagg v == agg && wnd v then .leaf v else .fail
      | none => .fail
    | _ => .fail
  | .faddr _ i o, w => match w with
    | .v (.ref (.agg ts)) x => match compE ts x i with
      | some v => if Ty.css (ts.take i) == o then .leaf (.v (.ref v.1) v.2) else .fail
      | none => .fail
    | .ptr id np rp g => .leaf (.ptr id np (rp ++ [.f i o]) g)
    | _ => .fail
  | _, _ => .fail
/-- the operand of an operation with one -/
def opd1 : MOp → Option Opd
  | .not x | .neg x | .inv x | .convI _ x | .convS x | .convR x | .lenS x | .capn x | .isnil _ _ x | .nilc x | .len x | .cut0 _ x | .ext x _ | .fld _ _ _ x _ | .faddr x _ _ => some x
  | _ => none
theorem isDead_eq (v : W) (h : wnd v = true) : isDead (cW v) = false := by
  cases v <;> first | rfl | cases h
theorem un2_eq (K : Calls3) (g : Nat) (d : Option Nat) (s : S2) (h : Heap) (op : MOp) (x : Opd) (w w' : W) (ho : opd1 op = some x) (hw : evO (cS s) x = cW w) (e : (un2 op w).den = some w') : evalOp K g d (cS s) h op = some (cW w', h) := by
  cases op <;> simp only [opd1, Option.some.injEq, reduceCtorEq] at ho <;> subst ho <;> simp only [un2] at e <;> simp only [evalOp, hw]
  case not =>
    split at e
    · simp only [Tree.den_leaf] at e; subst e; rfl
    · split at e
      · rename_i b hb; simp only [Tree.den_leaf] at e; subst e; rw [bool?_eq hb]; rfl
      · simp at e
  case neg =>
    split at e
    · rename_i b hb; simp only [Tree.den_leaf] at e; subst e; rw [int?_eq hb]; rfl
    · simp at e
  case inv =>
    split at e
    · rename_i b hb; simp only [Tree.den_leaf] at e; subst e; rw [int?_eq hb]; rfl
    · simp at e
  case convI =>
    split at e
    · rename_i b hb; simp only [Tree.den_leaf] at e; subst e; rw [int?_eq hb]; rfl
    · simp at e
  case convS =>
    split at e
    · rename_i b hb; simp only [Tree.den_leaf] at e; subst e; rw [str?_eq hb]; rfl
    · simp at e
  case convR =>
    split at e
    · rename_i b hb; simp only [Tree.den_leaf] at e; subst e; rw [int?_eq hb]; rfl
    · simp at e
  case lenS =>
    split at e
    · rename_i b hb; simp only [Tree.den_leaf] at e; subst e; rw [str?_eq hb]; rfl
    · simp at e
  case capn =>
    split at e
    · simp only [Tree.den_leaf] at e; subst e; rfl
    · simp at e
  case isnil =>
    split at e <;> first | (simp only [Tree.den_leaf] at e; subst e; rfl) | simp at e
  case nilc =>
    split at e <;> first | (simp only [Tree.den_leaf] at e; subst e; rfl) | simp at e
  case len =>
    split at e
    · rename_i t l
      simp only [Tree.den_leaf] at e
      subst e
      have : ∀ l : List (El t), (match lenOp (.p (.sl (l.map (enc t)))) with | some n => some (intV n, h) | none => none) = some (.p (.int .i64 (l.length : Nat)), h) := by intro l; simp [lenOp, intV]
      exact this l
    · simp only [Tree.den_leaf] at e; subst e; rfl
    · simp only [Tree.den_leaf] at e; subst e; rfl
    · simp only [Tree.den_leaf] at e; subst e; rfl
    · simp at e
  case cut0 =>
    split at e <;> first | (simp only [Tree.den_leaf] at e; subst e; rfl) | simp at e
  case ext =>
    split at e
    · rename_i l
      simp only [Tree.den_ofO] at e
      simp only [cW, cWs_map, List.getElem?_map, e]
      rfl
    · simp at e
  case fld =>
    split at e
    · rename_i ts x
      split at e
      · rename_i v hv
        obtain ⟨t, y⟩ := v
        split at e
        · rename_i hc
          simp only [Bool.and_eq_true, beq_iff_eq] at hc
          simp only [Tree.den_leaf] at e
          subst e
          have hv2 := (compE_eq 0 ts x _ t y hv).1
          have hcs := encs_css_take ts x
          simp only [cW, enc]
          rw [hv2]
          simp only
          rw [if_pos ⟨(hcs _).trans hc.1.1, (enc_cs _ _).trans hc.1.2, (enc_isAgg _ _).trans hc.2⟩]
        · simp at e
      · simp at e
    · rename_i l
      split at e
      · rename_i v hv
        split at e
        · rename_i hc
          simp only [Bool.and_eq_true, beq_iff_eq] at hc
          simp only [Tree.den_leaf] at e
          subst e
          simp only [cW]
          rw [hv]
          simp only
          rw [if_pos ⟨hc.1.1, hc.1.2, hc.2⟩]
        · simp at e
      · simp at e
    · rename_i l
      split at e
      · rename_i v hv
        split at e
        · rename_i hc
          simp only [Bool.and_eq_true, beq_iff_eq] at hc
          simp only [Tree.den_leaf] at e
          subst e
          simp only [cW, cWs_map, List.getElem?_map, hv, Option.map_some, ← List.map_take]
          rw [← cWs_map, wcss_eq, wcs_eq, wagg_eq, if_pos ⟨hc.1.1.1, hc.1.1.2, hc.1.2, isDead_eq _ hc.2⟩]
        · simp at e
      · simp at e
    · simp at e
  case faddr =>
    split at e
    · rename_i ts x
      split at e
      · rename_i v hv
        obtain ⟨t, y⟩ := v
        split at e
        · rename_i hc
          simp only [beq_iff_eq] at hc
          simp only [Tree.den_leaf] at e
          subst e
          have hv2 := (compE_eq 0 ts x _ t y hv).1
          have hcs := encs_css_take ts x
          simp only [cW, enc]
          rw [hv2]
          simp only
          rw [if_pos ((hcs _).trans hc)]
        · simp at e
      · simp at e
    · simp only [Tree.den_leaf] at e
      subst e
      simp only [cW]
      rw [ixs_append, ofs_append]
      rfl
    · simp at e
end Go.Mid
/- Operations on symbolic states: owned memory. -/
namespace Go.Mid
set_option linter.unusedSimpArgs false
set_option linter.unusedVariables false
def fullS (np : Option (List Step)) (rp : List Step) : List Step := match np with | none => rp | some p => p ++ rp
theorem fullS_eq (np : Option (List Step)) (rp : List Step) : full (npI np) (ixs rp) = ixs (fullS np rp) := by
  cases np with
  | none => rfl
  | some p => simp only [full, npI, Option.getD_some, fullS, ixs_append]
def load2 (h : H2) (agg : Bool) (n : Nat) : W → Tree W
  | .v (.ref t) x => if t.cs == n && t.isAgg == agg then .leaf (.v t x) else .fail
  | .ptr id np rp g => (Tree.ofO (getH h id)).bind fun o => (look2 o np rp).bind fun x => if x.2 == g && tcs x.1 == n then
      (val2 id (fullS np rp) x.1).bind fun v => if wagg v == agg && wnd v then .leaf v else .fail else .fail
  | _ => .fail
theorem load2_eq {h : H2} {agg : Bool} {n : Nat} {a w : W} (e : (load2 h agg n a).den = some w) : loadOp (cH h) agg n (cW a) = some (cW w) := by
  unfold load2 at e
  split at e
  · rename_i t x
    split at e
    · rename_i hc
      simp only [Bool.and_eq_true, beq_iff_eq] at hc
      simp only [Tree.den_leaf] at e
      subst e
      show (if (enc t x).cs = n ∧ (enc t x).isAgg = agg then some (MV.p (enc t x)) else none) = _
      rw [if_pos ⟨(enc_cs _ _).trans hc.1, (enc_isAgg _ _).trans hc.2⟩]
      rfl
    · simp at e
  · rename_i id np rp g
    simp only [Tree.den_bind, Tree.den_ofO] at e
    obtain ⟨o, h1, ⟨t, s⟩, h2, e⟩ := e
    split at e
    · rename_i hc
      simp only [Bool.and_eq_true, beq_iff_eq] at hc
      simp only [Tree.den_bind] at e
      obtain ⟨v, h3, e⟩ := e
      split at e
      · rename_i hd
        simp only [Bool.and_eq_true, beq_iff_eq] at hd
        simp only [Tree.den_leaf] at e
        subst e
        simp only [cW, loadOp]
        rw [getH_c h1, look2_eq h2]
        simp only
        rw [fullS_eq, val2_eq _ _ _ _ h3, wagg_eq, tcs_eq, if_pos ⟨hc.1, trivial, hc.2⟩, if_pos ⟨hd.1, isDead_eq _ hd.2⟩]
      · simp at e
    · simp at e
  · simp at e
/-! ### store -/
mutual
def tyT : T2 → Ty
  | .e _ t _ => t
  | .vec _ z (.base _ t _) _ => .vec z t
  | .agg l => .agg (tyTs l)
  | _ => .bool
def tyTs : List T2 → List Ty
  | [] => []
  | t :: r => tyT t :: tyTs r
end
def hdT : T2 → Option (Nat × Nat × SL × Nat)
  | .vec g z l n => some (g, z, l, n)
  | .e s (.vec z t) l => some (s, z, .base s t l, List.length (α := El t) l)
  | _ => none
theorem hdT_eq {t : T2} {g z n : Nat} {l : SL} (h : hdT t = some (g, z, l, n)) : cT t = .vec g z (cSL l) n := by
  unfold hdT at h
  split at h
  · simp only [Option.some.injEq, Prod.mk.injEq] at h; obtain ⟨rfl, rfl, rfl, rfl⟩ := h; rfl
  · simp only [Option.some.injEq, Prod.mk.injEq] at h; obtain ⟨rfl, rfl, rfl, rfl⟩ := h; rfl
  · cases h
def samePath : List Step → List Step → Tree Unit
  | [], [] => .leaf ()
  | .f i _ :: r, .f j _ :: q => (Tree.chk (i == j)).bind fun _ => samePath r q
  | .k i _ :: r, .k j _ :: q => (Tree.ask (Nat.beq i j)).bind fun _ => samePath r q
  | _, _ => .fail
theorem samePath_eq : ∀ {p q : List Step} {u : Unit}, (samePath p q).den = some u → ixs p = ixs q
  | [], [], _, _ => rfl
  | .f i _ :: r, .f j _ :: q, u, h => by
    simp only [samePath, Tree.den_bind, Tree.den_chk, beq_iff_eq] at h
    obtain ⟨_, h1, h2⟩ := h
    simp only [ixs, Step.ix, h1, samePath_eq h2]
  | .k i _ :: r, .k j _ :: q, u, h => by
    simp only [samePath, Tree.den_bind, Tree.den_ask] at h
    obtain ⟨_, h1, h2⟩ := h
    simp only [ixs, Step.ix, Nat.eq_of_beq_eq_true h1, samePath_eq h2]
  | [], _ :: _, _, h => by simp [samePath] at h
  | .f _ _ :: _, [], _, h => by simp [samePath] at h
  | .k _ _ :: _, [], _, h => by simp [samePath] at h
  | .k _ _ :: _, .f _ _ :: _, _, h => by simp [samePath] at h
  | .f _ _ :: _, .k _ _ :: _, _, h => by simp [samePath] at h
/-- the first elements of an array -/
def SL.cut (n : Nat) : SL → Tree SL
  | .base s t l => .leaf (.base s t (l.take n))
  | a => (Tree.ask (Nat.beq n a.len)).bind fun _ => .leaf a
theorem SL.cut_eq {n : Nat} {a b : SL} (h : (SL.cut n a).den = some b) : cSL b = (cSL a).take n := by
  have key : ∀ a : SL, ((Tree.ask (Nat.beq n a.len)).bind fun _ => Tree.leaf a).den = some b → cSL b = (cSL a).take n := by
    intro a h
    simp only [Tree.den_bind, Tree.den_ask, Tree.den_leaf] at h
    obtain ⟨_, h1, rfl⟩ := h
    rw [Nat.eq_of_beq_eq_true h1, List.take_of_length_le (by rw [SL.len_eq]; exact Nat.le_refl _)]
  cases a with
  | base s t l => simp only [SL.cut, Tree.den_leaf] at h; subst h; simp only [cSL, List.map_take]
  | set a i u => exact key _ h
  | app a u => exact key _ h
def storeN (g : Nat) (h : H2) (n id : Nat) (p : List Step) (u : Ty) (x : W) : Tree (W × H2) :=
  (into2 g (some u) h x).bind fun y => if tcs y.1 == n then (Tree.ofO (getH y.2 id)).bind fun o => (putO2 y.1 o p).bind fun o' => .leaf (.dead 0, setA y.2 id o') else .fail
theorem storeN_eq {g : Nat} {h : H2} {n id : Nat} {p : List Step} {u : Ty} {x w : W} {h' : H2} (e : (storeN g h n id p u x).den = some (w, h')) : storeNew g (cH h) n id (ixs p) (cW x) = some (cW w, cH h') := by
  unfold storeN at e
  simp only [Tree.den_bind] at e
  obtain ⟨⟨t, h1⟩, e1, e⟩ := e
  split at e
  · rename_i hc
    simp only [beq_iff_eq] at hc
    simp only [Tree.den_bind, Tree.den_ofO, Tree.den_leaf, Prod.mk.injEq] at e
    obtain ⟨o, e2, o', e3, rfl, rfl⟩ := e
    unfold storeNew
    rw [into2_eq g x _ h t h1 e1]
    simp only
    rw [tcs_eq, if_pos hc, getH_c e2, putO2_eq e3]
    simp only
    rw [cH_upd]
    rfl
  · simp at e
def store2 (g : Nat) (h : H2) (n : Nat) (a x : W) : Tree (W × H2) :=
  match a with
  | .ptr id np rp g0 => (Tree.ofO (getH h id)).bind fun o => (look2 o np rp).bind fun y => if y.2 == g0 && tcs y.1 == n then
      (match x with
      | .own id' path' off len g' => if id' == id then (match hdT y.1 with
          | some (a, z, l, n') => if off.isNone && g' == a then (samePath path' (fullS np rp)).bind fun _ =>
              (Tree.ask (Nat.ble len n')).bind fun _ => (SL.cut len l).bind fun l' => (putO2 (.vec a z l' len) o (fullS np rp)).bind fun o' => .leaf (.dead 0, setA h id o')
            else .fail
          | none => .fail)
        else storeN g h n id (fullS np rp) (tyT y.1) x
      | x => storeN g h n id (fullS np rp) (tyT y.1) x)
      else .fail
  | _ => .fail
theorem store2_eq {g : Nat} {h : H2} {n : Nat} {a x w : W} {h' : H2} (e : (store2 g h n a x).den = some (w, h')) : storeOp g (cH h) n (cW a) (cW x) = some (cW w, cH h') := by
  unfold store2 at e
  split at e
  · rename_i id np rp g0
    simp only [Tree.den_bind, Tree.den_ofO] at e
    obtain ⟨o, h1, ⟨t, s⟩, h2, e⟩ := e
    split at e
    · rename_i hc
      simp only [Bool.and_eq_true, beq_iff_eq] at hc
      have hl := look2_eq h2
      simp only [cW, storeOp]
      rw [getH_c h1, hl]
      simp only
      rw [if_pos ⟨hc.1, trivial, (tcs_eq t).trans hc.2⟩]
      split at e
      · rename_i id' path' off len g'
        split at e
        · rename_i hid
          simp only [beq_iff_eq] at hid
          subst hid
          split at e
          · rename_i a z l n' ht
            split at e
            · rename_i hq
              simp only [Bool.and_eq_true, beq_iff_eq, Option.isNone_iff_eq_none] at hq
              simp only [Tree.den_bind, Tree.den_ask, Tree.den_leaf, Prod.mk.injEq] at e
              obtain ⟨_, h8, _, h3, l', h9, o', h4, rfl, rfl⟩ := e
              have h3 := Nat.ble_eq.mp h3
              have hp := putO2_eq h4
              rw [hdT_eq ht]
              simp only [cW]
              rw [fullS_eq, hq.1, if_pos ⟨trivial, samePath_eq h8, rfl, hq.2, h3⟩]
              simp only [cT, SL.cut_eq h9] at hp
              rw [hp, ← cH_upd]
            · simp at e
          · simp at e
        · rename_i hid
          have hid : ¬ id' = id := by simpa using hid
          have e := storeN_eq e
          rw [fullS_eq]
          simp only [cW] at e ⊢
          split
          · rw [if_neg (fun hh => hid (by simp_all))]
            exact e
          · exact e
      · rename_i hno
        have e := storeN_eq e
        rw [fullS_eq]
        have hx : ∀ i p o l g, cW x = .own i p o l g → False := by
          intro i p o l g hh
          cases x with
          | own a b c d f => exact hno _ _ _ _ _ rfl
          | _ => cases hh
        split
        · rename_i hh _; exact (hx _ _ _ _ _ hh).elim
        · exact e
    · simp at e
  · simp at e

/-! ### indices and bounds -/
/-- an index that is not negative -/
def nat2 (w : W) : Tree Nat := match int? w with
  | some (_, i) => (askIf w (decide (0 ≤ i))).bind fun _ => .leaf i.toNat
  | none => .fail
theorem nat2_eq {w : W} {k : Nat} (h : (nat2 w).den = some k) : asI (cW w) = some (k : Int) := by
  unfold nat2 at h
  split at h
  · rename_i k' i hi
    simp only [Tree.den_bind, den_askIf, decide_eq_true_eq, Tree.den_leaf] at h
    obtain ⟨_, h1, rfl⟩ := h
    rw [int?_eq hi]
    simp only [asI, Option.some.injEq]
    omega
  · simp at h
theorem asIx_of {w : W} {k n : Nat} (h : (nat2 w).den = some k) (hk : k < n) : asIx n (cW w) = some k := by
  unfold asIx
  rw [nat2_eq h]
  simp only
  rw [if_pos ⟨by omega, by omega⟩]
  simp
theorem asBd_of {w : W} {k n : Nat} (h : (nat2 w).den = some k) (hk : k ≤ n) : asBd n (cW w) = some k := by
  unfold asBd
  rw [nat2_eq h]
  simp only
  rw [if_pos ⟨by omega, by omega⟩]
  simp
/-- a bound, at most n -/
def bd2 (n : Nat) : Option W → Tree (Option Nat)
  | none => .leaf none
  | some w => (nat2 w).bind fun k => (Tree.ask (Nat.ble k n)).bind fun _ => .leaf (some k)
theorem bd2_eq {n : Nat} {m : Nat} {w : Option W} {k : Option Nat} (h : (bd2 n w).den = some k) : bdOr n m (w.map cW) = some (k.getD m) := by
  cases w with
  | none => simp only [bd2, Tree.den_leaf] at h; subst h; rfl
  | some w =>
    simp only [bd2, Tree.den_bind, Tree.den_ask, Tree.den_leaf] at h
    obtain ⟨j, h1, _, h2, rfl⟩ := h
    exact asBd_of h1 (Nat.ble_eq.mp h2)
/-- the bounds of a slice expression -/
def lims2 (n : Nat) (lo hi : Option W) : Tree (Option Nat × Option Nat) :=
  (bd2 n hi).bind fun b => (bd2 (b.getD n) lo).bind fun a => .leaf (a, b)
theorem lims2_eq {n : Nat} {lo hi : Option W} {a b : Option Nat} (h : (lims2 n lo hi).den = some (a, b)) : lims n (lo.map cW) (hi.map cW) = some (a.getD 0, b.getD n) := by
  simp only [lims2, Tree.den_bind, Tree.den_leaf, Prod.mk.injEq] at h
  obtain ⟨b', h1, a', h2, rfl, rfl⟩ := h
  unfold lims
  rw [bd2_eq (m := n) h1]
  simp only
  rw [bd2_eq (m := 0) h2]
def cutL {A : Type} (a b : Option Nat) (l : List A) : List A :=
  let m := match b with | none => l | some b => l.take b
  match a with | none => m | some a => m.drop a
theorem cutL_eq {A B : Type} (f : A → B) (a b : Option Nat) (l : List A) : (cutL a b l).map f = ((l.map f).take (b.getD l.length)).drop (a.getD 0) := by
  unfold cutL
  cases a <;> cases b <;> simp [List.map_take, List.map_drop]
def slice2 (h : H2) (z : Nat) (w : W) (lo hi : Option W) : Tree W := match w with
  | .v (.sl t) l => if t.cs == z then (lims2 (List.length (α := El t) l) lo hi).bind fun x => .leaf (.v (.sl t) (cutL (A := El t) x.1 x.2 l)) else .fail
  | .nil z => (lims2 0 lo hi).bind fun _ => .leaf (.nil z)
  | .own id path off len g => (Tree.ofO (getH h id)).bind fun o => (vecAt2 o path).bind fun y => if y.1 == g && y.2.1 == z then
      (lims2 len lo hi).bind fun x => .leaf (.own id path (match x.1 with | none => off | some a => some (match off with | none => a | some o => o + a)) (match x.1 with | none => x.2.getD len | some a => x.2.getD len - a) g) else .fail
  | _ => .fail
theorem all_enc (t : Ty) (z : Nat) (h : t.cs = z) (l : List (El t)) : ((l.map (enc t)).all fun v => v.cs == z) = true := by
  rw [List.all_eq_true]
  intro v hv
  obtain ⟨x, _, rfl⟩ := List.mem_map.1 hv
  simp [enc_cs, h]
theorem slice2_eq {h : H2} {z : Nat} {w w' : W} {lo hi : Option W} (e : (slice2 h z w lo hi).den = some w') : sliceOp (cH h) z (cW w) (lo.map cW) (hi.map cW) = some (cW w') := by
  unfold slice2 at e
  split at e
  · rename_i t l
    split at e
    · rename_i hz
      simp only [beq_iff_eq] at hz
      simp only [Tree.den_bind, Tree.den_leaf] at e
      obtain ⟨⟨a, b⟩, h1, rfl⟩ := e
      have key : ∀ l : List (El t), (lims2 l.length lo hi).den = some (a, b) → sliceOp (cH h) z (.p (.sl (l.map (enc t)))) (lo.map cW) (hi.map cW) = some (.p (.sl ((cutL a b l).map (enc t)))) := by
        intro l h1
        simp only [sliceOp, List.length_map]
        rw [lims2_eq h1]
        simp only
        rw [if_pos (all_enc t z hz l), cutL_eq]
      exact key l h1
    · simp at e
  · simp only [Tree.den_bind, Tree.den_leaf] at e
    obtain ⟨⟨a, b⟩, h1, rfl⟩ := e
    simp only [cW, sliceOp]
    rw [lims2_eq h1]
  · rename_i id path off len g
    simp only [Tree.den_bind, Tree.den_ofO] at e
    obtain ⟨o, h1, ⟨g', z', a'⟩, h2, e⟩ := e
    split at e
    · rename_i hc
      simp only [Bool.and_eq_true, beq_iff_eq] at hc
      simp only [Tree.den_bind, Tree.den_leaf] at e
      obtain ⟨⟨a, b⟩, h3, rfl⟩ := e
      simp only [cW, sliceOp]
      rw [lims2_eq h3, getH_c h1, vecAt2_eq h2]
      simp only
      rw [if_pos hc]
      cases a <;> cases off <;> simp
    · simp at e
  · simp at e
def sliceS2 (w : W) (lo hi : Option W) : Tree W := match str? w with
  | some b => (lims2 b.size lo hi).bind fun x => .leaf (wS (b.extract (x.1.getD 0) (x.2.getD b.size)))
  | none => .fail
abbrev getL {A : Type} (l : List A) (k : Nat) : Option A := l[k]?
def iaddr2 (h : H2) (z : Nat) (w i : W) : Tree W := match w with
  | .v (.sl t) l => if t.cs == z then (nat2 i).bind fun k => .opt (dflt t) (getL (A := El t) l k) fun x => .leaf (.v (.ref t) x) else .fail
  | .own id path off len g => (Tree.ofO (getH h id)).bind fun o => (vecAt2 o path).bind fun y => if y.1 == g && y.2.1 == z then
      (nat2 i).bind fun k => (Tree.ask (Nat.blt k len)).bind fun _ => .leaf (.ptr id (some path) [match off with | none => stepOf z k i | some o => .k (o + k) z] g) else .fail
  | _ => .fail
theorem iaddr2_eq {h : H2} {z : Nat} {w i w' : W} (e : (iaddr2 h z w i).den = some w') : iaddrOp (cH h) z (cW w) (cW i) = some (cW w') := by
  unfold iaddr2 at e
  split at e
  · rename_i t l
    split at e
    · rename_i hz
      simp only [beq_iff_eq] at hz
      simp only [Tree.den_bind, Tree.den_opt, Tree.den_leaf] at e
      obtain ⟨k, h1, x, h2, rfl⟩ := e
      have key : ∀ l : List (El t), l[k]? = some x → iaddrOp (cH h) z (.p (.sl (l.map (enc t)))) (cW i) = some (.p (.ref (enc t x))) := by
        intro l h2
        have hk := (List.getElem?_eq_some_iff.1 h2).1
        simp only [iaddrOp, List.length_map]
        rw [asIx_of h1 hk]
        simp only [List.getElem?_map, h2, Option.map_some]
        rw [if_pos ((enc_cs _ _).trans hz)]
      exact key l h2
    · simp at e
  · rename_i id path off len g
    simp only [Tree.den_bind, Tree.den_ofO] at e
    obtain ⟨o, h1, ⟨g', z', a'⟩, h2, e⟩ := e
    split at e
    · rename_i hc
      simp only [Bool.and_eq_true, beq_iff_eq] at hc
      simp only [Tree.den_bind, Tree.den_ask, Tree.den_leaf] at e
      obtain ⟨k, h3, _, h4, rfl⟩ := e
      simp only [cW, iaddrOp]
      rw [asIx_of h3 (Nat.blt_eq.mp h4), getH_c h1]
      simp only
      rw [vecAt2_eq h2]
      simp only
      rw [if_pos hc]
      cases off with
      | none =>
        simp only [Option.getD_none, Nat.zero_add]
        cases i <;> simp [stepOf, npI, ixs, ofs, Step.ix, Step.of]
      | some o => simp [npI, ixs, ofs, Step.ix, Step.of]
    · simp at e
  · simp at e
/-- a part of an array value -/
def arr2 (n z : Nat) (ts : List Ty) (x : Els ts) (i : W) : Tree TV :=
  (nat2 i).bind fun k => match isC i with
    | true => if Nat.blt k n && Ty.css (ts.take k) == k * z then Tree.ofO (compE ts x k) else .fail
    | false => match arrTy ts z with
      | some t => if ts.length == n then (Tree.ask (Nat.blt k n)).bind fun _ => (Tree.ofO (selE t k ts x 0)).bind fun y => .leaf ⟨t, y⟩ else .fail
      | none => .fail
theorem arr2_eq {n z : Nat} {ts : List Ty} {x : Els ts} {i : W} {v : TV} (h : (arr2 n z ts x i).den = some v) :
    ∃ k, asIx n (cW i) = some k ∧ (encs ts x)[k]? = some (enc v.1 v.2) ∧ PV.css ((encs ts x).take k) = k * z := by
  unfold arr2 at h
  simp only [Tree.den_bind] at h
  obtain ⟨k, h1, h⟩ := h
  refine ⟨k, ?_⟩
  split at h
  · split at h
    · rename_i hc
      simp only [Bool.and_eq_true, beq_iff_eq] at hc
      rw [Tree.den_ofO] at h
      obtain ⟨t, y⟩ := v
      exact ⟨asIx_of h1 (Nat.blt_eq.mp hc.1), (compE_eq 0 ts x k t y h).1, (encs_css_take ts x k).trans hc.2⟩
    · simp at h
  · split at h
    · rename_i t ht
      split at h
      · rename_i hn
        simp only [beq_iff_eq] at hn
        simp only [Tree.den_bind, Tree.den_ask, Tree.den_ofO, Tree.den_leaf] at h
        obtain ⟨_, h2, y, h3, rfl⟩ := h
        have h2 := Nat.blt_eq.mp h2
        have hs := (selE_eq 0 t k ts x 0 y h3 (Nat.zero_le _) (by omega)).1
        rw [Nat.sub_zero] at hs
        refine ⟨asIx_of h1 h2, hs, (encs_css_take ts x k).trans ?_⟩
        unfold arrTy at ht
        split at ht
        · cases ht
        · split at ht
          · rename_i hc
            cases ht
            simp only [Bool.and_eq_true, beq_iff_eq] at hc
            rw [← hc.2]
            exact allTy_css hc.1 (by omega)
          · cases ht
      · simp at h
    · simp at h
/-- a table of numbers -/
def tabI (k : IntKind) : List PV → Option (List Int)
  | [] => some []
  | .int l x :: r => if l == k then (match tabI k r with | some m => some (x :: m) | none => none) else none
  | _ => none
theorem tabI_eq {k : IntKind} : ∀ {l : List PV} {m : List Int}, tabI k l = some m → l = m.map (PV.int k)
  | [], m, h => by simp only [tabI, Option.some.injEq] at h; subst h; rfl
  | v :: r, m, h => by
    cases v with
    | int l x =>
      simp only [tabI] at h
      split at h
      · rename_i hk
        split at h
        · rename_i q hq
          simp only [Option.some.injEq] at h
          subst h
          simp only [beq_iff_eq] at hk
          subst hk
          rw [tabI_eq hq]
          rfl
        · cases h
      · cases h
    | _ => cases h
theorem css_ints (k : IntKind) : ∀ m : List Int, PV.css (m.map (PV.int k)) = m.length
  | [] => rfl
  | x :: r => by simp only [List.map_cons, PV.css, PV.cs, css_ints k r, List.length_cons]; omega
def tabK : List PV → Option IntKind
  | .int k _ :: _ => some k
  | _ => none
def iaddrA2 (n z : Nat) (w i : W) : Tree W := match w with
  | .c (.ref (.agg l)) => match tabK l with
    | some k => match tabI k l with
      | some m => if z == 1 then (nat2 i).bind fun j => (Tree.ask (Nat.blt j n)).bind fun _ => .opt (0 : Int) m[j]? fun v => .leaf (.v (.ref (.int k)) v) else .fail
      | none => .fail
    | none => .fail
  | .v (.ref (.agg ts)) x => (arr2 n z ts x i).bind fun v => .leaf (.v (.ref v.1) v.2)
  | .ptr id np rp g => (nat2 i).bind fun k => (Tree.ask (Nat.blt k n)).bind fun _ => .leaf (.ptr id np (rp ++ [stepOf z k i]) g)
  | _ => .fail
def idx2 (agg : Bool) (z n : Nat) (w i : W) : Tree W := match pv? w with
  | some ⟨.agg ts, x⟩ => (arr2 n z ts x i).bind fun v => if v.1.cs == z && v.1.isAgg == agg then .leaf (.v v.1 v.2) else .fail
  | _ => .fail
def idxS2 (w i : W) : Tree W := match str? w with
  | some b => (nat2 i).bind fun k => .opt (0 : UInt8) b.data[k]? fun c => .leaf (wI .u8 c.toNat)
  | none => .fail
theorem sliceS2_eq {K : Calls3} {g : Nat} {d : Option Nat} {s : S2} {h : Heap} {x : Opd} {lo hi : Option Opd} {w w' : W} {wl wh : Option W}
    (hw : evO (cS s) x = cW w) (hl : lo.map (evO (cS s)) = wl.map cW) (hh : hi.map (evO (cS s)) = wh.map cW) (e : (sliceS2 w wl wh).den = some w') :
    evalOp K g d (cS s) h (.sliceS x lo hi) = some (cW w', h) := by
  unfold sliceS2 at e
  split at e
  · rename_i b hb
    simp only [Tree.den_bind, Tree.den_leaf] at e
    obtain ⟨⟨i, j⟩, h1, rfl⟩ := e
    simp only [evalOp, hw, hl, hh, str?_eq hb]
    rw [lims2_eq h1]
    rfl
  · simp at e
theorem iaddrA2_eq {K : Calls3} {g : Nat} {d : Option Nat} {s : S2} {h : Heap} {n z : Nat} {x y : Opd} {w i w' : W} (hw : evO (cS s) x = cW w) (hi : evO (cS s) y = cW i) (e : (iaddrA2 n z w i).den = some w') :
    evalOp K g d (cS s) h (.iaddrA n z x y) = some (cW w', h) := by
  unfold iaddrA2 at e
  split at e
  · rename_i l
    split at e
    · rename_i k hk
      split at e
      · rename_i m hm
        split at e
        · rename_i hz
          simp only [beq_iff_eq] at hz
          subst hz
          simp only [Tree.den_bind, Tree.den_ask, Tree.den_opt, Tree.den_leaf] at e
          obtain ⟨j, h1, _, h2, v, h3, rfl⟩ := e
          have hl := tabI_eq hm
          subst hl
          simp only [evalOp, hw, hi, asIx_of h1 (Nat.blt_eq.mp h2), cW]
          have hj : j < m.length := (List.getElem?_eq_some_iff.1 h3).1
          rw [List.getElem?_map, h3]
          simp only [Option.map_some, ← List.map_take, css_ints, List.length_take]
          rw [if_pos (by omega)]
          rfl
        · simp at e
      · simp at e
    · simp at e
  · rename_i ts q
    simp only [Tree.den_bind, Tree.den_leaf] at e
    obtain ⟨v, h1, rfl⟩ := e
    obtain ⟨k, h2, h3, h4⟩ := arr2_eq h1
    simp only [evalOp, hw, hi, h2, cW, enc]
    rw [h3]
    simp only
    rw [if_pos h4]
  · simp only [Tree.den_bind, Tree.den_ask, Tree.den_leaf] at e
    obtain ⟨k, h1, _, h2, rfl⟩ := e
    simp only [evalOp, hw, hi, asIx_of h1 (Nat.blt_eq.mp h2), cW]
    rw [ixs_append, ofs_append]
    simp only [ixs, ofs, stepOf_ix, stepOf_of, Nat.add_zero]
  · simp at e
theorem idx2_eq {K : Calls3} {g : Nat} {d : Option Nat} {s : S2} {h : Heap} {agg : Bool} {n z : Nat} {x y : Opd} {w i w' : W} (hw : evO (cS s) x = cW w) (hi : evO (cS s) y = cW i) (e : (idx2 agg z n w i).den = some w') :
    evalOp K g d (cS s) h (.idx agg z n x y) = some (cW w', h) := by
  unfold idx2 at e
  split at e
  · rename_i ts q hp
    simp only [Tree.den_bind] at e
    obtain ⟨v, h1, e⟩ := e
    split at e
    · rename_i hc
      simp only [Bool.and_eq_true, beq_iff_eq] at hc
      simp only [Tree.den_leaf] at e
      subst e
      obtain ⟨k, h2, h3, h4⟩ := arr2_eq h1
      simp only [evalOp, hw, hi, pv?_eq hp, enc, h2]
      rw [h3]
      simp only
      rw [if_pos ⟨h4, (enc_cs _ _).trans hc.1, (enc_isAgg _ _).trans hc.2⟩]
      rfl
    · simp at e
  · simp at e
theorem idxS2_eq {K : Calls3} {g : Nat} {d : Option Nat} {s : S2} {h : Heap} {x y : Opd} {w i w' : W} (hw : evO (cS s) x = cW w) (hi : evO (cS s) y = cW i) (e : (idxS2 w i).den = some w') :
    evalOp K g d (cS s) h (.idxS x y) = some (cW w', h) := by
  unfold idxS2 at e
  split at e
  · rename_i b hb
    simp only [Tree.den_bind, Tree.den_opt, Tree.den_leaf] at e
    obtain ⟨k, h1, c, h2, rfl⟩ := e
    have hk : k < b.size := by
      obtain ⟨hk, _⟩ := Array.getElem?_eq_some_iff.1 h2
      exact hk
    simp only [evalOp, hw, hi, str?_eq hb, asIx_of h1 hk, h2]
    rfl
  · simp at e
end Go.Mid
