/- The middle semantics: values, owned memory, instructions and their execution (definitions only). -/
import Derived.Orders
import Derived.Below
import Derived.Laws.StructEq
namespace Go.Mid
set_option linter.unusedSimpArgs false
set_option linter.unusedVariables false

/-- Pure values: no identity, never changed. A slice is the list of its elements. -/
inductive PV where
  | int (k : IntKind) (n : Int)
  | bool (b : Bool)
  | str (s : ByteArray)
  | agg (l : List PV)
  | sl (l : List PV)
  | ref (v : PV)
  | fn (f : Nat) (caps : List PV)
  | mp (ks vs : List PV)
  | nilp
  | nilf
  deriving Inhabited

/-- Values of slots: pure ones, and references to owned memory. -/
inductive MV where
  | p (v : PV)
  | nil (z : Nat)
  | own (id : Nat) (path : List Nat) (off len g : Nat)
  | ptr (id : Nat) (np : Option (List Nat)) (rp : List Nat) (g o : Nat)
  | mref (id : Nat) (path : List Nat) (g : Nat)
  | agg (l : List MV)
  | fn (f : Nat) (caps : List MV)
  | tup (l : List MV)
  | dead (n : Nat)
instance : Inhabited MV := ⟨.dead 0⟩

/-- Owned memory as a tree. `vec a z l n`: a slice that owns its array (a: its stamp; z cells an element), with the header length n. -/
inductive T (α : Type) where
  | p (v : PV)
  | m (v : MV)
  | agg (l : List (T α))
  | vec (a : α) (z : Nat) (l : List (T α)) (n : Nat)
  | mp (a : α) (ks : List PV) (vs : List (T α))
  | hole (n : Nat)
instance {α : Type} : Inhabited (T α) := ⟨.hole 0⟩

/-- Roots: a variable, an array that is reached through slice headers alone, a map, memory that was handed over. -/
inductive Obj (α : Type) where
  | cell (a : α) (t : T α)
  | vec (a : α) (z : Nat) (l : List (T α))
  | mp (a : α) (ks : List PV) (vs : List (T α))
  | gone
instance {α : Type} : Inhabited (Obj α) := ⟨.gone⟩

abbrev Slots := Nat → MV
abbrev HeapA (α : Type) := Nat → Option (Obj α)
abbrev Heap := HeapA Nat

def upd {α : Type} (f : Nat → α) (k : Nat) (v : α) : Nat → α := fun i => if i = k then v else f i
def updo (f : Slots) (k : Option Nat) (v : MV) : Slots := match k with | some d => upd f d v | none => f

structure St where
  s : Slots
  h : Heap
  nx : Nat

/-! ### sizes -/
mutual
def PV.cs : PV → Nat
  | .agg l => PV.css l
  | _ => 1
def PV.css : List PV → Nat
  | [] => 0
  | x :: xs => x.cs + PV.css xs
end
mutual
def MV.cs : MV → Nat
  | .p v => v.cs
  | .agg l => MV.css l
  | .tup _ => 0
  | .dead n => n
  | _ => 1
def MV.css : List MV → Nat
  | [] => 0
  | x :: xs => x.cs + MV.css xs
end
section
variable {α : Type}
mutual
def T.cs : T α → Nat
  | .p v => v.cs
  | .m v => v.cs
  | .agg l => T.css l
  | .vec .. | .mp .. => 1
  | .hole n => n
def T.css : List (T α) → Nat
  | [] => 0
  | x :: xs => x.cs + T.css xs
end

def PV.isAgg : PV → Bool | .agg _ => true | _ => false
def MV.isAgg : MV → Bool | .agg _ => true | .p v => v.isAgg | _ => false

/-! ### building -/
def allP : List MV → Option (List PV)
  | [] => some []
  | .p v :: r => match allP r with | some l => some (v :: l) | none => none
  | _ :: _ => none
def mkAgg (l : List MV) : MV := match allP l with | some vs => .p (.agg vs) | none => .agg l
def allTP : List (T α) → Option (List PV)
  | [] => some []
  | .p v :: r => match allTP r with | some l => some (v :: l) | none => none
  | _ :: _ => none
def mkTAgg (l : List (T α)) : T α := match allTP l with | some vs => .p (.agg vs) | none => .agg l

/-! ### looking into owned memory -/
/-- what lies at a place -/
def subT : T α → List Nat → Option (T α)
  | t, [] => some t
  | .p (.agg l), i :: r => match l[i]? with | some v => subT (.p v) r | none => none
  | .agg l, i :: r => match l[i]? with | some t => subT t r | none => none
  | .vec _ _ l _, i :: r => match l[i]? with | some t => subT t r | none => none
  | _, _ :: _ => none
def subO (ob : Option (Obj α)) (path : List Nat) : Option (T α) :=
  match ob, path with
  | some (.cell _ t), p => subT t p
  | some (.vec _ _ l), i :: r => match l[i]? with | some t => subT t r | none => none
  | _, _ => none
/-- the array at a place: stamp, cells an element, elements -/
def vecAt (ob : Option (Obj α)) (path : List Nat) : Option (α × Nat × List (T α)) :=
  match ob, path with
  | some (.vec a z l), [] => some (a, z, l)
  | ob, p => match subO ob p with
    | some (.vec a z l _) => some (a, z, l)
    | _ => none
def mapAt (ob : Option (Obj α)) (path : List Nat) : Option (α × List PV × List (T α)) :=
  match ob, path with
  | some (.mp a ks vs), [] => some (a, ks, vs)
  | _, _ => none
/-- the same within one array or variable: no further array on the way; the offset -/
def lookF : T α → List Nat → Nat → Option (T α × Nat)
  | t, [], o => some (t, o)
  | .p (.agg l), i :: r, o => match l[i]? with | some v => lookF (.p v) r (o + PV.css (l.take i)) | none => none
  | .agg l, i :: r, o => match l[i]? with | some t => lookF t r (o + T.css (l.take i)) | none => none
  | _, _ :: _, _ => none
/-- a place that is addressed from a variable (none) or from an array (its path): what lies there, the stamp, the offset -/
def look (ob : Option (Obj α)) (np : Option (List Nat)) (rp : List Nat) : Option (T α × α × Nat) :=
  match np with
  | none => match ob with
    | some (.cell a t) => match lookF t rp 0 with | some (u, o) => some (u, a, o) | none => none
    | _ => none
  | some p => match vecAt ob p, rp with
    | some (a, z, l), i :: r => match l[i]? with
      | some t => match lookF t r (i * z) with | some (u, o) => some (u, a, o) | none => none
      | none => none
    | _, _ => none
def full (np : Option (List Nat)) (rp : List Nat) : List Nat := np.getD [] ++ rp

/-! ### the arrays, maps and variables of a root -/
def nodeAt (ob : Option (Obj α)) (np : Option (List Nat)) : Option (α × Option Nat) :=
  match np with
  | none => match ob with
    | some (.cell a _) => some (a, none)
    | _ => none
  | some p => match ob, p with
    | some (.vec a z _), [] => some (a, some z)
    | some (.mp a _ _), [] => some (a, none)
    | ob, p => match subO ob p with
      | some (.vec a z _ _) => some (a, some z)
      | some (.mp a _ _) => some (a, none)
      | _ => none

/-! ### changing owned memory at a place -/
def putT : T α → List Nat → T α → Option (T α)
  | _, [], u => some u
  | .p (.agg l), i :: r, u => match l[i]? with
    | some v => match putT (.p v) r u with
      | some w => some (mkTAgg ((l.map T.p).set i w))
      | none => none
    | none => none
  | .agg l, i :: r, u => match l[i]? with
    | some t => match putT t r u with
      | some w => some (mkTAgg (l.set i w))
      | none => none
    | none => none
  | .vec g z l n, i :: r, u => match l[i]? with
    | some t => match putT t r u with
      | some w => some (.vec g z (l.set i w) n)
      | none => none
    | none => none
  | _, _ :: _, _ => none
def put (ob : Option (Obj α)) (path : List Nat) (u : T α) : Option (Obj α) :=
  match ob, path with
  | some (.cell a t), p => match putT t p u with | some w => some (.cell a w) | none => none
  | some (.vec g z l), i :: r => match l[i]? with
    | some t => match putT t r u with | some w => some (.vec g z (l.set i w)) | none => none
    | none => none
  | _, _ => none
end

/-! ### reading a place as a slot's value -/
mutual
def valT (id : Nat) (path : List Nat) : T Nat → MV
  | .p v => .p v
  | .m v => v
  | .agg l => mkAgg (valTs id path 0 l)
  | .vec g _ _ n => .own id path 0 n g
  | .mp g _ _ => .mref id path g
  | .hole n => .dead n
def valTs (id : Nat) (path : List Nat) (i : Nat) : List (T Nat) → List MV
  | [] => []
  | t :: r => valT id (path ++ [i]) t :: valTs id path (i + 1) r
end

/-! ### pure snapshots -/
mutual
def pureT : T Nat → Option PV
  | .p v => some v
  | .m _ => none
  | .agg l => match pureTs l with | some vs => some (.agg vs) | none => none
  | .vec _ _ l n => match pureTs l with | some vs => some (.sl (vs.take n)) | none => none
  | .mp _ ks vs => match pureTs vs with | some ws => some (.mp ks ws) | none => none
  | .hole _ => none
def pureTs : List (T Nat) → Option (List PV)
  | [] => some []
  | t :: r => match pureT t, pureTs r with | some v, some vs => some (v :: vs) | _, _ => none
end
mutual
def pureM (h : Heap) : MV → Option PV
  | .p v => some v
  | .nil _ => some (.sl [])
  | .own id path off len g => match vecAt (h id) path with
    | some (g', _, l) => if g' = g ∧ off + len ≤ l.length then
        match pureTs l with | some vs => some (.sl ((vs.drop off).take len)) | none => none
      else none
    | none => none
  | .ptr id np rp g o => match look (h id) np rp with
    | some (t, s, o') => if s = g ∧ o' = o then match pureT t with | some v => some (.ref v) | none => none else none
    | none => none
  | .mref .. => none
  | .agg l => match pureMs h l with | some vs => some (.agg vs) | none => none
  | .fn f caps => match pureMs h caps with | some vs => some (.fn f vs) | none => none
  | .tup _ => none
  | .dead _ => none
def pureMs (h : Heap) : List MV → Option (List PV)
  | [] => some []
  | x :: r => match pureM h x, pureMs h r with | some v, some vs => some (v :: vs) | _, _ => none
end
end Go.Mid
/- The middle semantics: instructions and their execution (definitions only). -/
namespace Go.Mid
set_option linter.unusedSimpArgs false
set_option linter.unusedVariables false

inductive Opd where
  | t (n : Nat)
  | c (v : MV)
  | f (id : Nat)
  deriving Inhabited

/-- types whose values are compared cell by cell -/
inductive TD where
  | int (k : IntKind)
  | bool
  | str
  | agg (l : List TD)
  deriving Inhabited
mutual
def TD.cs : TD → Nat
  | .agg l => TD.css l
  | _ => 1
def TD.css : List TD → Nat
  | [] => 0
  | x :: r => x.cs + TD.css r
end
mutual
def fits : TD → PV → Bool
  | .int k, .int k' _ => k == k'
  | .bool, .bool _ => true
  | .str, .str _ => true
  | .agg l, .agg m => fitss l m
  | _, _ => false
def fitss : List TD → List PV → Bool
  | [], [] => true
  | t :: r, x :: q => fits t x && fitss r q
  | _, _ => false
end
mutual
def eqV : PV → PV → Bool
  | .int _ a, .int _ b => a == b
  | .bool a, .bool b => a == b
  | .str a, .str b => a.toList == b.toList
  | .agg l, .agg m => eqVs l m
  | _, _ => false
def eqVs : List PV → List PV → Bool
  | [], [] => true
  | x :: r, y :: q => eqV x y && eqVs r q
  | _, _ => false
end

inductive MOp where
  | move (x : Opd)
  | nilv (z : Nat)
  | pick (c a b : Opd)
  | box (x : Opd)
  | build (zs : List Nat) (parts : List Opd)
  | bsl (mt : Bool) (z : Nat) (parts : List Opd)
  | bslp (z : Nat) (parts : List Opd)
  | load (agg : Bool) (n : Nat) (x : Opd)
  | store (n : Nat) (a x : Opd)
  | nilc (x : Opd)
  | bin (bl : Bool) (op : BinOp) (x y : Opd)
  | eqs (neg : Bool) (td : TD) (x y : Opd)
  | isnil (fk neg : Bool) (x : Opd)
  | not (x : Opd)
  | neg (x : Opd)
  | inv (x : Opd)
  | convI (k : IntKind) (x : Opd)
  | convS (x : Opd)
  | convR (x : Opd)
  | mkfn (f : Nat) (caps : List Opd)
  | mksl (z bytes : Nat) (zero : MV) (len cap : Opd)
  | slice (z : Nat) (x : Opd) (lo hi : Option Opd)
  | sliceS (x : Opd) (lo hi : Option Opd)
  | cut0 (z : Nat) (x : Opd)
  | clr (z : Nat) (zero : PV) (x : Opd)
  | faddr (x : Opd) (i o : Nat)
  | fld (agg : Bool) (n o : Nat) (x : Opd) (i : Nat)
  | iaddr (z : Nat) (x i : Opd)
  | iaddrA (n z : Nat) (x i : Opd)
  | idx (agg : Bool) (z n : Nat) (x i : Opd)
  | idxS (x i : Opd)
  | ext (x : Opd) (i : Nat)
  | call (md : Nat) (f : Opd) (args : List Opd)
  | len (x : Opd)
  | lenS (x : Opd)
  | capn (x : Opd)
  | slice3 (x lo hi mx : Opd)
  | appn (z bytes : Nat) (zero : MV) (x n : Opd)
  | appk (z : Nat) (x y : Opd)
  | sliceK (z : Nat) (x lo hi : Opd)
  | slA (n z : Nat) (x : Opd)
  | app (pz : Bool) (z bytes : Nat) (x y : Opd)
  | cpy (z : Nat) (x y : Opd)
  | mx (l : List Opd)
  | mn (l : List Opd)
  | mkmap (k v : TD)
  | mlook (td : TD) (zero : MV) (ok : Bool) (m k : Opd)
  | mset (td : TD) (m k v : Opd)
  | mdel (m k : Opd)
  | bad
  deriving Inhabited

structure Ins where
  dst : Option Nat
  guard : Option (Nat × Bool) := none
  op : MOp
  deriving Inhabited

inductive Gh where
  | freeze (s : Nat)
  | keep (ks ids : List Nat)
  deriving Inhabited

inductive MC where
  | skip
  | reg (loose : List (Nat × Nat)) (ops : List Ins)
  | seq (a b : MC)
  | cond (c : Opd) (a b : MC)
  | block (id : Nat) (c : MC)
  | loop (ks ids : List Nat) (c : MC)
  | exit (id : Nat)
  | ret
  | gh (g : Gh)
  | bad
  deriving Inhabited

inductive RV where
  | tmp (t : Nat)
  | cell (a : Nat) (agg : Bool) (n : Nat)
  deriving Inhabited

structure MFun where
  body : MC
  res : List RV
  frz : Bool
  deriving Inhabited

inductive Ex where
  | normal | exit (id : Nat) | ret
  deriving DecidableEq, Inhabited

/-! ### scalar operations -/
def bitsP (op : BinOp) (k : IntKind) (x y : Int) : Option Int :=
  match op with
  | .and => some (k.wrap (BitVec.ofInt k.bits x &&& BitVec.ofInt k.bits y).toNat)
  | .or => some (k.wrap (BitVec.ofInt k.bits x ||| BitVec.ofInt k.bits y).toNat)
  | .xor => some (k.wrap (BitVec.ofInt k.bits x ^^^ BitVec.ofInt k.bits y).toNat)
  | .andNot => some (k.wrap (BitVec.ofInt k.bits x &&& ~~~ BitVec.ofInt k.bits y).toNat)
  | _ => none
def binP (op : BinOp) : PV → PV → Option PV
  | .int k a, .int k' b =>
    match op with
    | .shl => if b < 0 then none else some (.int k (k.wrap (a * 2 ^ min b.toNat k.bits)))
    | .shr => if b < 0 then none else some (.int k (a.fdiv (2 ^ min b.toNat k.bits)))
    | op => if k ≠ k' then none else
      match op with
      | .add => some (.int k (k.wrap (a + b)))
      | .sub => some (.int k (k.wrap (a - b)))
      | .mul => some (.int k (k.wrap (a * b)))
      | .quo => if b = 0 then none else some (.int k (k.wrap (a.tdiv b)))
      | .rem => if b = 0 then none else some (.int k (a.tmod b))
      | .eql => some (.bool (a == b))
      | .neq => some (.bool (a != b))
      | .lss => some (.bool (a < b))
      | .leq => some (.bool (a ≤ b))
      | .gtr => some (.bool (a > b))
      | .geq => some (.bool (a ≥ b))
      | op => match bitsP op k a b with | some n => some (.int k n) | none => none
  | .str a, .str b =>
    match op with
    | .add => if a.size + b.size ≤ 9223372036854775807 then some (.str (a ++ b)) else none
    | .eql => some (.bool (a.toList == b.toList))
    | .neq => some (.bool !(a.toList == b.toList))
    | .lss => some (.bool (Op.bytesLess a.toList b.toList))
    | .leq => some (.bool (Op.bytesLess a.toList b.toList || a.toList == b.toList))
    | .gtr => some (.bool !(Op.bytesLess a.toList b.toList || a.toList == b.toList))
    | .geq => some (.bool !(Op.bytesLess a.toList b.toList))
    | _ => none
  | .bool a, .bool b =>
    match op with
    | .eql => some (.bool (a == b))
    | .neq => some (.bool !(a == b))
    | _ => none
  | _, _ => none

-- Go's == on values without pointers, slices and functions
mutual
def eqP : PV → PV → Option Bool
  | .int k a, .int k' b => if k = k' then some (a == b) else none
  | .bool a, .bool b => some (a == b)
  | .str a, .str b => some (a == b)
  | .agg l, .agg m => eqPs l m
  | _, _ => none
def eqPs : List PV → List PV → Option Bool
  | [], [] => some true
  | x :: r, y :: q => match eqP x y with
    | some true => eqPs r q
    | some false => some false
    | none => none
  | _, _ => none
end

/-! ### references in values -/
mutual
def refsM : MV → List Nat
  | .own id .. | .ptr id .. | .mref id .. => [id]
  | .agg l | .fn _ l | .tup l => refsMs l
  | _ => []
def refsMs : List MV → List Nat
  | [] => []
  | x :: r => refsM x ++ refsMs r
end
section
variable {α : Type}
mutual
def refsT : T α → List Nat
  | .m v => refsM v
  | .agg l => refsTs l
  | .vec _ _ l _ => refsTs l
  | .mp _ _ l => refsTs l
  | _ => []
def refsTs : List (T α) → List Nat
  | [] => []
  | x :: r => refsT x ++ refsTs r
end
def refsO : Option (Obj α) → List Nat
  | some (.cell _ t) => refsT t
  | some (.vec _ _ l) => refsTs l
  | some (.mp _ _ l) => refsTs l
  | _ => []
end

/-! ### cleaning: references that are not current, or not to the given roots, die; stamps become 0 (untouched) or 1 -/
def okOwn (h : Heap) (id : Nat) (path : List Nat) (g : Nat) : Bool :=
  match vecAt (h id) path with | some (g', _, _) => g' == g | none => false
def okPtr (h : Heap) (id : Nat) (np : Option (List Nat)) (rp : List Nat) (g o : Nat) : Bool :=
  match look (h id) np rp with | some (_, s, o') => s == g && o' == o | none => false
def okMref (h : Heap) (id : Nat) (path : List Nat) (g : Nat) : Bool :=
  match mapAt (h id) path with | some (g', _, _) => g' == g | none => false
-- ρ: the new name of a root that is kept; ζ: the new stamp
mutual
def cleanM (h : Heap) (ρ : Nat → Option Nat) (ζ : Nat → Nat) : MV → MV
  | .own id path off len g => match ρ id with
    | some j => if okOwn h id path g then .own j path off len (ζ g) else .dead 1
    | none => .dead 1
  | .ptr id np rp g o => match ρ id with
    | some j => if okPtr h id np rp g o then .ptr j np rp (ζ g) o else .dead 1
    | none => .dead 1
  | .mref id path g => match ρ id with
    | some j => if okMref h id path g then .mref j path (ζ g) else .dead 1
    | none => .dead 1
  | .agg l => .agg (cleanMs h ρ ζ l)
  | .fn f l => .fn f (cleanMs h ρ ζ l)
  | .tup l => .tup (cleanMs h ρ ζ l)
  | v => v
def cleanMs (h : Heap) (ρ : Nat → Option Nat) (ζ : Nat → Nat) : List MV → List MV
  | [] => []
  | x :: r => cleanM h ρ ζ x :: cleanMs h ρ ζ r
end
section
variable {α : Type} (φ : MV → MV) (ζ : α → α)
mutual
def mapT : T α → T α
  | .m v => .m (φ v)
  | .agg l => .agg (mapTs l)
  | .vec g s l n => .vec (ζ g) s (mapTs l) n
  | .mp g ks l => .mp (ζ g) ks (mapTs l)
  | .p v => .p v
  | .hole n => .hole n
def mapTs : List (T α) → List (T α)
  | [] => []
  | x :: r => mapT x :: mapTs r
end
def mapO : Obj α → Obj α
  | .cell a t => .cell (ζ a) (mapT φ ζ t)
  | .vec g s l => .vec (ζ g) s (mapTs φ ζ l)
  | .mp g ks l => .mp (ζ g) ks (mapTs φ ζ l)
  | .gone => .gone
end
def touched (g : Nat) : Nat := if g = 0 then 0 else 1
/-- roots that live on: those that came in, and those that were made at the given slots -/
def keepB (ids : List Nat) (i : Nat) : Bool := 1000000 ≤ i || ids.contains (i % 1000)
def keepIds (ids : List Nat) (i : Nat) : Option Nat := if keepB ids i then some i else none
def forget (ks ids : List Nat) (σ : St) : St :=
  { s := fun k => if ks.contains k then cleanM σ.h (keepIds ids) touched (σ.s k) else .dead 0
    h := fun i => if keepB ids i then (σ.h i).map (mapO (cleanM σ.h (keepIds ids) touched) touched) else none
    nx := 2 }

/-! ### values on their way into owned memory: owned roots move -/
def stamps (g : Nat) (l : List (T Nat)) : List (T Nat) := mapTs (fun v => v) (fun _ => g) l
def stamp1 (g : Nat) (t : T Nat) : T Nat := mapT (fun v => v) (fun _ => g) t
mutual
def intoT (g : Nat) (h : Heap) : MV → Option (T Nat × Heap)
  | .p v => some (.p v, h)
  | .own id path off len g' => match h id, path with
    | some (.vec g'' z l), [] => if g' = g'' ∧ off = 0 ∧ len ≤ l.length then some (.vec g z (stamps g l) len, upd h id (some .gone)) else none
    | ob, path => match subO ob path with
      | some (.vec g'' z l _) => if g' = g'' ∧ off = 0 ∧ len ≤ l.length then
          match put ob path (.hole 1) with | some o => some (.vec g z (stamps g l) len, upd h id (some o)) | none => none
        else none
      | _ => none
  | .agg l => match intoTs g h l with | some (ts, h') => some (mkTAgg ts, h') | none => none
  | .nil z => some (.vec g z [] 0, h)
  | .tup _ | .dead _ => none
  | v => some (.m v, h)
def intoTs (g : Nat) (h : Heap) : List MV → Option (List (T Nat) × Heap)
  | [] => some ([], h)
  | x :: r => match intoT g h x with
    | some (t, h') => match intoTs g h' r with
      | some (ts, h'') => some (t :: ts, h'')
      | none => none
    | none => none
end

/-! ### stamps that come back from a callee: 0 is untouched -/
section
variable {α : Type} (ck : Nat → α → α) (rs : α → α)
mutual
def mergeT : T Nat → T α → T α
  | .agg l, .agg m => .agg (mergeTs l m)
  | .vec g0 _ _ _, .vec a z l n => .vec (ck g0 a) z (mapTs (fun v => v) rs l) n
  | .mp g0 _ _, .mp a ks l => .mp (ck g0 a) ks (mapTs (fun v => v) rs l)
  | _, t => mapT (fun v => v) rs t
def mergeTs : List (T Nat) → List (T α) → List (T α)
  | x :: r, y :: q => mergeT x y :: mergeTs r q
  | _, q => mapTs (fun v => v) rs q
end
def mergeO : Option (Obj Nat) → Obj α → Obj α
  | some (.cell g0 t), .cell b u => .cell (ck g0 b) (mergeT ck rs t u)
  | some (.vec g0 _ _), .vec a z l => .vec (ck g0 a) z (mapTs (fun v => v) rs l)
  | some (.mp g0 _ _), .mp a ks l => .mp (ck g0 a) ks (mapTs (fun v => v) rs l)
  | _, o => mapO (fun v => v) rs o
end
def ckN (g g0 a : Nat) : Nat := if a = 0 then g0 else g
def rsN (g _ : Nat) : Nat := g

-- references that are current in the callee's memory: roots renamed, with the current stamps of the caller's memory
section
variable (hr h : Heap) (ρ : Nat → Nat)
mutual
def freshM : MV → MV
  | .own id path off len g => if okOwn hr id path g then (match nodeAt (h (ρ id)) (some path) with | some (g', _) => .own (ρ id) path off len g' | none => .dead 1) else .dead 1
  | .ptr id np rp g o => if okPtr hr id np rp g o then (match nodeAt (h (ρ id)) np with | some (g', _) => .ptr (ρ id) np rp g' o | none => .dead 1) else .dead 1
  | .mref id path g => if okMref hr id path g then (match nodeAt (h (ρ id)) (some path) with | some (g', _) => .mref (ρ id) path g' | none => .dead 1) else .dead 1
  | .agg l => .agg (freshMs l)
  | .fn f l => .fn f (freshMs l)
  | .tup l => .tup (freshMs l)
  | v => v
def freshMs : List MV → List MV
  | [] => []
  | x :: r => freshM x :: freshMs r
end
end

/-! ### calls -/
def dedup : List Nat → List Nat
  | [] => []
  | x :: r => if (dedup r).contains x then dedup r else x :: dedup r
def roots1 (h : Heap) (l : List Nat) : List Nat := dedup (l ++ l.flatMap fun i => refsO (h i))
def indexIn (l : List Nat) (x : Nat) : Option Nat := l.findIdx? (· == x)
def extBase : Nat := 1000000
def escBase : Nat := 2000000

mutual
def flatP : PV → Bool
  | .int .. | .bool _ | .str _ | .nilp | .nilf => true
  | .agg l => flatPs l
  | _ => false
def flatPs : List PV → Bool
  | [] => true
  | x :: r => flatP x && flatPs r
end
def flatM : MV → Bool
  | .p v => flatP v
  | _ => false

/-- what a call hands back: the result, the roots that came in, the roots that escape -/
abbrev Ret := MV × List (Obj Nat) × List (Obj Nat)
abbrev Calls3 := Nat → List MV → List (Obj Nat) → Option Ret

def evO (s : Slots) : Opd → MV
  | .t n => s n
  | .c v => v
  | .f id => .p (.fn id [])

def callee : MV → Option (Nat × List MV)
  | .p (.fn f cs) => some (f, cs.map .p)
  | .fn f cs => some (f, cs)
  | _ => none
/-- numbers from here on: a method with its receiver -/
def bndF : Nat := 1000000
/-- the function that is entered, and all it gets -/
def calleeA (m : MV) (args : List MV) : Option (Nat × List MV) := match callee m with
  | some (f, cs) => if f < bndF then some (f, args ++ cs) else some (f - bndF, cs ++ args)
  | none => none

def escHeap (esc : List (Obj Nat)) : Heap := fun i => if escBase ≤ i then esc[i - escBase]? else none
section
variable {α : Type}
mutual
def flatT : T α → Bool
  | .p v => flatP v
  | .m _ => false
  | .agg l => flatTs l
  | .vec _ _ l _ => flatTs l
  | .mp _ _ l => flatTs l
  | .hole _ => true
def flatTs : List (T α) → Bool
  | [] => true
  | x :: r => flatT x && flatTs r
end
def flatO : Obj α → Bool
  | .cell _ t => flatT t
  | .vec _ _ l => flatTs l
  | .mp .. => false
  | .gone => true
end
mutual
def flatRef : MV → Bool
  | .p v => flatP v
  | .own .. | .ptr .. | .mref .. | .nil _ | .dead _ => true
  | .agg l | .tup l | .fn _ l => flatRefs l
def flatRefs : List MV → Bool
  | [] => true
  | x :: r => flatRef x && flatRefs r
end
/-- what a call hands back, as pure values; whether it certainly shares nothing with the arguments -/
def purify : Option Ret → Option (MV × Bool)
  | some (r, [], esc) => match r with
    | .tup l => match pureMs (escHeap esc) l with
      | some vs => some (.tup (vs.map .p), flatRef r && esc.all flatO)
      | none => none
    | r => match pureM (escHeap esc) r with
      | some v => some (.p v, flatRef r && esc.all flatO)
      | none => none
  | _ => none
/-- a call with pure copies of its arguments; the result is a pure value -/
def snapCall (K : Calls3) (h : Heap) (f : Nat) (args : List MV) : Option (MV × Heap) :=
  match pureMs h args with
  | some vs => match purify (K f (vs.map .p) []) with
    | some (v, fr) => if fr || (allP args).isSome then some (v, h) else none
    | none => none
  | none => none

def eid (d k : Nat) : Nat := d + 1000 * (k + 1)
def backId (dn : Nat) (ids : List Nat) (i : Nat) : Nat := if escBase ≤ i then eid dn (i - escBase) else ids.getD (i - extBase) 0
def extId (ids : List Nat) (i : Nat) : Option Nat := (indexIn ids i).map (extBase + ·)
def getAll (h : Heap) : List Nat → Option (List (Obj Nat))
  | [] => some []
  | i :: r => match h i, getAll h r with | some o, some os => some (o :: os) | _, _ => none
def eids (d : Option Nat) (n : Nat) : List Nat := (List.range n).map (eid (d.getD 0))
def retHeap (ext esc : List (Obj Nat)) : Heap := fun i => if escBase ≤ i then esc[i - escBase]? else if extBase ≤ i then ext[i - extBase]? else none
/-- the callee's name of a root -/
def srcId (es ids : List Nat) (i : Nat) : Option Nat := match indexIn es i with
  | some k => some (escBase + k)
  | none => match indexIn ids i with
    | some k => some (extBase + k)
    | none => none
def mergeAt (g : Nat) (h : Heap) (i j : Nat) : Obj Nat → Obj Nat := mergeO (ckN g) (rsN g) (if escBase ≤ j then none else h i)
/-- takes over what a callee hands back -/
def takeBack (g : Nat) (d : Option Nat) (h : Heap) (ids : List Nat) (r : MV) (ext esc : List (Obj Nat)) : Option (MV × Heap) :=
  let es := eids d esc.length
  if ext.length ≠ ids.length ∨ (esc ≠ [] ∧ d = none) ∨ es.any ids.contains = true ∨ 1000000 < ids.length ∨ extBase < eid (d.getD 0) esc.length then none else
  let h1 : Heap := fun i => match srcId es ids i with
    | some j => (retHeap ext esc j).map (mergeAt g h i j)
    | none => h i
  let φ := freshM (retHeap ext esc) h1 (backId (d.getD 0) ids)
  some (φ r, fun i => match srcId es ids i with
    | some j => (retHeap ext esc j).map (fun o => mapO φ (fun a => a) (mergeAt g h i j o))
    | none => h i)
/-- a call that gets the owned memory that its arguments reach -/
def sharedCall (K : Calls3) (g : Nat) (d : Option Nat) (h : Heap) (f : Nat) (args : List MV) : Option (MV × Heap) :=
  let ids := roots1 h (roots1 h (refsMs args))
  match getAll h ids with
  | none => none
  | some objs =>
    match K f (cleanMs h (extId ids) (fun _ => 0) args) (objs.map (mapO (cleanM h (extId ids) (fun _ => 0)) (fun _ => 0))) with
    | none => none
    | some (r, ext, esc) => takeBack g d h ids r ext esc
/-- a call with pure copies of its arguments; what it made is taken over -/
def takeCall (K : Calls3) (g : Nat) (d : Option Nat) (h : Heap) (f : Nat) (args : List MV) : Option (MV × Heap) :=
  match pureMs h args with
  | some vs => match K f (vs.map .p) [] with
    | some (r, [], esc) => if (allP args).isSome || (flatRef r && esc.all flatO) then takeBack g d h [] r [] esc else none
    | _ => none
  | none => none

/-! ### operations -/
def intV (n : Int) : MV := .p (.int .i64 n)
def boolV (b : Bool) : MV := .p (.bool b)
def asI : MV → Option Int | .p (.int _ n) => some n | _ => none
/-- index: an integer value between 0 and n (exclusive) -/
def asIx (n : Nat) (v : MV) : Option Nat := match asI v with | some i => if 0 ≤ i ∧ i < n then some i.toNat else none | none => none
def asBd (n : Nat) (v : MV) : Option Nat := match asI v with | some i => if 0 ≤ i ∧ i ≤ n then some i.toNat else none | none => none
def room : Nat := 140737488355328

def ofAlloc (d : Option Nat) (h : Heap) (o : Obj Nat) : Option Heap :=
  match d with
  | some d => some (upd h d (some o))
  | none => none

/-- the elements that 'append' and 'copy' read -/
def elems (h : Heap) : MV → Option (List (T Nat))
  | .p (.sl l) => some (l.map .p)
  | .nil _ => some []
  | .own id path off len g => match vecAt (h id) path with
    | some (g', _, l) => if g' = g ∧ off + len ≤ l.length then some ((l.drop off).take len) else none
    | none => none
  | _ => none
def plainT : T Nat → Bool | .p _ => true | _ => false
-- a tree whose own cells are known
mutual
def solidT : T Nat → Bool
  | .p _ | .vec .. | .mp .. => true
  | .m v => match v with | .own .. | .ptr .. | .mref .. | .fn .. => true | _ => false
  | .agg l => solidTs l
  | .hole _ => false
def solidTs : List (T Nat) → Bool
  | [] => true
  | t :: r => solidT t && solidTs r
end
/-- where the source's elements own memory, the source must be an array of its own, and is gone -/
def takeElems (h : Heap) (y : MV) : Option (List (T Nat) × Heap) :=
  match elems h y with
  | none => none
  | some ts => if ts.all plainT then some (ts, h) else
    match y with
    | .own id [] 0 len _ => match h id with
      | some (.vec _ _ l) => if len = l.length ∧ solidTs ts then some (ts, upd h id (some .gone)) else none
      | _ => none
    | _ => none
def csAll (z : Nat) (l : List (T Nat)) : Bool := l.all fun t => t.cs == z

/-- 'append' to an array that is reached through headers alone -/
def appRoot (g : Nat) (h : Heap) (id z bytes len g0 : Nat) (ts : List (T Nat)) (g1 z1 : Nat) (l : List (T Nat)) : Option (MV × Heap) :=
  if g1 = g0 ∧ z1 = z ∧ len ≤ l.length ∧ (len + ts.length) * bytes ≤ room then
    some (.own id [] 0 (len + ts.length) g, upd h id (some (.vec g z (l.take len ++ stamps g ts))))
  else none
/-- 'append' to an array whose header lies in owned memory: the array is taken out -/
def appPlace (g : Nat) (d : Option Nat) (h : Heap) (id : Nat) (path : List Nat) (z bytes len g0 : Nat) (ts : List (T Nat)) : Option (MV × Heap) :=
  match subO (h id) path with
  | some (.vec g1 z1 l n) => if g1 = g0 ∧ z1 = z ∧ len = n ∧ n ≤ l.length ∧ (len + ts.length) * bytes ≤ room then
      match put (h id) path (.hole 1) with
      | some o' => match ofAlloc d (upd h id (some o')) (.vec g z (stamps g (l.take len ++ ts))) with
        | some h2 => some (.own (d.getD 0) [] 0 (len + ts.length) g, h2)
        | none => none
      | none => none
    else none
  | _ => none
def appOp (g : Nat) (d : Option Nat) (h : Heap) (z bytes : Nat) (x y : MV) : Option (MV × Heap) :=
  match takeElems h y with
  | none => none
  | some (ts, h1) => if !csAll z ts then none else
    match x with
    | .nil _ => if ts.length * bytes ≤ room then
        match ofAlloc d h1 (.vec g z (stamps g ts)) with | some h2 => some (.own (d.getD 0) [] 0 ts.length g, h2) | none => none
      else none
    | .own id path off len g0 => if off = 0 then
        match h1 id, path with
        | some (.vec g1 z1 l), [] => appRoot g h1 id z bytes len g0 ts g1 z1 l
        | _, path => appPlace g d h1 id path z bytes len g0 ts
      else none
    | _ => none

/-- puts pure elements over the elements from a place on -/
def over {α : Type} (l : List (T α)) (off : Nat) (vs : List PV) : List (T α) := l.take off ++ vs.map .p ++ l.drop (off + vs.length)
def overwrite (h : Heap) (id : Nat) (path : List Nat) (g z off : Nat) (vs : List PV) : Option Heap :=
  if vs.all (fun v => v.cs == z) then
    match h id, path with
    | some (.vec a z' l), [] => if a = g ∧ z' = z ∧ off + vs.length ≤ l.length then some (upd h id (some (.vec a z (over l off vs)))) else none
    | ob, path => match subO ob path with
      | some (.vec a z' l n) => if a = g ∧ z' = z ∧ off + vs.length ≤ l.length then
          match put ob path (.vec a z (over l off vs) n) with
          | some o' => some (upd h id (some o'))
          | none => none
        else none
      | _ => none
  else none
def cpyOp (h : Heap) (z : Nat) (x y : MV) : Option (MV × Heap) :=
  match elems h y with
  | none => none
  | some ts => match allTP ts with
    | none => none
    | some vs => if csAll z ts then
        match x with
        | .nil _ => some (intV 0, h)
        | .own id path off len g =>
          match overwrite h id path g z off (vs.take len) with
          | some h' => some (intV (min vs.length len : Nat), h')
          | none => none
        | _ => none
      else none

def storeNew (g : Nat) (h : Heap) (n id : Nat) (path : List Nat) (x : MV) : Option (MV × Heap) :=
  match intoT g h x with
  | some (t, h1) => if t.cs = n then match put (h1 id) path t with | some o => some (.dead 0, upd h1 id (some o)) | none => none else none
  | none => none
def storeOp (g : Nat) (h : Heap) (n : Nat) (a x : MV) : Option (MV × Heap) :=
  match a with
  | .ptr id np rp g0 o0 => match look (h id) np rp with
    | some (old, s, o) => if s = g0 ∧ o = o0 ∧ old.cs = n then
        match x, old with
        | .own id' path' off len g', .vec a z l n' =>
          if id' = id ∧ path' = full np rp ∧ off = 0 ∧ g' = a ∧ len ≤ n' then
            match put (h id) (full np rp) (.vec a z (l.take len) len) with | some o => some (.dead 0, upd h id (some o)) | none => none
          else storeNew g h n id (full np rp) x
        | x, _ => storeNew g h n id (full np rp) x
      else none
    | none => none
  | _ => none

def isDead : MV → Bool | .dead _ => true | _ => false
def loadOp (h : Heap) (agg : Bool) (n : Nat) (a : MV) : Option MV :=
  match a with
  | .p (.ref v) => if v.cs = n ∧ v.isAgg = agg then some (.p v) else none
  | .ptr id np rp g o => match look (h id) np rp with
    | some (t, s, o') => if s = g ∧ o' = o ∧ t.cs = n then
        let v := valT id (full np rp) t
        if v.isAgg = agg ∧ isDead v = false then some v else none
      else none
    | none => none
  | _ => none

/-- the bounds of a slice expression -/
def bdOr (n m : Nat) : Option MV → Option Nat
  | some v => asBd n v
  | none => some m
def lims (n : Nat) (lo hi : Option MV) : Option (Nat × Nat) :=
  match bdOr n n hi with
  | some b => match bdOr b 0 lo with
    | some a => some (a, b)
    | none => none
  | none => none
def sliceOp (h : Heap) (z : Nat) (x : MV) (lo hi : Option MV) : Option MV :=
  match x with
  | .p (.sl l) => match lims l.length lo hi with | some (a, b) => if l.all (fun v => v.cs == z) then some (.p (.sl ((l.take b).drop a))) else none | none => none
  | .nil z => match lims 0 lo hi with | some _ => some (.nil z) | none => none
  | .own id path off len g => match lims len lo hi, vecAt (h id) path with
    | some (a, b), some (g', z', _) => if g' = g ∧ z' = z then some (.own id path (off + a) (b - a) g) else none
    | _, _ => none
  | _ => none

def lenOp : MV → Option Nat
  | .p (.sl l) => some l.length
  | .nil _ => some 0
  | .own _ _ _ len _ => some len
  | _ => none

def iaddrOp (h : Heap) (z : Nat) (x i : MV) : Option MV :=
  match x with
  | .p (.sl l) => match asIx l.length i with
    | some k => match l[k]? with | some v => if v.cs = z then some (.p (.ref v)) else none | none => none
    | none => none
  | .own id path off len g => match asIx len i with
    | some k => match vecAt (h id) path with
      | some (g', z', _) => if g' = g ∧ z' = z then some (.ptr id (some path) [off + k] g ((off + k) * z)) else none
      | none => none
    | none => none
  | _ => none

/-- the place of a key among a map's keys -/
def keyAt (k : PV) : List PV → Nat → Option Nat
  | [], _ => none
  | x :: r, i => if eqV k x then some i else keyAt k r (i + 1)
/-- a map that is a root: its keys and values, if the keys are of a type -/
def mapOf (h : Heap) (td : TD) (m : MV) : Option (Nat × Nat × List PV × List PV) :=
  match m with
  | .mref id [] g => match h id with
    | some (.mp g' ks vs) => if g' = g ∧ ks.all (fits td) = true then
        match allTP vs with
        | some ws => some (id, g, ks, ws)
        | none => none
      else none
    | _ => none
  | _ => none
def lookR (ok : Bool) (v : MV) (b : Bool) : MV := if ok then .tup [v, .p (.bool b)] else v
def lookMap (h : Heap) (td : TD) (zero : MV) (ok : Bool) (m k : MV) : Option MV :=
  match k with
  | .p kv => if fits td kv then
      match mapOf h td m with
      | some (_, _, ks, ws) => match keyAt kv ks 0 with
        | some i => match ws[i]? with | some v => some (lookR ok (.p v) true) | none => none
        | none => some (lookR ok zero false)
      | none => none
    else none
  | _ => none
def setMap (h : Heap) (td : TD) (m k v : MV) : Option Heap :=
  match k, v with
  | .p kv, .p x => if fits td kv then
      match mapOf h td m with
      | some (id, g, ks, ws) => match keyAt kv ks 0 with
        | some i => some (upd h id (some (.mp g (ks.set i kv) ((ws.set i x).map .p))))
        | none => some (upd h id (some (.mp g (ks ++ [kv]) ((ws ++ [x]).map .p))))
      | none => none
    else none
  | _, _ => none

def liveM : MV → Bool
  | .dead _ | .tup _ => false
  | _ => true
def okB : List Nat → List MV → Bool
  | [], [] => true
  | z :: zs, v :: vs => v.cs == z && liveM v && okB zs vs
  | _, _ => false
/-- a zero value as owned memory -/
def zT (g : Nat) : MV → Option (T Nat)
  | .p v => some (.p v)
  | .nil z => some (.vec g z [] 0)
  | .agg l => match zTs l with | some ts => some (mkTAgg ts) | none => none
  | _ => none
where zTs : List MV → Option (List (T Nat))
  | [] => some []
  | x :: r => match zT g x, zTs r with | some t, some ts => some (t :: ts) | _, _ => none

def foldMx (f : Int → Int → Int) : PV → List PV → Option PV
  | v, [] => some v
  | .int k x, .int _ y :: r => foldMx f (.int k (f x y)) r
  | _, _ => none

def isB : PV → Bool | .bool _ => true | _ => false
def evalOp (K : Calls3) (g : Nat) (d : Option Nat) (s : Slots) (h : Heap) : MOp → Option (MV × Heap)
  | .move x => some (evO s x, h)
  | .nilv z => match ofAlloc d h (.vec g z []) with | some h' => some (.own (d.getD 0) [] 0 0 g, h') | none => none
  | .pick c a b => match evO s c with | .p (.bool t) => some (if t then evO s a else evO s b, h) | _ => none
  | .box x => match intoT g h (evO s x) with
    | some (t, h1) => match ofAlloc d h1 (.cell g t) with | some h' => some (.ptr (d.getD 0) none [] g 0, h') | none => none
    | none => none
  | .build zs parts => if okB zs (parts.map (evO s)) then some (mkAgg (parts.map (evO s)), h) else none
  | .bsl mt z parts => if okB (List.replicate parts.length z) (parts.map (evO s)) then
      match (if mt then none else allP (parts.map (evO s))) with
      | some vs => some (.p (.sl vs), h)
      | none => match intoTs g h (parts.map (evO s)) with
        | some (ts, h1) => if csAll z ts then
            match ofAlloc d h1 (.vec g z ts) with | some h' => some (.own (d.getD 0) [] 0 ts.length g, h') | none => none
          else none
        | none => none
    else none
  | .bslp z parts => if okB (List.replicate parts.length z) (parts.map (evO s)) then
      match intoTs g h (parts.map (evO s)) with
      | some (ts, h1) => if csAll z ts then
          match ofAlloc d h1 (.vec g z ts) with
          | some h2 => match pureM h2 (.own (d.getD 0) [] 0 ts.length g) with | some v => some (.p v, upd h2 (d.getD 0) (some .gone)) | none => none
          | none => none
        else none
      | none => none
    else none
  | .load agg n x => match loadOp h agg n (evO s x) with | some v => some (v, h) | none => none
  | .store n a x => storeOp g h n (evO s a) (evO s x)
  | .nilc x => match evO s x with
    | .p (.ref v) => some (.p (.ref v), h)
    | .ptr id np rp g o => some (.ptr id np rp g o, h)
    | _ => none
  | .bin bl op x y => match evO s x, evO s y with
    | .p a, .p b => if isB a = bl then (match binP op a b with | some v => some (.p v, h) | none => none) else none
    | _, _ => none
  | .eqs neg td x y => match evO s x, evO s y with
    | .p a, .p b => if fits td a && fits td b then some (boolV (eqV a b != neg), h) else none
    | _, _ => none
  | .isnil fk neg x => match fk, evO s x with
    | false, .p .nilp | true, .p .nilf => some (boolV (true != neg), h)
    | false, .p (.ref _) | false, .ptr .. | true, .p (.fn ..) | true, .fn .. => some (boolV (false != neg), h)
    | _, _ => none
  | .not x => match evO s x with | .p (.bool t) => some (boolV !t, h) | _ => none
  | .neg x => match evO s x with | .p (.int k n) => some (.p (.int k (k.wrap (0 - n))), h) | _ => none
  | .inv x => match evO s x with
    | .p (.int k n) => match bitsP .xor k (if k.signed then -1 else k.max) n with | some m => some (.p (.int k m), h) | none => none
    | _ => none
  | .convI k x => match evO s x with | .p (.int _ n) => some (.p (.int k (k.wrap n)), h) | _ => none
  | .convS x => match evO s x with | .p (.str b) => some (.p (.str b), h) | _ => none
  | .convR x => match evO s x with | .p (.int _ n) => some (.p (.str (Utf8.encode n)), h) | _ => none
  | .mkfn f caps => match allP (caps.map (evO s)) with
    | some vs => some (.p (.fn f vs), h)
    | none => some (.fn f (caps.map (evO s)), h)
  | .mksl z bytes zero l c => match asI (evO s l), asI (evO s c) with
    | some l, some c => match zT g zero with
      | some t => if 0 ≤ l ∧ l ≤ c ∧ c.toNat * bytes ≤ room ∧ t.cs = z then
          match ofAlloc d h (.vec g z (List.replicate l.toNat t)) with
          | some h' => some (.own (d.getD 0) [] 0 l.toNat g, h')
          | none => none
        else none
      | none => none
    | _, _ => none
  | .sliceS x lo hi => match evO s x with
    | .p (.str b) => match lims b.size (lo.map (evO s)) (hi.map (evO s)) with | some (i, j) => some (.p (.str (b.extract i j)), h) | none => none
    | _ => none
  | .slice z x lo hi => match sliceOp h z (evO s x) (lo.map (evO s)) (hi.map (evO s)) with | some v => some (v, h) | none => none
  | .cut0 z x => match evO s x with
    | .p (.sl _) | .own .. | .nil _ => some (.nil z, h)
    | _ => none
  | .clr z zero x => match evO s x with
    | .p (.sl []) | .nil _ => some (.tup [], h)
    | .own id path off len g0 => match overwrite h id path g0 z off (List.replicate len zero) with
      | some h' => if zero.cs = z then some (.tup [], h') else none
      | none => none
    | _ => none
  | .faddr x i o => match evO s x with
    | .p (.ref (.agg l)) => match l[i]? with | some v => if PV.css (l.take i) = o then some (.p (.ref v), h) else none | none => none
    | .ptr id np rp g o0 => some (.ptr id np (rp ++ [i]) g (o0 + o), h)
    | _ => none
  | .fld agg n o x i => match evO s x with
    | .p (.agg l) => match l[i]? with | some v => if PV.css (l.take i) = o ∧ v.cs = n ∧ v.isAgg = agg then some (.p v, h) else none | none => none
    | .agg l => match l[i]? with | some v => if MV.css (l.take i) = o ∧ v.cs = n ∧ v.isAgg = agg ∧ isDead v = false then some (v, h) else none | none => none
    | _ => none
  | .iaddr z x i => match iaddrOp h z (evO s x) (evO s i) with | some v => some (v, h) | none => none
  | .iaddrA n z x i => match asIx n (evO s i) with
    | some k => match evO s x with
      | .p (.ref (.agg l)) => match l[k]? with | some v => if PV.css (l.take k) = k * z then some (.p (.ref v), h) else none | none => none
      | .ptr id np rp g o0 => some (.ptr id np (rp ++ [k]) g (o0 + k * z), h)
      | _ => none
    | none => none
  | .idx agg z n x i => match evO s x with
    | .p (.agg l) => match asIx n (evO s i) with
      | some k => match l[k]? with | some v => if PV.css (l.take k) = k * z ∧ v.cs = z ∧ v.isAgg = agg then some (.p v, h) else none | none => none
      | none => none
    | _ => none
  | .idxS x i => match evO s x with
    | .p (.str b) => match asIx b.size (evO s i) with
      | some k => match b.data[k]? with | some c => some (.p (.int .u8 c.toNat), h) | none => none
      | none => none
    | _ => none
  | .ext x i => match evO s x with
    | .tup l => match l[i]? with | some v => some (v, h) | none => none
    | _ => none
  | .call md f args => match calleeA (evO s f) (args.map (evO s)) with
    | some (f, al) => match md with
      | 0 => snapCall K h f al
      | 1 => sharedCall K g d h f al
      | _ => takeCall K g d h f al
    | none => none
  | .lenS x => match evO s x with | .p (.str b) => some (intV b.size, h) | _ => none
  | .appn z bytes zero x n => match evO s x, asI (evO s n) with
    | .nil _, some k => match zT g zero with
      | some t => if 0 < k ∧ k.toNat * bytes ≤ room ∧ t.cs = z then
          match ofAlloc d h (.vec g z (List.replicate k.toNat t)) with
          | some h' => some (.own (d.getD 0) [] 0 k.toNat g, h')
          | none => none
        else none
      | none => none
    | _, _ => none
  | .appk z x y => match elems h (evO s y) with
    | none => none
    | some ts => match allTP ts with
      | none => none
      | some vs => if csAll z ts then
          match evO s x with
          | .own id path off len g0 => match overwrite h id path g0 z (off + len) vs with
            | some h1 => some (.own id path off (len + vs.length) g0, h1)
            | none => none
          | _ => none
        else none
  | .sliceK z x lo hi => match evO s x with
    | .own id path off _ g0 => match vecAt (h id) path with
      | some (g', z', l) => if g' = g0 ∧ z' = z ∧ off ≤ l.length then
          match asBd (l.length - off) (evO s hi) with
          | some b => match asBd b (evO s lo) with | some a => some (.own id path (off + a) (b - a) g0, h) | none => none
          | none => none
        else none
      | none => none
    | _ => none
  | .slA n z x => match evO s x with
    | .p (.ref (.agg l)) => if l.length = n ∧ l.all (fun v => v.cs == z) = true then some (.p (.sl l), h) else none
    | _ => none
  | .slice3 x lo hi mx => match lenOp (evO s x) with
    | some n => match asBd n (evO s mx) with
      | some m => match asBd m (evO s hi) with
        | some b => match asBd b (evO s lo) with | some _ => some (.dead 1, h) | none => none
        | none => none
      | none => none
    | none => none
  | .capn x => match evO s x with | .nil _ => some (intV (0 : Nat), h) | _ => none
  | .len x => match lenOp (evO s x) with | some n => some (intV n, h) | none => none
  | .app pz z bytes x y => match appOp g d h z bytes (evO s x) (evO s y) with
    | some (.own id [] off len g1, h1) => if pz then
        match pureM h1 (.own id [] off len g1) with | some v => some (.p v, upd h1 id (some .gone)) | none => none
      else some (.own id [] off len g1, h1)
    | _ => none
  | .cpy z x y => cpyOp h z (evO s x) (evO s y)
  | .mx l => match l.map (evO s) with
    | .p v :: r => match allP r with
      | some vs => match foldMx (fun x y => if y > x then y else x) v vs with | some w => some (.p w, h) | none => none
      | none => none
    | _ => none
  | .mn l => match l.map (evO s) with
    | .p v :: r => match allP r with
      | some vs => match foldMx (fun x y => if y < x then y else x) v vs with | some w => some (.p w, h) | none => none
      | none => none
    | _ => none
  | .mkmap _ _ => match ofAlloc d h (.mp g [] []) with | some h' => some (.mref (d.getD 0) [] g, h') | none => none
  | .mlook td zero ok m k => match lookMap h td zero ok (evO s m) (evO s k) with | some v => some (v, h) | none => none
  | .mset td m k v => match setMap h td (evO s m) (evO s k) (evO s v) with | some h' => some (.dead 0, h') | none => none
  | .mdel .. => none
  | .bad => none

/-! ### regions -/
def wantedM (s : Slots) : Option (Nat × Bool) → Option Bool
  | none => some true
  | some (t, b) => match s t with
    | .p (.bool c) => some (c == b)
    | .tup [] => some false
    | _ => none
def stepIns (K : Calls3) (g : Nat) (i : Ins) (s : Slots) (h : Heap) : Option (Slots × Heap) :=
  match wantedM s i.guard with
  | some true => match evalOp K g i.dst s h i.op with
    | some (v, h') => some (updo s i.dst v, h')
    | none => none
  | some false => some (updo s i.dst (.tup []), h)
  | none => none
def stepAll (K : Calls3) : Nat → List Ins → Slots → Heap → Option (Slots × Heap)
  | _, [], s, h => some (s, h)
  | g, i :: r, s, h => match stepIns K g i s h with
    | some (s', h') => stepAll K (g + 1) r s' h'
    | none => none

/-! ### what an operation may touch, where the order within a region is open -/
def opds : MOp → List Opd
  | .move x | .box x | .load _ _ x | .nilc x | .isnil _ _ x | .not x | .neg x | .inv x | .convI _ x | .convS x | .convR x | .faddr x _ _ | .fld _ _ _ x _ | .ext x _ | .len x | .lenS x | .capn x | .cut0 _ x | .clr _ _ x | .slA _ _ x => [x]
  | .pick a b c => [a, b, c]
  | .build _ l | .bsl _ _ l | .bslp _ l | .mkfn _ l | .mx l | .mn l => l
  | .store _ a x | .bin _ _ a x | .eqs _ _ a x | .mksl _ _ _ a x | .iaddr _ a x | .iaddrA _ _ a x | .idx _ _ _ a x | .idxS a x | .app _ _ _ a x | .cpy _ a x | .mlook _ _ _ a x | .mdel a x => [a, x]
  | .slice _ x lo hi | .sliceS x lo hi => x :: lo.toList ++ hi.toList
  | .call _ f args => f :: args
  | .mset _ m k v => [m, k, v]
  | .slice3 x lo hi mx => [x, lo, hi, mx]
  | .appn _ _ _ x n => [x, n]
  | .appk _ x y => [x, y]
  | .sliceK _ x lo hi => [x, lo, hi]
  | .nilv _ | .mkmap .. | .bad => []
/-- only reads owned memory -/
def reads : MOp → Bool
  | .load .. | .iaddr .. | .mlook .. | .slice .. | .sliceK .. | .call 0 .. => true
  | _ => false
/-- does not look at owned memory at all -/
def idle : MOp → Bool
  | .move _ | .pick .. | .build .. | .nilc _ | .bin .. | .eqs .. | .isnil .. | .not _ | .neg _ | .inv _ | .convI .. | .convS _ | .convR _ | .mkfn .. | .cut0 .. | .faddr .. | .fld .. | .iaddrA .. | .idx .. | .idxS .. | .lenS _ | .capn _ | .slice3 .. | .slA .. | .len _ | .sliceS .. | .ext .. | .mx _ | .mn _ => true
  | _ => false
/-- roots that are made at one slot -/
def fam (i : Nat) : Nat := if i < extBase then i % 1000 else i
def foot (s : Slots) (h : Heap) (i : Ins) : List Nat :=
  match wantedM s i.guard with
  | some true => (i.dst.toList ++ roots1 h (roots1 h (refsMs ((opds i.op).map (evO s))))).map fam
  | _ => []
/-- a load through a field of a variable (true), or an append to an array that lies in a field (false): root, field, slot -/
abbrev Plc := Bool × Nat × Nat × Nat
def place0 (s : Slots) (d : Option Nat) : MOp → Option Plc
  | .load _ _ x => match evO s x with | .ptr id none [i] _ _ => some (true, id, i, 0) | _ => none
  | .app false _ _ x y => match evO s x with
    | .own id [i] _ _ _ => match evO s y, d with | .p (.sl _), some d => some (false, id, i, d) | _, _ => none
    | _ => none
  | _ => none
def placeI (s : Slots) (i : Ins) : Option Plc := match i.guard with | none => place0 s i.dst i.op | some _ => none
/-- a load and an append to another field of the same variable -/
def laOk (x : List Nat) : Option Plc → Option Plc → Bool
  | some (true, id, i, _), some (false, id', j, d) => id == id' && i != j && !x.contains (fam d)
  | _, _ => false
abbrev Feet := List (List Nat × Bool × Option Plc)
def disjointB (a b : List Nat) : Bool := a.all fun x => !b.contains x
def opdT : Opd → List Nat | .t n => [n] | _ => []
def usesI (i : Ins) : List Nat := (opds i.op).flatMap opdT ++ (match i.guard with | some (t, _) => [t] | none => [])
def apartI (x y : Ins) : Bool :=
  (match x.dst with | some d => !(usesI y).contains d && y.dst != some d | none => true) && (match y.dst with | some d => !(usesI x).contains d | none => true)
/-- what each operation touches, in the order of the text -/
def feet (K : Calls3) : Nat → List Ins → Slots → Heap → Feet
  | _, [], _, _ => []
  | g, i :: r, s, h => (foot s h i, idle i.op || reads i.op, placeI s i) :: (match stepIns K g i s h with
    | some (s', h') => feet K (g + 1) r s' h'
    | none => [])
def looseOk (F : Feet) (l : List (Nat × Nat)) : Bool :=
  l.all fun (a, b) => match F[a]?, F[b]? with
    | some (x, rx, px), some (y, ry, py) => (rx && ry) || disjointB x y || laOk x px py
    | _, _ => false

def runReg (K : Calls3) (loose : List (Nat × Nat)) (ops : List Ins) (σ : St) : Option St :=
  match stepAll K σ.nx ops σ.s σ.h with
  | some (s, h) => if loose.isEmpty || looseOk (feet K σ.nx ops σ.s σ.h) loose then some ⟨s, h, σ.nx + ops.length⟩ else none
  | none => none

/-- all arrays within a root bear a new stamp -/
def touchH (h : Heap) (γ : Nat) : MV → Option Heap
  | .ptr id none [] _ _ => match h id with
    | some (.cell a t) => some (upd h id (some (.cell a (stamp1 γ t))))
    | _ => none
  | .own id (i :: p) _ _ _ => match subO (h id) (i :: p) with
    | some (.vec g z l n) => match put (h id) (i :: p) (.vec g z (stamps γ l) n) with
      | some o => some (upd h id (some o))
      | none => none
    | _ => none
  | _ => none
def runGh (g : Gh) (σ : St) : Option St :=
  match g with
  | .keep ks ids => some (forget ks ids σ)
  | .freeze t => if 3000000 ≤ t then (match touchH σ.h σ.nx (.ptr (t - 3000000) none [] 0 0) with
    | some h => some ⟨σ.s, h, σ.nx + 1⟩
    | none => none) else if 2000000 ≤ t then (match σ.s (t % 1000), σ.h (t / 1000 % 1000) with
    | .nil z, none => some ⟨upd σ.s (t % 1000) (.own (t / 1000 % 1000) [] 0 0 σ.nx), upd σ.h (t / 1000 % 1000) (some (.vec σ.nx z [])), σ.nx + 1⟩
    | .nil _, some _ => none
    | _, _ => some ⟨σ.s, σ.h, σ.nx + 1⟩) else if 1000000 ≤ t then (match touchH σ.h σ.nx (σ.s (t - 1000000)) with
    | some h => some ⟨σ.s, h, σ.nx + 1⟩
    | none => none) else match σ.s t with
    | .own id [] 0 len g0 => match σ.h id with
      | some (.vec g1 _ l) => if g0 = g1 ∧ len ≤ l.length then
          match pureTs l with
          | some vs => some ⟨upd σ.s t (.p (.sl (vs.take len))), upd σ.h id (some .gone), σ.nx⟩
          | none => none
        else none
      | _ => none
    | .own id (i :: p) _ _ _ => match subO (σ.h id) (i :: p) with
      | some (.vec g1 z l n) => match pureTs l with
        | some vs => match put (σ.h id) (i :: p) (.vec g1 z (vs.map .p) n) with
          | some o' => some ⟨σ.s, upd σ.h id (some o'), σ.nx⟩
          | none => none
        | none => none
      | _ => none
    | .ptr id none [] g0 0 => match σ.h id with
      | some (.cell g1 u) => if g0 = g1 then
          match pureT u with
          | some v => some ⟨upd σ.s t (.p (.ref v)), upd σ.h id (some .gone), σ.nx⟩
          | none => none
        else none
      | _ => none
    | .p v => some ⟨upd σ.s t (.p v), σ.h, σ.nx⟩
    | .nil _ => some ⟨upd σ.s t (.p (.sl [])), σ.h, σ.nx⟩
    | _ => none

/-! ### functions -/
def readRes (s : Slots) (h : Heap) : RV → Option MV
  | .tmp t => some (s t)
  | .cell a agg n => loadOp h agg n (s a)
def readAll (s : Slots) (h : Heap) : List RV → Option (List MV)
  | [] => some []
  | x :: r => match readRes s h x, readAll s h r with | some v, some vs => some (v :: vs) | _, _ => none
def packRes : List MV → MV
  | [v] => v
  | l => .tup l
def argSlots (args : List MV) : Slots := fun i => args.getD i (.dead 0)
def extHeap (ext : List (Obj Nat)) : Heap := fun i => if extBase ≤ i then ext[i - extBase]? else none
def isLocal (i : Nat) : Bool := i < extBase
/-- the roots that escape are renamed -/
def outId (n : Nat) (esc : List Nat) (i : Nat) : Option Nat := if extBase ≤ i then (if i < extBase + n then some i else none) else (indexIn esc i).map (escBase + ·)
-- a result as a pure value, but for references to roots that came in
mutual
def sfM (h : Heap) : MV → Option MV
  | .p v => some (.p v)
  | .agg l => match sfMs h l with | some vs => some (mkAgg vs) | none => none
  | .tup l => match sfMs h l with | some vs => some (.tup vs) | none => none
  | v => if (refsM v).all (fun i => !isLocal i) && !(refsM v).isEmpty then some v else match pureM h v with | some w => if (refsM v).all isLocal then some (.p w) else none | none => none
def sfMs (h : Heap) : List MV → Option (List MV)
  | [] => some []
  | x :: r => match sfM h x, sfMs h r with | some v, some vs => some (v :: vs) | _, _ => none
end
def finish (F : MFun) (n : Nat) (σ : St) : Option Ret :=
  if 1000000 < n then none else
  match readAll σ.s σ.h F.res with
  | none => none
  | some vs =>
    let r := packRes vs
    let extIds := (List.range n).map (extBase + ·)
    if F.frz then
      match sfM σ.h r, getAll σ.h extIds with
      | some v, some ext =>
        let φ := cleanM σ.h (outId n []) touched
        some (φ v, ext.map (mapO φ touched), [])
      | _, _ => none
    else
      let esc := (roots1 σ.h (roots1 σ.h (refsM r ++ extIds))).filter isLocal
      let φ := cleanM σ.h (outId n esc) touched
      match getAll σ.h extIds, getAll σ.h esc with
      | some ext, some es => some (φ r, ext.map (mapO φ touched), es.map (mapO φ (fun _ => 1)))
      | _, _ => none
/-- library functions whose contract is proved by hand -/
inductive Prim where
  | clone (z bytes : Nat)
  | sort
  | insert
  deriving Inhabited
def asInts : List PV → Option (List Int)
  | [] => some []
  | .int .i64 n :: r => match asInts r with | some l => some (n :: l) | none => none
  | _ :: _ => none
def insI (x : Int) : List Int → List Int
  | [] => [x]
  | y :: r => if x ≤ y then x :: y :: r else y :: insI x r
def sorted : List Int → List Int
  | [] => []
  | x :: r => insI x (sorted r)
/-- slices.Sort of an array of numbers that the caller lends -/
def sortOwn (path : List Nat) (off len g : Nat) (o : Obj Nat) : Option Ret :=
  match elems (extHeap [o]) (.own extBase path off len g) with
  | some ts => match allTP ts with
    | some vs => match asInts vs with
      | some zs => if zs.length < 4611686018427387904 then
          match overwrite (extHeap [o]) extBase path g 1 off ((sorted zs).map (.int .i64)) with
          | some h' => match h' extBase with | some o' => some (.tup [], [o'], []) | none => none
          | none => none
        else none
      | none => none
    | none => none
  | none => none
/-- slices.Insert of one number into an array that the caller lends whole -/
def insertOwn (len i g : Nat) (v : Int) (o o2 : Obj Nat) : Option Ret :=
  match o with
  | .vec g' z l => match allTP l with
    | some vs => match asInts vs with
      | some zs => if g' = g ∧ z = 1 ∧ zs.length = len ∧ i ≤ len ∧ len < 1000000000000 then
          some (.own extBase [] 0 (len + 1) 1, [.vec 1 1 ((zs.take i ++ v :: zs.drop i).map fun n => .p (.int .i64 n)), o2], [])
        else none
      | none => none
    | none => none
  | _ => none
def primF : Prim → List MV → List (Obj Nat) → Option Ret
  | .clone z bytes, [.p (.sl l)], [] => if l.all (fun v => v.cs == z) && decide (l.length * bytes ≤ room) then
        some (.own escBase [] 0 l.length 1, [], [.vec 1 z (l.map .p)])
      else none
  | .sort, [.own id path off len g], [o] => if id = extBase then sortOwn path off len g o else none
  | .sort, [.nil _], [] => some (.tup [], [], [])
  | .sort, [.p (.sl [])], [] => some (.tup [], [], [])
  | .insert, [.own id [] 0 len g, .p (.int .i64 i), .own id2 [] 0 1 g2], [o, .vec g3 1 [.p (.int .i64 v)]] => if id = extBase ∧ id2 = extBase + 1 ∧ g3 = g2 ∧ 0 ≤ i then insertOwn len i.toNat g v o (.vec g2 1 [.p (.int .i64 v)]) else none
  | _, _, _ => none
inductive FnDef where
  | code (F : MFun)
  | prim (p : Prim)
  deriving Inhabited
abbrev Tbl := Nat → Option FnDef
def callF (Φ : Tbl) (R : MC → St → Option (Ex × St)) : Calls3 := fun f args ext =>
  match Φ f with
  | none => none
  | some (.prim p) => primF p args ext
  | some (.code F) => match R F.body ⟨argSlots args, extHeap ext, 1⟩ with
    | some (.normal, σ) => finish F ext.length σ
    | some (.ret, σ) => finish F ext.length σ
    | _ => none

def run (Φ : Tbl) : Nat → MC → St → Option (Ex × St)
  | 0, _, _ => none
  | n + 1, c, σ => match c with
    | .skip => some (.normal, σ)
    | .ret => some (.ret, σ)
    | .bad => none
    | .exit id => some (.exit id, σ)
    | .gh g => match runGh g σ with | some σ' => some (.normal, σ') | none => none
    | .reg loose ops => match runReg (callF Φ (run Φ n)) loose ops σ with | some σ' => some (.normal, σ') | none => none
    | .seq a b => match run Φ n a σ with
      | some (.normal, σ') => run Φ n b σ'
      | r => r
    | .cond c a b => match evO σ.s c with
      | .p (.bool true) => run Φ n a σ
      | .p (.bool false) => run Φ n b σ
      | _ => none
    | .block id c => match run Φ n c σ with
      | some (.exit j, σ') => if j = id then some (.normal, σ') else some (.exit j, σ')
      | r => r
    | .loop ks ids c => match run Φ n c (forget ks ids σ) with
      | some (.normal, σ') => run Φ n (.loop ks ids c) σ'
      | r => r
end Go.Mid
/- From the model's code to the middle semantics' code: a function, so that nothing has to be believed. -/
namespace Go.Mid
set_option linter.unusedSimpArgs false
set_option linter.unusedVariables false

structure Ann where
  /-- for each loop, exit and return, in the order of the text: the slots and roots that live on -/
  keep : List (List Nat × List Nat) := []
  /-- region, slots that are frozen ahead of it -/
  fz : List (Nat × List Nat) := []
  /-- slots of calls that share owned memory with their callee -/
  sh : List Nat := []
  /-- slots of calls whose result is owned memory -/
  tk : List Nat := []
  /-- slots of slice literals that are changed later -/
  mt : List Nat := []
  /-- slots of 'append' whose result is never changed -/
  pz : List Nat := []
  /-- the results are handed over as pure values -/
  frz : Bool := false
  deriving Inhabited

section
variable (P : Program)
def hasU (t : TypeId) : Bool := (P.underlying t).isSome
def isAggT (t : TypeId) : Bool := match P.underlying t with | some (.struct _) | some (.array _ _) => true | _ => false

def seqO {α : Type} : List (Option α) → Option (List α)
  | [] => some []
  | x :: r => match x, seqO r with | some v, some vs => some (v :: vs) | _, _ => none
/-- the zero value of a type -/
def zeroM : Nat → TypeId → Option MV
  | 0, _ => none
  | n + 1, t => match P.underlying t with
    | some .bool => some (.p (.bool false))
    | some (.int k) => some (.p (.int k 0))
    | some .string => some (.p (.str ⟨#[]⟩))
    | some (.pointer _) => some (.p .nilp)
    | some (.func ..) => some (.p .nilf)
    | some (.map ..) => some (.p (.mp [] []))
    | some (.slice e) => some (.nil (P.cellsOf e))
    | some (.struct fs) => match seqO (fs.toList.map fun f => zeroM n f.type) with | some l => some (mkAgg l) | none => none
    | some (.array k e) => match zeroM n e with | some v => some (mkAgg (List.replicate k v)) | none => none
    | _ => none
mutual
/-- is this pure value what the next cells hold? the cells behind -/
def chkP : PV → List Value → Option (List Value)
  | .int k n, cs => match cs with | .int k' n' :: r => if k = k' ∧ n = n' then some r else none | _ => none
  | .bool b, cs => match cs with | .bool b' :: r => if b = b' then some r else none | _ => none
  | .str s, cs => match cs with | .string s' :: r => if s.size = 0 ∧ s'.size = 0 then some r else none | _ => none
  | .nilp, cs => match cs with | .pointer none :: r => some r | _ => none
  | .nilf, cs => match cs with | .nilFunc :: r => some r | _ => none
  | .mp ks vs, cs => match cs with | .map none :: r => if ks.isEmpty && vs.isEmpty then some r else none | _ => none
  | .agg l, cs => chkPs l cs
  | _, _ => none
def chkPs : List PV → List Value → Option (List Value)
  | [], cs => some cs
  | x :: r, cs => match chkP x cs with | some d => chkPs r d | none => none
end
mutual
def chkM : MV → List Value → Option (List Value)
  | .p v, cs => chkP v cs
  | .nil _, cs => match cs with | .slice _ 0 0 :: r => some r | _ => none
  | .agg l, cs => chkMs l cs
  | _, _ => none
def chkMs : List MV → List Value → Option (List Value)
  | [], cs => some cs
  | x :: r, cs => match chkM x cs with | some d => chkMs r d | none => none
end
/-- the zero value's cells, by the program's own table -/
def zcells (t : TypeId) : Option (List Value) := match P.info? t with
  | some i => match i.zero with | some z => some z.cells.toList | none => none
  | none => none
def zeroC (t : TypeId) : Option MV := match zeroM P 20 t, zcells P t with
  | some v, some cs => match chkM v cs with | some [] => some v | _ => none
  | _, _ => none

/-- a zero value that is pure -/
def zeroP (t : TypeId) : Option PV := match zeroC P t with
  | some (.p v) => some v
  | some (.nil _) => some (.sl [])
  | _ => none
def constM (t : TypeId) : Value → Option MV
  | .bool b => some (.p (.bool b))
  | .int k n => some (.p (.int k n))
  | .string s => some (.p (.str s))
  | .pointer none => some (.p .nilp)
  | .nilFunc => some (.p .nilf)
  | .map none => some (.p (.mp [] []))
  | .slice none 0 0 => match P.underlying t with | some (.slice e) => some (.nil (P.cellsOf e)) | _ => some (.nil 0)
  | _ => none
def tabU8 (l : List Int) : PV := .agg (l.map (.int .u8 ·))
/-- what the package variables of Go's library hold that are known by name -/
def gblV (g : Nat) : Option PV := match P.globals[g]? with
  | some x => if x.name == "math/bits.deBruijn32tab" then some (tabU8 [0, 1, 28, 2, 29, 14, 24, 3, 30, 22, 20, 15, 25, 17, 4, 8, 31, 27, 13, 23, 21, 19, 16, 7, 26, 12, 18, 6, 11, 5, 10, 9]) else none
  | none => none
def opdC (t : TypeId) : Operand → Option Opd
  | .tmp n => some (.t n)
  | .const v => match constM P t v with | some m => some (.c m) | none => none
  | .func f => if f < bndF then some (.f f) else none
  | .global g => match gblV P g with | some v => some (.c (.p (.ref v))) | none => none
def opdsC : List TypeId → List Operand → Option (List Opd)
  | t :: ts, x :: r => match opdC P t x, opdsC ts r with | some o, some os => some (o :: os) | _, _ => none
  | [], [] => some []
  | [], x :: r => match opdC P 0 x, opdsC [] r with | some o, some os => some (o :: os) | _, _ => none
  | _, [] => some []
def optC : Option Operand → Option (Option Opd)
  | none => some none
  | some x => match opdC P 0 x with | some o => some (some o) | none => none

/-- the parts of a composite literal; rest: the cells of the zero value from the i-th part on -/
def partsC (parts : List (Nat × Operand)) : List TypeId → Nat → List Value → Option (List Opd)
  | [], _, rest => if rest.isEmpty then some [] else none
  | t :: r, i, rest => if (rest.take (P.cellsOf t)).length = P.cellsOf t then
      match (match parts.find? (·.1 == i) with
        | some (_, x) => opdC P t x
        | none => match zeroM P 20 t with | some v => (match chkM v (rest.take (P.cellsOf t)) with | some [] => some (.c v) | _ => none) | none => none), partsC parts r (i + 1) (rest.drop (P.cellsOf t)) with
      | some o, some os => some (o :: os)
      | _, _ => none
    else none
def nodupB : List Nat → Bool
  | [] => true
  | x :: r => !r.contains x && nodupB r
def partsOk (n : Nat) (parts : List (Nat × Operand)) : Bool := parts.all (fun p => decide (p.1 < n)) && (nodupB (parts.map (·.1)) && decide (n ≤ 9223372036854775807))
def offsOk : List Field → Nat → Bool
  | [], _ => true
  | f :: r, o => f.offset == o && hasU P f.type && offsOk r (o + P.cellsOf f.type)

def tdsOf : List (Field × Option TD) → Nat → Option (List TD)
  | [], _ => some []
  | (f, d) :: r, off => match d, tdsOf r (off + P.cellsOf f.type) with
    | some d, some ds => if f.name ≠ "_" ∧ f.offset = off ∧ d.cs = P.cellsOf f.type then some (d :: ds) else none
    | _, _ => none
/-- the shape of a type whose values are compared cell by cell -/
def tdOf : Nat → TypeId → Option TD
  | 0, _ => none
  | n + 1, t => match P.underlying t with
    | some (.int k) => some (.int k)
    | some .bool => some .bool
    | some .string => some .str
    | some (.struct fs) => if P.stoodInHeld t then none else match tdsOf P (fs.toList.map fun f => (f, tdOf n f.type)) 0 with | some l => some (.agg l) | none => none
    | some (.array k e) => match tdOf n e with | some d => if d.cs = P.cellsOf e then some (.agg (List.replicate k d)) else none | none => none
    | _ => none
def eqable (t : TypeId) : Option TD := if P.eqGuardType P.depth t then none else tdOf P 20 t

/-- types of keys: numbers, texts -/
def keyTd (t : TypeId) : Option TD := match P.underlying t with
  | some (.int k) => some (.int k)
  | some .bool => some .bool
  | some .string => some .str
  | _ => none
def aggV : Value → Bool | .agg _ => true | _ => false
/-- the zero value that a lookup may answer -/
def zeroL (t : TypeId) : Option PV := match P.info? t with
  | some i => match i.zero, zeroP P t with
    | some z, some v => if aggV z = v.isAgg then some v else none
    | _, _ => none
  | none => none

def isZeroC : Option Operand → Bool
  | some (.const (.int k n)) => k == .i64 && n == 0
  | _ => false
def opC (sh : Nat) (mt pz : Bool) (rt : TypeId) : Op → Option MOp
  | .move x => match opdC P rt x with | some o => some (.move o) | none => none
  | .assign x => match x, P.underlying rt with
    | .const (.slice none 0 0), some (.slice e) => some (.nilv (P.cellsOf e))
    | x, _ => match opdC P rt x with | some o => some (.move o) | none => none
  | .pick c a b => match opdC P 0 c, opdC P rt a, opdC P rt b with | some c, some a, some b => some (.pick c a b) | _, _, _ => none
  | .alloc t => match zeroC P t with | some z => some (.box (.c z)) | none => none
  | .box t x => match opdC P t x with | some o => some (.box o) | none => none
  | .build t parts => match zcells P t, P.underlying t with
    | some zc, some (.struct fs) => if partsOk fs.size parts.toList && offsOk P fs.toList 0 then
        match partsC P parts.toList (fs.toList.map (·.type)) 0 zc with | some l => some (.build (fs.toList.map fun f => P.cellsOf f.type) l) | none => none
      else none
    | some zc, some (.array n e) => if partsOk n parts.toList && hasU P e then
        match partsC P parts.toList (List.replicate n e) 0 zc with | some l => some (.build (List.replicate n (P.cellsOf e)) l) | none => none
      else none
    | _, _ => none
  | .buildSlice t n parts => match P.underlying t with
    | some (.slice e) => if P.cellsOf e = 0 ∨ n * P.cellsOf e > 16777216 then none else
      match zcells P e with
      | some zc => if zc.length = P.cellsOf e ∧ partsOk n parts.toList then
          match partsC P parts.toList (List.replicate n e) 0 (List.replicate n zc).flatten with | some l => some (if pz then .bslp (P.cellsOf e) l else .bsl (mt || n == 0) (P.cellsOf e) l) | none => none
        else none
      | none => none
    | _ => none
  | .load t x => match opdC P 0 x with | some o => if hasU P t then some (.load (isAggT P t) (P.cellsOf t) o) else none | none => none
  | .store t a x => match opdC P 0 a, opdC P t x with | some a, some x => if hasU P t then some (.store (P.cellsOf t) a x) else none | _, _ => none
  | .nilCheck x => match opdC P 0 x with | some o => some (.nilc o) | none => none
  | .binOp op t x y yt => match opdC P t x, opdC P yt y with
    | some a, some b => match P.underlying t with
      | some (.int _) | some .string => some (.bin false op a b)
      | some .bool => some (.bin true op a b)
      | some (.struct _) | some (.array ..) => (match op, eqable P t with | .eql, some d => some (.eqs false d a b) | .neq, some d => some (.eqs true d a b) | _, _ => none)
      | some (.pointer _) => match op, y with
        | .eql, .const (.pointer none) => some (.isnil false false a)
        | .neq, .const (.pointer none) => some (.isnil false true a)
        | _, _ => none
      | some (.func ..) => match op, y with
        | .eql, .const .nilFunc => some (.isnil true false a)
        | .neq, .const .nilFunc => some (.isnil true true a)
        | _, _ => none
      | _ => none
    | _, _ => none
  | .unOp op t x => match opdC P t x with
    | some a => match op with | .not => some (.not a) | .neg => some (.neg a) | .xor => some (.inv a) | _ => none
    | none => none
  | .convert src dst x => match opdC P src x with
    | some a => match P.underlying src, P.underlying dst with
      | some (.int _), some (.int k) => some (.convI k a)
      | some .string, some .string => some (.convS a)
      | some (.int _), some .string => some (.convR a)
      | _, _ => none
    | none => none
  | .makeFunc (.func f) first caps => if bndF ≤ f then none else if first.size = 0 then (match opdsC P [] caps.toList with | some l => some (.mkfn f l) | none => none) else if caps.size = 0 then (match opdsC P [] first.toList with | some l => some (.mkfn (bndF + f) l) | none => none) else none
  | .makeSlice t l c => match P.underlying t with
    | some (.slice e) => if P.cellsOf e = 0 ∨ P.bytesOf e = 0 then none else match zeroC P e, opdC P 0 l, opdC P 0 c with
      | some z, some l, some c => some (.mksl (P.cellsOf e) (P.bytesOf e) z l c)
      | _, _, _ => none
    | _ => none
  | .slice t x lo hi mx => if mx.isNone then
      match opdC P t x, optC P lo, optC P hi with
      | some x, some lo, some hi => match P.underlying t with
        | some (.slice e) => if P.cellsOf e = 0 then none else if mt then (match lo, hi with | some lo, some hi => some (.sliceK (P.cellsOf e) x lo hi) | _, _ => none) else some (.slice (P.cellsOf e) x lo hi)
        | some .string => some (.sliceS x lo hi)
        | some (.array n e) => if P.cellsOf e = 0 then none else (match lo, hi with | none, none => some (.slA n (P.cellsOf e) x) | _, _ => none)
        | _ => none
      | _, _, _ => none
    else if lo.isNone && isZeroC hi && isZeroC mx then
      match opdC P t x, P.underlying t with
      | some x, some (.slice e) => if P.cellsOf e = 0 then none else some (.cut0 (P.cellsOf e) x)
      | _, _ => none
    else match opdC P t x, lo.bind (opdC P 0), hi.bind (opdC P 0), mx.bind (opdC P 0) with
      | some x, some lo, some hi, some mx => match P.underlying t with | some (.slice e) => if P.cellsOf e = 0 then none else some (.slice3 x lo hi mx) | _ => none
      | _, _, _, _ => none
  | .fieldAddr t x f => match opdC P 0 x, P.underlying t with
    | some x, some (.struct fs) => match fs[f]? with
      | some fd => if P.cellsOf fd.type = 0 then none else some (.faddr x f fd.offset)
      | none => none
    | _, _ => none
  | .field t x f => match opdC P t x, P.underlying t with
    | some x, some (.struct fs) => match fs[f]? with
      | some fd => if hasU P fd.type then some (.fld (isAggT P fd.type) (P.cellsOf fd.type) fd.offset x f) else none
      | none => none
    | _, _ => none
  | .indexAddr t x i => match opdC P 0 x, opdC P 0 i, P.underlying t with
    | some x, some i, some (.slice e) => if P.cellsOf e = 0 then none else some (.iaddr (P.cellsOf e) x i)
    | some x, some i, some (.array n e) => if P.cellsOf e = 0 then none else some (.iaddrA n (P.cellsOf e) x i)
    | _, _, _ => none
  | .index t x i => match opdC P t x, opdC P 0 i, P.underlying t with
    | some x, some i, some (.array n e) => if hasU P e then some (.idx (isAggT P e) (P.cellsOf e) n x i) else none
    | some x, some i, some .string => some (.idxS x i)
    | _, _, _ => none
  | .extract x i => match opdC P 0 x with | some o => some (.ext o i) | none => none
  | .makeMap t r => match r, P.underlying t with | none, some (.map kt et) => some (.mkmap ((keyTd P kt).getD .bool) ((tdOf P 20 et).getD .bool)) | _, _ => none
  | .lookup t m k ok => match P.underlying t with
    | some (.map kt et) => match opdC P t m, opdC P kt k, zeroL P et, keyTd P kt with
      | some m, some k, some z, some td => some (.mlook td (.p z) ok m k)
      | _, _, _, _ => none
    | _ => none
  | .mapUpdate t m k v => match P.underlying t with
    | some (.map kt et) => match opdC P t m, opdC P kt k, opdC P et v, keyTd P kt with
      | some m, some k, some v, some td => some (.mset td m k v)
      | _, _, _, _ => none
    | _ => none
  | .call c => match c.callee with
    | .value f => match opdC P 0 f, opdsC P c.argTypes.toList c.args.toList with
      | some f, some l => some (.call sh f l)
      | _, _ => none
    | .invoke .. => none
    | .builtin b => match opdsC P c.argTypes.toList c.args.toList with
      | none => none
      | some l => match b, l, c.argTypes.toList with
        | .len, [x], [t] => match P.underlying t with | some .string => some (.lenS x) | some (.slice _) => some (.len x) | _ => none
        | .cap, [x], [t] => match P.underlying t with | some (.slice _) => some (.capn x) | _ => none
        | .append, [x, y], [t, ty] => match P.underlying t, P.underlying ty with
          | some (.slice e), some (.int _) => if P.cellsOf e = 0 ∨ P.bytesOf e = 0 then none else match zeroC P e with | some z => some (.appn (P.cellsOf e) (P.bytesOf e) z x y) | none => none
          | some (.slice e), _ => if mt then (if t = ty ∧ P.cellsOf e ≠ 0 ∧ P.bytesOf e ≠ 0 then some (.appk (P.cellsOf e) x y) else none) else if t = ty ∧ P.cellsOf e ≠ 0 ∧ P.bytesOf e ≠ 0 ∧ (zcells P e).map List.length = some (P.cellsOf e) then some (.app pz (P.cellsOf e) (P.bytesOf e) x y) else none
          | _, _ => none
        | .copy, [x, y], [t, _] => match P.underlying t with | some (.slice e) => if P.cellsOf e = 0 then none else some (.cpy (P.cellsOf e) x y) | _ => none
        | .clear, [x], [t] => match P.underlying t with
          | some (.slice e) => match zeroP P e with
            | some v => if P.cellsOf e = 0 then none else some (.clr (P.cellsOf e) v x)
            | _ => none
          | _ => none
        | .min, l, _ => some (.mn l)
        | .max, l, _ => some (.mx l)
        | .delete, [m, k], [t, _] => match P.underlying t with | some (.map ..) => some (.mdel m k) | _ => none
        | _, _, _ => none
  | _ => none

def guardC (ops : Array Oper) : Option (Nat × Bool) → Option (Option (Nat × Bool))
  | none => some none
  | some (j, b) => match (ops[j]?).bind (·.dst) with | some t => some (some (t, b)) | none => none
def dstOk (nt : Nat) (o : Oper) : Bool := match o.dst with | some d => decide (d < nt) | none => true
def modeC (A : Ann) (o : Oper) : Nat := match o.dst with | some d => if A.sh.contains d then 1 else if A.tk.contains d then 2 else 0 | none => 0
def inC (l : List Nat) (o : Oper) : Bool := match o.dst with | some d => l.contains d | none => false
def insC (A : Ann) (nt : Nat) (ops : Array Oper) (o : Oper) : Option Ins :=
  if dstOk nt o then
    match guardC ops o.guard with
    | some g => some ⟨o.dst, g, (opC P (modeC A o) (inC A.mt o) (inC A.pz o) o.type o.op).getD .bad⟩
    | none => none
  else none
def inssC (A : Ann) (nt : Nat) (ops : Array Oper) : List Oper → Option (List Ins)
  | [] => some []
  | o :: r => match insC P A nt ops o, inssC A nt ops r with | some i, some is => some (i :: is) | _, _ => none

/-- pairs of operations that touch owned memory and whose order is left open -/
def looseC (ops : Array Oper) (is : List Ins) : List (Nat × Nat) :=
  let b := Region.before ops
  (List.range is.length).flatMap fun j => (List.range j).filterMap fun i =>
    match is[i]?, is[j]? with
    | some x, some y => if idle x.op || idle y.op || (reads x.op && reads y.op) || (b.getD j 0).testBit i then none else some (i, j)
    | _, _ => none
/-- every edge leads back, and what is not ordered does not share a slot -/
def drawOk (ops : Array Oper) (is : List Ins) : Bool :=
  let b := Region.before ops
  (List.range is.length).all fun j =>
    (match ops[j]? with | some o => o.after.toList.all fun e => !Region.binds .any e || decide (e.on < j) | none => false) &&
    (List.range j).all fun i => (b.getD j 0).testBit i || match is[i]?, is[j]? with | some x, some y => apartI x y | _, _ => false

def gates (l : List Nat) (c : MC) : MC := l.foldr (fun s c => .seq (.gh (.freeze s)) c) c
/-- n: the number of loops, exits and returns that lie ahead in the text -/
def codeC (A : Ann) (nt : Nat) : Code → Nat → Option (MC × Nat)
  | .skip, n => some (.skip, n)
  | .ret, n => some (.seq (.gh (.keep (A.keep.getD n ([], [])).1 (A.keep.getD n ([], [])).2)) .ret, n + 1)
  | .exit id, n => some (.seq (.gh (.keep (A.keep.getD n ([], [])).1 (A.keep.getD n ([], [])).2)) (.exit id), n + 1)
  | .region id ops draw, n => match inssC P A nt ops ops.toList with
    | some is => if !draw || drawOk ops is then some (gates ((A.fz.find? (·.1 == id)).elim [] (·.2)) (.reg (if draw then looseC ops is else []) is), n) else some (.bad, n)
    | none => none
  | .seq a b, n => match codeC A nt a n with
    | some (x, n1) => match codeC A nt b n1 with
      | some (y, n2) => some (.seq x y, n2)
      | none => none
    | none => none
  | .cond c a b, n => match opdC P 0 c, codeC A nt a n with
    | some c, some (x, n1) => match codeC A nt b n1 with
      | some (y, n2) => some (.cond c x y, n2)
      | none => none
    | _, _ => none
  | .block id c, n => match codeC A nt c n with | some (x, n1) => some (.block id x, n1) | none => none
  | .loop c, n => match codeC A nt c (n + 1) with
    | some (x, n1) => some (.loop (A.keep.getD n ([], [])).1 (A.keep.getD n ([], [])).2 x, n1)
    | none => none
  | _, n => some (.bad, n)

def resC (tmps : Nat) : ResultVar → Option RV
  | .tmp t => if t < tmps then some (.tmp t) else none
  | .cell a t => if a < tmps ∧ hasU P t = true then some (.cell a (isAggT P t) (P.cellsOf t)) else none
def ressC (tmps : Nat) : List ResultVar → Option (List RV)
  | [] => some []
  | x :: r => match resC P tmps x, ressC tmps r with | some v, some vs => some (v :: vs) | _, _ => none
def funC (A : Ann) (fn : Func) : Option MFun :=
  match fn.body with
  | some c => match codeC P A fn.ntmps c 0, ressC P fn.ntmps fn.results.toList with
    | some (b, _), some rs => some ⟨b, rs, A.frz⟩
    | _, _ => none
  | none => none
end
end Go.Mid
/- What the middle semantics' values and owned memory are in the model's world: the relation, and how it is kept. -/
namespace Go.Mid
set_option linter.unusedSimpArgs false
set_option linter.unusedVariables false
open Go.RowKit
/-- a function's value: with what it captured, or a method with its receiver -/
def fnV (f : Nat) (vs : Array Value) : Value := if f < bndF then .func (.func f) #[] vs else .func (.func (f - bndF)) vs #[]
theorem fnV_lt {f : Nat} {vs : Array Value} (h : f < bndF) : fnV f vs = .func (.func f) #[] vs := if_pos h
theorem fnV_ge {f : Nat} {vs : Array Value} (h : bndF ≤ f) : fnV f vs = .func (.func (f - bndF)) vs #[] := if_neg (Nat.not_lt.2 h)
theorem fnV_is (f : Nat) (vs : Array Value) : ∃ g i c, fnV f vs = .func g i c := by
  unfold fnV; split <;> exact ⟨_, _, _, rfl⟩
theorem fnV_cells (f : Nat) (vs : Array Value) : (fnV f vs).cells = #[fnV f vs] := by
  unfold fnV; split <;> rfl

/-! ### annotated trees: beside the stamp, the block and its room -/
structure An where
  g : Nat
  b : Option Nat
  cap : Nat

section
variable {α β : Type} (f : α → β)
mutual
def T.mapA : T α → T β
  | .p v => .p v
  | .m v => .m v
  | .agg l => .agg (T.mapAs l)
  | .vec a z l n => .vec (f a) z (T.mapAs l) n
  | .mp a ks l => .mp (f a) ks (T.mapAs l)
  | .hole n => .hole n
def T.mapAs : List (T α) → List (T β)
  | [] => []
  | x :: r => T.mapA x :: T.mapAs r
end
def Obj.mapA : Obj α → Obj β
  | .cell a t => .cell (f a) (t.mapA f)
  | .vec a z l => .vec (f a) z (T.mapAs f l)
  | .mp a ks l => .mp (f a) ks (T.mapAs f l)
  | .gone => .gone

theorem T.mapAs_eq (l : List (T α)) : T.mapAs f l = l.map (T.mapA f) := by
  induction l with
  | nil => rfl
  | cons x r ih => simp [T.mapAs, ih]
end

/-! ### rows of cells -/
def Row (w : World) (b o : Nat) (cs : List Value) : Prop := ∀ j v, cs[j]? = some v → w.cell? ⟨b, o + j, none⟩ = some v
def Blk (w : World) (b n : Nat) : Prop := ∃ c ty, w.heap[b]? = some (.cells c ty (0, 0)) ∧ c.size = n

theorem Row.nil {w : World} {b o : Nat} : Row w b o [] := fun j v h => by simp at h
theorem Row.append {w : World} {b o : Nat} {c d : List Value} : Row w b o (c ++ d) ↔ Row w b o c ∧ Row w b (o + c.length) d := by
  constructor
  · intro h
    refine ⟨fun j v hj => h j v ?_, fun j v hj => ?_⟩
    · rw [List.getElem?_append_left (by exact (List.getElem?_eq_some_iff.1 hj).1)]; exact hj
    · have := h (c.length + j) v (by rw [List.getElem?_append_right (by omega)]; simpa using hj)
      rwa [← Nat.add_assoc] at this
  · rintro ⟨h1, h2⟩ j v hj
    by_cases hlt : j < c.length
    · rw [List.getElem?_append_left hlt] at hj; exact h1 j v hj
    · rw [List.getElem?_append_right (by omega)] at hj
      have := h2 (j - c.length) v hj
      rwa [Nat.add_assoc, Nat.add_sub_cancel' (by omega)] at this
theorem Row.one {w : World} {b o : Nat} {v : Value} : Row w b o [v] ↔ w.cell? ⟨b, o, none⟩ = some v := by
  constructor
  · intro h; exact h 0 v rfl
  · intro h j u hj
    cases j with
    | zero => simp at hj; subst hj; exact h
    | succ j => simp at hj
theorem cell_of_heap {w w' : World} {b : Nat} (h : w'.heap[b]? = w.heap[b]?) (o : Nat) : w'.cell? ⟨b, o, none⟩ = w.cell? ⟨b, o, none⟩ := World.cell?_of_block (w := w) h
theorem Row.frame {w w' : World} {b o : Nat} {cs : List Value} (h : w'.heap[b]? = w.heap[b]?) (r : Row w b o cs) : Row w' b o cs :=
  fun j v hj => by rw [cell_of_heap h]; exact r j v hj
theorem Blk.frame {w w' : World} {b n : Nat} (h : w'.heap[b]? = w.heap[b]?) (r : Blk w b n) : Blk w' b n := by
  obtain ⟨c, ty, e, hs⟩ := r; exact ⟨c, ty, by rw [h, e], hs⟩

/-! ### pure values in a world; A: the blocks that never change -/
def pk (agg : Bool) (cs : List Value) : Value := if agg then .agg cs.toArray else cs.headD undef
section
variable (w : World) (A : Nat → Prop)
mutual
def PVc : PV → List Value → Prop
  | .int k n, cs => cs = [.int k n]
  | .bool b, cs => cs = [.bool b]
  | .str s, cs => cs = [.string s]
  | .agg l, cs => PVcs l cs
  | .sl l, cs => ∃ a cap, cs = [.slice a l.length cap] ∧ l.length ≤ cap ∧ (l = [] ∨ ∃ b o z, a = some ⟨b, o, none⟩ ∧ A b ∧ PVel l b o z)
  | .ref v, cs => ∃ b o, cs = [.pointer (some ⟨b, o, none⟩)] ∧ A b ∧ ∃ cv, PVc v cv ∧ Row w b o cv
  | .fn f caps, cs => ∃ vs, cs = [fnV f vs.toArray] ∧ PVvs caps vs
  | .mp ks vs, cs => (cs = [.map none] ∧ ks = [] ∧ vs = []) ∨
      ∃ b es clock, cs = [.map (some b)] ∧ A b ∧ w.heap[b]? = some (.map es clock) ∧ PVvs ks (es.toList.map (·.key)) ∧ PVvs vs (es.toList.map (·.val))
  | .nilp, cs => cs = [.pointer none]
  | .nilf, cs => cs = [.nilFunc]
def PVcs : List PV → List Value → Prop
  | [], cs => cs = []
  | x :: r, cs => ∃ c d, cs = c ++ d ∧ PVc x c ∧ PVcs r d
def PVel : List PV → Nat → Nat → Nat → Prop
  | [], _, _, _ => True
  | x :: r, b, o, z => (∃ c, PVc x c ∧ c.length = z ∧ Row w b o c) ∧ PVel r b (o + z) z
def PVvs : List PV → List Value → Prop
  | [], vs => vs = []
  | x :: r, vs => ∃ c d, vs = pk x.isAgg c :: d ∧ PVc x c ∧ PVvs r d
end
def PVv (v : PV) (val : Value) : Prop := ∃ c, PVc w A v c ∧ val = pk v.isAgg c
end

section
variable {w : World} {A : Nat → Prop}
mutual
theorem PVc.len : ∀ {v : PV} {cs : List Value}, PVc w A v cs → cs.length = v.cs
  | .int .., cs, h => by simp only [PVc] at h; subst h; rfl
  | .bool _, cs, h => by simp only [PVc] at h; subst h; rfl
  | .str _, cs, h => by simp only [PVc] at h; subst h; rfl
  | .agg l, cs, h => by simp only [PVc] at h; simp only [PV.cs]; exact PVcs.len h
  | .sl _, cs, h => by simp only [PVc] at h; obtain ⟨a, cap, rfl, _⟩ := h; rfl
  | .ref _, cs, h => by simp only [PVc] at h; obtain ⟨a, cap, rfl, _⟩ := h; rfl
  | .fn .., cs, h => by simp only [PVc] at h; obtain ⟨a, rfl, _⟩ := h; rfl
  | .mp .., cs, h => by
    simp only [PVc] at h
    rcases h with ⟨rfl, _⟩ | ⟨_, _, _, rfl, _⟩ <;> rfl
  | .nilp, cs, h => by simp only [PVc] at h; subst h; rfl
  | .nilf, cs, h => by simp only [PVc] at h; subst h; rfl
theorem PVcs.len : ∀ {l : List PV} {cs : List Value}, PVcs w A l cs → cs.length = PV.css l
  | [], cs, h => by simp only [PVcs] at h; subst h; rfl
  | x :: r, cs, h => by
    simp only [PVcs] at h
    obtain ⟨c, d, rfl, h1, h2⟩ := h
    rw [List.length_append, PVc.len h1, PVcs.len h2, PV.css]
end

variable {w' : World} {A' : Nat → Prop}
mutual
theorem PVc.frame (hA : ∀ b, A b → A' b) (hw : ∀ b, A b → w'.heap[b]? = w.heap[b]?) : ∀ {v : PV} {cs : List Value}, PVc w A v cs → PVc w' A' v cs
  | .int .., cs, h => by simpa only [PVc] using h
  | .bool _, cs, h => by simpa only [PVc] using h
  | .str _, cs, h => by simpa only [PVc] using h
  | .agg l, cs, h => by simp only [PVc] at h ⊢; exact PVcs.frame hA hw h
  | .sl l, cs, h => by
    simp only [PVc] at h ⊢
    obtain ⟨a, cap, rfl, hc, h⟩ := h
    refine ⟨a, cap, rfl, hc, ?_⟩
    rcases h with h | ⟨b, o, z, rfl, hb, h⟩
    · exact .inl h
    · exact .inr ⟨b, o, z, rfl, hA b hb, PVel.frame hA hw hb h⟩
  | .ref v, cs, h => by
    simp only [PVc] at h ⊢
    obtain ⟨b, o, rfl, hb, cv, h1, h2⟩ := h
    exact ⟨b, o, rfl, hA b hb, cv, PVc.frame hA hw h1, h2.frame (hw b hb)⟩
  | .fn f l, cs, h => by
    simp only [PVc] at h ⊢
    obtain ⟨vs, rfl, h⟩ := h
    exact ⟨vs, rfl, PVvs.frame hA hw h⟩
  | .mp ks vs, cs, h => by
    simp only [PVc] at h ⊢
    rcases h with h | ⟨b, es, clock, rfl, hb, he, h1, h2⟩
    · exact .inl h
    · exact .inr ⟨b, es, clock, rfl, hA b hb, by rw [hw b hb, he], PVvs.frame hA hw h1, PVvs.frame hA hw h2⟩
  | .nilp, cs, h => by simpa only [PVc] using h
  | .nilf, cs, h => by simpa only [PVc] using h
theorem PVcs.frame (hA : ∀ b, A b → A' b) (hw : ∀ b, A b → w'.heap[b]? = w.heap[b]?) : ∀ {l : List PV} {cs : List Value}, PVcs w A l cs → PVcs w' A' l cs
  | [], cs, h => by simpa only [PVcs] using h
  | x :: r, cs, h => by
    simp only [PVcs] at h ⊢
    obtain ⟨c, d, rfl, h1, h2⟩ := h
    exact ⟨c, d, rfl, PVc.frame hA hw h1, PVcs.frame hA hw h2⟩
theorem PVel.frame (hA : ∀ b, A b → A' b) (hw : ∀ b, A b → w'.heap[b]? = w.heap[b]?) : ∀ {l : List PV} {b o z : Nat}, A b → PVel w A l b o z → PVel w' A' l b o z
  | [], b, o, z, _, h => by simp only [PVel]
  | x :: r, b, o, z, hb, h => by
    simp only [PVel] at h ⊢
    obtain ⟨⟨c, h1, h2, h3⟩, h4⟩ := h
    exact ⟨⟨c, PVc.frame hA hw h1, h2, h3.frame (hw b hb)⟩, PVel.frame hA hw hb h4⟩
theorem PVvs.frame (hA : ∀ b, A b → A' b) (hw : ∀ b, A b → w'.heap[b]? = w.heap[b]?) : ∀ {l : List PV} {vs : List Value}, PVvs w A l vs → PVvs w' A' l vs
  | [], vs, h => by simpa only [PVvs] using h
  | x :: r, vs, h => by
    simp only [PVvs] at h ⊢
    obtain ⟨c, d, rfl, h1, h2⟩ := h
    exact ⟨c, d, rfl, PVc.frame hA hw h1, PVvs.frame hA hw h2⟩
end
theorem PVv.frame (hA : ∀ b, A b → A' b) (hw : ∀ b, A b → w'.heap[b]? = w.heap[b]?) {v : PV} {val : Value} (h : PVv w A v val) : PVv w' A' v val := by
  obtain ⟨c, h1, h2⟩ := h
  exact ⟨c, h1.frame hA hw, h2⟩
end
end Go.Mid
/- Owned memory in the model's world: the relation of values, trees and roots, and how it is kept. -/
namespace Go.Mid
set_option linter.unusedSimpArgs false
set_option linter.unusedVariables false
open Go.RowKit

/-! ### stamps that were given out -/
def Stp := Nat → Prop
def Stp.le (a b : Stp) : Prop := ∀ g, a g → b g
def Stp.add (a : Stp) (g : Nat) : Stp := fun i => a i ∨ i = g
theorem Stp.le_refl (a : Stp) : a.le a := fun _ h => h
theorem Stp.le_trans {a b c : Stp} (h : a.le b) (k : b.le c) : a.le c := fun g hg => k g (h g hg)
theorem Stp.le_add (a : Stp) (g : Nat) : a.le (a.add g) := fun _ h => .inl h
theorem Stp.mem_add (a : Stp) (g : Nat) : (a.add g) g := .inr rfl

/-- what is known of a slice's header -/
def OwnHdr (an : An) (z off len : Nat) (a : Option Addr) (cap : Nat) : Prop :=
  match an.b with
  | none => len = 0 ∧ cap = 0
  | some b => (cap + off = an.cap ∧ an.cap ≤ 9223372036854775807) ∧ ((len = 0 ∧ cap = 0) ∨ a = some ⟨b, off * z, none⟩)

section
variable (w : World) (A : Nat → Prop) (E : HeapA An) (nx : Stp)
mutual
def MVv : MV → Value → Prop
  | .p v, val => PVv w A v val
  | .nil _, val => ∃ a, val = .slice a 0 0
  | .own id path off len g, val => nx g ∧ ∃ a cap, val = .slice a len cap ∧ len ≤ cap ∧
      ∀ an z, nodeAt (E id) (some path) = some (an, some z) → an.g = g → OwnHdr an z off len a cap
  | .ptr id np _ g o, val => nx g ∧ ∃ a, val = .pointer (some a) ∧
      ∀ an z, nodeAt (E id) np = some (an, z) → an.g = g → ∃ b, an.b = some b ∧ a = ⟨b, o, none⟩
  | .mref id path g, val => nx g ∧ ∃ b, val = .map (some b) ∧ ∀ an z, nodeAt (E id) (some path) = some (an, z) → an.g = g → an.b = some b
  | .agg l, val => ∃ cs, val = .agg cs.toArray ∧ MVcs l cs
  | .fn f caps, val => ∃ vs, val = fnV f vs.toArray ∧ MVvs caps vs
  | .tup l, val => ∃ vs, val = .tuple vs.toArray ∧ MVvs l vs
  | .dead _, _ => True
def MVcs : List MV → List Value → Prop
  | [], cs => cs = []
  | x :: r, cs => ∃ v d, cs = v.cells.toList ++ d ∧ v.cells.size = x.cs ∧ (∀ c, v = .agg c → x.isAgg = true ∨ ∃ n, x = .dead n) ∧ MVv x v ∧ MVcs r d
def MVvs : List MV → List Value → Prop
  | [], vs => vs = []
  | x :: r, vs => ∃ v d, vs = v :: d ∧ MVv x v ∧ MVvs r d
end
mutual
def TAt : T An → Nat → Nat → Prop
  | .p v, b, o => ∃ cs, PVc w A v cs ∧ Row w b o cs
  | .m v, b, o => v.cs = 1 ∧ v.isAgg = false ∧ ∃ val, MVv w A E nx v val ∧ Row w b o [val]
  | .agg l, b, o => TsAt l b o
  | .vec an z l n, b, o => ∃ a cap, Row w b o [.slice a n cap] ∧ n ≤ l.length ∧ OwnHdr an z 0 n a cap ∧
      match an.b with
      | none => l = [] ∧ an.cap = 0
      | some b' => Blk w b' (an.cap * z) ∧ l.length ≤ an.cap ∧ (∀ t ∈ l, t.cs = z) ∧ TsAt l b' 0
  | .mp .., _, _ => False
  | .hole n, b, o => ∀ j, j < n → ∃ v, w.cell? ⟨b, o + j, none⟩ = some v
def TsAt : List (T An) → Nat → Nat → Prop
  | [], _, _ => True
  | t :: r, b, o => TAt t b o ∧ TsAt r b (o + t.cs)
end
def VB (an : An) (z : Nat) (l : List (T An)) : Prop :=
  match an.b with
  | none => l = [] ∧ an.cap = 0
  | some b => Blk w b (an.cap * z) ∧ l.length ≤ an.cap ∧ (∀ t ∈ l, t.cs = z) ∧ TsAt w A E nx l b 0
/-- a map in the world: pure keys and values -/
def MpAt (an : An) (ks : List PV) (vs : List (T An)) : Prop :=
  ∃ b es clock ws, an.b = some b ∧ w.heap[b]? = some (.map es clock) ∧ vs = ws.map T.p ∧ PVvs w A ks (es.toList.map (·.key)) ∧ PVvs w A ws (es.toList.map (·.val))
def OAt : Obj An → Prop
  | .cell an t => ∃ b, an.b = some b ∧ Blk w b t.cs ∧ TAt w A E nx t b 0
  | .vec an z l => VB w A E nx an z l
  | .mp an ks vs => MpAt w A an ks vs
  | .gone => True
end

mutual
def T.blk : T An → List Nat
  | .agg l => T.blks l
  | .vec an _ l _ => an.b.toList ++ T.blks l
  | .mp an _ l => an.b.toList ++ T.blks l
  | _ => []
def T.blks : List (T An) → List Nat
  | [] => []
  | t :: r => t.blk ++ T.blks r
end
def Obj.blk : Obj An → List Nat
  | .cell an t => an.b.toList ++ t.blk
  | .vec an _ l => an.b.toList ++ T.blks l
  | .mp an _ l => an.b.toList ++ T.blks l
  | .gone => []
mutual
def T.st (nx : Stp) : T An → Prop
  | .agg l => T.sts nx l
  | .vec an _ l _ => nx an.g ∧ T.sts nx l
  | .mp an _ _ => nx an.g
  | _ => True
def T.sts (nx : Stp) : List (T An) → Prop
  | [] => True
  | t :: r => t.st nx ∧ T.sts nx r
end
def Obj.st (nx : Stp) : Obj An → Prop
  | .cell an t => nx an.g ∧ t.st nx
  | .vec an _ l => nx an.g ∧ T.sts nx l
  | .mp an _ _ => nx an.g
  | .gone => True

/-- nodes with an old stamp are the old ones -/
def NSt (nx : Stp) (E E' : HeapA An) : Prop := ∀ id np an z, nodeAt (E' id) np = some (an, z) → nx an.g → nodeAt (E id) np = some (an, z)
theorem NSt.refl (nx : Stp) (E : HeapA An) : NSt nx E E := fun _ _ _ _ h _ => h
theorem NSt.trans {nx nx' : Stp} {E E' E'' : HeapA An} (h : NSt nx E E') (h' : NSt nx' E' E'') (hn : nx.le nx') : NSt nx E E'' :=
  fun id np an z hh hg => h id np an z (h' id np an z hh (hn _ hg)) hg

/-- all that the frame lemmas need -/
structure Fr (w w' : World) (A A' : Nat → Prop) (E E' : HeapA An) (nx nx' : Stp) : Prop where
  hA : ∀ b, A b → A' b
  hw : ∀ b, A b → w'.heap[b]? = w.heap[b]?
  hE : NSt nx E E'
  hn : nx.le nx'
section
variable {w w' : World} {A A' : Nat → Prop} {E E' : HeapA An} {nx nx' : Stp}
mutual
theorem MVv.frame (f : Fr w w' A A' E E' nx nx') : ∀ {v : MV} {val : Value}, MVv w A E nx v val → MVv w' A' E' nx' v val
  | .p v, val, h => by simp only [MVv] at h ⊢; exact h.frame f.hA f.hw
  | .nil _, val, h => by simpa only [MVv] using h
  | .own .., val, h => by
    simp only [MVv] at h ⊢
    obtain ⟨hg, a, cap, rfl, hc, h⟩ := h
    exact ⟨f.hn _ hg, a, cap, rfl, hc, fun an z hh hg' => h an z (f.hE _ _ _ _ hh (hg' ▸ hg)) hg'⟩
  | .ptr .., val, h => by
    simp only [MVv] at h ⊢
    obtain ⟨hg, a, rfl, h⟩ := h
    exact ⟨f.hn _ hg, a, rfl, fun an z hh hg' => h an z (f.hE _ _ _ _ hh (hg' ▸ hg)) hg'⟩
  | .mref .., val, h => by
    simp only [MVv] at h ⊢
    obtain ⟨hg, a, rfl, h⟩ := h
    exact ⟨f.hn _ hg, a, rfl, fun an z hh hg' => h an z (f.hE _ _ _ _ hh (hg' ▸ hg)) hg'⟩
  | .agg l, val, h => by
    simp only [MVv] at h ⊢
    obtain ⟨cs, rfl, h⟩ := h
    exact ⟨cs, rfl, MVcs.frame f h⟩
  | .fn _ l, val, h => by
    simp only [MVv] at h ⊢
    obtain ⟨vs, rfl, h⟩ := h
    exact ⟨vs, rfl, MVvs.frame f h⟩
  | .tup l, val, h => by
    simp only [MVv] at h ⊢
    obtain ⟨vs, rfl, h⟩ := h
    exact ⟨vs, rfl, MVvs.frame f h⟩
  | .dead _, val, h => by simp only [MVv]
theorem MVcs.frame (f : Fr w w' A A' E E' nx nx') : ∀ {l : List MV} {cs : List Value}, MVcs w A E nx l cs → MVcs w' A' E' nx' l cs
  | [], cs, h => by simpa only [MVcs] using h
  | x :: r, cs, h => by
    simp only [MVcs] at h ⊢
    obtain ⟨v, d, rfl, h1, h2, h3, h4⟩ := h
    exact ⟨v, d, rfl, h1, h2, MVv.frame f h3, MVcs.frame f h4⟩
theorem MVvs.frame (f : Fr w w' A A' E E' nx nx') : ∀ {l : List MV} {vs : List Value}, MVvs w A E nx l vs → MVvs w' A' E' nx' l vs
  | [], vs, h => by simpa only [MVvs] using h
  | x :: r, vs, h => by
    simp only [MVvs] at h ⊢
    obtain ⟨v, d, rfl, h1, h2⟩ := h
    exact ⟨v, d, rfl, MVv.frame f h1, MVvs.frame f h2⟩
end
mutual
theorem TAt.frame (f : Fr w w' A A' E E' nx nx') : ∀ {t : T An} {b o : Nat}, (w'.heap[b]? = w.heap[b]?) → (∀ x ∈ t.blk, w'.heap[x]? = w.heap[x]?) → TAt w A E nx t b o → TAt w' A' E' nx' t b o
  | .p v, b, o, hb, _, h => by
    simp only [TAt] at h ⊢
    obtain ⟨cs, h1, h2⟩ := h
    exact ⟨cs, h1.frame f.hA f.hw, h2.frame hb⟩
  | .m v, b, o, hb, _, h => by
    simp only [TAt] at h ⊢
    obtain ⟨h0, h0', val, h1, h2⟩ := h
    exact ⟨h0, h0', val, h1.frame f, h2.frame hb⟩
  | .agg l, b, o, hb, hk, h => by
    simp only [TAt] at h ⊢
    exact TsAt.frame f hb (by simpa only [T.blk] using hk) h
  | .vec an z l n, b, o, hb, hk, h => by
    simp only [TAt] at h ⊢
    obtain ⟨a, cap, h1, h2, h3, h4⟩ := h
    refine ⟨a, cap, h1.frame hb, h2, h3, ?_⟩
    cases hbb : an.b with
    | none => simpa only [hbb] using h4
    | some b' =>
      simp only [hbb] at h4 ⊢
      simp only [T.blk, hbb, Option.toList, List.cons_append, List.nil_append, List.mem_cons] at hk
      exact ⟨h4.1.frame (hk b' (.inl rfl)), h4.2.1, h4.2.2.1, TsAt.frame f (hk b' (.inl rfl)) (fun x hx => hk x (.inr hx)) h4.2.2.2⟩
  | .mp .., _, _, _, _, h => by simp only [TAt] at h
  | .hole n, b, o, hb, _, h => by
    simp only [TAt] at h ⊢
    intro j hj
    rw [cell_of_heap hb]; exact h j hj
theorem TsAt.frame (f : Fr w w' A A' E E' nx nx') : ∀ {l : List (T An)} {b o : Nat}, (w'.heap[b]? = w.heap[b]?) → (∀ x ∈ T.blks l, w'.heap[x]? = w.heap[x]?) → TsAt w A E nx l b o → TsAt w' A' E' nx' l b o
  | [], b, o, _, _, h => by simp only [TsAt]
  | t :: r, b, o, hb, hk, h => by
    simp only [TsAt] at h ⊢
    simp only [T.blks, List.mem_append] at hk
    exact ⟨TAt.frame f hb (fun x hx => hk x (.inl hx)) h.1, TsAt.frame f hb (fun x hx => hk x (.inr hx)) h.2⟩
end
theorem MpAt.frame {w w' : World} {A A' : Nat → Prop} {an : An} {ks : List PV} {vs : List (T An)} (hA : ∀ b, A b → A' b) (hw : ∀ b, A b → w'.heap[b]? = w.heap[b]?) (hb : ∀ b, an.b = some b → w'.heap[b]? = w.heap[b]?) (h : MpAt w A an ks vs) : MpAt w' A' an ks vs := by
  obtain ⟨b, es, clock, ws, h1, h2, h3, h4, h5⟩ := h
  exact ⟨b, es, clock, ws, h1, (hb b h1).trans h2, h3, h4.frame hA hw, h5.frame hA hw⟩
theorem OAt.frame (f : Fr w w' A A' E E' nx nx') {o : Obj An} (hk : ∀ x ∈ o.blk, w'.heap[x]? = w.heap[x]?) (h : OAt w A E nx o) : OAt w' A' E' nx' o := by
  cases o with
  | cell an t =>
    simp only [OAt] at h ⊢
    obtain ⟨b, hb, h1, h2⟩ := h
    simp only [Obj.blk, hb, Option.toList, List.cons_append, List.nil_append, List.mem_cons] at hk
    exact ⟨b, hb, h1.frame (hk b (.inl rfl)), TAt.frame f (hk b (.inl rfl)) (fun x hx => hk x (.inr hx)) h2⟩
  | vec an z l =>
    simp only [OAt, VB] at h ⊢
    cases hbb : an.b with
    | none => simpa only [hbb] using h
    | some b' =>
      simp only [hbb] at h ⊢
      simp only [Obj.blk, hbb, Option.toList, List.cons_append, List.nil_append, List.mem_cons] at hk
      exact ⟨h.1.frame (hk b' (.inl rfl)), h.2.1, h.2.2.1, TsAt.frame f (hk b' (.inl rfl)) (fun x hx => hk x (.inr hx)) h.2.2.2⟩
  | mp an ks vs =>
    simp only [OAt] at h ⊢
    exact h.frame f.hA f.hw (fun b hb => hk b (by simp [Obj.blk, hb]))
  | gone => simp only [OAt]
end

/-! ### the state of owned memory -/
def Owned (E : HeapA An) (b : Nat) : Prop := ∃ i o, E i = some o ∧ b ∈ o.blk
structure MR (w : World) (A : Nat → Prop) (E : HeapA An) (h : Heap) (nx : Stp) : Prop where
  er : ∀ i, h i = (E i).map (Obj.mapA An.g)
  at_ : ∀ i o, E i = some o → OAt w A E nx o
  lt : ∀ b, Owned E b → b < w.heap.size ∧ ¬ A b
  nd : ∀ i o, E i = some o → o.blk.Nodup
  dj : ∀ i j o o', i ≠ j → E i = some o → E j = some o' → ∀ b ∈ o.blk, b ∉ o'.blk
  im : ∀ b, A b → b < w.heap.size
  st : ∀ i o, E i = some o → o.st nx

/-- what an operation does: only owned memory changes, and new blocks come -/
structure Go1 (w : World) (A : Nat → Prop) (E : HeapA An) (nx : Stp) (w' : World) (A' : Nat → Prop) (E' : HeapA An) : Prop where
  os : w'.os = w.os
  tape : w'.tape = w.tape
  output : w'.output = w.output
  size : w.heap.size ≤ w'.heap.size
  keep : ∀ b, b < w.heap.size → ¬ Owned E b → w'.heap[b]? = w.heap[b]?
  sub : ∀ b, A b → A' b
  imm : ∀ b, b < w.heap.size → A' b → A b ∨ Owned E b
  own : ∀ b, b < w.heap.size → Owned E' b → Owned E b
  ns : NSt nx E E'
theorem Go1.keepA {w w' : World} {A A' : Nat → Prop} {E E' : HeapA An} {nx : Stp} {h : Heap} (m : MR w A E h nx) (g : Go1 w A E nx w' A' E') (b : Nat) (hb : A b) : w'.heap[b]? = w.heap[b]? :=
  g.keep b (m.im b hb) fun ho => (m.lt b ho).2 hb
theorem Go1.refl (w : World) (A : Nat → Prop) (E : HeapA An) (nx : Stp) : Go1 w A E nx w A E :=
  ⟨rfl, rfl, rfl, Nat.le_refl _, fun _ _ _ => rfl, fun _ h => h, fun _ _ h => .inl h, fun _ _ h => h, NSt.refl _ _⟩
theorem Go1.trans {w w' w'' : World} {A A' A'' : Nat → Prop} {E E' E'' : HeapA An} {nx nx' : Stp} (h : Go1 w A E nx w' A' E') (k : Go1 w' A' E' nx' w'' A'' E'') (hn : nx.le nx') :
    Go1 w A E nx w'' A'' E'' where
  os := k.os.trans h.os
  tape := k.tape.trans h.tape
  output := k.output.trans h.output
  size := Nat.le_trans h.size k.size
  keep := fun b hb ho => (k.keep b (Nat.lt_of_lt_of_le hb h.size) fun ho' => ho (h.own b hb ho')).trans (h.keep b hb ho)
  sub := fun b hb => k.sub b (h.sub b hb)
  imm := fun b hb hA => (k.imm b (Nat.lt_of_lt_of_le hb h.size) hA).elim (h.imm b hb) fun ho => .inr (h.own b hb ho)
  own := fun b hb ho => h.own b hb (k.own b (Nat.lt_of_lt_of_le hb h.size) ho)
  ns := h.ns.trans k.ns hn
theorem MVv.go {w w' : World} {A A' : Nat → Prop} {E E' : HeapA An} {nx nx' : Stp} {h : Heap} (m : MR w A E h nx) (g : Go1 w A E nx w' A' E') (hn : nx.le nx') {v : MV} {val : Value}
    (hv : MVv w A E nx v val) : MVv w' A' E' nx' v val := hv.frame ⟨g.sub, g.keepA m, g.ns, hn⟩
end Go.Mid
/- The operations that do not touch owned memory: the model does what the middle semantics says. -/
namespace Go.Mid
set_option linter.unusedSimpArgs false
set_option linter.unusedVariables false
open Go.RowKit

theorem wp_of_value {P : Program} {o : Oper} {a : Act} {w w' : World} {next : Act → World → Prop} {Q : Exit → Act → World → Prop} {val : Value}
    (h : (execOp a.eval o).run P w = .ok (.value val) w') (hn : next (a.put o.dst val) w') : o.wp P a w next Q := by
  unfold Oper.wp; rw [h]; exact hn
theorem wp_of_skip {P : Program} {o : Oper} {a : Act} {w w' : World} {next : Act → World → Prop} {Q : Exit → Act → World → Prop}
    (h : (execOp a.eval o).run P w = .ok .skip w') (hn : next (a.put o.dst undef) w') : o.wp P a w next Q := by
  unfold Oper.wp; rw [h]; exact hn

/-- the operation ends, with a value and in memory as the middle semantics says -/
def OpOk (P : Program) (o : Oper) (a : Act) (w : World) (A : Nat → Prop) (E : HeapA An) (nx : Stp) (γ : Nat) (v : MV) (h' : Heap) : Prop :=
  ∃ val w' A' E', ((execOp a.eval o).run P w = .ok (.value val) w' ∨ ((execOp a.eval o).run P w = .ok .skip w' ∧ val = undef)) ∧
    MVv w' A' E' (nx.add γ) v val ∧ MR w' A' E' h' (nx.add γ) ∧ Go1 w A E nx w' A' E'

/-! ### stamps grow -/
mutual
theorem T.st_mono {n m : Stp} (h : n.le m) : ∀ {t : T An}, t.st n → t.st m
  | .p _, _ => trivial
  | .m _, _ => trivial
  | .agg l, k => by simp only [T.st] at k ⊢; exact T.sts_mono h k
  | .vec .., k => by simp only [T.st] at k ⊢; exact ⟨h _ k.1, T.sts_mono h k.2⟩
  | .mp .., k => by simp only [T.st] at k ⊢; exact h _ k
  | .hole _, _ => trivial
theorem T.sts_mono {n m : Stp} (h : n.le m) : ∀ {l : List (T An)}, T.sts n l → T.sts m l
  | [], _ => trivial
  | _ :: _, k => by simp only [T.sts] at k ⊢; exact ⟨T.st_mono h k.1, T.sts_mono h k.2⟩
end
theorem Obj.st_mono {n m : Stp} (h : n.le m) {o : Obj An} (k : o.st n) : o.st m := by
  cases o <;> simp only [Obj.st] at k ⊢
  · exact ⟨h _ k.1, T.st_mono h k.2⟩
  · exact ⟨h _ k.1, T.sts_mono h k.2⟩
  · exact h _ k
theorem Fr.same (w : World) (A : Nat → Prop) (E : HeapA An) {n m : Stp} (h : n.le m) : Fr w w A A E E n m := ⟨fun _ h => h, fun _ _ => rfl, NSt.refl _ _, h⟩
theorem MR.mono {w : World} {A : Nat → Prop} {E : HeapA An} {h : Heap} {n m : Stp} (k : MR w A E h n) (hn : n.le m) : MR w A E h m :=
  ⟨k.er, fun i o ho => OAt.frame (Fr.same w A E hn) (fun _ _ => rfl) (k.at_ i o ho), k.lt, k.nd, k.dj, k.im, fun i o ho => Obj.st_mono hn (k.st i o ho)⟩

section
variable {P : Program} {o : Oper} {a : Act} {w : World} {A : Nat → Prop} {E : HeapA An} {nx : Stp} {γ : Nat} {v : MV} {h : Heap}
theorem OpOk.idle {val : Value} (hr : (execOp a.eval o).run P w = .ok (.value val) w) (hv : MVv w A E nx v val) (hm : MR w A E h nx) : OpOk P o a w A E nx γ v h :=
  ⟨val, w, A, E, .inl hr, hv.frame (Fr.same w A E (nx.le_add γ)), hm.mono (nx.le_add γ), Go1.refl w A E nx⟩
end

/-! ### what a value's relation says, kind by kind -/
section
variable {w : World} {A : Nat → Prop} {E : HeapA An} {nx : Stp} {val : Value}
theorem MVv_int {k : IntKind} {n : Int} : MVv w A E nx (.p (.int k n)) val ↔ val = .int k n := by
  simp only [MVv, PVv, PVc, PV.isAgg, pk]
  constructor
  · rintro ⟨c, rfl, rfl⟩; rfl
  · rintro rfl; exact ⟨_, rfl, rfl⟩
theorem MVv_bool {b : Bool} : MVv w A E nx (.p (.bool b)) val ↔ val = .bool b := by
  simp only [MVv, PVv, PVc, PV.isAgg, pk]
  constructor
  · rintro ⟨c, rfl, rfl⟩; rfl
  · rintro rfl; exact ⟨_, rfl, rfl⟩
theorem MVv_str {s : ByteArray} : MVv w A E nx (.p (.str s)) val ↔ val = .string s := by
  simp only [MVv, PVv, PVc, PV.isAgg, pk]
  constructor
  · rintro ⟨c, rfl, rfl⟩; rfl
  · rintro rfl; exact ⟨_, rfl, rfl⟩
theorem MVv_nilp : MVv w A E nx (.p .nilp) val ↔ val = .pointer none := by
  simp only [MVv, PVv, PVc, PV.isAgg, pk]
  constructor
  · rintro ⟨c, rfl, rfl⟩; rfl
  · rintro rfl; exact ⟨_, rfl, rfl⟩
theorem MVv_nilf : MVv w A E nx (.p .nilf) val ↔ val = .nilFunc := by
  simp only [MVv, PVv, PVc, PV.isAgg, pk]
  constructor
  · rintro ⟨c, rfl, rfl⟩; rfl
  · rintro rfl; exact ⟨_, rfl, rfl⟩
theorem MVv_agg {l : List PV} : MVv w A E nx (.p (.agg l)) val ↔ ∃ cs, val = .agg cs.toArray ∧ PVcs w A l cs := by
  simp only [MVv, PVv, PVc, PV.isAgg, pk]
  constructor
  · rintro ⟨c, h, rfl⟩; exact ⟨c, rfl, h⟩
  · rintro ⟨c, rfl, h⟩; exact ⟨c, h, rfl⟩
theorem MVv_sl {l : List PV} : MVv w A E nx (.p (.sl l)) val ↔ ∃ p cap, val = .slice p l.length cap ∧ l.length ≤ cap ∧ (l = [] ∨ ∃ b o z, p = some ⟨b, o, none⟩ ∧ A b ∧ PVel w A l b o z) := by
  simp only [MVv, PVv, PVc, PV.isAgg, pk]
  constructor
  · rintro ⟨c, ⟨p, cap, rfl, h⟩, rfl⟩; exact ⟨p, cap, rfl, h⟩
  · rintro ⟨p, cap, rfl, h⟩; exact ⟨_, ⟨p, cap, rfl, h⟩, rfl⟩
theorem MVv_ref {u : PV} : MVv w A E nx (.p (.ref u)) val ↔ ∃ b o, val = .pointer (some ⟨b, o, none⟩) ∧ A b ∧ ∃ cv, PVc w A u cv ∧ Row w b o cv := by
  simp only [MVv, PVv, PVc, PV.isAgg, pk]
  constructor
  · rintro ⟨c, ⟨b, o, rfl, h⟩, rfl⟩; exact ⟨b, o, rfl, h⟩
  · rintro ⟨b, o, rfl, h⟩; exact ⟨_, ⟨b, o, rfl, h⟩, rfl⟩
theorem MVv_pfn {f : Nat} {l : List PV} : MVv w A E nx (.p (.fn f l)) val ↔ ∃ vs, val = fnV f vs.toArray ∧ PVvs w A l vs := by
  simp only [MVv, PVv, PVc, PV.isAgg, pk]
  constructor
  · rintro ⟨c, ⟨vs, rfl, h⟩, rfl⟩; exact ⟨vs, rfl, h⟩
  · rintro ⟨vs, rfl, h⟩; exact ⟨_, ⟨vs, rfl, h⟩, rfl⟩
end

/-! ### operands -/
/-- the known package variables hold what they are known to hold, and nothing changes them -/
def GL (P : Program) (w : World) (A : Nat → Prop) : Prop := ∀ g v, gblV P g = some v → PVv w A (.ref v) (.pointer (some ⟨g, 0, none⟩))
theorem GL.frame {P : Program} {w w' : World} {A A' : Nat → Prop} (h : GL P w A) (hA : ∀ b, A b → A' b) (hw : ∀ b, A b → w'.heap[b]? = w.heap[b]?) : GL P w' A' := fun g v hg => (h g v hg).frame hA hw
structure SlR (P : Program) (w : World) (A : Nat → Prop) (E : HeapA An) (nx : Stp) (s : Slots) (a : Act) : Prop where
  sl : ∀ k, MVv w A E nx (s k) (a.tmps.getD k undef)
  gl : GL P w A

section
variable {P : Program} {w : World} {A : Nat → Prop} {E : HeapA An} {nx : Stp} {s : Slots} {a : Act}
theorem constM_sim {t : TypeId} {v : Value} {m : MV} (h : constM P t v = some m) : MVv w A E nx m v := by
  unfold constM at h
  split at h <;> try cases h
  · exact MVv_bool.2 rfl
  · exact MVv_int.2 rfl
  · exact MVv_str.2 rfl
  · exact MVv_nilp.2 rfl
  · exact MVv_nilf.2 rfl
  · simp only [MVv, PVv, PVc]; exact ⟨_, .inl ⟨rfl, trivial, trivial⟩, rfl⟩
  · split at h <;> cases h <;> (simp only [MVv]; exact ⟨none, rfl⟩)
theorem opdC_sim (hs : SlR P w A E nx s a) {t : TypeId} {x : Operand} {o : Opd} (h : opdC P t x = some o) : MVv w A E nx (evO s o) (a.eval x) := by
  unfold opdC at h
  cases x with
  | tmp n => simp only [Option.some.injEq] at h; subst h; exact hs.sl n
  | const v =>
    simp only at h
    split at h
    · rename_i m hm
      cases h
      exact constM_sim hm
    · cases h
  | global g =>
    simp only at h
    split at h
    · rename_i v hv
      cases h
      simp only [evO, MVv]
      exact hs.gl g v hv
    · cases h
  | func f =>
    simp only at h
    split at h
    · rename_i hf
      cases h
      exact MVv_pfn.2 ⟨[], (fnV_lt hf).symm, by simp only [PVvs]⟩
    · cases h
theorem opdsC_sim (hs : SlR P w A E nx s a) : ∀ {ts : List TypeId} {xs : List Operand} {os : List Opd}, opdsC P ts xs = some os → MVvs w A E nx (os.map (evO s)) (xs.map a.eval)
  | [], [], os, h => by simp only [opdsC] at h; cases h; simp only [List.map_nil, MVvs]
  | t :: ts, [], os, h => by simp only [opdsC] at h; cases h; simp only [List.map_nil, MVvs]
  | [], x :: r, os, h => by
    simp only [opdsC] at h
    split at h
    · rename_i o os' h1 h2
      cases h
      simp only [List.map_cons, MVvs]
      exact ⟨_, _, rfl, opdC_sim hs h1, opdsC_sim hs h2⟩
    · cases h
  | t :: ts, x :: r, os, h => by
    simp only [opdsC] at h
    split at h
    · rename_i o os' h1 h2
      cases h
      simp only [List.map_cons, MVvs]
      exact ⟨_, _, rfl, opdC_sim hs h1, opdsC_sim hs h2⟩
    · cases h
end

/-! ### scalars -/
section
variable {P : Program} (w : World)
theorem run_bits (op : BinOp) (k : IntKind) (x y n : Int) (h : bitsP op k x y = some n) : (Op.intBits op k x y).run P w = .ok (.int k n) w := by
  cases op <;> simp [bitsP] at h <;> subst h <;> simp [Op.intBits]
theorem run_equal_bool {t : TypeId} (ht : P.underlying t = some .bool) (m n : Bool) : (Op.equal t (.bool m) (.bool n)).run P w = .ok (m == n) w := by
  have h : ∀ d, (Op.equalIn (d + 1) t (.bool m) (.bool n)).run P w = .ok (m == n) w := by
    intro d
    simp [Op.equalIn, run_underlying ht w]
  exact h 9999
theorem run_binOp (op : BinOp) (t : TypeId) {x y z : PV} (h : binP op x y = some z) {A : Nat → Prop} {E : HeapA An} {nx : Stp} {a b : Value}
    (ha : MVv w A E nx (.p x) a) (hb : MVv w A E nx (.p y) b) (hbool : (∃ p, x = .bool p) → P.underlying t = some .bool) :
    ∃ c, (binOp op t a b).run P w = .ok c w ∧ MVv w A E nx (.p z) c ∧ ∀ X Y, (eqGuard op t X Y a b).run P w = .ok () w := by
  cases x <;> cases y <;> simp only [binP] at h <;> try cases h
  · rename_i k m k' n
    rw [MVv_int] at ha hb
    subst ha; subst hb
    have hg : ∀ X Y, (eqGuard op t X Y (.int k m) (.int k' n)).run P w = .ok () w := by
      intro X Y; unfold eqGuard; cases op <;> simp
    cases op <;> simp only at h
    all_goals first
      | (split at h
         · cases h
         · rename_i hk
           simp only [ne_eq, Decidable.not_not] at hk
           subst hk
           first
             | (simp only [Option.some.injEq] at h; subst h
                refine ⟨_, ?_, MVv_int.2 rfl, hg⟩
                simp [binOp, Op.intArith]; done)
             | (simp only [Option.some.injEq] at h; subst h
                refine ⟨_, ?_, MVv_bool.2 rfl, hg⟩
                simp [binOp, Op.intCmp]; done)
             | (split at h
                · cases h
                · rename_i hz
                  simp only [Option.some.injEq] at h; subst h
                  refine ⟨_, ?_, MVv_int.2 rfl, hg⟩
                  simp [binOp, Op.intDiv, hz]; done)
             | (split at h
                · rename_i r hr
                  simp only [Option.some.injEq] at h; subst h
                  refine ⟨_, ?_, MVv_int.2 rfl, hg⟩
                  have := run_bits (P := P) w _ k m n r hr
                  simpa [binOp] using this
                · cases h))
      | (split at h
         · cases h
         · rename_i hz
           simp only [Option.some.injEq] at h; subst h
           refine ⟨_, ?_, MVv_int.2 rfl, hg⟩
           simp [binOp, Op.shift, hz]; done)
  · rename_i m n
    rw [MVv_bool] at ha hb
    subst ha; subst hb
    have ht := hbool ⟨_, rfl⟩
    have hg : ∀ X Y, (eqGuard op t X Y (.bool m) (.bool n)).run P w = .ok () w := by
      intro X Y; unfold eqGuard; cases op <;> simp
    cases op <;> simp only at h <;> cases h
    · refine ⟨_, ?_, MVv_bool.2 rfl, hg⟩
      have e : binOp .eql t (.bool m) (.bool n) = (do pure (.bool (← Op.equal t (.bool m) (.bool n)))) := rfl
      rw [e]
      simp only [Sem.run_bind, run_equal_bool w ht, Result.andThen_ok, Sem.run_pure]
    · refine ⟨_, ?_, MVv_bool.2 rfl, hg⟩
      have e : binOp .neq t (.bool m) (.bool n) = (do pure (.bool (!(← Op.equal t (.bool m) (.bool n))))) := rfl
      rw [e]
      simp only [Sem.run_bind, run_equal_bool w ht, Result.andThen_ok, Sem.run_pure]
  · rename_i m n
    rw [MVv_str] at ha hb
    subst ha; subst hb
    have hg : ∀ X Y, (eqGuard op t X Y (.string m) (.string n)).run P w = .ok () w := by
      intro X Y; unfold eqGuard; cases op <;> simp
    cases op <;> simp only at h
    all_goals first
      | cases h; done
      | (simp only [Option.some.injEq] at h; subst h
         refine ⟨_, ?_, MVv_bool.2 rfl, hg⟩
         simp [binOp, Op.stringOp]; done)
      | (split at h
         · rename_i hz
           simp only [Option.some.injEq] at h; subst h
           refine ⟨_, ?_, MVv_str.2 rfl, hg⟩
           have hz' : ¬ (((m.size + n.size : Nat) : Int) > IntKind.i64.max) := by
             simp only [IntKind.max, IntKind.signed, IntKind.bits]; simp; omega
           simp [binOp, Op.stringOp]
           omega
         · cases h)
end
end Go.Mid
/- Parts of structs and arrays, comparisons: the model's runs. -/
namespace Go.Mid
set_option linter.unusedSimpArgs false
set_option linter.unusedVariables false
open Go.RowKit

section
variable {w : World} {A : Nat → Prop} {E : HeapA An} {nx : Stp}
theorem PVcs.get : ∀ {l : List PV} {cs : List Value} {i : Nat} {x : PV}, PVcs w A l cs → l[i]? = some x →
    ∃ p c q, cs = p ++ c ++ q ∧ p.length = PV.css (l.take i) ∧ PVc w A x c
  | [], _, i, x, _, hi => by simp at hi
  | y :: r, cs, 0, x, h, hi => by
    simp only [PVcs] at h
    obtain ⟨c, d, rfl, h1, h2⟩ := h
    simp only [List.getElem?_cons_zero, Option.some.injEq] at hi
    subst hi
    exact ⟨[], c, d, rfl, rfl, h1⟩
  | y :: r, cs, i + 1, x, h, hi => by
    simp only [PVcs] at h
    obtain ⟨c, d, rfl, h1, h2⟩ := h
    simp only [List.getElem?_cons_succ] at hi
    obtain ⟨p, c', q, rfl, hp, hc⟩ := PVcs.get h2 hi
    refine ⟨c ++ p, c', q, by simp only [List.append_assoc], ?_, hc⟩
    rw [List.length_append, hp, h1.len, List.take_succ_cons, PV.css]
theorem MVcs.get : ∀ {l : List MV} {cs : List Value} {i : Nat} {x : MV}, MVcs w A E nx l cs → l[i]? = some x →
    ∃ p v q, cs = p ++ v.cells.toList ++ q ∧ p.length = MV.css (l.take i) ∧ v.cells.size = x.cs ∧ (∀ c, v = .agg c → x.isAgg = true ∨ ∃ n, x = .dead n) ∧ MVv w A E nx x v
  | [], _, i, x, _, hi => by simp at hi
  | y :: r, cs, 0, x, h, hi => by
    simp only [MVcs] at h
    obtain ⟨v, d, rfl, h1, h2, h3, h4⟩ := h
    simp only [List.getElem?_cons_zero, Option.some.injEq] at hi
    subst hi
    exact ⟨[], v, d, rfl, rfl, h1, h2, h3⟩
  | y :: r, cs, i + 1, x, h, hi => by
    simp only [MVcs] at h
    obtain ⟨v, d, rfl, h1, h2, h3, h4⟩ := h
    simp only [List.getElem?_cons_succ] at hi
    obtain ⟨p, v', q, rfl, hp, hc⟩ := MVcs.get h4 hi
    refine ⟨v.cells.toList ++ p, v', q, by simp only [List.append_assoc], ?_, hc⟩
    rw [List.length_append, hp, Array.length_toList, h1, List.take_succ_cons, MV.css]

/-- a value that is no aggregate is one cell -/
theorem PVc.one {v : PV} {c : List Value} (h : PVc w A v c) (hv : v.isAgg = false) : ∃ x, c = [x] ∧ x.cells = #[x] := by
  cases v <;> simp only [PVc] at h <;> try (subst h; exact ⟨_, rfl, rfl⟩)
  · simp [PV.isAgg] at hv
  · obtain ⟨a, cap, rfl, _⟩ := h; exact ⟨_, rfl, rfl⟩
  · obtain ⟨a, cap, rfl, _⟩ := h; exact ⟨_, rfl, rfl⟩
  · obtain ⟨a, rfl, _⟩ := h; exact ⟨_, rfl, fnV_cells _ _⟩
  · rcases h with ⟨rfl, _⟩ | ⟨_, _, _, rfl, _⟩ <;> exact ⟨_, rfl, rfl⟩
theorem PVc.pk_cells {v : PV} {c : List Value} (h : PVc w A v c) : (pk v.isAgg c).cells = c.toArray := by
  cases hv : v.isAgg with
  | true => simp [pk, Value.cells]
  | false =>
    obtain ⟨x, rfl, hx⟩ := h.one hv
    simp [pk, hx]
theorem MVv.nonagg {x : MV} {v : Value} (h : MVv w A E nx x v) (hx : x.isAgg = false) (hd : ∀ n, x ≠ .dead n) : v.cells = #[v] := by
  cases x with
  | p u =>
    simp only [MVv, PVv] at h
    obtain ⟨c, h1, rfl⟩ := h
    simp only [MV.isAgg] at hx
    obtain ⟨y, rfl, hy⟩ := h1.one hx
    simp [pk, hx, hy]
  | nil => simp only [MVv] at h; obtain ⟨a, rfl⟩ := h; rfl
  | own => simp only [MVv] at h; obtain ⟨_, a, cap, rfl, _⟩ := h; rfl
  | ptr => simp only [MVv] at h; obtain ⟨_, a, rfl, _⟩ := h; rfl
  | mref => simp only [MVv] at h; obtain ⟨_, a, rfl, _⟩ := h; rfl
  | agg => simp [MV.isAgg] at hx
  | fn => simp only [MVv] at h; obtain ⟨_, rfl, _⟩ := h; exact fnV_cells _ _
  | tup => simp only [MVv] at h; obtain ⟨_, rfl, _⟩ := h; rfl
  | dead n => exact absurd rfl (hd n)
theorem MVv.agg_eq {x : MV} {v : Value} (h : MVv w A E nx x v) (hx : x.isAgg = true) : ∃ c, v = .agg c := by
  cases x <;> simp only [MV.isAgg, Bool.false_eq_true] at hx
  · rename_i u
    cases u <;> simp only [PV.isAgg, Bool.false_eq_true] at hx
    obtain ⟨cs, rfl, _⟩ := MVv_agg.1 h
    exact ⟨_, rfl⟩
  · simp only [MVv] at h; obtain ⟨cs, rfl, _⟩ := h; exact ⟨_, rfl⟩
theorem MVv.pk_eq {x : MV} {v : Value} (h : MVv w A E nx x v) (hd : ∀ n, x ≠ .dead n) : pk x.isAgg v.cells.toList = v := by
  cases hx : x.isAgg with
  | true => obtain ⟨c, rfl⟩ := h.agg_eq hx; simp [pk, Value.cells]
  | false => have := h.nonagg hx hd; simp [pk, this]
end

/-! ### runs -/
section
variable {P : Program} (w : World)
theorem info_of_cells {t : TypeId} (h : P.cellsOf t ≠ 0) : ∃ i, P.info? t = some i ∧ i.size = P.cellsOf t := by
  unfold Program.cellsOf at h ⊢
  cases hi : P.info? t with
  | none => simp [hi] at h
  | some i => exact ⟨i, rfl, by simp⟩
theorem info_of_underlying {t : TypeId} {d : TypeDesc} (h : P.underlying t = some d) : ∃ i, P.info? t = some i ∧ i.size = P.cellsOf t := by
  unfold Program.underlying at h
  unfold Program.cellsOf
  cases hi : P.info? t with
  | none => simp [hi] at h
  | some i => exact ⟨i, rfl, by simp⟩
theorem run_sizeOf {t : TypeId} {i : TypeInfo} (h : P.info? t = some i) : (sizeOf t).run P w = .ok i.size w := by
  simp [sizeOf, typeInfo, h]
theorem run_sizeOf_u {t : TypeId} (h : hasU P t = true) : (sizeOf t).run P w = .ok (P.cellsOf t) w := by
  unfold hasU at h
  obtain ⟨d, hd⟩ := Option.isSome_iff_exists.1 h
  obtain ⟨i, hi, hs⟩ := info_of_underlying hd
  rw [run_sizeOf w hi, hs]
theorem run_sizeOf_c {t : TypeId} (h : P.cellsOf t ≠ 0) : (sizeOf t).run P w = .ok (P.cellsOf t) w := by
  obtain ⟨i, hi, hs⟩ := info_of_cells h
  rw [run_sizeOf w hi, hs]
theorem run_isAgg {t : TypeId} (h : hasU P t = true) : (isAgg t).run P w = .ok (isAggT P t) w := by
  unfold hasU at h
  obtain ⟨d, hd⟩ := Option.isSome_iff_exists.1 h
  simp only [isAgg, Sem.run_bind, run_underlying hd, Result.andThen_ok, isAggT, hd]
  cases d <;> rfl
theorem run_part {t : TypeId} (h : hasU P t = true) (p c q : List Value) (hc : c.length = P.cellsOf t) (h1 : isAggT P t = false → c.length = 1) :
    (part t (p ++ c ++ q).toArray p.length).run P w = .ok (pk (isAggT P t) c) w := by
  simp only [part, Sem.run_bind, run_isAgg w h, Result.andThen_ok]
  cases hg : isAggT P t with
  | true =>
    simp only [if_true, Sem.run_bind, run_sizeOf_u w h, Result.andThen_ok, Sem.run_pure, pk]
    congr 2
    rw [← hc]
    apply Array.ext'
    simp [List.drop_left', List.take_left']
  | false =>
    have hl := h1 hg
    obtain ⟨x, rfl⟩ := List.length_eq_one_iff.1 hl
    simp [pk]
end

/-! ### Go's == cell by cell -/
section
variable {P : Program} {w : World} {A : Nat → Prop}
def TD.isAgg : TD → Bool | .agg _ => true | _ => false
mutual
theorem fits_cs : ∀ {d : TD} {x : PV}, fits d x = true → x.cs = d.cs ∧ x.isAgg = d.isAgg
  | .int _, .int .., _ => ⟨rfl, rfl⟩
  | .bool, .bool _, _ => ⟨rfl, rfl⟩
  | .str, .str _, _ => ⟨rfl, rfl⟩
  | .agg l, .agg m, h => by
    simp only [fits] at h
    simp only [PV.cs, TD.cs, PV.isAgg, TD.isAgg, and_true]
    exact fitss_cs h
  | .int _, .bool _, h | .int _, .str _, h | .int _, .agg _, h | .int _, .sl _, h | .int _, .ref _, h | .int _, .fn .., h | .int _, .mp .., h | .int _, .nilp, h | .int _, .nilf, h => by simp [fits] at h
  | .bool, .int .., h | .bool, .str _, h | .bool, .agg _, h | .bool, .sl _, h | .bool, .ref _, h | .bool, .fn .., h | .bool, .mp .., h | .bool, .nilp, h | .bool, .nilf, h => by simp [fits] at h
  | .str, .int .., h | .str, .bool _, h | .str, .agg _, h | .str, .sl _, h | .str, .ref _, h | .str, .fn .., h | .str, .mp .., h | .str, .nilp, h | .str, .nilf, h => by simp [fits] at h
  | .agg _, .int .., h | .agg _, .bool _, h | .agg _, .str _, h | .agg _, .sl _, h | .agg _, .ref _, h | .agg _, .fn .., h | .agg _, .mp .., h | .agg _, .nilp, h | .agg _, .nilf, h => by simp [fits] at h
theorem fitss_cs : ∀ {l : List TD} {m : List PV}, fitss l m = true → PV.css m = TD.css l
  | [], [], _ => rfl
  | d :: l, x :: m, h => by
    simp only [fitss, Bool.and_eq_true] at h
    simp only [PV.css, TD.css, (fits_cs h.1).1, fitss_cs h.2]
  | [], _ :: _, h | _ :: _, [], h => by simp [fitss] at h
end

theorem tdOf_u {n : Nat} {t : TypeId} {d : TD} (h : tdOf P n t = some d) : hasU P t = true ∧ isAggT P t = d.isAgg := by
  cases n with
  | zero => simp [tdOf] at h
  | succ n =>
    unfold tdOf at h
    unfold hasU isAggT
    cases hu : P.underlying t with
    | none => rw [hu] at h; cases h
    | some dd =>
      rw [hu] at h
      cases dd <;> simp only at h <;> first
        | (cases h; exact ⟨rfl, rfl⟩)
        | (cases h; done)
        | (split at h
           · cases h
           · split at h
             · cases h; exact ⟨rfl, rfl⟩
             · cases h)
        | (split at h
           · split at h
             · cases h; exact ⟨rfl, rfl⟩
             · cases h
           · cases h)

theorem run_eqArr {n : Nat} {e : TypeId} {d : TD} {z : Nat} (f : Nat) (hz : P.cellsOf e = z) (hu : hasU P e = true) (hagg : isAggT P e = d.isAgg) (hd : d.cs = z)
    (ih : ∀ (x y : PV) (cx cy : List Value), fits d x = true → fits d y = true → PVc w A x cx → PVc w A y cy → (Op.equalIn (f + n) e (pk x.isAgg cx) (pk y.isAgg cy)).run P w = .ok (eqV x y) w) :
    ∀ (k i : Nat) (xs ys : List PV) (px cx py cy : List Value), fitss (List.replicate k d) xs = true → fitss (List.replicate k d) ys = true → PVcs w A xs cx → PVcs w A ys cy →
      px.length = i * z → py.length = i * z →
      ((forIn (List.range' i k) ((none, ()) : Option Bool × Unit) fun j r => do
        let a ← part e (px ++ cx).toArray (j * z)
        let b ← part e (py ++ cy).toArray (j * z)
        let c ← Op.equalIn (f + n) e a b
        if (!c) = true then pure (ForInStep.done (some false, ())) else pure (ForInStep.yield (none, ())) : Sem (Option Bool × Unit))).run P w =
        .ok (if eqVs xs ys then (none, ()) else (some false, ())) w
  | 0, i, xs, ys, px, cx, py, cy, hx, hy, _, _, _, _ => by
    cases xs with
    | nil => cases ys with
      | nil => simp [eqVs]
      | cons => simp [fitss] at hy
    | cons => simp [fitss] at hx
  | k + 1, i, xs, ys, px, cx, py, cy, hx, hy, rx, ry, lx, ly => by
    cases xs with
    | nil => simp [List.replicate_succ, fitss] at hx
    | cons x xs =>
      cases ys with
      | nil => simp [List.replicate_succ, fitss] at hy
      | cons y ys =>
        simp only [List.replicate_succ, fitss, Bool.and_eq_true] at hx hy
        simp only [PVcs] at rx ry
        obtain ⟨c1, d1, rfl, r1, r2⟩ := rx
        obtain ⟨c2, d2, rfl, s1, s2⟩ := ry
        obtain ⟨hx1, hx2⟩ := fits_cs hx.1
        obtain ⟨hy1, hy2⟩ := fits_cs hy.1
        have e1 := run_part (P := P) w hu px c1 d1 (by rw [r1.len, hx1, hd, hz]) (fun h => by rw [hagg] at h; rw [← hx2] at h; obtain ⟨_, rfl, _⟩ := r1.one h; rfl)
        have e2 := run_part (P := P) w hu py c2 d2 (by rw [s1.len, hy1, hd, hz]) (fun h => by rw [hagg] at h; rw [← hy2] at h; obtain ⟨_, rfl, _⟩ := s1.one h; rfl)
        rw [hagg, ← hx2] at e1
        rw [hagg, ← hy2] at e2
        rw [lx] at e1; rw [ly] at e2
        rw [List.range'_succ, List.forIn_cons]
        simp only [← List.append_assoc] at e1 e2 ⊢
        simp only [Sem.run_bind, e1, e2, Result.andThen_ok, ih x y c1 c2 hx.1 hy.1 r1 s1, Sem.run_ite]
        cases he : eqV x y with
        | false => simp [eqVs, he]
        | true =>
          simp only [Bool.not_true, Bool.false_eq_true, if_false, Sem.run_pure, Result.andThen_ok]
          have := run_eqArr f hz hu hagg hd ih k (i + 1) xs ys (px ++ c1) d1 (py ++ c2) d2 hx.2 hy.2 r2 s2
            (by rw [List.length_append, lx, r1.len, hx1, hd, Nat.succ_mul]) (by rw [List.length_append, ly, s1.len, hy1, hd, Nat.succ_mul])
          simp only [eqVs, he, Bool.true_and]
          exact this
end
end Go.Mid
/- Go's == on structs and arrays, as the middle semantics has it. -/
namespace Go.Mid
set_option linter.unusedSimpArgs false
set_option linter.unusedVariables false
open Go.RowKit
section
variable {P : Program} {w : World} {A : Nat → Prop}
theorem run_eqFields {n f : Nat} (ih : ∀ (t : TypeId) (d : TD), tdOf P n t = some d → ∀ (x y : PV) (cx cy : List Value), fits d x = true → fits d y = true → PVc w A x cx → PVc w A y cy →
      (Op.equalIn (f + n) t (pk x.isAgg cx) (pk y.isAgg cy)).run P w = .ok (eqV x y) w) :
    ∀ (fs : List Field) (off : Nat) (ds : List TD) (xs ys : List PV) (px cx py cy : List Value), tdsOf P (fs.map fun f => (f, tdOf P n f.type)) off = some ds → fitss ds xs = true → fitss ds ys = true →
      PVcs w A xs cx → PVcs w A ys cy → px.length = off → py.length = off →
      (Op.eqFields (f + n) (px ++ cx).toArray (py ++ cy).toArray fs).run P w = .ok (eqVs xs ys) w
  | [], off, ds, xs, ys, px, cx, py, cy, h, hx, hy, _, _, _, _ => by
    simp only [List.map_cons, List.map_nil, tdsOf] at h; cases h
    cases xs <;> cases ys <;> simp [fitss] at hx hy
    simp [Op.eqFields, eqVs]
  | fd :: fs, off, ds, xs, ys, px, cx, py, cy, h, hx, hy, rx, ry, lx, ly => by
    simp only [List.map_cons, List.map_nil, tdsOf] at h
    split at h
    · rename_i d ds' h1 h2
      split at h
      · rename_i hc
        obtain ⟨hname, hoff, hcs⟩ := hc
        cases h
        cases xs with
        | nil => simp [fitss] at hx
        | cons x xs =>
          cases ys with
          | nil => simp [fitss] at hy
          | cons y ys =>
            simp only [fitss, Bool.and_eq_true] at hx hy
            simp only [PVcs] at rx ry
            obtain ⟨c1, d1, rfl, r1, r2⟩ := rx
            obtain ⟨c2, d2, rfl, s1, s2⟩ := ry
            obtain ⟨hx1, hx2⟩ := fits_cs hx.1
            obtain ⟨hy1, hy2⟩ := fits_cs hy.1
            obtain ⟨hu, hagg⟩ := tdOf_u h1
            have e1 := run_part (P := P) w hu px c1 d1 (by rw [r1.len, hx1, hcs]) (fun h => by rw [hagg] at h; rw [← hx2] at h; obtain ⟨_, rfl, _⟩ := r1.one h; rfl)
            have e2 := run_part (P := P) w hu py c2 d2 (by rw [s1.len, hy1, hcs]) (fun h => by rw [hagg] at h; rw [← hy2] at h; obtain ⟨_, rfl, _⟩ := s1.one h; rfl)
            rw [hagg, ← hx2] at e1
            rw [hagg, ← hy2] at e2
            rw [lx, ← hoff] at e1; rw [ly, ← hoff] at e2
            have ih2 := run_eqFields ih fs (off + P.cellsOf fd.type) ds' xs ys (px ++ c1) d1 (py ++ c2) d2 h2 hx.2 hy.2 r2 s2
              (by rw [List.length_append, lx, r1.len, hx1, hcs]) (by rw [List.length_append, ly, s1.len, hy1, hcs])
            simp only [← List.append_assoc] at e1 e2 ⊢
            simp only [Op.eqFields, if_pos hname, Sem.run_bind, e1, e2, Result.andThen_ok, ih fd.type d h1 x y c1 c2 hx.1 hy.1 r1 s1, Sem.run_ite]
            cases he : eqV x y with
            | false => simp [eqVs, he]
            | true =>
              simp only [Bool.not_true, Bool.false_eq_true, if_false, eqVs, he, Bool.true_and]
              exact ih2
      · cases h
    · cases h

theorem run_equal_td : ∀ (n : Nat) (f : Nat) (t : TypeId) (d : TD), tdOf P n t = some d → ∀ (x y : PV) (cx cy : List Value), fits d x = true → fits d y = true → PVc w A x cx → PVc w A y cy →
      (Op.equalIn (f + n) t (pk x.isAgg cx) (pk y.isAgg cy)).run P w = .ok (eqV x y) w
  | 0, _, _, _, h => by simp [tdOf] at h
  | n + 1, f, t, d, h => by
    intro x y cx cy hx hy rx ry
    have ih := run_equal_td n
    unfold tdOf at h
    cases hu : P.underlying t with
    | none => rw [hu] at h; cases h
    | some dd =>
      rw [hu] at h
      cases dd <;> simp only at h <;> try (cases h; done)
      · cases h
        cases x <;> simp [fits] at hx
        cases y <;> simp [fits] at hy
        simp only [PVc] at rx ry
        subst rx; subst ry
        exact run_equalIn_bool' w (f + n) t _ _ hu
      · cases h
        cases x <;> simp [fits] at hx
        cases y <;> simp [fits] at hy
        simp only [PVc] at rx ry
        subst rx; subst ry
        subst hx; subst hy
        exact run_equalIn_int w (f + n) t _ _ _ _ hu
      · cases h
        cases x <;> simp [fits] at hx
        cases y <;> simp [fits] at hy
        simp only [PVc] at rx ry
        subst rx; subst ry
        exact run_equalIn_string w (f + n) t _ _ hu
      · rename_i len e
        split at h
        · rename_i d' h1
          split at h
          · rename_i hcs
            cases h
            cases x <;> simp only [fits, Bool.false_eq_true] at hx
            cases y <;> simp only [fits, Bool.false_eq_true] at hy
            simp only [PVc] at rx ry
            obtain ⟨hue, hagg⟩ := tdOf_u h1
            have := run_eqArr (P := P) (w := w) (A := A) (n := n) (e := e) (d := d') (z := P.cellsOf e) f rfl hue hagg hcs (ih f e d' h1) len 0 _ _ [] cx [] cy hx hy rx ry (by simp) (by simp)
            simp only [List.nil_append] at this
            rw [show f + (n + 1) = (f + n) + 1 from rfl]
            simp only [pk, PV.isAgg, if_true, Op.equalIn, Sem.run_bind, run_underlying hu, Result.andThen_ok, run_sizeOf_u w hue]
            have hs : ([:len] : Std.Legacy.Range).size = len := by simp [Std.Legacy.Range.size]
            rw [Std.Legacy.Range.forIn_eq_forIn_range', hs]
            simp only at this ⊢
            rw [this]
            simp only [eqV]
            cases eqVs _ _ <;> rfl
          · cases h
        · cases h
      · rename_i fs
        split at h
        · cases h
        · rename_i hst
          split at h
          · rename_i ds h1
            cases h
            cases x <;> simp only [fits, Bool.false_eq_true] at hx
            cases y <;> simp only [fits, Bool.false_eq_true] at hy
            simp only [PVc] at rx ry
            have hfs : P.fieldsOf t = fs := by simp [Program.fieldsOf, hu]
            have := run_equalIn_struct (P := P) w (f + n) t cx.toArray cy.toArray (by rw [hfs]; exact hu) (by simpa using hst)
            rw [show f + (n + 1) = (f + n) + 1 from rfl]
            simp only [pk, PV.isAgg, if_true]
            rw [this, hfs]
            have := run_eqFields (ih f) fs.toList 0 ds _ _ [] cx [] cy h1 hx hy rx ry rfl rfl
            simpa [eqV] using this
          · cases h
end
end Go.Mid
/- The operations that do not touch owned memory, one by one. -/
namespace Go.Mid
set_option linter.unusedSimpArgs false
set_option linter.unusedVariables false
open Go.RowKit
theorem eval_const (a : Act) (v : Value) : a.eval (.const v) = v := rfl
section
variable {P : Program} {o : Oper} {a : Act} {w : World} {A : Nat → Prop} {E : HeapA An} {nx : Stp} {γ : Nat} {v : MV} {h h' : Heap} {s : Slots} {K : Calls3} {d : Option Nat}
  (hs : SlR P w A E nx s a) (hm : MR w A E h nx)
include hs hm

theorem sim_move {x : Operand} {y : Opd} (ho : o.op = .move x ∨ o.op = .assign x) (hx : opdC P o.type x = some y)
    (he : evalOp K γ d s h (.move y) = some (v, h')) : OpOk P o a w A E nx γ v h' := by
  simp only [evalOp, Option.some.injEq, Prod.mk.injEq] at he
  obtain ⟨rfl, rfl⟩ := he
  refine OpOk.idle ?_ (opdC_sim hs hx) hm
  rcases ho with ho | ho <;> simp [execOp, ho]

theorem sim_pick {c x y : Operand} {c' x' y' : Opd} (ho : o.op = .pick c x y) {t0 : TypeId} (hc : opdC P t0 c = some c') {t1 t2 : TypeId} (hx : opdC P t1 x = some x') (hy : opdC P t2 y = some y')
    (he : evalOp K γ d s h (.pick c' x' y') = some (v, h')) : OpOk P o a w A E nx γ v h' := by
  simp only [evalOp] at he
  split at he
  · rename_i b hb
    simp only [Option.some.injEq, Prod.mk.injEq] at he
    obtain ⟨rfl, rfl⟩ := he
    have hcv := opdC_sim hs hc
    rw [hb, MVv_bool] at hcv
    refine OpOk.idle (val := if b then a.eval x else a.eval y) ?_ ?_ hm
    · simp [execOp, ho, hcv, asBool]
    · cases b
      · exact opdC_sim hs hy
      · exact opdC_sim hs hx
  · cases he

theorem sim_nilc {x : Operand} {y : Opd} (ho : o.op = .nilCheck x) {t : TypeId} (hx : opdC P t x = some y)
    (he : evalOp K γ d s h (.nilc y) = some (v, h')) : OpOk P o a w A E nx γ v h' := by
  have hv := opdC_sim hs hx
  simp only [evalOp] at he
  split at he
  · rename_i u hu
    simp only [Option.some.injEq, Prod.mk.injEq] at he
    obtain ⟨rfl, rfl⟩ := he
    rw [hu] at hv
    obtain ⟨b, o', hval, _⟩ := MVv_ref.1 hv
    refine OpOk.idle (val := a.eval x) ?_ hv hm
    simp [execOp, ho, hval]
  · rename_i id np rp g o' hu
    simp only [Option.some.injEq, Prod.mk.injEq] at he
    obtain ⟨rfl, rfl⟩ := he
    rw [hu] at hv
    refine OpOk.idle (val := a.eval x) ?_ hv hm
    simp only [MVv] at hv
    obtain ⟨_, p, hval, _⟩ := hv
    simp [execOp, ho, hval]
  · cases he

theorem sim_bin {bl : Bool} {op : BinOp} {t yt : TypeId} {x y : Operand} {x' y' : Opd} (ho : o.op = .binOp op t x y yt) (hx : opdC P t x = some x') (hy : opdC P yt y = some y')
    (hb : P.underlying t = some .bool ∨ (∃ k, P.underlying t = some (.int k)) ∨ P.underlying t = some .string)
    (hbool : bl = true → P.underlying t = some .bool)
    (he : evalOp K γ d s h (.bin bl op x' y') = some (v, h')) : OpOk P o a w A E nx γ v h' := by
  have hvx := opdC_sim hs hx
  have hvy := opdC_sim hs hy
  simp only [evalOp] at he
  split at he
  · rename_i p q hp hq
    split at he
    · rename_i hbl
      split at he
      · rename_i r hr
        simp only [Option.some.injEq, Prod.mk.injEq] at he
        obtain ⟨rfl, rfl⟩ := he
        rw [hp] at hvx; rw [hq] at hvy
        obtain ⟨c, hc1, hc2, hc3⟩ := run_binOp (P := P) w op t hr hvx hvy (by rintro ⟨b, rfl⟩; exact hbool hbl.symm)
        refine OpOk.idle (val := c) ?_ hc2 hm
        simp [execOp, ho, hc3, hc1]
      · cases he
    · cases he
  · cases he

theorem sim_eqs {op : BinOp} {t yt : TypeId} {x y : Operand} {x' y' : Opd} {neg : Bool} {td : TD} (ho : o.op = .binOp op t x y yt) (hop : op = if neg then .neq else .eql)
    (hx : opdC P t x = some x') (hy : opdC P yt y = some y') (htd : eqable P t = some td) (hagg : isAggT P t = true)
    (he : evalOp K γ d s h (.eqs neg td x' y') = some (v, h')) : OpOk P o a w A E nx γ v h' := by
  have hvx := opdC_sim hs hx
  have hvy := opdC_sim hs hy
  simp only [evalOp] at he
  split at he
  · rename_i p q hp hq
    split at he
    · rename_i hfit
      simp only [Bool.and_eq_true] at hfit
      simp only [Option.some.injEq, Prod.mk.injEq, boolV] at he
      obtain ⟨rfl, rfl⟩ := he
      rw [hp] at hvx; rw [hq] at hvy
      unfold eqable at htd
      split at htd
      · cases htd
      · rename_i hg
        have hg' : P.eqGuardType P.depth t = false := by simpa using hg
        simp only [MVv, PVv] at hvx hvy
        obtain ⟨cx, rx, ex⟩ := hvx
        obtain ⟨cy, ry, ey⟩ := hvy
        have hu := tdOf_u htd
        have hpa : p.isAgg = true := by rw [(fits_cs hfit.1).2, ← hu.2, hagg]
        have hqa : q.isAgg = true := by rw [(fits_cs hfit.2).2, ← hu.2, hagg]
        have hr := run_equal_td (P := P) (w := w) (A := A) 20 9980 t td htd p q cx cy hfit.1 hfit.2 rx ry
        rw [hpa, hqa] at hr
        rw [hpa] at ex; rw [hqa] at ey
        simp only [pk, if_true] at hr ex ey
        refine OpOk.idle (val := .bool (eqV p q != neg)) ?_ (MVv_bool.2 rfl) hm
        cases neg with
        | false =>
          simp only [Bool.false_eq_true, if_false] at hop
          subst hop
          simp only [execOp, ho, ex, ey, Sem.run_bind, run_eqGuard_agg w _ _ _ _ _ _ hg', Result.andThen_ok, run_eql_struct, hr, Sem.run_pure, Bool.bne_false]
        | true =>
          simp only [if_true] at hop
          subst hop
          simp only [execOp, ho, ex, ey, Sem.run_bind, run_eqGuard_agg w _ _ _ _ _ _ hg', Result.andThen_ok, run_neq_struct, hr, Sem.run_pure, Bool.bne_true]
    · cases he
  · cases he

theorem sim_not {t : TypeId} {x : Operand} {x' : Opd} (ho : o.op = .unOp .not t x) (hx : opdC P t x = some x')
    (he : evalOp K γ d s h (.not x') = some (v, h')) : OpOk P o a w A E nx γ v h' := by
  have hvx := opdC_sim hs hx
  simp only [evalOp] at he
  split at he
  · rename_i b hb
    simp only [Option.some.injEq, Prod.mk.injEq, boolV] at he
    obtain ⟨rfl, rfl⟩ := he
    rw [hb, MVv_bool] at hvx
    refine OpOk.idle (val := .bool !b) ?_ (MVv_bool.2 rfl) hm
    simp [execOp, ho, hvx, Op.unary]
  · cases he
theorem sim_neg {t : TypeId} {x : Operand} {x' : Opd} (ho : o.op = .unOp .neg t x) (hx : opdC P t x = some x')
    (he : evalOp K γ d s h (.neg x') = some (v, h')) : OpOk P o a w A E nx γ v h' := by
  have hvx := opdC_sim hs hx
  simp only [evalOp] at he
  split at he
  · rename_i k n hb
    simp only [Option.some.injEq, Prod.mk.injEq] at he
    obtain ⟨rfl, rfl⟩ := he
    rw [hb, MVv_int] at hvx
    refine OpOk.idle (val := .int k (k.wrap (0 - n))) ?_ (MVv_int.2 rfl) hm
    simp [execOp, ho, hvx, Op.unary, Op.intArith]
  · cases he
theorem sim_inv {t : TypeId} {x : Operand} {x' : Opd} (ho : o.op = .unOp .xor t x) (hx : opdC P t x = some x')
    (he : evalOp K γ d s h (.inv x') = some (v, h')) : OpOk P o a w A E nx γ v h' := by
  have hvx := opdC_sim hs hx
  simp only [evalOp] at he
  split at he
  · rename_i k n hb
    split at he
    · rename_i m hmm
      simp only [Option.some.injEq, Prod.mk.injEq] at he
      obtain ⟨rfl, rfl⟩ := he
      rw [hb, MVv_int] at hvx
      refine OpOk.idle (val := .int k m) ?_ (MVv_int.2 rfl) hm
      have := run_bits (P := P) w .xor k (if k.signed then -1 else k.max) n m hmm
      simp [execOp, ho, hvx, Op.unary, this]
    · cases he
  · cases he
theorem sim_convI {src dst : TypeId} {k0 k : IntKind} {x : Operand} {x' : Opd} (ho : o.op = .convert src dst x) (hx : opdC P src x = some x') (h0 : P.underlying src = some (.int k0)) (h1 : P.underlying dst = some (.int k))
    (he : evalOp K γ d s h (.convI k x') = some (v, h')) : OpOk P o a w A E nx γ v h' := by
  have hvx := opdC_sim hs hx
  simp only [evalOp] at he
  split at he
  · rename_i k1 n hb
    simp only [Option.some.injEq, Prod.mk.injEq] at he
    obtain ⟨rfl, rfl⟩ := he
    rw [hb, MVv_int] at hvx
    refine OpOk.idle (val := .int k (k.wrap n)) ?_ (MVv_int.2 rfl) hm
    simp [execOp, ho, hvx, convert, run_underlying h0, run_underlying h1, Conv.intToInt]
  · cases he
theorem sim_convS {src dst : TypeId} {x : Operand} {x' : Opd} (ho : o.op = .convert src dst x) (hx : opdC P src x = some x') (h0 : P.underlying src = some .string) (h1 : P.underlying dst = some .string)
    (he : evalOp K γ d s h (.convS x') = some (v, h')) : OpOk P o a w A E nx γ v h' := by
  have hvx := opdC_sim hs hx
  simp only [evalOp] at he
  split at he
  · rename_i b hb
    simp only [Option.some.injEq, Prod.mk.injEq] at he
    obtain ⟨rfl, rfl⟩ := he
    rw [hb, MVv_str] at hvx
    refine OpOk.idle (val := .string b) ?_ (MVv_str.2 rfl) hm
    simp [execOp, ho, hvx, convert, run_underlying h0, run_underlying h1]
  · cases he
theorem sim_convR {src dst : TypeId} {k0 : IntKind} {x : Operand} {x' : Opd} (ho : o.op = .convert src dst x) (hx : opdC P src x = some x') (h0 : P.underlying src = some (.int k0)) (h1 : P.underlying dst = some .string)
    (he : evalOp K γ d s h (.convR x') = some (v, h')) : OpOk P o a w A E nx γ v h' := by
  have hvx := opdC_sim hs hx
  simp only [evalOp] at he
  split at he
  · rename_i k1 n hb
    simp only [Option.some.injEq, Prod.mk.injEq] at he
    obtain ⟨rfl, rfl⟩ := he
    rw [hb, MVv_int] at hvx
    refine OpOk.idle (val := .string (Utf8.encode n)) ?_ (MVv_str.2 rfl) hm
    simp [execOp, ho, hvx, convert, run_underlying h0, run_underlying h1, Conv.intToString]
  · cases he

theorem sim_isnilP {op : BinOp} {t yt e : TypeId} {x : Operand} {x' : Opd} {neg : Bool} (ho : o.op = .binOp op t x (.const (.pointer none)) yt) (hop : op = if neg then .neq else .eql)
    (hx : opdC P t x = some x') (hu : P.underlying t = some (.pointer e))
    (he : evalOp K γ d s h (.isnil false neg x') = some (v, h')) : OpOk P o a w A E nx γ v h' := by
  have hvx := opdC_sim hs hx
  have main : ∀ (b : Bool) (p : Option Addr), a.eval x = .pointer p → b = p.isNone → OpOk P o a w A E nx γ (boolV (b != neg)) h := by
    intro b p hp hb
    refine OpOk.idle (val := .bool (b != neg)) ?_ (MVv_bool.2 rfl) hm
    have h0 : ∀ f, (Op.equalIn (f + 1) t (.pointer p) (.pointer none)).run P w = .ok b w := by
      intro f
      subst hb
      cases p <;> simp [Op.equalIn, run_underlying hu]
    have h1 : (Op.equal t (.pointer p) (.pointer none)).run P w = .ok b w := h0 9999
    have h2 : (eqGuard op t x (.const (.pointer none)) (.pointer p) (.pointer none)).run P w = .ok () w := by
      unfold eqGuard; cases op <;> simp
    cases neg with
    | false =>
      simp only [Bool.false_eq_true, if_false] at hop
      subst hop
      have e1 : binOp .eql t (.pointer p) (.pointer none) = (do pure (.bool (← Op.equal t (.pointer p) (.pointer none)))) := by cases p <;> rfl
      simp [execOp, ho, hp, eval_const, h2, e1, h1]
    | true =>
      simp only [if_true] at hop
      subst hop
      have e1 : binOp .neq t (.pointer p) (.pointer none) = (do pure (.bool (!(← Op.equal t (.pointer p) (.pointer none))))) := by cases p <;> rfl
      simp [execOp, ho, hp, eval_const, h2, e1, h1]
  simp only [evalOp] at he
  split at he <;> simp only [Option.some.injEq, Prod.mk.injEq, reduceCtorEq] at he <;> try contradiction
  · obtain ⟨rfl, rfl⟩ := he
    rename_i hb
    rw [hb, MVv_nilp] at hvx
    exact main true none hvx rfl
  · obtain ⟨rfl, rfl⟩ := he
    rename_i hb
    rw [hb] at hvx
    obtain ⟨b, o', hval, _⟩ := MVv_ref.1 hvx
    exact main false _ hval rfl
  · obtain ⟨rfl, rfl⟩ := he
    rename_i hb
    rw [hb] at hvx
    simp only [MVv] at hvx
    obtain ⟨_, p, hval, _⟩ := hvx
    exact main false _ hval rfl
theorem sim_isnilF {op : BinOp} {t yt : TypeId} {ps rs : Array TypeId} {vr : Bool} {x : Operand} {x' : Opd} {neg : Bool} (ho : o.op = .binOp op t x (.const .nilFunc) yt) (hop : op = if neg then .neq else .eql)
    (hx : opdC P t x = some x') (hu : P.underlying t = some (.func ps rs vr))
    (he : evalOp K γ d s h (.isnil true neg x') = some (v, h')) : OpOk P o a w A E nx γ v h' := by
  have hvx := opdC_sim hs hx
  have main : ∀ (b : Bool) (p : Value), a.eval x = p → (p = .nilFunc ∧ b = true ∨ (∃ f i c, p = .func f i c) ∧ b = false) → OpOk P o a w A E nx γ (boolV (b != neg)) h := by
    intro b p hp hb
    refine OpOk.idle (val := .bool (b != neg)) ?_ (MVv_bool.2 rfl) hm
    have h0 : ∀ f, (Op.equalIn (f + 1) t p .nilFunc).run P w = .ok b w := by
      intro f
      rcases hb with ⟨rfl, rfl⟩ | ⟨⟨f, i, c, rfl⟩, rfl⟩ <;> simp [Op.equalIn, run_underlying hu]
    have h1 : (Op.equal t p .nilFunc).run P w = .ok b w := h0 9999
    have h2 : (eqGuard op t x (.const .nilFunc) p .nilFunc).run P w = .ok () w := by
      rcases hb with ⟨rfl, rfl⟩ | ⟨⟨f, i, c, rfl⟩, rfl⟩ <;> (unfold eqGuard; cases op <;> simp)
    cases neg with
    | false =>
      simp only [Bool.false_eq_true, if_false] at hop
      subst hop
      have e1 : binOp .eql t p .nilFunc = (do pure (.bool (← Op.equal t p .nilFunc))) := by
        rcases hb with ⟨rfl, rfl⟩ | ⟨⟨f, i, c, rfl⟩, rfl⟩ <;> rfl
      simp [execOp, ho, hp, eval_const, h2, e1, h1]
    | true =>
      simp only [if_true] at hop
      subst hop
      have e1 : binOp .neq t p .nilFunc = (do pure (.bool (!(← Op.equal t p .nilFunc)))) := by
        rcases hb with ⟨rfl, rfl⟩ | ⟨⟨f, i, c, rfl⟩, rfl⟩ <;> rfl
      simp [execOp, ho, hp, eval_const, h2, e1, h1]
  simp only [evalOp] at he
  split at he <;> simp only [Option.some.injEq, Prod.mk.injEq, reduceCtorEq] at he <;> try contradiction
  · obtain ⟨rfl, rfl⟩ := he
    rename_i hb
    rw [hb, MVv_nilf] at hvx
    exact main true _ hvx (.inl ⟨rfl, rfl⟩)
  · obtain ⟨rfl, rfl⟩ := he
    rename_i hb
    rw [hb] at hvx
    obtain ⟨vs, hval, _⟩ := MVv_pfn.1 hvx
    exact main false _ hval (.inr ⟨fnV_is _ _, rfl⟩)
  · obtain ⟨rfl, rfl⟩ := he
    rename_i hb
    rw [hb] at hvx
    simp only [MVv] at hvx
    obtain ⟨vs, hval, _⟩ := hvx
    exact main false _ hval (.inr ⟨fnV_is _ _, rfl⟩)

theorem sim_ext {x : Operand} {i : Nat} {x' : Opd} {t : TypeId} (ho : o.op = .extract x i) (hx : opdC P t x = some x')
    (he : evalOp K γ d s h (.ext x' i) = some (v, h')) : OpOk P o a w A E nx γ v h' := by
  have hvx := opdC_sim hs hx
  simp only [evalOp] at he
  split at he
  · rename_i l hb
    split at he
    · rename_i u hi
      simp only [Option.some.injEq, Prod.mk.injEq] at he
      obtain ⟨rfl, rfl⟩ := he
      rw [hb] at hvx
      simp only [MVv] at hvx
      obtain ⟨vs, hval, hl⟩ := hvx
      have key : ∀ {l : List MV} {vs : List Value} {i : Nat}, MVvs w A E nx l vs → l[i]? = some u → ∃ x, vs[i]? = some x ∧ MVv w A E nx u x := by
        intro l
        induction l with
        | nil => intro vs i _ hi; simp at hi
        | cons y r ih =>
          intro vs i hl hi
          simp only [MVvs] at hl
          obtain ⟨x, d, rfl, h1, h2⟩ := hl
          cases i with
          | zero => simp at hi; subst hi; exact ⟨x, rfl, h1⟩
          | succ i => simp at hi; simpa using ih h2 hi
      obtain ⟨x, hx1, hx2⟩ := key hl hi
      refine OpOk.idle (val := x) ?_ hx2 hm
      simp [execOp, ho, hval, Instr.extract, hx1]
    · cases he
  · cases he
end
end Go.Mid
/- Places in owned memory: what lies there, in the model's world. -/
namespace Go.Mid
set_option linter.unusedSimpArgs false
set_option linter.unusedVariables false
open Go.RowKit

/-! ### erasing annotations -/
section
variable {α β : Type} (f : α → β)
theorem subT_map : ∀ (p : List Nat) (t : T α), subT (t.mapA f) p = (subT t p).map (T.mapA f)
  | [], t => by simp [subT]
  | i :: r, .p v => by
    cases v <;> simp only [T.mapA, subT, Option.map_none]
    rename_i l
    cases l[i]? with
    | none => rfl
    | some v => exact subT_map r (.p v)
  | i :: r, .m v => by simp [T.mapA, subT]
  | i :: r, .agg l => by
    simp only [T.mapA, subT, T.mapAs_eq, List.getElem?_map]
    cases l[i]? with
    | none => rfl
    | some t => exact subT_map r t
  | i :: r, .vec a z l n => by
    simp only [T.mapA, subT, T.mapAs_eq, List.getElem?_map]
    cases l[i]? with
    | none => rfl
    | some t => exact subT_map r t
  | i :: r, .mp a ks l => by simp [T.mapA, subT]
  | i :: r, .hole n => by simp [T.mapA, subT]
theorem subO_map (ob : Option (Obj α)) (p : List Nat) : subO (ob.map (Obj.mapA f)) p = (subO ob p).map (T.mapA f) := by
  cases ob with
  | none => cases p <;> rfl
  | some o =>
    cases o with
    | cell a t => simp only [Option.map_some, Obj.mapA, subO]; exact subT_map f p t
    | vec a z l =>
      cases p with
      | nil => rfl
      | cons i r =>
        simp only [Option.map_some, Obj.mapA, subO, T.mapAs_eq, List.getElem?_map]
        cases l[i]? with
        | none => rfl
        | some t => exact subT_map f r t
    | mp a ks l => cases p <;> rfl
    | gone => cases p <;> rfl
theorem vecAt_map (ob : Option (Obj α)) (p : List Nat) : vecAt (ob.map (Obj.mapA f)) p = (vecAt ob p).map fun x => (f x.1, x.2.1, x.2.2.map (T.mapA f)) := by
  have h := subO_map f ob p
  cases ob with
  | none => cases p <;> rfl
  | some o =>
    cases o with
    | vec a z l =>
      cases p with
      | nil => simp [Obj.mapA, vecAt, T.mapAs_eq]
      | cons i r =>
        simp only [Option.map_some, vecAt] at h ⊢
        simp only [Obj.mapA] at h ⊢
        rw [h]
        cases hs : subO (some (Obj.vec a z l)) (i :: r) with
        | none => rfl
        | some t => cases t <;> simp [T.mapA, T.mapAs_eq]
    | cell a t =>
      simp only [Option.map_some, vecAt] at h ⊢
      simp only [Obj.mapA] at h ⊢
      rw [h]
      cases hs : subO (some (Obj.cell a t)) p with
      | none => rfl
      | some t => cases t <;> simp [T.mapA, T.mapAs_eq]
    | mp a ks l =>
      simp only [Option.map_some, vecAt] at h ⊢
      simp only [Obj.mapA] at h ⊢
      rw [h]
      cases hs : subO (some (Obj.mp a ks l)) p with
      | none => rfl
      | some t => cases t <;> simp [T.mapA, T.mapAs_eq]
    | gone =>
      simp only [Option.map_some, vecAt] at h ⊢
      simp only [Obj.mapA] at h ⊢
      rw [h]
      cases hs : subO (some (Obj.gone : Obj α)) p with
      | none => rfl
      | some t => cases t <;> simp [T.mapA, T.mapAs_eq]
mutual
theorem T.cs_map : ∀ (t : T α), (t.mapA f).cs = t.cs
  | .p _ => rfl
  | .m _ => rfl
  | .agg l => by simp only [T.mapA, T.cs]; exact T.css_map l
  | .vec .. => rfl
  | .mp .. => rfl
  | .hole _ => rfl
theorem T.css_map : ∀ (l : List (T α)), T.css (T.mapAs f l) = T.css l
  | [] => rfl
  | t :: r => by simp only [T.mapAs, T.css, T.cs_map t, T.css_map r]
end
theorem T.css_map' (l : List (T α)) : T.css (l.map (T.mapA f)) = T.css l := by rw [← T.mapAs_eq, T.css_map]
theorem lookF_map : ∀ (p : List Nat) (t : T α) (o : Nat), lookF (t.mapA f) p o = (lookF t p o).map fun x => (x.1.mapA f, x.2)
  | [], t, o => by simp [lookF]
  | i :: r, .p v, o => by
    cases v <;> simp only [T.mapA, lookF, Option.map_none]
    rename_i l
    cases l[i]? with
    | none => rfl
    | some v => exact lookF_map r (.p v) _
  | i :: r, .m v, o => by simp [T.mapA, lookF]
  | i :: r, .agg l, o => by
    simp only [T.mapA, lookF, T.mapAs_eq, List.getElem?_map]
    cases l[i]? with
    | none => rfl
    | some t =>
      simp only [Option.map_some]
      rw [← List.map_take, T.css_map' f]
      exact lookF_map r t _
  | i :: r, .vec a z l n, o => by simp [T.mapA, lookF]
  | i :: r, .mp a ks l, o => by simp [T.mapA, lookF]
  | i :: r, .hole n, o => by simp [T.mapA, lookF]
theorem look_map (ob : Option (Obj α)) (np : Option (List Nat)) (rp : List Nat) : look (ob.map (Obj.mapA f)) np rp = (look ob np rp).map fun x => (x.1.mapA f, f x.2.1, x.2.2) := by
  cases np with
  | none =>
    cases ob with
    | none => rfl
    | some o =>
      cases o <;> simp only [look, Option.map_some, Obj.mapA, Option.map_none]
      rename_i a t
      rw [lookF_map]
      cases lookF t rp 0 <;> rfl
  | some p =>
    simp only [look, vecAt_map]
    cases vecAt ob p with
    | none => rfl
    | some x =>
      obtain ⟨a, z, l⟩ := x
      cases rp with
      | nil => rfl
      | cons i r =>
        simp only [Option.map_some, List.getElem?_map]
        cases l[i]? with
        | none => rfl
        | some t =>
          simp only [Option.map_some]
          rw [lookF_map]
          cases lookF t r (i * z) <;> rfl
end

/-! ### places -/
section
variable {α : Type}
theorem subT_append : ∀ (p q : List Nat) (t : T α), subT t (p ++ q) = (subT t p).bind fun u => subT u q
  | [], q, t => by simp [subT]
  | i :: r, q, .p v => by
    cases v <;> simp only [List.cons_append, subT, Option.bind_none]
    rename_i l
    cases l[i]? with
    | none => rfl
    | some v => exact subT_append r q (.p v)
  | i :: r, q, .m v => by simp [subT]
  | i :: r, q, .agg l => by
    simp only [List.cons_append, subT]
    cases l[i]? with
    | none => rfl
    | some t => exact subT_append r q t
  | i :: r, q, .vec a z l n => by
    simp only [List.cons_append, subT]
    cases l[i]? with
    | none => rfl
    | some t => exact subT_append r q t
  | i :: r, q, .mp a ks l => by simp [subT]
  | i :: r, q, .hole n => by simp [subT]
theorem lookF_subT : ∀ (p : List Nat) (t u : T α) (o o' : Nat), lookF t p o = some (u, o') → subT t p = some u
  | [], t, u, o, o', h => by simp only [lookF, Option.some.injEq, Prod.mk.injEq] at h; simp [subT, h.1]
  | i :: r, .p v, u, o, o', h => by
    cases v <;> simp only [lookF, reduceCtorEq] at h
    rename_i l
    simp only [subT]
    cases hl : l[i]? with
    | none => simp [hl] at h
    | some v => simp only [hl] at h; exact lookF_subT r _ u _ o' h
  | i :: r, .m v, u, o, o', h => by simp [lookF] at h
  | i :: r, .agg l, u, o, o', h => by
    simp only [lookF] at h
    simp only [subT]
    cases hl : l[i]? with
    | none => simp [hl] at h
    | some t => simp only [hl] at h; exact lookF_subT r _ u _ o' h
  | i :: r, .vec a z l n, u, o, o', h => by simp [lookF] at h
  | i :: r, .mp a ks l, u, o, o', h => by simp [lookF] at h
  | i :: r, .hole n, u, o, o', h => by simp [lookF] at h
theorem subO_append (ob : Option (Obj α)) (p q : List Nat) {u : T α} (h : subO ob p = some u) : subO ob (p ++ q) = subT u q := by
  cases ob with
  | none => cases p <;> simp [subO] at h
  | some o =>
    cases o with
    | cell a t => simp only [subO] at h ⊢; rw [subT_append, h]; rfl
    | vec a z l =>
      cases p with
      | nil => simp [subO] at h
      | cons i r =>
        simp only [subO, List.cons_append] at h ⊢
        cases hl : l[i]? with
        | none => simp [hl] at h
        | some t => simp only [hl] at h ⊢; rw [subT_append, h]; rfl
    | mp a ks l => cases p <;> simp [subO] at h
    | gone => cases p <;> simp [subO] at h
theorem vecAt_elem (ob : Option (Obj α)) (p : List Nat) {a : α} {z : Nat} {l : List (T α)} (h : vecAt ob p = some (a, z, l)) (i : Nat) (r : List Nat) {t : T α} (ht : l[i]? = some t) :
    subO ob (p ++ i :: r) = subT t r := by
  have key : ∀ n, subO ob p = some (.vec a z l n) → subO ob (p ++ i :: r) = subT t r := by
    intro n hs
    rw [subO_append ob p (i :: r) hs]
    simp only [subT, ht]
  cases ob with
  | none => cases p <;> simp [vecAt, subO] at h
  | some o =>
    cases o with
    | vec a' z' l' =>
      cases p with
      | nil =>
        simp only [vecAt, Option.some.injEq, Prod.mk.injEq] at h
        obtain ⟨rfl, rfl, rfl⟩ := h
        simp only [List.nil_append, subO, ht]
      | cons j q =>
        simp only [vecAt] at h
        split at h
        · rename_i hs
          simp only [Option.some.injEq, Prod.mk.injEq] at h
          obtain ⟨rfl, rfl, rfl⟩ := h
          exact key _ hs
        · cases h
    | cell a' t' =>
      simp only [vecAt] at h
      split at h
      · rename_i hs
        simp only [Option.some.injEq, Prod.mk.injEq] at h
        obtain ⟨rfl, rfl, rfl⟩ := h
        exact key _ hs
      · cases h
    | mp a' ks l' =>
      simp only [vecAt] at h
      split at h
      · rename_i hs
        simp only [Option.some.injEq, Prod.mk.injEq] at h
        obtain ⟨rfl, rfl, rfl⟩ := h
        exact key _ hs
      · cases h
    | gone =>
      simp only [vecAt] at h
      split at h
      · rename_i hs
        simp only [Option.some.injEq, Prod.mk.injEq] at h
        obtain ⟨rfl, rfl, rfl⟩ := h
        exact key _ hs
      · cases h
theorem look_sub {ob : Option (Obj α)} {np : Option (List Nat)} {rp : List Nat} {u : T α} {a : α} {o : Nat} (h : look ob np rp = some (u, a, o)) : subO ob (full np rp) = some u := by
  cases np with
  | none =>
    cases ob with
    | none => simp [look] at h
    | some ob =>
      cases ob <;> simp only [look, reduceCtorEq] at h
      split at h
      · rename_i hl
        simp only [Option.some.injEq, Prod.mk.injEq] at h
        obtain ⟨rfl, rfl, rfl⟩ := h
        simp only [full, Option.getD_none, List.nil_append, subO]
        exact lookF_subT _ _ _ _ _ hl
      · cases h
  | some p =>
    simp only [look] at h
    split at h
    · rename_i a' z l i r hv
      split at h
      · rename_i t ht
        split at h
        · rename_i hl
          simp only [Option.some.injEq, Prod.mk.injEq] at h
          obtain ⟨rfl, rfl, rfl⟩ := h
          simp only [full, Option.getD_some]
          rw [vecAt_elem ob p hv i r ht]
          exact lookF_subT _ _ _ _ _ hl
        · cases h
      · cases h
    · cases h
theorem vecAt_sub {ob : Option (Obj α)} {p : List Nat} {a : α} {z : Nat} {l : List (T α)} (h : vecAt ob p = some (a, z, l)) :
    (p = [] ∧ ob = some (.vec a z l)) ∨ ∃ n, subO ob p = some (.vec a z l n) := by
  have via : (match subO ob p with | some (.vec a z l _) => some (a, z, l) | _ => none) = some (a, z, l) → ∃ n, subO ob p = some (.vec a z l n) := by
    intro hh
    cases hs : subO ob p with
    | none => rw [hs] at hh; cases hh
    | some t =>
      rw [hs] at hh
      cases t <;> simp only [Option.some.injEq, Prod.mk.injEq, reduceCtorEq] at hh
      obtain ⟨rfl, rfl, rfl⟩ := hh
      exact ⟨_, rfl⟩
  cases ob with
  | none => exact .inr (via (by cases p <;> simp [vecAt, subO] at h))
  | some o =>
    cases o with
    | vec a' z' l' =>
      cases p with
      | nil =>
        simp only [vecAt, Option.some.injEq, Prod.mk.injEq] at h
        obtain ⟨rfl, rfl, rfl⟩ := h
        exact .inl ⟨rfl, rfl⟩
      | cons i r => exact .inr (via h)
    | cell a' t => exact .inr (via h)
    | mp a' ks l' => exact .inr (via h)
    | gone => exact .inr (via h)
theorem vecAt_node {ob : Option (Obj α)} {p : List Nat} {a : α} {z : Nat} {l : List (T α)} (h : vecAt ob p = some (a, z, l)) : nodeAt ob (some p) = some (a, some z) := by
  cases ob with
  | none => cases p <;> simp [vecAt, subO] at h
  | some o =>
    cases o with
    | vec a' z' l' =>
      cases p with
      | nil =>
        simp only [vecAt, Option.some.injEq, Prod.mk.injEq] at h
        obtain ⟨rfl, rfl, rfl⟩ := h
        rfl
      | cons j q =>
        simp only [vecAt] at h
        split at h
        · rename_i hs
          simp only [Option.some.injEq, Prod.mk.injEq] at h
          obtain ⟨rfl, rfl, rfl⟩ := h
          simp only [nodeAt, hs]
        · cases h
    | mp a' ks l' =>
      cases p with
      | nil => simp [vecAt, subO] at h
      | cons j q =>
        simp only [vecAt] at h
        split at h
        · rename_i hs
          simp only [Option.some.injEq, Prod.mk.injEq] at h
          obtain ⟨rfl, rfl, rfl⟩ := h
          simp only [nodeAt, hs]
        · cases h
    | cell a' t' =>
      simp only [vecAt] at h
      split at h
      · rename_i hs
        simp only [Option.some.injEq, Prod.mk.injEq] at h
        obtain ⟨rfl, rfl, rfl⟩ := h
        simp only [nodeAt, hs]
      · cases h
    | gone =>
      simp only [vecAt] at h
      split at h
      · rename_i hs
        simp only [Option.some.injEq, Prod.mk.injEq] at h
        obtain ⟨rfl, rfl, rfl⟩ := h
        simp only [nodeAt, hs]
      · cases h
theorem look_node {ob : Option (Obj α)} {np : Option (List Nat)} {rp : List Nat} {u : T α} {a : α} {o : Nat} (h : look ob np rp = some (u, a, o)) : ∃ z, nodeAt ob np = some (a, z) := by
  cases np with
  | none =>
    cases ob with
    | none => simp [look] at h
    | some ob =>
      cases ob <;> simp only [look, reduceCtorEq] at h
      split at h
      · simp only [Option.some.injEq, Prod.mk.injEq] at h
        obtain ⟨rfl, rfl, rfl⟩ := h
        exact ⟨none, rfl⟩
      · cases h
  | some p =>
    simp only [look] at h
    split at h
    · rename_i a' z l i r hv
      split at h
      · split at h
        · simp only [Option.some.injEq, Prod.mk.injEq] at h
          obtain ⟨rfl, rfl, rfl⟩ := h
          exact ⟨some z, vecAt_node hv⟩
        · cases h
      · cases h
    · cases h
end

/-! ### what lies at a place, in the world -/
section
variable {w : World} {A : Nat → Prop} {E : HeapA An} {nx : Stp}
theorem TsAt.get : ∀ {l : List (T An)} {b o i : Nat} {t : T An}, TsAt w A E nx l b o → l[i]? = some t → TAt w A E nx t b (o + T.css (l.take i))
  | [], b, o, i, t, _, h => by simp at h
  | x :: r, b, o, 0, t, k, h => by simp only [TsAt] at k; simp at h; subst h; simpa [T.css] using k.1
  | x :: r, b, o, i + 1, t, k, h => by
    simp only [TsAt] at k
    simp only [List.getElem?_cons_succ] at h
    have := TsAt.get k.2 h
    rwa [List.take_succ_cons, T.css, ← Nat.add_assoc]
theorem css_same {α : Type} {z : Nat} : ∀ {l : List (T α)} {i : Nat}, (∀ t ∈ l, t.cs = z) → i ≤ l.length → T.css (l.take i) = i * z
  | _, 0, _, _ => by simp [T.css]
  | [], i + 1, _, h => by simp at h
  | x :: r, i + 1, h, hi => by
    rw [List.take_succ_cons, T.css, h x (by simp), css_same (fun t ht => h t (by simp [ht])) (by simpa using hi), Nat.succ_mul, Nat.add_comm]
theorem TsAt.elem {l : List (T An)} {b i z : Nat} {t : T An} (k : TsAt w A E nx l b 0) (hz : ∀ t ∈ l, t.cs = z) (h : l[i]? = some t) : TAt w A E nx t b (i * z) := by
  have := k.get h
  rwa [Nat.zero_add, css_same hz (Nat.le_of_lt (List.getElem?_eq_some_iff.1 h).1)] at this
theorem lookF_at : ∀ (p : List Nat) (t u : T An) (b o o' : Nat), lookF t p o = some (u, o') → TAt w A E nx t b o → TAt w A E nx u b o'
  | [], t, u, b, o, o', h, k => by
    simp only [lookF, Option.some.injEq, Prod.mk.injEq] at h
    obtain ⟨rfl, rfl⟩ := h; exact k
  | i :: r, .p v, u, b, o, o', h, k => by
    cases v <;> simp only [lookF, reduceCtorEq] at h
    rename_i l
    split at h
    · rename_i v hv
      refine lookF_at r _ u b _ o' h ?_
      simp only [TAt, PVc] at k ⊢
      obtain ⟨cs, k1, k2⟩ := k
      obtain ⟨p, c, q, rfl, hp, hc⟩ := k1.get hv
      refine ⟨c, hc, ?_⟩
      rw [← hp]
      exact (Row.append.1 (Row.append.1 k2).1).2
    · cases h
  | i :: r, .m v, u, b, o, o', h, _ => by simp [lookF] at h
  | i :: r, .agg l, u, b, o, o', h, k => by
    simp only [lookF] at h
    split at h
    · rename_i t ht
      simp only [TAt] at k
      exact lookF_at r _ u b _ o' h (k.get ht)
    · cases h
  | i :: r, .vec a z l n, u, b, o, o', h, _ => by simp [lookF] at h
  | i :: r, .mp a ks l, u, b, o, o', h, _ => by simp [lookF] at h
  | i :: r, .hole n, u, b, o, o', h, _ => by simp [lookF] at h
/-- a tree that lies in an owned tree lies in the world -/
theorem subT_at : ∀ (p : List Nat) (t u : T An) (b o : Nat), subT t p = some u → TAt w A E nx t b o → ∃ b' o', TAt w A E nx u b' o' ∧ (b' = b ∨ b' ∈ t.blk)
  | [], t, u, b, o, h, k => by
    simp only [subT, Option.some.injEq] at h; subst h
    exact ⟨b, o, k, .inl rfl⟩
  | i :: r, .p v, u, b, o, h, k => by
    cases v <;> simp only [subT, reduceCtorEq] at h
    rename_i l
    split at h
    · rename_i v hv
      have : TAt w A E nx (.p v) b (o + PV.css (l.take i)) := by
        simp only [TAt, PVc] at k ⊢
        obtain ⟨cs, k1, k2⟩ := k
        obtain ⟨p, c, q, rfl, hp, hc⟩ := k1.get hv
        refine ⟨c, hc, ?_⟩
        rw [← hp]
        exact (Row.append.1 (Row.append.1 k2).1).2
      obtain ⟨b', o', h1, h2⟩ := subT_at r (.p v) u b _ h this
      exact ⟨b', o', h1, .inl (h2.resolve_right (by simp [T.blk]))⟩
    · cases h
  | i :: r, .m v, u, b, o, h, _ => by simp [subT] at h
  | i :: r, .agg l, u, b, o, h, k => by
    simp only [subT] at h
    split at h
    · rename_i t ht
      simp only [TAt] at k
      obtain ⟨b', o', h1, h2⟩ := subT_at r t u b _ h (k.get ht)
      refine ⟨b', o', h1, h2.imp id fun hb => ?_⟩
      simp only [T.blk]
      have key : ∀ {l : List (T An)} {i : Nat}, l[i]? = some t → b' ∈ T.blks l := by
        intro l
        induction l with
        | nil => intro i h; simp at h
        | cons x q ih =>
          intro i h
          cases i with
          | zero => simp at h; subst h; simp [T.blks, hb]
          | succ i => simp at h; simp [T.blks, ih h]
      exact key ht
    · cases h
  | i :: r, .vec a z l n, u, b, o, h, k => by
    simp only [subT] at h
    split at h
    · rename_i t ht
      simp only [TAt] at k
      obtain ⟨p, cap, _, _, _, k4⟩ := k
      cases hb : a.b with
      | none => simp only [hb] at k4; rw [k4.1] at ht; simp at ht
      | some b0 =>
        simp only [hb] at k4
        obtain ⟨b', o', h1, h2⟩ := subT_at r t u b0 _ h (k4.2.2.2.elem k4.2.2.1 ht)
        refine ⟨b', o', h1, .inr ?_⟩
        simp only [T.blk, hb, Option.toList, List.cons_append, List.nil_append, List.mem_cons]
        refine h2.imp id fun hb => ?_
        have key : ∀ {l : List (T An)} {i : Nat}, l[i]? = some t → b' ∈ T.blks l := by
          intro l
          induction l with
          | nil => intro i h; simp at h
          | cons x q ih =>
            intro i h
            cases i with
            | zero => simp at h; subst h; simp [T.blks, hb]
            | succ i => simp at h; simp [T.blks, ih h]
        exact key ht
    · cases h
  | i :: r, .mp a ks l, u, b, o, _, k => by simp only [TAt] at k
  | i :: r, .hole n, u, b, o, h, _ => by simp [subT] at h
end
end Go.Mid
/- Operations that read: loads, lengths, addresses, parts. -/
namespace Go.Mid
set_option linter.unusedSimpArgs false
set_option linter.unusedVariables false
open Go.RowKit

section
variable {w : World} {A : Nat → Prop} {E : HeapA An} {nx : Stp} {h : Heap}
theorem MR.vec (m : MR w A E h nx) {id : Nat} {path : List Nat} {g z : Nat} {l : List (T Nat)} (hv : vecAt (h id) path = some (g, z, l)) :
    ∃ an l', vecAt (E id) path = some (an, z, l') ∧ an.g = g ∧ l = l'.map (T.mapA An.g) := by
  rw [m.er id, vecAt_map] at hv
  cases hE : vecAt (E id) path with
  | none => simp [hE] at hv
  | some x =>
    obtain ⟨an, z', l'⟩ := x
    simp only [hE, Option.map_some, Option.some.injEq, Prod.mk.injEq] at hv
    obtain ⟨rfl, rfl, rfl⟩ := hv
    exact ⟨an, l', rfl, rfl, rfl⟩
theorem MR.look (m : MR w A E h nx) {id : Nat} {np : Option (List Nat)} {rp : List Nat} {g o : Nat} {t : T Nat} (hv : look (h id) np rp = some (t, g, o)) :
    ∃ an t', look (E id) np rp = some (t', an, o) ∧ an.g = g ∧ t = t'.mapA An.g := by
  rw [m.er id, look_map] at hv
  cases hE : Mid.look (E id) np rp with
  | none => simp [hE] at hv
  | some x =>
    obtain ⟨t', an, o'⟩ := x
    simp only [hE, Option.map_some, Option.some.injEq, Prod.mk.injEq] at hv
    obtain ⟨rfl, rfl, rfl⟩ := hv
    exact ⟨an, t', rfl, rfl, rfl⟩
theorem MR.sub (m : MR w A E h nx) {id : Nat} {p : List Nat} {t : T Nat} (hv : subO (h id) p = some t) : ∃ t', subO (E id) p = some t' ∧ t = t'.mapA An.g := by
  rw [m.er id, subO_map] at hv
  cases hE : subO (E id) p with
  | none => simp [hE] at hv
  | some t' => simp only [hE, Option.map_some, Option.some.injEq] at hv; exact ⟨t', rfl, hv.symm⟩

/-- the array at a place, in the world -/
theorem MR.vecB (m : MR w A E h nx) {id : Nat} {path : List Nat} {an : An} {z : Nat} {l : List (T An)} (hv : vecAt (E id) path = some (an, z, l)) : VB w A E nx an z l := by
  have key : ∀ {o : Obj An} {n : Nat}, E id = some o → subO (some o) path = some (.vec an z l n) → VB w A E nx an z l := by
    intro o n ho hs
    have hat := m.at_ id o ho
    have fin : ∀ {b o' : Nat}, TAt w A E nx (.vec an z l n) b o' → VB w A E nx an z l := by
      intro b o' k
      simp only [TAt] at k
      obtain ⟨_, _, _, _, _, k⟩ := k
      simp only [VB]
      exact k
    cases o with
    | cell a t =>
      simp only [OAt] at hat
      obtain ⟨b, _, _, k⟩ := hat
      simp only [subO] at hs
      obtain ⟨b', o', k', _⟩ := subT_at _ _ _ _ _ hs k
      exact fin k'
    | vec a z' l' =>
      cases path with
      | nil => simp [subO] at hs
      | cons i r =>
        simp only [subO] at hs
        split at hs
        · rename_i t ht
          simp only [OAt, VB] at hat
          cases hb : a.b with
          | none => simp only [hb] at hat; rw [hat.1] at ht; simp at ht
          | some b =>
            simp only [hb] at hat
            obtain ⟨b', o', k', _⟩ := subT_at _ _ _ _ _ hs (hat.2.2.2.elem hat.2.2.1 ht)
            exact fin k'
        · cases hs
    | mp => cases path <;> simp [subO] at hs
    | gone => cases path <;> simp [subO] at hs
  cases ho : E id with
  | none => rw [ho] at hv; cases path <;> simp [vecAt, subO] at hv
  | some o =>
    rw [ho] at hv
    rcases vecAt_sub hv with ⟨rfl, he⟩ | ⟨n, hs⟩
    · cases he
      have := m.at_ id _ ho
      simpa only [OAt] using this
    · exact key ho hs
/-- what a pointer points to, in the world -/
theorem MR.lookAt (m : MR w A E h nx) {id : Nat} {np : Option (List Nat)} {rp : List Nat} {an : An} {o : Nat} {t : T An} (hv : Mid.look (E id) np rp = some (t, an, o)) :
    ∃ b, an.b = some b ∧ TAt w A E nx t b o := by
  cases np with
  | none =>
    cases ho : E id with
    | none => rw [ho] at hv; simp [Mid.look] at hv
    | some ob =>
      rw [ho] at hv
      cases ob <;> simp only [Mid.look, reduceCtorEq] at hv
      rename_i a t0
      split at hv
      · rename_i u o' hl
        simp only [Option.some.injEq, Prod.mk.injEq] at hv
        obtain ⟨rfl, rfl, rfl⟩ := hv
        have := m.at_ id _ ho
        simp only [OAt] at this
        obtain ⟨b, hb, _, k⟩ := this
        exact ⟨b, hb, lookF_at _ _ _ _ _ _ hl k⟩
      · cases hv
  | some p =>
    simp only [Mid.look] at hv
    split at hv
    · rename_i a z l i r hvec
      split at hv
      · rename_i t0 ht0
        split at hv
        · rename_i u o' hl
          simp only [Option.some.injEq, Prod.mk.injEq] at hv
          obtain ⟨rfl, rfl, rfl⟩ := hv
          have k := m.vecB hvec
          simp only [VB] at k
          cases hb : a.b with
          | none => simp only [hb] at k; rw [k.1] at ht0; simp at ht0
          | some b =>
            simp only [hb] at k
            exact ⟨b, rfl, lookF_at _ _ _ _ _ _ hl (k.2.2.2.elem k.2.2.1 ht0)⟩
        · cases hv
      · cases hv
    · cases hv

theorem subT_st : ∀ (p : List Nat) (t u : T An), subT t p = some u → t.st nx → u.st nx
  | [], t, u, h, k => by simp only [subT, Option.some.injEq] at h; subst h; exact k
  | i :: r, .p v, u, h, k => by
    cases v <;> simp only [subT, reduceCtorEq] at h
    split at h
    · rename_i v hv; exact subT_st r (.p v) u h trivial
    · cases h
  | i :: r, .m v, u, h, _ => by simp [subT] at h
  | i :: r, .agg l, u, h, k => by
    simp only [subT] at h
    split at h
    · rename_i t ht
      simp only [T.st] at k
      have key : ∀ {l : List (T An)} {i : Nat}, T.sts nx l → l[i]? = some t → t.st nx := by
        intro l
        induction l with
        | nil => intro i _ h; simp at h
        | cons x q ih =>
          intro i k h
          simp only [T.sts] at k
          cases i with
          | zero => simp at h; subst h; exact k.1
          | succ i => simp at h; exact ih k.2 h
      exact subT_st r t u h (key k ht)
    · cases h
  | i :: r, .vec a z l n, u, h, k => by
    simp only [subT] at h
    split at h
    · rename_i t ht
      simp only [T.st] at k
      have key : ∀ {l : List (T An)} {i : Nat}, T.sts nx l → l[i]? = some t → t.st nx := by
        intro l
        induction l with
        | nil => intro i _ h; simp at h
        | cons x q ih =>
          intro i k h
          simp only [T.sts] at k
          cases i with
          | zero => simp at h; subst h; exact k.1
          | succ i => simp at h; exact ih k.2 h
      exact subT_st r t u h (key k.2 ht)
    · cases h
  | i :: r, .mp a ks l, u, h, k => by simp [subT] at h
  | i :: r, .hole n, u, h, _ => by simp [subT] at h
theorem T.sts_get {l : List (T An)} {i : Nat} {t : T An} (k : T.sts nx l) (h : l[i]? = some t) : t.st nx := by
  induction l generalizing i with
  | nil => simp at h
  | cons x q ih =>
    simp only [T.sts] at k
    cases i with
    | zero => simp at h; subst h; exact k.1
    | succ i => simp at h; exact ih k.2 h
theorem MR.subSt (m : MR w A E h nx) {id : Nat} {p : List Nat} {t : T An} (hs : subO (E id) p = some t) : t.st nx := by
  cases ho : E id with
  | none => rw [ho] at hs; cases p <;> simp [subO] at hs
  | some o =>
    rw [ho] at hs
    have := m.st id o ho
    cases o with
    | cell a t0 => simp only [subO] at hs; simp only [Obj.st] at this; exact subT_st _ _ _ hs this.2
    | vec a z l =>
      cases p with
      | nil => simp [subO] at hs
      | cons i r =>
        simp only [subO] at hs
        simp only [Obj.st] at this
        split at hs
        · rename_i t0 ht0; exact subT_st _ _ _ hs (T.sts_get this.2 ht0)
        · cases hs
    | mp a ks l => cases p <;> simp [subO] at hs
    | gone => cases p <;> simp [subO] at hs

theorem MR.mapAt (m : MR w A E h nx) {id : Nat} {path : List Nat} {g : Nat} {ks : List PV} {vs : List (T Nat)} (hm : Mid.mapAt (h id) path = some (g, ks, vs)) :
    path = [] ∧ ∃ an lA, E id = some (.mp an ks lA) ∧ an.g = g ∧ vs = T.mapAs An.g lA := by
  rw [m.er] at hm
  cases hE : E id with
  | none => rw [hE] at hm; cases path <;> simp [Mid.mapAt] at hm
  | some o =>
    rw [hE] at hm
    cases o <;> cases path <;> simp [Mid.mapAt, Obj.mapA] at hm
    obtain ⟨rfl, rfl, rfl⟩ := hm
    exact ⟨rfl, _, _, rfl, rfl, rfl⟩
theorem cells_ne {c : Array Value} (h : (Value.agg c).cells = #[Value.agg c]) : False := by
  simp only [Value.cells] at h
  have hm : Value.agg c ∈ c := by
    have : Value.agg c ∈ #[Value.agg c] := by simp
    rw [← h] at this; exact this
  have := Array.sizeOf_lt_of_mem hm
  simp at this
  omega
theorem row_of_cells {b o : Nat} : ∀ (n : Nat), (∀ j, j < n → ∃ v, w.cell? ⟨b, o + j, none⟩ = some v) → ∃ cs : List Value, cs.length = n ∧ Row w b o cs
  | 0, _ => ⟨[], rfl, Row.nil⟩
  | n + 1, k => by
    obtain ⟨cs, h1, h2⟩ := row_of_cells n (fun j hj => k j (by omega))
    obtain ⟨v, hv⟩ := k n (by omega)
    refine ⟨cs ++ [v], by simp [h1], Row.append.2 ⟨h2, ?_⟩⟩
    rw [h1]; exact Row.one.2 hv
/-- the cells of a value -/
def ValR (w : World) (A : Nat → Prop) (E : HeapA An) (nx : Stp) (x : MV) (cs : List Value) : Prop :=
  cs.length = x.cs ∧ ((∃ n, x = .dead n) ∨ MVv w A E nx x (pk x.isAgg cs) ∧ (x.isAgg = false → ∃ v, cs = [v] ∧ v.cells = #[v]))
theorem ValR.val {x : MV} {cs : List Value} (k : ValR w A E nx x cs) : MVv w A E nx x (pk x.isAgg cs) := by
  rcases k.2 with ⟨n, rfl⟩ | h
  · simp only [MVv]
  · exact h.1
theorem ValR.comp {x : MV} {cs : List Value} (k : ValR w A E nx x cs) : ∃ v, v.cells.toList = cs ∧ v.cells.size = x.cs ∧ (∀ c, v = .agg c → x.isAgg = true ∨ ∃ n, x = .dead n) ∧ MVv w A E nx x v := by
  rcases k.2 with ⟨n, rfl⟩ | ⟨h1, h2⟩
  · exact ⟨.agg cs.toArray, by simp [Value.cells], by simpa [Value.cells, MV.cs] using k.1, fun c _ => .inr ⟨n, rfl⟩, by simp only [MVv]⟩
  · cases hx : x.isAgg with
    | true =>
      refine ⟨.agg cs.toArray, by simp [Value.cells], by simpa [Value.cells] using k.1, fun c _ => .inl rfl, ?_⟩
      simpa [hx, pk] using h1
    | false =>
      obtain ⟨v, rfl, hv⟩ := h2 hx
      refine ⟨v, by simp [hv], by simpa [hv] using k.1, ?_, ?_⟩
      · rintro c rfl
        exact (cells_ne hv).elim
      · simpa [hx, pk] using h1
theorem allP_cs : ∀ {l : List MV} {vs : List PV}, allP l = some vs → l = vs.map .p
  | [], vs, h => by simp only [allP] at h; cases h; rfl
  | x :: r, vs, h => by
    cases x <;> simp only [allP, reduceCtorEq] at h
    split at h
    · rename_i l hl
      cases h
      simp [allP_cs hl]
    · cases h
theorem MVcs_p : ∀ {vs : List PV} {cs : List Value}, MVcs w A E nx (vs.map .p) cs → PVcs w A vs cs
  | [], cs, h => by simpa only [List.map_nil, MVcs, PVcs] using h
  | x :: r, cs, h => by
    simp only [List.map_cons, MVcs] at h
    obtain ⟨v, d, rfl, h1, h2, h3, h4⟩ := h
    simp only [PVcs]
    simp only [MVv, PVv] at h3
    obtain ⟨c, h5, rfl⟩ := h3
    refine ⟨c, d, ?_, h5, MVcs_p h4⟩
    rw [h5.pk_cells]
theorem MVvs_p : ∀ {vs : List PV} {l : List Value}, MVvs w A E nx (vs.map .p) l ↔ PVvs w A vs l
  | [], l => by simp only [List.map_nil, MVvs, PVvs]
  | x :: r, l => by
    simp only [List.map_cons, MVvs, PVvs, MVv, PVv]
    constructor
    · rintro ⟨v, d, rfl, ⟨c, h1, rfl⟩, h2⟩; exact ⟨c, d, rfl, h1, MVvs_p.1 h2⟩
    · rintro ⟨c, d, rfl, h1, h2⟩; exact ⟨_, d, rfl, ⟨c, h1, rfl⟩, MVvs_p.2 h2⟩
theorem MVv_mkAgg {l : List MV} {cs : List Value} (h : MVcs w A E nx l cs) : MVv w A E nx (mkAgg l) (.agg cs.toArray) := by
  unfold mkAgg
  cases ha : allP l with
  | none => simp only [MVv]; exact ⟨cs, rfl, h⟩
  | some vs =>
    rw [allP_cs ha] at h
    exact MVv_agg.2 ⟨cs, rfl, MVcs_p h⟩
theorem mkAgg_cs (l : List MV) : (mkAgg l).cs = MV.css l ∧ (mkAgg l).isAgg = true := by
  unfold mkAgg
  cases ha : allP l with
  | none => exact ⟨rfl, rfl⟩
  | some vs =>
    rw [allP_cs ha]
    refine ⟨?_, rfl⟩
    simp only [MV.cs, PV.cs]
    clear ha
    induction vs with
    | nil => rfl
    | cons x r ih => simp [PV.css, MV.css, MV.cs, ih]

mutual
/-- loading what lies at a place -/
theorem valT_at (m : MR w A E h nx) {id : Nat} : ∀ (t : T An) (path : List Nat) (b o : Nat), subO (E id) path = some t → TAt w A E nx t b o →
    ∃ cs, Row w b o cs ∧ ValR w A E nx (valT id path (t.mapA An.g)) cs ∧ cs.length = t.cs
  | .p v, path, b, o, _, k => by
    simp only [TAt] at k
    obtain ⟨cs, h1, h2⟩ := k
    refine ⟨cs, h2, ⟨by simpa [T.mapA, valT, MV.cs] using h1.len, .inr ⟨?_, ?_⟩⟩, by simpa [T.cs] using h1.len⟩
    · simp only [T.mapA, valT, MV.isAgg, MVv, PVv]; exact ⟨cs, h1, rfl⟩
    · intro hx
      obtain ⟨x, rfl, hx'⟩ := h1.one hx
      exact ⟨x, rfl, hx'⟩
  | .m v, path, b, o, _, k => by
    simp only [TAt] at k
    obtain ⟨h0, h1, val, h2, h3⟩ := k
    refine ⟨[val], h3, ⟨by simpa [T.mapA, valT] using h0.symm, ?_⟩, by simpa [T.cs] using h0.symm⟩
    simp only [T.mapA, valT]
    by_cases hd : ∃ n, v = .dead n
    · exact .inl hd
    · refine .inr ⟨by simpa [h1, pk] using h2, fun _ => ⟨val, rfl, h2.nonagg h1 (fun n e => hd ⟨n, e⟩)⟩⟩
  | .agg l, path, b, o, hs, k => by
    simp only [TAt] at k
    obtain ⟨cs, h1, h2, h3⟩ := valTs_at m l [] path b o (by simpa using hs) k
    simp only [T.mapA, valT]
    refine ⟨cs, h1, ⟨?_, .inr ⟨?_, ?_⟩⟩, by simpa [T.cs] using h3⟩
    · rw [(mkAgg_cs _).1]
      have : ∀ {l : List MV} {cs : List Value}, MVcs w A E nx l cs → cs.length = MV.css l := by
        intro l
        induction l with
        | nil => intro cs h; simp only [MVcs] at h; subst h; rfl
        | cons x r ih =>
          intro cs h
          simp only [MVcs] at h
          obtain ⟨v, d, rfl, h1, _, _, h4⟩ := h
          rw [List.length_append, Array.length_toList, h1, ih h4, MV.css]
      exact this h2
    · rw [(mkAgg_cs _).2]; simpa [pk] using MVv_mkAgg h2
    · rw [(mkAgg_cs _).2]; intro h; cases h
  | .vec an z l n, path, b, o, hs, k => by
    have hst := m.subSt hs
    simp only [T.st] at hst
    simp only [TAt] at k
    obtain ⟨a, cap, h1, h2, h3, h4⟩ := k
    refine ⟨[.slice a n cap], h1, ⟨rfl, .inr ⟨?_, fun _ => ⟨_, rfl, rfl⟩⟩⟩, rfl⟩
    simp only [T.mapA, valT, MV.isAgg, pk, MVv, Bool.false_eq_true, if_false, List.headD_cons]
    refine ⟨hst.1, a, cap, rfl, ?_, fun an' z' hn hg => ?_⟩
    · unfold OwnHdr at h3
      cases hb : an.b with
      | none => simp only [hb] at h3; omega
      | some b' =>
        simp only [hb] at h3 h4
        have := h4.2.1
        have := h3.1
        omega
    · have : nodeAt (E id) (some path) = some (an, some z) := by
        refine vecAt_node (l := l) ?_
        unfold vecAt
        split
        · rename_i he; rw [he] at hs; simp [subO] at hs
        · rw [hs]
      rw [this] at hn
      cases hn
      exact h3
  | .mp .., _, _, _, _, k => by simp only [TAt] at k
  | .hole n, path, b, o, _, k => by
    simp only [TAt] at k
    have := row_of_cells n k
    obtain ⟨cs, h1, h2⟩ := this
    exact ⟨cs, h2, ⟨by simpa [T.mapA, valT, MV.cs] using h1, .inl ⟨n, rfl⟩⟩, by simpa [T.cs] using h1⟩
theorem valTs_at (m : MR w A E h nx) {id : Nat} : ∀ (l pre : List (T An)) (path : List Nat) (b o : Nat), subO (E id) path = some (.agg (pre ++ l)) → TsAt w A E nx l b o →
    ∃ cs, Row w b o cs ∧ MVcs w A E nx (valTs id path pre.length (T.mapAs An.g l)) cs ∧ cs.length = T.css l
  | [], pre, path, b, o, _, _ => ⟨[], Row.nil, by simp only [T.mapAs, valTs, MVcs], rfl⟩
  | t :: r, pre, path, b, o, hs, k => by
    simp only [TsAt] at k
    have ht : subO (E id) (path ++ [pre.length]) = some t := by
      rw [subO_append _ _ _ hs]; simp [subT]
    obtain ⟨c, h1, h2, h3⟩ := valT_at m t (path ++ [pre.length]) b o ht k.1
    obtain ⟨d, h4, h5, h6⟩ := valTs_at m r (pre ++ [t]) path b (o + t.cs) (by simpa using hs) k.2
    obtain ⟨v, hv1, hv2, hv3, hv4⟩ := h2.comp
    refine ⟨c ++ d, Row.append.2 ⟨h1, by rw [h3]; exact h4⟩, ?_, by rw [List.length_append, h3, h6, T.css]⟩
    simp only [T.mapAs, valTs, MVcs]
    refine ⟨v, d, by rw [hv1], hv2, hv3, hv4, ?_⟩
    simpa using h5
end
end
end Go.Mid
/- Operations that read, one by one. -/
namespace Go.Mid
set_option linter.unusedSimpArgs false
set_option linter.unusedVariables false
open Go.RowKit

theorem add_none (b o n : Nat) : (⟨b, o, none⟩ : Addr).add n = ⟨b, o + n, none⟩ := by
  unfold Addr.add
  split
  · rename_i h; subst h; rfl
  · rfl

section
variable {w : World} {A : Nat → Prop} {E : HeapA An} {nx : Stp}
theorem PVel.get : ∀ {l : List PV} {b o z i : Nat} {x : PV}, PVel w A l b o z → l[i]? = some x → ∃ c, PVc w A x c ∧ c.length = z ∧ Row w b (o + i * z) c
  | [], _, _, _, i, x, _, h => by simp at h
  | y :: r, b, o, z, 0, x, k, h => by
    simp only [PVel] at k
    obtain ⟨⟨c, h1, h2, h3⟩, _⟩ := k
    simp at h; subst h
    exact ⟨c, h1, h2, by simpa using h3⟩
  | y :: r, b, o, z, i + 1, x, k, h => by
    simp only [PVel] at k
    simp only [List.getElem?_cons_succ] at h
    obtain ⟨c, h1, h2, h3⟩ := PVel.get k.2 h
    refine ⟨c, h1, h2, ?_⟩
    rwa [Nat.add_assoc, Nat.add_comm z, ← Nat.succ_mul] at h3
theorem asI_sim {x : MV} {val : Value} {i : Int} (h : asI x = some i) (hv : MVv w A E nx x val) : ∃ k, val = .int k i := by
  unfold asI at h
  split at h
  · cases h; exact ⟨_, MVv_int.1 hv⟩
  · cases h
theorem asIx_sim {x : MV} {val : Value} {n k : Nat} (h : asIx n x = some k) (hv : MVv w A E nx x val) : ∃ kd, val = .int kd k ∧ k < n := by
  unfold asIx at h
  split at h
  · rename_i i hi
    split at h
    · rename_i hb
      cases h
      obtain ⟨kd, rfl⟩ := asI_sim hi hv
      exact ⟨kd, by rw [Int.toNat_of_nonneg hb.1], by omega⟩
    · cases h
  · cases h
theorem asBd_sim {x : MV} {val : Value} {n k : Nat} (h : asBd n x = some k) (hv : MVv w A E nx x val) : ∃ kd, val = .int kd k ∧ k ≤ n := by
  unfold asBd at h
  split at h
  · rename_i i hi
    split at h
    · rename_i hb
      cases h
      obtain ⟨kd, rfl⟩ := asI_sim hi hv
      exact ⟨kd, by rw [Int.toNat_of_nonneg hb.1], by omega⟩
    · cases h
  · cases h
end

section
variable {P : Program} {o : Oper} {a : Act} {w : World} {A : Nat → Prop} {E : HeapA An} {nx : Stp} {γ : Nat} {v : MV} {h h' : Heap} {s : Slots} {K : Calls3} {d : Option Nat}
  (hs : SlR P w A E nx s a) (hm : MR w A E h nx)

theorem run_loadVar (w : World) {t : TypeId} (hU : hasU P t = true) {b o : Nat} {cs : List Value} (hc : cs.length = P.cellsOf t) (hr : Row w b o cs) (h1 : isAggT P t = false → cs.length = 1) :
    (loadVar t ⟨b, o, none⟩).run P w = .ok (pk (isAggT P t) cs) w := by
  have hrow : ∀ j v, cs[j]? = some v → w.cell? ((⟨b, o, none⟩ : Addr).add j) = some v := fun j v hj => by rw [add_none]; exact hr j v hj
  simp only [loadVar, Sem.run_bind, run_isAgg w hU, Result.andThen_ok]
  cases hg : isAggT P t with
  | true =>
    simp only [if_true, Sem.run_bind, run_sizeOf_u w hU, Result.andThen_ok]
    rw [← hc, run_loadCells_list w _ cs hrow]
    simp [pk]
  | false =>
    obtain ⟨x, rfl⟩ := List.length_eq_one_iff.1 (h1 hg)
    have := Row.one.1 hr
    simp [pk, this]

include hs hm
theorem sim_load {t : TypeId} {x : Operand} {x' : Opd} {t0 : TypeId} (ho : o.op = .load t x) (hx : opdC P t0 x = some x') (hU : hasU P t = true)
    (he : evalOp K γ d s h (.load (isAggT P t) (P.cellsOf t) x') = some (v, h')) : OpOk P o a w A E nx γ v h' := by
  have hvx := opdC_sim hs hx
  simp only [evalOp] at he
  split at he
  · rename_i u hu
    simp only [Option.some.injEq, Prod.mk.injEq] at he
    obtain ⟨rfl, rfl⟩ := he
    unfold loadOp at hu
    split at hu
    · rename_i pv hp
      split at hu
      · rename_i hc
        cases hu
        rw [hp] at hvx
        obtain ⟨b, o', hval, hA, cv, h1, h2⟩ := MVv_ref.1 hvx
        refine OpOk.idle (val := pk (isAggT P t) cv) ?_ ?_ hm
        · simp only [execOp, ho, hval, Instr.loadAt, Instr.sureAddr, Sem.run_bind, Sem.run_pure, Result.andThen_ok]
          rw [run_loadVar w hU (by rw [h1.len, hc.1]) h2 (fun hg => by rw [← hc.2] at hg; obtain ⟨_, rfl, _⟩ := h1.one hg; rfl)]
          rfl
        · simp only [MVv, PVv]; exact ⟨cv, h1, by rw [hc.2]⟩
      · cases hu
    · rename_i id np rp g o' hp
      split at hu
      · rename_i t' s' oo hl
        simp only at hu
        split at hu
        · rename_i hc
          obtain ⟨rfl, rfl, hcs⟩ := hc
          split at hu
          · rename_i hagg
            obtain ⟨hagg, hdead⟩ := hagg
            cases hu
            obtain ⟨an, tA, hlA, hg, rfl⟩ := hm.look hl
            obtain ⟨b, hb, hat⟩ := hm.lookAt hlA
            rw [hp] at hvx
            simp only [MVv] at hvx
            obtain ⟨_, ad, hval, hadr⟩ := hvx
            obtain ⟨z, hn⟩ := look_node hlA
            obtain ⟨b', hb', rfl⟩ := hadr an z hn hg
            rw [hb] at hb'; cases hb'
            obtain ⟨cs, hrow, hvr, hlen⟩ := valT_at hm tA (full np rp) b oo (look_sub hlA) hat
            rw [T.cs_map] at hcs
            refine OpOk.idle (val := pk (isAggT P t) cs) ?_ ?_ hm
            · simp only [execOp, ho, hval, Instr.loadAt, Instr.sureAddr, Sem.run_bind, Sem.run_pure, Result.andThen_ok]
              rw [run_loadVar w hU (by rw [hlen, hcs]) hrow ?_]
              · rfl
              · intro hg'
                rw [← hagg] at hg'
                rcases hvr.2 with ⟨n, hn⟩ | ⟨_, h2⟩
                · rw [hn] at hdead; cases hdead
                · obtain ⟨x, rfl, _⟩ := h2 hg'; rfl
            · rw [← hagg]; exact hvr.val
          · cases hu
        · cases hu
      · cases hu
    · cases hu
  · cases he

omit hs hm in
theorem run_builtin {c : Call} {b : Builtin} (ho : o.op = .call c) (hc : c.callee = .builtin b) :
    (execOp a.eval o).run P w = (builtin b c.argTypes o.type (c.args.map fun | .const _ => true | _ => false) (c.args.map a.eval)).run P w := by
  simp only [execOp, ho, resolve, hc, Sem.run_bind, Sem.run_pure, Result.andThen_ok, invoke]
  rfl

theorem sim_len {x : Operand} {x' : Opd} {t t0 e : TypeId} {c : Call} (ho : o.op = .call c) (hc1 : c.callee = .builtin .len) (hc2 : c.args = #[x]) (hc3 : c.argTypes = #[t]) (hx : opdC P t0 x = some x')
    (hu : P.underlying t = some (.slice e))
    (he : evalOp K γ d s h (.len x') = some (v, h')) : OpOk P o a w A E nx γ v h' := by
  have hvx := opdC_sim hs hx
  simp only [evalOp] at he
  split at he
  · rename_i n hn
    simp only [Option.some.injEq, Prod.mk.injEq, intV] at he
    obtain ⟨rfl, rfl⟩ := he
    have main : ∀ p cap, a.eval x = .slice p n cap → OpOk P o a w A E nx γ (.p (.int .i64 n)) h := by
      intro p cap hval
      refine OpOk.idle (val := .int .i64 n) ?_ (MVv_int.2 rfl) hm
      rw [run_builtin ho hc1]
      simp [builtin, hc2, hc3, hval, Builtin.len_, run_underlying hu, goInt]
    unfold lenOp at hn
    split at hn
    · rename_i l hl
      cases hn
      rw [hl] at hvx
      obtain ⟨p, cap, hval, _⟩ := MVv_sl.1 hvx
      exact main p cap hval
    · rename_i z hl
      cases hn
      rw [hl] at hvx
      simp only [MVv] at hvx
      obtain ⟨p, hval⟩ := hvx
      exact main p 0 hval
    · rename_i id path off len g hl
      cases hn
      rw [hl] at hvx
      simp only [MVv] at hvx
      obtain ⟨_, p, cap, hval, _⟩ := hvx
      exact main p cap hval
    · cases hn
  · cases he
theorem sim_capn {x : Operand} {x' : Opd} {t t0 e : TypeId} {c : Call} (ho : o.op = .call c) (hc1 : c.callee = .builtin .cap) (hc2 : c.args = #[x]) (hc3 : c.argTypes = #[t]) (hx : opdC P t0 x = some x')
    (hu : P.underlying t = some (.slice e))
    (he : evalOp K γ d s h (.capn x') = some (v, h')) : OpOk P o a w A E nx γ v h' := by
  have hvx := opdC_sim hs hx
  simp only [evalOp] at he
  split at he
  · rename_i z hb
    simp only [Option.some.injEq, Prod.mk.injEq, intV] at he
    obtain ⟨rfl, rfl⟩ := he
    rw [hb] at hvx
    simp only [MVv] at hvx
    obtain ⟨p, hval⟩ := hvx
    refine OpOk.idle (val := .int .i64 (0 : Nat)) ?_ (MVv_int.2 rfl) hm
    rw [run_builtin ho hc1]
    simp [builtin, hc2, hc3, hval, Builtin.cap_, run_underlying hu, goInt]
  · cases he
theorem sim_lenS {x : Operand} {x' : Opd} {t t0 : TypeId} {c : Call} (ho : o.op = .call c) (hc1 : c.callee = .builtin .len) (hc2 : c.args = #[x]) (hc3 : c.argTypes = #[t]) (hx : opdC P t0 x = some x')
    (hu : P.underlying t = some .string)
    (he : evalOp K γ d s h (.lenS x') = some (v, h')) : OpOk P o a w A E nx γ v h' := by
  have hvx := opdC_sim hs hx
  simp only [evalOp] at he
  split at he
  · rename_i b hb
    simp only [Option.some.injEq, Prod.mk.injEq, intV] at he
    obtain ⟨rfl, rfl⟩ := he
    rw [hb, MVv_str] at hvx
    refine OpOk.idle (val := .int .i64 b.size) ?_ (MVv_int.2 rfl) hm
    rw [run_builtin ho hc1]
    simp [builtin, hc2, hc3, hvx, Builtin.len_, run_underlying hu, goInt]
  · cases he

theorem sim_iaddr {x ix : Operand} {x' ix' : Opd} {t t0 t1 e : TypeId} (ho : o.op = .indexAddr t x ix) (hx : opdC P t0 x = some x') (hix : opdC P t1 ix = some ix')
    (hu : P.underlying t = some (.slice e)) (hz : P.cellsOf e ≠ 0)
    (he : evalOp K γ d s h (.iaddr (P.cellsOf e) x' ix') = some (v, h')) : OpOk P o a w A E nx γ v h' := by
  have hvx := opdC_sim hs hx
  have hvi := opdC_sim hs hix
  simp only [evalOp] at he
  split at he
  · rename_i u hu'
    simp only [Option.some.injEq, Prod.mk.injEq] at he
    obtain ⟨rfl, rfl⟩ := he
    have main : ∀ b o' len cap kd (k : Nat), a.eval x = .slice (some ⟨b, o', none⟩) len cap → a.eval ix = .int kd k → k < len → MVv w A E nx u (.pointer (some ⟨b, o' + k * P.cellsOf e, none⟩)) →
        OpOk P o a w A E nx γ u h := by
      intro b o' len cap kd k h1 h2 h3 h4
      refine OpOk.idle ?_ h4 hm
      have h5 : (k : Int) < (len : Int) := by omega
      simp [execOp, ho, h1, h2, Instr.indexAt, asIntOf, run_underlying hu, h3, run_sizeOf_c w hz, add_none]
    unfold iaddrOp at hu'
    split at hu'
    · rename_i l hl
      split at hu'
      · rename_i k hk
        split at hu'
        · rename_i pv hpv
          split at hu'
          · rename_i hcs
            cases hu'
            obtain ⟨kd, hival, hlt⟩ := asIx_sim hk hvi
            rw [hl] at hvx
            obtain ⟨p, cap, hval, _, hel⟩ := MVv_sl.1 hvx
            rcases hel with rfl | ⟨b, o', z, rfl, hA, hel⟩
            · simp at hpv
            · obtain ⟨c, h1, h2, h3⟩ := hel.get hpv
              have : z = P.cellsOf e := by rw [← h2, h1.len, hcs]
              subst this
              exact main b o' l.length cap kd k hval hival hlt (MVv_ref.2 ⟨b, _, rfl, hA, c, h1, h3⟩)
          · cases hu'
        · cases hu'
      · cases hu'
    · rename_i id path off len g hl
      split at hu'
      · rename_i k hk
        split at hu'
        · rename_i g' z' l' hvec
          split at hu'
          · rename_i hc
            obtain ⟨rfl, rfl⟩ := hc
            cases hu'
            obtain ⟨kd, hival, hlt⟩ := asIx_sim hk hvi
            rw [hl] at hvx
            simp only [MVv] at hvx
            obtain ⟨hg, p, cap, hval, hlc, hown⟩ := hvx
            obtain ⟨an, lA, hvA, hgA, rfl⟩ := hm.vec hvec
            have hn := vecAt_node hvA
            have hh := hown an _ hn hgA
            unfold OwnHdr at hh
            cases hb : an.b with
            | none => simp only [hb] at hh; omega
            | some b =>
              simp only [hb] at hh
              rcases hh with ⟨hcap, hh | rfl⟩
              · omega
              · refine main b _ len cap kd k hval hival hlt ?_
                simp only [MVv]
                refine ⟨by omega, _, rfl, fun an' z hn' hg' => ?_⟩
                rw [hn] at hn'; cases hn'
                exact ⟨b, hb, by rw [Nat.add_mul]⟩
          · cases hu'
        · cases hu'
      · cases hu'
    · cases hu'
  · cases he

omit hs hm in
theorem lims_sim (hs : SlR P w A E nx s a) {n : Nat} {lo hi : Option Operand} {lo' hi' : Option Opd} (hlo : optC P lo = some lo') (hhi : optC P hi = some hi') {i j : Nat} (he : lims n (lo'.map (evO s)) (hi'.map (evO s)) = some (i, j)) :
    i ≤ j ∧ j ≤ n ∧ ∀ isS cap, n ≤ cap → (Instr.sliceBounds isS n cap (lo.map a.eval) (hi.map a.eval) none).run P w = .ok (i, j, cap) w := by
  have opt : ∀ {x : Option Operand} {x' : Option Opd}, optC P x = some x' → (x = none ∧ x' = none) ∨ ∃ y y' t, x = some y ∧ x' = some y' ∧ opdC P t y = some y' := by
    intro x x' hx
    unfold optC at hx
    cases x with
    | none => simp at hx; exact .inl ⟨rfl, hx.symm⟩
    | some y =>
      simp only at hx
      split at hx
      · rename_i y' hy
        cases hx
        exact .inr ⟨y, y', 0, rfl, rfl, hy⟩
      · cases hx
  unfold lims at he
  have bd : ∀ {x : Option Operand} {x' : Option Opd} {n m : Nat} {r : Nat}, optC P x = some x' → bdOr n m (x'.map (evO s)) = some r → (x = none ∧ r = m) ∨ ∃ y kd, x = some y ∧ a.eval y = .int kd r ∧ r ≤ n := by
    intro x x' n m r hx hb
    rcases opt hx with ⟨rfl, rfl⟩ | ⟨y, y', t, rfl, rfl, hy⟩
    · simp only [Option.map_none, bdOr, Option.some.injEq] at hb
      exact .inl ⟨rfl, hb.symm⟩
    · simp only [Option.map_some, bdOr] at hb
      obtain ⟨kd, hval, hle⟩ := asBd_sim hb (opdC_sim hs hy)
      exact .inr ⟨y, kd, rfl, hval, hle⟩
  split at he
  · rename_i jj h1
    split at he
    · rename_i ii h4
      simp only [Option.some.injEq, Prod.mk.injEq] at he
      obtain ⟨rfl, rfl⟩ := he
      have h3 := bd hhi h1
      have h6 := bd hlo h4
      have h2 : jj ≤ n := by
        rcases h3 with ⟨_, rfl⟩ | ⟨_, _, _, _, h⟩
        · exact Nat.le_refl _
        · exact h
      have h5 : ii ≤ jj := by
        rcases h6 with ⟨_, rfl⟩ | ⟨_, _, _, _, h⟩
        · exact Nat.zero_le _
        · exact h
      refine ⟨h5, h2, fun isS cap hcap => ?_⟩
      have e1 : ∀ (kd : IntKind) (m y : Nat) (cd : BoundsCode), m ≤ y → (Instr.sliceBound (.int kd m) y cd).run P w = .ok m w := by
        intro kd m y cd hle
        have : (m : Int) ≤ (y : Int) := by omega
        simp [Instr.sliceBound, asIntOf, this]
      rcases h3 with ⟨rfl, rfl⟩ | ⟨y, kd, rfl, hy, _⟩ <;> rcases h6 with ⟨rfl, rfl⟩ | ⟨y2, kd2, rfl, hy2, _⟩
      · simp [Instr.sliceBounds]
      · simp [Instr.sliceBounds, hy2, e1 kd2 ii _ _ h5]
      · simp [Instr.sliceBounds, hy, e1 kd jj cap _ (by omega)]
      · simp [Instr.sliceBounds, hy, hy2, e1 kd jj cap _ (by omega), e1 kd2 ii _ _ h5]
    · cases he
  · cases he

theorem sim_sliceS {x : Operand} {x' : Opd} {lo hi : Option Operand} {lo' hi' : Option Opd} {t t0 : TypeId} (ho : o.op = .slice t x lo hi none) (hx : opdC P t0 x = some x')
    (hlo : optC P lo = some lo') (hhi : optC P hi = some hi') (hu : P.underlying t = some .string)
    (he : evalOp K γ d s h (.sliceS x' lo' hi') = some (v, h')) : OpOk P o a w A E nx γ v h' := by
  have hvx := opdC_sim hs hx
  simp only [evalOp] at he
  split at he
  · rename_i b hb
    split at he
    · rename_i i j hij
      simp only [Option.some.injEq, Prod.mk.injEq] at he
      obtain ⟨rfl, rfl⟩ := he
      rw [hb, MVv_str] at hvx
      obtain ⟨_, _, hr⟩ := lims_sim hs hlo hhi hij
      refine OpOk.idle (val := .string (b.extract i j)) ?_ (MVv_str.2 rfl) hm
      simp [execOp, ho, hvx, Instr.sliceAt, Instr.slice, run_underlying hu, hr false b.size (Nat.le_refl _)]
    · cases he
  · cases he

omit hs hm in
theorem lenOp_sim {u : MV} {val : Value} {n : Nat} (hv : MVv w A E nx u val) (h : lenOp u = some n) : ∃ p cap, val = .slice p n cap ∧ n ≤ cap := by
  unfold lenOp at h
  split at h
  · cases h
    obtain ⟨p, cap, hval, hc, _⟩ := MVv_sl.1 hv
    exact ⟨p, cap, hval, hc⟩
  · cases h
    simp only [MVv] at hv
    obtain ⟨p, hval⟩ := hv
    exact ⟨p, 0, hval, Nat.le_refl _⟩
  · cases h
    simp only [MVv] at hv
    obtain ⟨_, p, cap, hval, hc, _⟩ := hv
    exact ⟨p, cap, hval, hc⟩
  · cases h
theorem sim_slice3 {x lo hi mx : Operand} {x' lo' hi' mx' : Opd} {t t0 t1 t2 t3 e : TypeId} (ho : o.op = .slice t x (some lo) (some hi) (some mx)) (hx : opdC P t0 x = some x')
    (hlo : opdC P t1 lo = some lo') (hhi : opdC P t2 hi = some hi') (hmx : opdC P t3 mx = some mx') (hu : P.underlying t = some (.slice e)) (hz : P.cellsOf e ≠ 0)
    (he : evalOp K γ d s h (.slice3 x' lo' hi' mx') = some (v, h')) : OpOk P o a w A E nx γ v h' := by
  have hvx := opdC_sim hs hx
  simp only [evalOp] at he
  split at he
  · rename_i n hn
    split at he
    · rename_i m hm1
      split at he
      · rename_i b hb1
        split at he
        · rename_i c hc1
          simp only [Option.some.injEq, Prod.mk.injEq] at he
          obtain ⟨rfl, rfl⟩ := he
          obtain ⟨p, cap, hval, hcap⟩ := lenOp_sim hvx hn
          obtain ⟨k1, v1, l1⟩ := asBd_sim hm1 (opdC_sim hs hmx)
          obtain ⟨k2, v2, l2⟩ := asBd_sim hb1 (opdC_sim hs hhi)
          obtain ⟨k3, v3, l3⟩ := asBd_sim hc1 (opdC_sim hs hlo)
          have e1 : ∀ (kd : IntKind) (m y : Nat) (cd : BoundsCode), m ≤ y → (Instr.sliceBound (.int kd m) y cd).run P w = .ok m w := by
            intro kd m y cd hle
            have : (m : Int) ≤ (y : Int) := by omega
            simp [Instr.sliceBound, asIntOf, this]
          refine OpOk.idle (val := .slice (if m = c then p else p.map (·.add (c * P.cellsOf e))) (b - c) (m - c)) ?_ (by simp only [MVv]) hm
          simp [execOp, ho, hval, Instr.sliceAt, Instr.slice, run_underlying hu, Instr.sliceBounds, v1, v2, v3, e1 k1 m cap _ (by omega), e1 k2 b m _ l2, e1 k3 c b _ l3, run_sizeOf_c w hz]
        · cases he
      · cases he
    · cases he
  · cases he
omit hs hm in
theorem PVcs.el : ∀ {l : List PV} {cs : List Value} {b o z : Nat}, PVcs w A l cs → Row w b o cs → l.all (fun v => v.cs == z) = true → PVel w A l b o z
  | [], _, _, _, _, _, _, _ => by simp only [PVel]
  | x :: r, cs, b, o, z, h, hr, hz => by
    simp only [PVcs] at h
    obtain ⟨c, d, rfl, h1, h2⟩ := h
    simp only [List.all_cons, Bool.and_eq_true, beq_iff_eq] at hz
    obtain ⟨r1, r2⟩ := Row.append.1 hr
    simp only [PVel]
    have hc : c.length = z := by rw [h1.len, hz.1]
    exact ⟨⟨c, h1, hc, r1⟩, PVcs.el h2 (hc ▸ r2) hz.2⟩
omit hs hm in
theorem PVel.drop : ∀ {l : List PV} {b o' z : Nat} (k : Nat), PVel w A l b o' z → PVel w A (l.drop k) b (o' + k * z) z
  | l, b, o', z, 0, h => by simpa using h
  | [], b, o', z, k + 1, _ => by simp only [List.drop_nil, PVel]
  | x :: r, b, o', z, k + 1, h => by
    simp only [PVel] at h
    have := PVel.drop k h.2
    rw [List.drop_succ_cons, Nat.succ_mul, Nat.add_comm (k * z), ← Nat.add_assoc]
    exact this
omit hs hm in
theorem PVel.take : ∀ {l : List PV} {b o' z : Nat} (k : Nat), PVel w A l b o' z → PVel w A (l.take k) b o' z
  | l, b, o', z, 0, h => by simp only [List.take_zero, PVel]
  | [], b, o', z, k + 1, _ => by simp only [List.take_nil, PVel]
  | x :: r, b, o', z, k + 1, h => by
    simp only [PVel] at h
    rw [List.take_succ_cons]
    simp only [PVel]
    exact ⟨h.1, PVel.take k h.2⟩
omit hs hm in
theorem PVel.z {l : List PV} {b o' z : Nat} (k : PVel w A l b o' z) (hne : l ≠ []) {n : Nat} (hz : l.all (fun v => v.cs == n) = true) : z = n := by
  cases l with
  | nil => exact absurd rfl hne
  | cons x r =>
    simp only [PVel] at k
    obtain ⟨⟨c, h1, h2, _⟩, _⟩ := k
    simp only [List.all_cons, Bool.and_eq_true, beq_iff_eq] at hz
    rw [← h2, h1.len, hz.1]

theorem sim_slice {x : Operand} {x' : Opd} {lo hi : Option Operand} {lo' hi' : Option Opd} {t t0 e : TypeId} (ho : o.op = .slice t x lo hi none) (hx : opdC P t0 x = some x')
    (hlo : optC P lo = some lo') (hhi : optC P hi = some hi') (hu : P.underlying t = some (.slice e)) (hz : P.cellsOf e ≠ 0)
    (he : evalOp K γ d s h (.slice (P.cellsOf e) x' lo' hi') = some (v, h')) : OpOk P o a w A E nx γ v h' := by
  have hvx := opdC_sim hs hx
  simp only [evalOp] at he
  split at he
  · rename_i u hu'
    simp only [Option.some.injEq, Prod.mk.injEq] at he
    obtain ⟨rfl, rfl⟩ := he
    have main : ∀ p len cap i j, a.eval x = .slice p len cap → lims len (lo'.map (evO s)) (hi'.map (evO s)) = some (i, j) → len ≤ cap →
        MVv w A E nx u (.slice (if cap = i then p else p.map (·.add (i * P.cellsOf e))) (j - i) (cap - i)) → OpOk P o a w A E nx γ u h := by
      intro p len cap i j h1 h2 h3 h4
      obtain ⟨_, _, hr⟩ := lims_sim hs hlo hhi h2
      refine OpOk.idle ?_ h4 hm
      simp [execOp, ho, h1, Instr.sliceAt, Instr.slice, run_underlying hu, hr true cap h3, run_sizeOf_c w hz]
    unfold sliceOp at hu'
    split at hu'
    · rename_i l hl
      split at hu'
      · rename_i i j hij
        split at hu'
        · rename_i hall
          cases hu'
          rw [hl] at hvx
          obtain ⟨p, cap, hval, hlc, hel⟩ := MVv_sl.1 hvx
          obtain ⟨hi1, hj1, _⟩ := lims_sim hs hlo hhi hij
          refine main p l.length cap i j hval hij hlc ?_
          have hlen : ((l.take j).drop i).length = j - i := by rw [List.length_drop, List.length_take, Nat.min_eq_left hj1]
          refine MVv_sl.2 ⟨_, _, by rw [hlen], by rw [hlen]; omega, ?_⟩
          by_cases hne : j = i
          · left
            exact List.eq_nil_of_length_eq_zero (by rw [hlen]; omega)
          · right
            rcases hel with rfl | ⟨b, o', z, rfl, hA, hel⟩
            · simp at hj1; omega
            · have hzz := hel.z (by rintro rfl; simp at hj1; omega) hall
              subst hzz
              refine ⟨b, o' + i * P.cellsOf e, P.cellsOf e, ?_, hA, PVel.drop i (PVel.take j hel)⟩
              rw [if_neg (by omega)]
              simp [add_none]
        · cases hu'
      · cases hu'
    · rename_i z hl
      split at hu'
      · rename_i ij hij
        cases hu'
        rw [hl] at hvx
        simp only [MVv] at hvx
        obtain ⟨p, hval⟩ := hvx
        obtain ⟨i, j⟩ := ij
        obtain ⟨hi1, hj1, _⟩ := lims_sim hs hlo hhi hij
        refine main p 0 0 i j hval hij (Nat.le_refl _) ?_
        have : i = 0 := by omega
        have : j = 0 := by omega
        subst i; subst j
        simp only [MVv]
        exact ⟨_, rfl⟩
      · cases hu'
    · rename_i id path off len g hl
      split at hu'
      · rename_i i j g' z' l' hij hvec
        split at hu'
        · rename_i hc
          obtain ⟨rfl, rfl⟩ := hc
          cases hu'
          rw [hl] at hvx
          simp only [MVv] at hvx
          obtain ⟨hg, p, cap, hval, hlc, hown⟩ := hvx
          obtain ⟨hi1, hj1, _⟩ := lims_sim hs hlo hhi hij
          refine main p len cap i j hval hij hlc ?_
          simp only [MVv]
          refine ⟨hg, _, _, rfl, by omega, fun an z hn hga => ?_⟩
          obtain ⟨an', lA, hvA, hgA, rfl⟩ := hm.vec hvec
          have hn' := vecAt_node hvA
          rw [hn'] at hn; cases hn
          have hh := hown _ _ hn' hgA
          unfold OwnHdr at hh ⊢
          cases hb : an.b with
          | none => simp only [hb] at hh ⊢; omega
          | some b =>
            simp only [hb] at hh ⊢
            refine ⟨by omega, ?_⟩
            by_cases hci : cap = i
            · left; omega
            · rcases hh with ⟨hcap, hh | rfl⟩
              · left; omega
              · right
                rw [if_neg hci]
                simp [add_none, Nat.add_mul]
        · cases hu'
      · cases hu'
    · cases hu'
  · cases he

theorem sim_sliceK {x lo hi : Operand} {x' lo' hi' : Opd} {t t0 t1 t2 e : TypeId} (ho : o.op = .slice t x (some lo) (some hi) none) (hx : opdC P t0 x = some x')
    (hlo : opdC P t1 lo = some lo') (hhi : opdC P t2 hi = some hi') (hu : P.underlying t = some (.slice e)) (hz : P.cellsOf e ≠ 0)
    (he : evalOp K γ d s h (.sliceK (P.cellsOf e) x' lo' hi') = some (v, h')) : OpOk P o a w A E nx γ v h' := by
  have hvx := opdC_sim hs hx
  simp only [evalOp] at he
  split at he
  · rename_i id path off len g hl
    split at he
    · rename_i g' z' l' hvec
      split at he
      · rename_i hc
        obtain ⟨rfl, rfl, hoff⟩ := hc
        split at he
        · rename_i j hj1
          split at he
          · rename_i i hi1
            simp only [Option.some.injEq, Prod.mk.injEq] at he
            obtain ⟨rfl, rfl⟩ := he
            rw [hl] at hvx
            simp only [MVv] at hvx
            obtain ⟨hg, p, cap, hval, hlc, hown⟩ := hvx
            obtain ⟨k2, v2, l2⟩ := asBd_sim hj1 (opdC_sim hs hhi)
            obtain ⟨k3, v3, l3⟩ := asBd_sim hi1 (opdC_sim hs hlo)
            obtain ⟨an, lA, hvA, hgA, rfl⟩ := hm.vec hvec
            have hn' := vecAt_node hvA
            have hh := hown _ _ hn' hgA
            have hB := hm.vecB hvA
            have hjc : j ≤ cap := by
              rw [List.length_map] at l2 hoff
              unfold OwnHdr at hh
              unfold VB at hB
              cases hb : an.b with
              | none =>
                simp only [hb] at hh hB
                obtain ⟨rfl, _⟩ := hB
                simp at l2; omega
              | some b =>
                simp only [hb] at hh hB
                omega
            have e1 : ∀ (kd : IntKind) (m y : Nat) (cd : BoundsCode), m ≤ y → (Instr.sliceBound (.int kd m) y cd).run P w = .ok m w := by
              intro kd m y cd hle
              have : (m : Int) ≤ (y : Int) := by omega
              simp [Instr.sliceBound, asIntOf, this]
            refine OpOk.idle (val := .slice (if cap = i then p else p.map (·.add (i * P.cellsOf e))) (j - i) (cap - i)) ?_ ?_ hm
            · simp [execOp, ho, hval, Instr.sliceAt, Instr.slice, run_underlying hu, Instr.sliceBounds, v2, v3, e1 k2 j cap _ hjc, e1 k3 i j _ l3, run_sizeOf_c w hz]
            · simp only [MVv]
              refine ⟨hg, _, _, rfl, by omega, fun an1 z hn hga => ?_⟩
              rw [hn'] at hn; cases hn
              unfold OwnHdr at hh ⊢
              cases hb : an.b with
              | none => simp only [hb] at hh ⊢; omega
              | some b =>
                simp only [hb] at hh ⊢
                refine ⟨by omega, ?_⟩
                by_cases hci : cap = i
                · left; omega
                · rcases hh with ⟨hcap, hh | rfl⟩
                  · left; omega
                  · right
                    rw [if_neg hci]
                    simp [add_none, Nat.add_mul]
          · cases he
        · cases he
      · cases he
    · cases he
  · cases he
theorem sim_slA {x : Operand} {x' : Opd} {t t0 e : TypeId} {n : Nat} (ho : o.op = .slice t x none none none) (hx : opdC P t0 x = some x')
    (hu : P.underlying t = some (.array n e)) (hz : P.cellsOf e ≠ 0)
    (he : evalOp K γ d s h (.slA n (P.cellsOf e) x') = some (v, h')) : OpOk P o a w A E nx γ v h' := by
  have hvx := opdC_sim hs hx
  simp only [evalOp] at he
  split at he
  · rename_i l hl
    split at he
    · rename_i hc
      simp only [Option.some.injEq, Prod.mk.injEq] at he
      obtain ⟨rfl, rfl⟩ := he
      rw [hl] at hvx
      obtain ⟨b, o', hval, hA, cv, hcv, hrow⟩ := MVv_ref.1 hvx
      simp only [PVc] at hcv
      refine OpOk.idle (val := .slice (some (if n = 0 then (⟨b, o', none⟩ : Addr) else (⟨b, o', none⟩ : Addr).add (0 * P.cellsOf e))) (n - 0) (n - 0)) ?_ ?_ hm
      · simp [execOp, ho, hval, Instr.sliceAt, run_underlying hu, Instr.sliceBounds, Instr.sureAddr, run_sizeOf_c w hz]
      · refine MVv_sl.2 ⟨_, _, by rw [hc.1, Nat.sub_zero], by rw [hc.1]; omega, ?_⟩
        right
        refine ⟨b, o', P.cellsOf e, ?_, hA, PVcs.el hcv hrow hc.2⟩
        split <;> simp [add_none]
    · cases he
  · cases he
theorem sim_cut0 {x : Operand} {x' : Opd} {t t0 e : TypeId} (ho : o.op = .slice t x none (some (.const (.int .i64 0))) (some (.const (.int .i64 0)))) (hx : opdC P t0 x = some x')
    (hu : P.underlying t = some (.slice e)) (hz : P.cellsOf e ≠ 0)
    (he : evalOp K γ d s h (.cut0 (P.cellsOf e) x') = some (v, h')) : OpOk P o a w A E nx γ v h' := by
  have hvx := opdC_sim hs hx
  have main : ∀ p len cap, a.eval x = .slice p len cap → OpOk P o a w A E nx γ (.nil (P.cellsOf e)) h := by
    intro p len cap hval
    refine OpOk.idle (val := .slice (if (0 : Nat) = 0 then p else p) 0 0) ?_ (by simp only [MVv]; exact ⟨_, rfl⟩) hm
    simp [execOp, ho, hval, Instr.sliceAt, Instr.slice, run_underlying hu, run_sizeOf_c w hz, Instr.sliceBounds, Instr.sliceBound, asIntOf, eval_const]
  simp only [evalOp] at he
  split at he <;> simp only [Option.some.injEq, Prod.mk.injEq, reduceCtorEq] at he <;> try contradiction
  · obtain ⟨rfl, rfl⟩ := he
    rename_i l hl
    rw [hl] at hvx
    obtain ⟨p, cap, hval, _⟩ := MVv_sl.1 hvx
    exact main p _ cap hval
  · obtain ⟨rfl, rfl⟩ := he
    rename_i hl
    rw [hl] at hvx
    simp only [MVv] at hvx
    obtain ⟨_, p, cap, hval, _⟩ := hvx
    exact main p _ cap hval
  · obtain ⟨rfl, rfl⟩ := he
    rename_i hl
    rw [hl] at hvx
    simp only [MVv] at hvx
    obtain ⟨p, hval⟩ := hvx
    exact main p _ 0 hval

theorem sim_faddr {x : Operand} {x' : Opd} {t t0 : TypeId} {i : Nat} {fs : Array Field} {fd : Field} (ho : o.op = .fieldAddr t x i) (hx : opdC P t0 x = some x')
    (hu : P.underlying t = some (.struct fs)) (hf : fs[i]? = some fd) (hz : P.cellsOf fd.type ≠ 0)
    (he : evalOp K γ d s h (.faddr x' i fd.offset) = some (v, h')) : OpOk P o a w A E nx γ v h' := by
  have hvx := opdC_sim hs hx
  have main : ∀ p u, a.eval x = .pointer (some p) → MVv w A E nx u (.pointer (some (p.add fd.offset))) → OpOk P o a w A E nx γ u h := by
    intro p u hval hk
    refine OpOk.idle ?_ hk hm
    simp [execOp, ho, hval, Instr.fieldAt, run_underlying hu, hf, Instr.sureAddr, fieldPlace, run_sizeOf_c w hz, hz]
  simp only [evalOp] at he
  split at he
  · rename_i l hl
    split at he
    · rename_i pv hpv
      split at he
      · rename_i hoff
        simp only [Option.some.injEq, Prod.mk.injEq] at he
        obtain ⟨rfl, rfl⟩ := he
        rw [hl] at hvx
        obtain ⟨b, o', hval, hA, cv, h1, h2⟩ := MVv_ref.1 hvx
        simp only [PVc] at h1
        obtain ⟨p, c, q, rfl, hp, hc⟩ := h1.get hpv
        refine main _ _ hval (MVv_ref.2 ⟨b, o' + fd.offset, by rw [add_none], hA, c, hc, ?_⟩)
        rw [← hoff, ← hp]
        exact (Row.append.1 (Row.append.1 h2).1).2
      · cases he
    · cases he
  · rename_i id np rp g o0 hl
    simp only [Option.some.injEq, Prod.mk.injEq] at he
    obtain ⟨rfl, rfl⟩ := he
    rw [hl] at hvx
    simp only [MVv] at hvx
    obtain ⟨hg, p, hval, hadr⟩ := hvx
    refine main p _ hval ?_
    simp only [MVv]
    refine ⟨hg, _, rfl, fun an z hn hga => ?_⟩
    obtain ⟨b, hb, rfl⟩ := hadr an z hn hga
    exact ⟨b, hb, by rw [add_none]⟩
  · cases he

theorem sim_iaddrA {x ix : Operand} {x' ix' : Opd} {t t0 t1 e : TypeId} {n : Nat} (ho : o.op = .indexAddr t x ix) (hx : opdC P t0 x = some x') (hix : opdC P t1 ix = some ix')
    (hu : P.underlying t = some (.array n e)) (hz : P.cellsOf e ≠ 0)
    (he : evalOp K γ d s h (.iaddrA n (P.cellsOf e) x' ix') = some (v, h')) : OpOk P o a w A E nx γ v h' := by
  have hvx := opdC_sim hs hx
  have hvi := opdC_sim hs hix
  simp only [evalOp] at he
  split at he
  · rename_i k hk
    obtain ⟨kd, hival, hlt⟩ := asIx_sim hk hvi
    have main : ∀ p u, a.eval x = .pointer (some p) → MVv w A E nx u (.pointer (some (p.add (k * P.cellsOf e)))) → OpOk P o a w A E nx γ u h := by
      intro p u hval hk
      refine OpOk.idle ?_ hk hm
      have h5 : (k : Int) < (n : Int) := by omega
      simp [execOp, ho, hval, hival, Instr.indexAt, asIntOf, run_underlying hu, Instr.sureAddr, run_sizeOf_c w hz, hlt]
    split at he
    · rename_i l hl
      split at he
      · rename_i pv hpv
        split at he
        · rename_i hoff
          simp only [Option.some.injEq, Prod.mk.injEq] at he
          obtain ⟨rfl, rfl⟩ := he
          rw [hl] at hvx
          obtain ⟨b, o', hval, hA, cv, h1, h2⟩ := MVv_ref.1 hvx
          simp only [PVc] at h1
          obtain ⟨p, c, q, rfl, hp, hc⟩ := h1.get hpv
          refine main _ _ hval (MVv_ref.2 ⟨b, o' + k * P.cellsOf e, by rw [add_none], hA, c, hc, ?_⟩)
          rw [← hoff, ← hp]
          exact (Row.append.1 (Row.append.1 h2).1).2
        · cases he
      · cases he
    · rename_i id np rp g o0 hl
      simp only [Option.some.injEq, Prod.mk.injEq] at he
      obtain ⟨rfl, rfl⟩ := he
      rw [hl] at hvx
      simp only [MVv] at hvx
      obtain ⟨hg, p, hval, hadr⟩ := hvx
      refine main p _ hval ?_
      simp only [MVv]
      refine ⟨hg, _, rfl, fun an z hn hga => ?_⟩
      obtain ⟨b, hb, rfl⟩ := hadr an z hn hga
      exact ⟨b, hb, by rw [add_none]⟩
    · cases he
  · cases he
end
end Go.Mid
/- Parts of values, functions, minima. -/
namespace Go.Mid
set_option linter.unusedSimpArgs false
set_option linter.unusedVariables false
open Go.RowKit
section
variable {P : Program} {o : Oper} {a : Act} {w : World} {A : Nat → Prop} {E : HeapA An} {nx : Stp} {γ : Nat} {v : MV} {h h' : Heap} {s : Slots} {K : Calls3} {d : Option Nat}
  (hs : SlR P w A E nx s a) (hm : MR w A E h nx)
include hs hm

theorem sim_fld {x : Operand} {x' : Opd} {t t0 : TypeId} {i : Nat} {fs : Array Field} {fd : Field} (ho : o.op = .field t x i) (hx : opdC P t0 x = some x')
    (hu : P.underlying t = some (.struct fs)) (hf : fs[i]? = some fd) (hU : hasU P fd.type = true)
    (he : evalOp K γ d s h (.fld (isAggT P fd.type) (P.cellsOf fd.type) fd.offset x' i) = some (v, h')) : OpOk P o a w A E nx γ v h' := by
  have hvx := opdC_sim hs hx
  have main : ∀ (p c q : List Value) u, a.eval x = .agg (p ++ c ++ q).toArray → p.length = fd.offset → c.length = P.cellsOf fd.type → (isAggT P fd.type = false → c.length = 1) →
      MVv w A E nx u (pk (isAggT P fd.type) c) → OpOk P o a w A E nx γ u h := by
    intro p c q u hval hp hc h1 hk
    refine OpOk.idle ?_ hk hm
    have := run_part (P := P) w hU p c q hc h1
    rw [hp] at this
    simp only [execOp, ho, hval, Instr.field, Sem.run_bind, run_underlying hu, Result.andThen_ok, hf, asAgg, Sem.run_pure, this]
  simp only [evalOp] at he
  split at he
  · rename_i l hl
    split at he
    · rename_i pv hpv
      split at he
      · rename_i hc
        obtain ⟨h1, h2, h3⟩ := hc
        simp only [Option.some.injEq, Prod.mk.injEq] at he
        obtain ⟨rfl, rfl⟩ := he
        rw [hl] at hvx
        obtain ⟨cs, hval, hcs⟩ := MVv_agg.1 hvx
        obtain ⟨p, c, q, rfl, hp, hc⟩ := hcs.get hpv
        refine main p c q _ hval (by rw [hp, h1]) (by rw [hc.len, h2]) (fun hg => ?_) ?_
        · rw [← h3] at hg; obtain ⟨_, rfl, _⟩ := hc.one hg; rfl
        · simp only [MVv, PVv]; exact ⟨c, hc, by rw [h3]⟩
      · cases he
    · cases he
  · rename_i l hl
    split at he
    · rename_i mv hmv
      split at he
      · rename_i hc
        obtain ⟨h1, h2, h3, hdead⟩ := hc
        simp only [Option.some.injEq, Prod.mk.injEq] at he
        obtain ⟨rfl, rfl⟩ := he
        rw [hl] at hvx
        simp only [MVv] at hvx
        obtain ⟨cs, hval, hcs⟩ := hvx
        obtain ⟨p, u, q, rfl, hp, hsz, hag, hk⟩ := hcs.get hmv
        have hd' : ∀ n, mv ≠ .dead n := by rintro n rfl; cases hdead
        refine main p u.cells.toList q _ hval (by rw [hp, h1]) (by rw [Array.length_toList, hsz, h2]) (fun hg => ?_) ?_
        · rw [← h3] at hg
          rw [hk.nonagg hg hd']; rfl
        · rw [← h3, hk.pk_eq hd']; exact hk
      · cases he
    · cases he
  · cases he

theorem sim_idx {x ix : Operand} {x' ix' : Opd} {t t0 t1 e : TypeId} {n : Nat} (ho : o.op = .index t x ix) (hx : opdC P t0 x = some x') (hix : opdC P t1 ix = some ix')
    (hu : P.underlying t = some (.array n e)) (hU : hasU P e = true)
    (he : evalOp K γ d s h (.idx (isAggT P e) (P.cellsOf e) n x' ix') = some (v, h')) : OpOk P o a w A E nx γ v h' := by
  have hvx := opdC_sim hs hx
  have hvi := opdC_sim hs hix
  simp only [evalOp] at he
  split at he
  · rename_i l hl
    split at he
    · rename_i k hk
      obtain ⟨kd, hival, hlt⟩ := asIx_sim hk hvi
      split at he
      · rename_i pv hpv
        split at he
        · rename_i hc
          obtain ⟨h1, h2, h3⟩ := hc
          simp only [Option.some.injEq, Prod.mk.injEq] at he
          obtain ⟨rfl, rfl⟩ := he
          rw [hl] at hvx
          obtain ⟨cs, hval, hcs⟩ := MVv_agg.1 hvx
          obtain ⟨p, c, q, rfl, hp, hc⟩ := hcs.get hpv
          have hr := run_part (P := P) w hU p c q (by rw [hc.len, h2]) (fun hg => by rw [← h3] at hg; obtain ⟨_, rfl, _⟩ := hc.one hg; rfl)
          rw [hp, h1] at hr
          refine OpOk.idle (val := pk (isAggT P e) c) ?_ (by simp only [MVv, PVv]; exact ⟨c, hc, by rw [h3]⟩) hm
          have h5 : (k : Int) < (n : Int) := by omega
          simp [execOp, ho, hval, hival, Instr.index, asIntOf, run_underlying hu, hlt, run_sizeOf_u w hU]
          simp at hr
          rw [hr]; rfl
        · cases he
      · cases he
    · cases he
  · cases he
theorem sim_idxS {x ix : Operand} {x' ix' : Opd} {t t0 t1 : TypeId} (ho : o.op = .index t x ix) (hx : opdC P t0 x = some x') (hix : opdC P t1 ix = some ix')
    (hu : P.underlying t = some .string)
    (he : evalOp K γ d s h (.idxS x' ix') = some (v, h')) : OpOk P o a w A E nx γ v h' := by
  have hvx := opdC_sim hs hx
  have hvi := opdC_sim hs hix
  simp only [evalOp] at he
  split at he
  · rename_i b hb
    split at he
    · rename_i k hk
      obtain ⟨kd, hival, hlt⟩ := asIx_sim hk hvi
      split at he
      · rename_i c hc
        simp only [Option.some.injEq, Prod.mk.injEq] at he
        obtain ⟨rfl, rfl⟩ := he
        rw [hb, MVv_str] at hvx
        refine OpOk.idle (val := .int .u8 c.toNat) ?_ (MVv_int.2 rfl) hm
        have hg : b[k]? = some c := by
          have hk' : k < b.data.size := hlt
          rw [Array.getElem?_eq_getElem hk'] at hc
          rw [getElem?_pos b k hlt]
          exact hc
        simp [execOp, ho, hvx, hival, Instr.index, asIntOf, run_underlying hu, hg]
      · cases he
    · cases he
  · cases he

theorem sim_mkfn {f k : Nat} {first caps xs : Array Operand} {l : List Opd} {ts : List TypeId} (ho : o.op = .makeFunc (.func f) first caps) (hk : (k = f ∧ f < bndF ∧ first = #[] ∧ xs = caps) ∨ (k = bndF + f ∧ caps = #[] ∧ xs = first)) (hl : opdsC P ts xs.toList = some l)
    (he : evalOp K γ d s h (.mkfn k l) = some (v, h')) : OpOk P o a w A E nx γ v h' := by
  have hv := opdsC_sim hs hl
  have hrun : (execOp a.eval o).run P w = .ok (.value (fnV k (xs.toList.map a.eval).toArray)) w := by
    rcases hk with ⟨rfl, h1, rfl, rfl⟩ | ⟨rfl, rfl, rfl⟩
    · rw [fnV_lt h1]
      simp [execOp, ho, Instr.makeFunc]
      apply Array.ext'
      simp
    · rw [fnV_ge (Nat.le_add_right _ _), Nat.add_sub_cancel_left]
      simp [execOp, ho, Instr.makeFunc]
      apply Array.ext'
      simp
  simp only [evalOp] at he
  split at he
  · rename_i vs hvs
    simp only [Option.some.injEq, Prod.mk.injEq] at he
    obtain ⟨rfl, rfl⟩ := he
    rw [allP_cs hvs] at hv
    exact OpOk.idle hrun (MVv_pfn.2 ⟨_, rfl, MVvs_p.1 hv⟩) hm
  · simp only [Option.some.injEq, Prod.mk.injEq] at he
    obtain ⟨rfl, rfl⟩ := he
    exact OpOk.idle hrun (by simp only [MVv]; exact ⟨_, rfl, hv⟩) hm

omit hs hm in
theorem foldMx_sim (f : Int → Int → Int) (g : Value → Value → Sem Value) (hg : ∀ k x k' y, (g (.int k x) (.int k' y)).run P w = .ok (.int k (f x y)) w) :
    ∀ (vs : List PV) (x r : PV) (vals : List Value), foldMx f x vs = some r → PVvs w A vs vals → ∀ val, MVv w A E nx (.p x) val → ∃ res, (vals.foldlM g val).run P w = .ok res w ∧ MVv w A E nx (.p r) res
  | [], x, r, vals, h, hv, val, hx => by
    simp only [foldMx, Option.some.injEq] at h
    subst h
    simp only [PVvs] at hv
    subst hv
    exact ⟨val, by simp, hx⟩
  | y :: vs, x, r, vals, h, hv, val, hx => by
    cases x <;> cases y <;> simp only [foldMx, reduceCtorEq] at h
    simp only [PVvs] at hv
    obtain ⟨c, dd, rfl, h1, h2⟩ := hv
    simp only [PVc] at h1
    subst h1
    rw [MVv_int] at hx
    subst hx
    obtain ⟨res, h3, h4⟩ := foldMx_sim f g hg vs _ r dd h h2 _ (MVv_int.2 rfl)
    refine ⟨res, ?_, h4⟩
    simp only [List.foldlM_cons, Sem.run_bind, PV.isAgg, pk, Bool.false_eq_true, if_false, List.headD_cons, hg, Result.andThen_ok]
    exact h3
theorem sim_mx {l : List Opd} {c : Call} {ts : List TypeId} (ho : o.op = .call c) (hc1 : c.callee = .builtin .max) (hl : opdsC P ts c.args.toList = some l)
    (he : evalOp K γ d s h (.mx l) = some (v, h')) : OpOk P o a w A E nx γ v h' := by
  have hv := opdsC_sim hs hl
  simp only [evalOp] at he
  split at he
  · rename_i x r hlr
    split at he
    · rename_i vs hvs
      split at he
      · rename_i res hres
        simp only [Option.some.injEq, Prod.mk.injEq] at he
        obtain ⟨rfl, rfl⟩ := he
        rw [hlr, allP_cs hvs] at hv
        simp only [MVvs] at hv
        obtain ⟨val, vals, hvals, hx, hr⟩ := hv
        obtain ⟨rv, h1, h2⟩ := foldMx_sim (P := P) (fun x y => if y > x then y else x) Builtin.max2 (fun _ _ _ _ => rfl) vs x res vals hres (MVvs_p.1 hr) val hx
        refine OpOk.idle (val := rv) ?_ h2 hm
        rw [run_builtin ho hc1]
        have : (c.args.map a.eval).toList = val :: vals := by rw [Array.toList_map, hvals]
        simp only [builtin, Builtin.max_, this, Sem.run_bind, h1, Result.andThen_ok, Sem.run_pure]
      · cases he
    · cases he
  · cases he
theorem sim_mn {l : List Opd} {c : Call} {ts : List TypeId} (ho : o.op = .call c) (hc1 : c.callee = .builtin .min) (hl : opdsC P ts c.args.toList = some l)
    (he : evalOp K γ d s h (.mn l) = some (v, h')) : OpOk P o a w A E nx γ v h' := by
  have hv := opdsC_sim hs hl
  simp only [evalOp] at he
  split at he
  · rename_i x r hlr
    split at he
    · rename_i vs hvs
      split at he
      · rename_i res hres
        simp only [Option.some.injEq, Prod.mk.injEq] at he
        obtain ⟨rfl, rfl⟩ := he
        rw [hlr, allP_cs hvs] at hv
        simp only [MVvs] at hv
        obtain ⟨val, vals, hvals, hx, hr⟩ := hv
        obtain ⟨rv, h1, h2⟩ := foldMx_sim (P := P) (fun x y => if y < x then y else x) Builtin.min2 (fun _ _ _ _ => rfl) vs x res vals hres (MVvs_p.1 hr) val hx
        refine OpOk.idle (val := rv) ?_ h2 hm
        rw [run_builtin ho hc1]
        have : (c.args.map a.eval).toList = val :: vals := by rw [Array.toList_map, hvals]
        simp only [builtin, Builtin.min_, this, Sem.run_bind, h1, Result.andThen_ok, Sem.run_pure]
      · cases he
    · cases he
  · cases he
end
end Go.Mid
