/- The middle semantics: values, owned memory, instructions and their execution (definitions only). -/
import Derived.Orders
import Derived.Below
import Derived.Laws.StructEq
set_option linter.unusedSimpArgs false
set_option linter.unusedVariables false
open Array renaming length_toList → eg, ext' → gP, toList_map → jx
open BitVec renaming ofInt → cl
open Bool renaming false_eq_true → aF, and_eq_true → ak, not_true → bI, true_and → cE
open Go renaming run_underlying → a8
open Go.Instr renaming sureAddr → jk, sliceBounds → ej, sliceBound → gp, sliceAt → jV, slice → mJ
open Go.Op renaming bytesLess → lW, equal → lD, equalIn → gO, eqFields → qN, unary → uN
open Go.Result renaming andThen_ok → aV
open Go.Sem renaming run_bind → bx, run_pure → bM
open Go.Value renaming cells → dp, agg → oN
open List renaming range → bp, replicate → az, getElem?_append_left → cY, getElem?_eq_some_iff → aL, getElem?_append_right → bG, length_append → aQ, cons_append → aS, nil_append → a7, mem_cons → aM, map_nil → cr, map_cons → aH, getElem?_cons_zero → bP, getElem?_cons_succ → bK, append_assoc → bh, take_succ_cons → bV, replicate_succ → cG, getElem?_map → aN, headD_cons → lN, all_cons → dw
open Nat renaming add_assoc → bX, le_refl → au, lt_of_lt_of_le → br, succ_mul → dA, add_comm → iz, add_mul → ir
open Option renaming toList → cp, isSome_iff_exists → fj, map_none → dM, map_some → ar
open Option.some renaming injEq → aa
open Prod.mk renaming injEq → ae
namespace Go.Mid
inductive PV where
 | int (k:IntKind) (n:Int)
 | bool (b:Bool)
 | str (s:ByteArray)
 | agg (l:List PV)
 | sl (l:List PV)
 | ref (v:PV)
 | fn (f:Nat) (jf:List PV)
 | mp (ks vs:List PV)
 | eX
 | ff
 deriving Inhabited
inductive MV where
 | p (v:PV)
 | nil (z:Nat)
 | own (id:Nat) (path:List Nat) (off len g:Nat)
 | ptr (id:Nat) (np:Option (List Nat)) (rp:List Nat) (g o:Nat)
 | fC (id:Nat) (path:List Nat) (g:Nat)
 | agg (l:List MV)
 | fn (f:Nat) (jf:List MV)
 | eO (l:List MV)
 | dead (n:Nat)
instance:Inhabited MV:=⟨.dead 0⟩
inductive T (α:Type) where
 | p (v:PV)
 | m (v:MV)
 | agg (l:List (T α))
 | vec (a:α) (z:Nat) (l:List (T α)) (n:Nat)
 | mp (a:α) (ks:List PV) (vs:List (T α))
 | hole (n:Nat)
instance {α:Type}:Inhabited (T α):=⟨.hole 0⟩
inductive Obj (α:Type) where
 | cell (a:α) (t:T α)
 | vec (a:α) (z:Nat) (l:List (T α))
 | mp (a:α) (ks:List PV) (vs:List (T α))
 | gone
instance {α:Type}:Inhabited (Obj α):=⟨.gone⟩
abbrev gJ:=Nat→MV
abbrev dV (α:Type):=Nat→Option (Obj α)
abbrev cq:=dV Nat
def cD {α:Type}(f:Nat→α)(k:Nat)(v:α):Nat→α:=fun i=>if i=k then v else f i
def eV (f:gJ)(k:Option Nat)(v:MV):gJ:=match k with | some d=>cD f d v | none=>f
structure St where
 s:gJ
 h:cq
 nx:Nat
mutual
def PV.cs:PV→Nat
 | .agg l=>PV.dm l
 | _=>1
def PV.dm:List PV→Nat
 | []=>0
 | x::xs=>x.cs+PV.dm xs
end
mutual
def MV.cs:MV→Nat
 | .p v=>v.cs
 | .agg l=>MV.dm l
 | .eO _=>0
 | .dead n=>n
 | _=>1
def MV.dm:List MV→Nat
 | []=>0
 | x::xs=>x.cs+MV.dm xs
end
section
variable {α:Type}
mutual
def T.cs:T α→Nat
 | .p v=>v.cs
 | .m v=>v.cs
 | .agg l=>T.dm l
 | .vec .. | .mp ..=>1
 | .hole n=>n
def T.dm:List (T α)→Nat
 | []=>0
 | x::xs=>x.cs+T.dm xs
end
def PV.isAgg:PV→Bool | .agg _=>true | _=>false
def MV.isAgg:MV→Bool | .agg _=>true | .p v=>v.isAgg | _=>false
def pF:List MV→Option (List PV)
 | []=>some []
 | .p v::r=>match pF r with | some l=>some (v::l) | none=>none
 | _::_=>none
def uO (l:List MV):MV:=match pF l with | some vs=>.p (.agg vs) | none=>.agg l
def mu:List (T α)→Option (List PV)
 | []=>some []
 | .p v::r=>match mu r with | some l=>some (v::l) | none=>none
 | _::_=>none
def ke (l:List (T α)):T α:=match mu l with | some vs=>.p (.agg vs) | none=>.agg l
def c6:T α→List Nat→Option (T α)
 | t,[]=>some t
 | .p (.agg l),i::r=>match l[i]? with | some v=>c6 (.p v) r | none=>none
 | .agg l,i::r=>match l[i]? with | some t=>c6 t r | none=>none
 | .vec _ _ l _,i::r=>match l[i]? with | some t=>c6 t r | none=>none
 | .mp _ _ l,i::r=>match l[i]? with | some t=>c6 t r | none=>none
 | _,_::_=>none
def ew (ob:Option (Obj α))(path:List Nat):Option (T α) :=
 match ob,path with
 | some (.cell _ t),p=>c6 t p
 | some (.vec _ _ l),i::r=>match l[i]? with | some t=>c6 t r | none=>none
 | some (.mp _ _ l),i::r=>match l[i]? with | some t=>c6 t r | none=>none
 | _,_=>none
def jG (ob:Option (Obj α))(path:List Nat):Option (α×Nat×List (T α)) :=
 match ob,path with
 | some (.vec a z l),[]=>some (a,z,l)
 | ob,p=>match ew ob p with
   | some (.vec a z l _)=>some (a,z,l)
   | _=>none
def QI (ob:Option (Obj α))(path:List Nat):Option (α×List PV×List (T α)) :=
 match ob,path with
 | some (.mp a ks vs),[]=>some (a,ks,vs)
 | ob,p=>match ew ob p with
   | some (.mp a ks vs)=>some (a,ks,vs)
   | _=>none
def lX:T α→List Nat→Nat→Option (T α×Nat)
 | t,[],o=>some (t,o)
 | .p (.agg l),i::r,o=>match l[i]? with | some v=>lX (.p v) r (o+PV.dm (l.take i)) | none=>none
 | .agg l,i::r,o=>match l[i]? with | some t=>lX t r (o+T.dm (l.take i)) | none=>none
 | _,_::_,_=>none
def look (ob:Option (Obj α))(np:Option (List Nat))(rp:List Nat):Option (T α×α×Nat) :=
 match np with
 | none=>match ob with
   | some (.cell a t)=>match lX t rp 0 with | some (u,o)=>some (u,a,o) | none=>none
   | _=>none
 | some p=>match jG ob p,rp with
   | some (a,z,l),i::r=>match l[i]? with
     | some t=>match lX t r (i*z) with | some (u,o)=>some (u,a,o) | none=>none
     | none=>none
   | _,_=>none
def rG (np:Option (List Nat))(rp:List Nat):List Nat:=np.getD []++rp
def fq (ob:Option (Obj α))(np:Option (List Nat)):Option (α×Option Nat) :=
 match np with
 | none=>match ob with
   | some (.cell a _)=>some (a,none)
   | _=>none
 | some p=>match ob,p with
   | some (.vec a z _),[]=>some (a,some z)
   | some (.mp a _ _),[]=>some (a,none)
   | ob,p=>match ew ob p with
     | some (.vec a z _ _)=>some (a,some z)
     | some (.mp a _ _)=>some (a,none)
     | _=>none
def dg:T α→List Nat→T α→Option (T α)
 | _,[],u=>some u
 | .p (.agg l),i::r,u=>match l[i]? with
   | some v=>match dg (.p v) r u with
     | some w=>some (ke ((l.map T.p).set i w))
     | none=>none
   | none=>none
 | .agg l,i::r,u=>match l[i]? with
   | some t=>match dg t r u with
     | some w=>some (ke (l.set i w))
     | none=>none
   | none=>none
 | .vec g z l n,i::r,u=>match l[i]? with
   | some t=>match dg t r u with
     | some w=>some (.vec g z (l.set i w) n)
     | none=>none
   | none=>none
 | .mp g ks l,i::r,u=>match l[i]? with
   | some t=>match dg t r u with
     | some w=>some (.mp g ks (l.set i w))
     | none=>none
   | none=>none
 | _,_::_,_=>none
def put (ob:Option (Obj α))(path:List Nat)(u:T α):Option (Obj α) :=
 match ob,path with
 | some (.cell a t),p=>match dg t p u with | some w=>some (.cell a w) | none=>none
 | some (.vec g z l),i::r=>match l[i]? with
   | some t=>match dg t r u with | some w=>some (.vec g z (l.set i w)) | none=>none
   | none=>none
 | some (.mp g ks l),i::r=>match l[i]? with
   | some t=>match dg t r u with | some w=>some (.mp g ks (l.set i w)) | none=>none
   | none=>none
 | _,_=>none
end
mutual
def vk (id:Nat)(path:List Nat):T Nat→MV
 | .p v=>.p v
 | .m v=>v
 | .agg l=>uO (w9 id path 0 l)
 | .vec g _ _ n=>.own id path 0 n g
 | .mp g _ _=>.fC id path g
 | .hole n=>.dead n
def w9 (id:Nat)(path:List Nat)(i:Nat):List (T Nat)→List MV
 | []=>[]
 | t::r=>vk id (path++[i]) t::w9 id path (i+1) r
end
mutual
def sO:T Nat→Option PV
 | .p v=>some v
 | .m _=>none
 | .agg l=>match lv l with | some vs=>some (.agg vs) | none=>none
 | .vec _ _ l n=>match lv l with | some vs=>some (.sl (vs.take n)) | none=>none
 | .mp _ ks vs=>match lv vs with | some ws=>some (.mp ks ws) | none=>none
 | .hole _=>none
def lv:List (T Nat)→Option (List PV)
 | []=>some []
 | t::r=>match sO t,lv r with | some v,some vs=>some (v::vs) | _,_=>none
end
mutual
def mB (h:cq):MV→Option PV
 | .p v=>some v
 | .nil _=>some (.sl [])
 | .own id path off len g=>match jG (h id) path with
   | some (g',_,l)=>if g'=g∧off+len≤l.length then
      match lv l with | some vs=>some (.sl ((vs.drop off).take len)) | none=>none
     else none
   | none=>none
 | .ptr id np rp g o=>match look (h id) np rp with
   | some (t,s,o')=>if s=g∧o'=o then match sO t with | some v=>some (.ref v) | none=>none else none
   | none=>none
 | .fC id path g=>match QI (h id) path with
   | some (g',ks,vs)=>if g'=g then match lv vs with | some ws=>some (.mp ks ws) | none=>none else none
   | none=>none
 | .agg l=>match rH h l with | some vs=>some (.agg vs) | none=>none
 | .fn f jf=>match rH h jf with | some vs=>some (.fn f vs) | none=>none
 | .eO _=>none
 | .dead _=>none
def rH (h:cq):List MV→Option (List PV)
 | []=>some []
 | x::r=>match mB h x,rH h r with | some v,some vs=>some (v::vs) | _,_=>none
end
end Go.Mid
namespace Go.Mid
inductive dO where
 | t (n:Nat)
 | c (v:MV)
 | f (id:Nat)
 deriving Inhabited
inductive TD where
 | int (k:IntKind)
 | bool
 | str
 | agg (l:List TD)
 deriving Inhabited
mutual
def TD.cs:TD→Nat
 | .agg l=>TD.dm l
 | _=>1
def TD.dm:List TD→Nat
 | []=>0
 | x::r=>x.cs+TD.dm r
end
mutual
def pH:TD→PV→Bool
 | .int k,.int k' _=>k==k'
 | .bool,.bool _=>true
 | .str,.str _=>true
 | .agg l,.agg m=>sq l m
 | _,_=>false
def sq:List TD→List PV→Bool
 | [],[]=>true
 | t::r,x::q=>pH t x&&sq r q
 | _,_=>false
end
mutual
def vl:PV→PV→Bool
 | .int _ a,.int _ b=>a==b
 | .bool a,.bool b=>a==b
 | .str a,.str b=>a.toList==b.toList
 | .agg l,.agg m=>xd l m
 | _,_=>false
def xd:List PV→List PV→Bool
 | [],[]=>true
 | x::r,y::q=>vl x y&&xd r q
 | _,_=>false
end
inductive sr where
 | move (x:dO)
 | nilv (z:Nat)
 | pick (c a b:dO)
 | box (x:dO)
 | build (zs:List Nat) (parts:List dO)
 | bsl (mt:Bool) (z:Nat) (parts:List dO)
 | bslp (z:Nat) (parts:List dO)
 | load (agg:Bool) (n:Nat) (x:dO)
 | store (n:Nat) (a x:dO)
 | nilc (x:dO)
 | bin (bl:Bool) (op:BinOp) (x y:dO)
 | eqs (neg:Bool) (td:TD) (x y:dO)
 | isnil (fk neg:Bool) (x:dO)
 | not (x:dO)
 | neg (x:dO)
 | inv (x:dO)
 | convI (k:IntKind) (x:dO)
 | convS (x:dO)
 | convR (x:dO)
 | sP (f:Nat) (jf:List dO)
 | mksl (z bytes:Nat) (zero:MV) (len cap:dO)
 | slice (z:Nat) (x:dO) (lo hi:Option dO)
 | ny (x:dO) (lo hi:Option dO)
 | cut0 (z:Nat) (x:dO)
 | clr (z:Nat) (zero:PV) (x:dO)
 | faddr (x:dO) (i o:Nat)
 | fld (agg:Bool) (n o:Nat) (x:dO) (i:Nat)
 | iaddr (z:Nat) (x i:dO)
 | nz (n z:Nat) (x i:dO)
 | idx (agg:Bool) (z n:Nat) (x i:dO)
 | sQ (x i:dO)
 | ext (x:dO) (i:Nat)
 | call (md:Nat) (f:dO) (args:List dO)
 | len (x:dO)
 | lenS (x:dO)
 | capn (x:dO)
 | slice3 (x lo hi mx:dO)
 | appn (z bytes:Nat) (zero:MV) (x n:dO)
 | appk (z:Nat) (x y:dO)
 | sliceK (z:Nat) (x lo hi:dO)
 | Bn (n z:Nat) (x:dO)
 | app (pz:Bool) (z bytes:Nat) (x y:dO)
 | cpy (z:Nat) (x y:dO)
 | mx (l:List dO)
 | mn (l:List dO)
 | tM
 | su (zero:MV) (ok:Bool) (m k:dO)
 | yB (m k v:dO)
 | yC (m k:dO)
 | bad
 deriving Inhabited
structure Ins where
 dst:Option Nat
 guard:Option (Nat×Bool):=none
 op:sr
 deriving Inhabited
inductive Gh where
 | freeze (s:Nat)
 | bn (ks ids:List Nat)
 deriving Inhabited
inductive MC where
 | skip
 | yD (loose:List (Nat×Nat)) (ops:List Ins)
 | seq (a b:MC)
 | cond (c:dO) (a b:MC)
 | block (id:Nat) (c:MC)
 | loop (ks ids:List Nat) (c:MC)
 | exit (id:Nat)
 | ret
 | gh (g:Gh)
 | bad
 deriving Inhabited
inductive RV where
 | tmp (t:Nat)
 | cell (a:Nat) (agg:Bool) (n:Nat)
 deriving Inhabited
structure qj where
 body:MC
 res:List RV
 DV:Bool
 deriving Inhabited
inductive Ex where
 | normal | exit (id:Nat) | ret
 deriving DecidableEq,Inhabited
def Ig (op:BinOp)(k:IntKind)(x y:Int):Option Int :=
 match op with
 | .and=>some (k.wrap (cl k.bits x &&& cl k.bits y).toNat)
 | .or=>some (k.wrap (cl k.bits x ||| cl k.bits y).toNat)
 | .xor=>some (k.wrap (cl k.bits x ^^^ cl k.bits y).toNat)
 | .andNot=>some (k.wrap (cl k.bits x &&& ~~~ cl k.bits y).toNat)
 | _=>none
def jR (op:BinOp):PV→PV→Option PV
 | .int k a,.int k' b =>
   match op with
   | .shl=>if b<0 then none else some (.int k (k.wrap (a*2 ^ min b.toNat k.bits)))
   | .shr=>if b<0 then none else some (.int k (a.fdiv (2 ^ min b.toNat k.bits)))
   | op=>if k≠k' then none else
     match op with
     | .add=>some (.int k (k.wrap (a+b)))
     | .sub=>some (.int k (k.wrap (a-b)))
     | .mul=>some (.int k (k.wrap (a*b)))
     | .quo=>if b=0 then none else some (.int k (k.wrap (a.tdiv b)))
     | .rem=>if b=0 then none else some (.int k (a.tmod b))
     | .eql=>some (.bool (a==b))
     | .neq=>some (.bool (a != b))
     | .lss=>some (.bool (a<b))
     | .leq=>some (.bool (a≤b))
     | .gtr=>some (.bool (a>b))
     | .geq=>some (.bool (a ≥ b))
     | op=>match Ig op k a b with | some n=>some (.int k n) | none=>none
 | .str a,.str b =>
   match op with
   | .add=>if a.size+b.size≤9223372036854775807 then some (.str (a++b)) else none
   | .eql=>some (.bool (a.toList==b.toList))
   | .neq=>some (.bool !(a.toList==b.toList))
   | .lss=>some (.bool (lW a.toList b.toList))
   | .leq=>some (.bool (lW a.toList b.toList || a.toList==b.toList))
   | .gtr=>some (.bool !(lW a.toList b.toList || a.toList==b.toList))
   | .geq=>some (.bool !(lW a.toList b.toList))
   | _=>none
 | .bool a,.bool b =>
   match op with
   | .eql=>some (.bool (a==b))
   | .neq=>some (.bool !(a==b))
   | _=>none
 | _,_=>none
mutual
def kf:MV→List Nat
 | .own id .. | .ptr id .. | .fC id ..=>[id]
 | .agg l | .fn _ l | .eO l=>mC l
 | _=>[]
def mC:List MV→List Nat
 | []=>[]
 | x::r=>kf x++mC r
end
section
variable {α:Type}
mutual
def tq:T α→List Nat
 | .m v=>kf v
 | .agg l=>oV l
 | .vec _ _ l _=>oV l
 | .mp _ _ l=>oV l
 | _=>[]
def oV:List (T α)→List Nat
 | []=>[]
 | x::r=>tq x++oV r
end
def yE:Option (Obj α)→List Nat
 | some (.cell _ t)=>tq t
 | some (.vec _ _ l)=>oV l
 | some (.mp _ _ l)=>oV l
 | _=>[]
end
def uP (h:cq)(id:Nat)(path:List Nat)(g:Nat):Bool :=
 match jG (h id) path with | some (g',_,_)=>g'==g | none=>false
def xP (h:cq)(id:Nat)(np:Option (List Nat))(rp:List Nat)(g o:Nat):Bool :=
 match look (h id) np rp with | some (_,s,o')=>s==g&&o'==o | none=>false
def DW (h:cq)(id:Nat)(path:List Nat)(g:Nat):Bool :=
 match QI (h id) path with | some (g',_,_)=>g'==g | none=>false
mutual
def j6 (h:cq)(ρ:Nat→Option Nat)(ζ:Nat→Nat):MV→MV
 | .own id path off len g=>match ρ id with
   | some j=>if uP h id path g then .own j path off len (ζ g) else .dead 1
   | none=>.dead 1
 | .ptr id np rp g o=>match ρ id with
   | some j=>if xP h id np rp g o then .ptr j np rp (ζ g) o else .dead 1
   | none=>.dead 1
 | .fC id path g=>match ρ id with
   | some j=>if DW h id path g then .fC j path (ζ g) else .dead 1
   | none=>.dead 1
 | .agg l=>.agg (sw h ρ ζ l)
 | .fn f l=>.fn f (sw h ρ ζ l)
 | .eO l=>.eO (sw h ρ ζ l)
 | v=>v
def sw (h:cq)(ρ:Nat→Option Nat)(ζ:Nat→Nat):List MV→List MV
 | []=>[]
 | x::r=>j6 h ρ ζ x::sw h ρ ζ r
end
section
variable {α:Type}(φ:MV→MV)(ζ:α→α)
mutual
def jg:T α→T α
 | .m v=>.m (φ v)
 | .agg l=>.agg (jO l)
 | .vec g s l n=>.vec (ζ g) s (jO l) n
 | .mp g ks l=>.mp (ζ g) ks (jO l)
 | .p v=>.p v
 | .hole n=>.hole n
def jO:List (T α)→List (T α)
 | []=>[]
 | x::r=>jg x::jO r
end
def kO:Obj α→Obj α
 | .cell a t=>.cell (ζ a) (jg φ ζ t)
 | .vec g s l=>.vec (ζ g) s (jO φ ζ l)
 | .mp g ks l=>.mp (ζ g) ks (jO φ ζ l)
 | .gone=>.gone
end
def jP (g:Nat):Nat:=if g=0 then 0 else 1
def wc (ids:List Nat)(i:Nat):Bool:=1000000≤i || ids.contains (i%1000)
def tt (ids:List Nat)(i:Nat):Option Nat:=if wc ids i then some i else none
def rI (ks ids:List Nat)(σ:St):St :=
 { s:=fun k=>if ks.contains k then j6 σ.h (tt ids) jP (σ.s k) else .dead 0
   h:=fun i=>if wc ids i then (σ.h i).map (kO (j6 σ.h (tt ids) jP) jP) else none
   nx:=2 }
def nR (g:Nat)(l:List (T Nat)):List (T Nat):=jO (fun v=>v) (fun _=>g) l
def Ap (g:Nat)(t:T Nat):T Nat:=jg (fun v=>v) (fun _=>g) t
mutual
def o9 (g:Nat)(h:cq):MV→Option (T Nat×cq)
 | .p v=>some (.p v,h)
 | .own id path off len g'=>match h id,path with
   | some (.vec uQ z l),[]=>if g'=uQ∧off=0∧len≤l.length then some (.vec g z (nR g l) len,cD h id (some .gone)) else none
   | ob,path=>match ew ob path with
     | some (.vec uQ z l _)=>if g'=uQ∧off=0∧len≤l.length then
        match put ob path (.hole 1) with | some o=>some (.vec g z (nR g l) len,cD h id (some o)) | none=>none
       else none
     | _=>none
 | .fC id path g'=>match h id,path with
   | some (.mp uQ ks vs),[]=>if g'=uQ then some (.mp g ks (nR g vs),cD h id (some .gone)) else none
   | _,_=>none
 | .agg l=>match tN g h l with | some (ts,h')=>some (ke ts,h') | none=>none
 | .nil z=>some (.vec g z [] 0,h)
 | .eO _ | .dead _=>none
 | v=>some (.m v,h)
def tN (g:Nat)(h:cq):List MV→Option (List (T Nat)×cq)
 | []=>some ([],h)
 | x::r=>match o9 g h x with
   | some (t,h')=>match tN g h' r with
     | some (ts,Ih)=>some (t::ts,Ih)
     | none=>none
   | none=>none
end
section
variable {α:Type}(ck:Nat→α→α)(rs:α→α)
mutual
def mX:T Nat→T α→T α
 | .agg l,.agg m=>.agg (oD l m)
 | .vec g0 _ _ _,.vec a z l n=>.vec (ck g0 a) z (jO (fun v=>v) rs l) n
 | .mp g0 _ _,.mp a ks l=>.mp (ck g0 a) ks (jO (fun v=>v) rs l)
 | _,t=>jg (fun v=>v) rs t
def oD:List (T Nat)→List (T α)→List (T α)
 | x::r,y::q=>mX x y::oD r q
 | _,q=>jO (fun v=>v) rs q
end
def q8:Option (Obj Nat)→Obj α→Obj α
 | some (.cell g0 t),.cell b u=>.cell (ck g0 b) (mX ck rs t u)
 | some (.vec g0 _ _),.vec a z l=>.vec (ck g0 a) z (jO (fun v=>v) rs l)
 | some (.mp g0 _ _),.mp a ks l=>.mp (ck g0 a) ks (jO (fun v=>v) rs l)
 | _,o=>kO (fun v=>v) rs o
end
def uR (g g0 a:Nat):Nat:=if a=0 then g0 else g
def xQ (g _:Nat):Nat:=g
section
variable (hr h:cq)(ρ:Nat→Nat)
mutual
def nn:MV→MV
 | .own id path off len g=>if uP hr id path g then (match fq (h (ρ id)) (some path) with | some (g',_)=>.own (ρ id) path off len g' | none=>.dead 1) else .dead 1
 | .ptr id np rp g o=>if xP hr id np rp g o then (match fq (h (ρ id)) np with | some (g',_)=>.ptr (ρ id) np rp g' o | none=>.dead 1) else .dead 1
 | .fC id path g=>if DW hr id path g then (match fq (h (ρ id)) (some path) with | some (g',_)=>.fC (ρ id) path g' | none=>.dead 1) else .dead 1
 | .agg l=>.agg (tO l)
 | .fn f l=>.fn f (tO l)
 | .eO l=>.eO (tO l)
 | v=>v
def tO:List MV→List MV
 | []=>[]
 | x::r=>nn x::tO r
end
end
def yF:List Nat→List Nat
 | []=>[]
 | x::r=>if (yF r).contains x then yF r else x::yF r
def js (h:cq)(l:List Nat):List Nat:=yF (l++l.flatMap fun i=>yE (h i))
def pc (l:List Nat)(x:Nat):Option Nat:=l.findIdx? (· == x)
def eB:Nat:=1000000
def kP:Nat:=2000000
mutual
def vm:PV→Bool
 | .int .. | .bool _ | .str _ | .eX | .ff=>true
 | .agg l=>DX l
 | _=>false
def DX:List PV→Bool
 | []=>true
 | x::r=>vm x&&DX r
end
def D6l:MV→Bool
 | .p v=>vm v
 | _=>false
abbrev CF:=MV×List (Obj Nat)×List (Obj Nat)
abbrev jC:=Nat→List MV→List (Obj Nat)→Option CF
def cR (s:gJ):dO→MV
 | .t n=>s n
 | .c v=>v
 | .f id=>.p (.fn id [])
def callee:MV→Option (Nat×List MV)
 | .p (.fn f cs)=>some (f,cs.map .p)
 | .fn f cs=>some (f,cs)
 | _=>none
def we:Nat:=1000000
def DY (m:MV)(args:List MV):Option (Nat×List MV):=match callee m with
 | some (f,cs)=>if f<we then some (f,args++cs) else some (f-we,cs++args)
 | none=>none
def DZ (dK:List (Obj Nat)):cq:=fun i=>if kP≤i then dK[i-kP]? else none
section
variable {α:Type}
mutual
def yG:T α→Bool
 | .p v=>vm v
 | .m _=>false
 | .agg l=>uS l
 | .vec _ _ l _=>uS l
 | .mp _ _ l=>uS l
 | .hole _=>true
def uS:List (T α)→Bool
 | []=>true
 | x::r=>yG x&&uS r
end
def tQ:Obj α→Bool
 | .cell _ t=>yG t
 | .vec _ _ l=>uS l
 | .mp _ _ l=>uS l
 | .gone=>true
end
mutual
def uT:MV→Bool
 | .p v=>vm v
 | .own .. | .ptr .. | .fC .. | .nil _ | .dead _=>true
 | .agg l | .eO l | .fn _ l=>Bo l
def Bo:List MV→Bool
 | []=>true
 | x::r=>uT x&&Bo r
end
def xR:Option CF→Option (MV×Bool)
 | some (r,[],dK)=>match r with
   | .eO l=>match rH (DZ dK) l with
     | some vs=>some (.eO (vs.map .p),uT r&&dK.all tQ)
     | none=>none
   | r=>match mB (DZ dK) r with
     | some v=>some (.p v,uT r&&dK.all tQ)
     | none=>none
 | _=>none
def yH (K:jC)(h:cq)(f:Nat)(args:List MV):Option (MV×cq) :=
 match rH h args with
 | some vs=>match xR (K f (vs.map .p) []) with
   | some (v,fr)=>if fr || (pF args).isSome then some (v,h) else none
   | none=>none
 | none=>none
def xS (d k:Nat):Nat:=d+1000*(k+1)
def qb (dn:Nat)(ids:List Nat)(i:Nat):Nat:=if kP≤i then xS dn (i-kP) else ids.getD (i-eB) 0
def tR (ids:List Nat)(i:Nat):Option Nat:=(pc ids i).map (eB + ·)
def sx (h:cq):List Nat→Option (List (Obj Nat))
 | []=>some []
 | i::r=>match h i,sx h r with | some o,some os=>some (o::os) | _,_=>none
def kr (d:Option Nat)(n:Nat):List Nat:=(bp n).map (xS (d.getD 0))
def kg (ext dK:List (Obj Nat)):cq:=fun i=>if kP≤i then dK[i-kP]? else if eB≤i then ext[i-eB]? else none
def mY (es ids:List Nat)(i:Nat):Option Nat:=match pc es i with
 | some k=>some (kP+k)
 | none=>match pc ids i with
   | some k=>some (eB+k)
   | none=>none
def qV (g:Nat)(h:cq)(i j:Nat):Obj Nat→Obj Nat:=q8 (uR g) (xQ g) (if kP≤j then none else h i)
def yI (g:Nat)(d:Option Nat)(h:cq)(ids:List Nat)(r:MV)(ext dK:List (Obj Nat)):Option (MV×cq) :=
 let es:=kr d dK.length
 if ext.length≠ids.length∨(dK ≠ []∧d=none)∨es.any ids.contains=true∨1000000<ids.length∨eB<xS (d.getD 0) dK.length then none else
 let h1:cq:=fun i=>match mY es ids i with
  | some j=>(kg ext dK j).map (qV g h i j)
  | none=>h i
 let φ:=nn (kg ext dK) h1 (qb (d.getD 0) ids)
 some (φ r,fun i=>match mY es ids i with
  | some j=>(kg ext dK j).map (fun o=>kO φ (fun a=>a) (qV g h i j o))
  | none=>h i)
def Bp (K:jC)(g:Nat)(d:Option Nat)(h:cq)(f:Nat)(args:List MV):Option (MV×cq) :=
 let ids:=js h (js h (mC args))
 match sx h ids with
 | none=>none
 | some qk =>
   match K f (sw h (tR ids) (fun _=>0) args) (qk.map (kO (j6 h (tR ids) (fun _=>0)) (fun _=>0))) with
   | none=>none
   | some (r,ext,dK)=>yI g d h ids r ext dK
def Aq (K:jC)(g:Nat)(d:Option Nat)(h:cq)(f:Nat)(args:List MV):Option (MV×cq) :=
 match rH h args with
 | some vs=>match K f (vs.map .p) [] with
   | some (r,[],dK)=>if (pF args).isSome || (uT r&&dK.all tQ) then yI g d h [] r [] dK else none
   | _=>none
 | none=>none
def wg (n:Int):MV:=.p (.int .i64 n)
def Ar (b:Bool):MV:=.p (.bool b)
def wi:MV→Option Int | .p (.int _ n)=>some n | _=>none
def xT (n:Nat)(v:MV):Option Nat:=match wi v with | some i=>if 0≤i∧i<n then some i.toNat else none | none=>none
def xe (n:Nat)(v:MV):Option Nat:=match wi v with | some i=>if 0≤i∧i≤n then some i.toNat else none | none=>none
def room:Nat:=140737488355328
def mZ (d:Option Nat)(h:cq)(o:Obj Nat):Option cq :=
 match d with
 | some d=>some (cD h d (some o))
 | none=>none
def elems (h:cq):MV→Option (List (T Nat))
 | .p (.sl l)=>some (l.map .p)
 | .nil _=>some []
 | .own id path off len g=>match jG (h id) path with
   | some (g',_,l)=>if g'=g∧off+len≤l.length then some ((l.drop off).take len) else none
   | none=>none
 | _=>none
def tu:T Nat→Bool | .p _=>true | _=>false
mutual
def CG:T Nat→Bool
 | .p _ | .vec .. | .mp ..=>true
 | .m v=>match v with | .own .. | .ptr .. | .fC .. | .fn ..=>true | _=>false
 | .agg l=>As l
 | .hole _=>false
def As:List (T Nat)→Bool
 | []=>true
 | t::r=>CG t&&As r
end
def rW (h:cq)(y:MV):Option (List (T Nat)×cq) :=
 match elems h y with
 | none=>none
 | some ts=>if ts.all tu then some (ts,h) else
   match y with
   | .own id [] 0 len _=>match h id with
     | some (.vec _ _ l)=>if len=l.length∧As ts then some (ts,cD h id (some .gone)) else none
     | _=>none
   | _=>none
def pI (z:Nat)(l:List (T Nat)):Bool:=l.all fun t=>t.cs==z
def D0 (g:Nat)(h:cq)(id z bytes len g0:Nat)(ts:List (T Nat))(g1 z1:Nat)(l:List (T Nat)):Option (MV×cq) :=
 if g1=g0∧z1=z∧len≤l.length∧(len+ts.length)*bytes≤room then
  some (.own id [] 0 (len+ts.length) g,cD h id (some (.vec g z (l.take len++nR g ts))))
 else none
def Au (g:Nat)(d:Option Nat)(h:cq)(id:Nat)(path:List Nat)(z bytes len g0:Nat)(ts:List (T Nat)):Option (MV×cq) :=
 match ew (h id) path with
 | some (.vec g1 z1 l n)=>if g1=g0∧z1=z∧len=n∧n≤l.length∧(len+ts.length)*bytes≤room then
    match put (h id) path (.hole 1) with
    | some o'=>match mZ d (cD h id (some o')) (.vec g z (nR g (l.take len++ts))) with
      | some h2=>some (.own (d.getD 0) [] 0 (len+ts.length) g,h2)
      | none=>none
    | none=>none
   else none
 | _=>none
def rJ (g:Nat)(d:Option Nat)(h:cq)(z bytes:Nat)(x y:MV):Option (MV×cq) :=
 match rW h y with
 | none=>none
 | some (ts,h1)=>if !pI z ts then none else
   match x with
   | .nil _=>if ts.length*bytes≤room then
      match mZ d h1 (.vec g z (nR g ts)) with | some h2=>some (.own (d.getD 0) [] 0 ts.length g,h2) | none=>none
     else none
   | .own id path off len g0=>if off=0 then
      match h1 id,path with
      | some (.vec g1 z1 l),[]=>D0 g h1 id z bytes len g0 ts g1 z1 l
      | _,path=>Au g d h1 id path z bytes len g0 ts
     else none
   | _=>none
def nW {α:Type}(l:List (T α))(off:Nat)(vs:List PV):List (T α):=l.take off++vs.map .p++l.drop (off+vs.length)
def ql (h:cq)(id:Nat)(path:List Nat)(g z off:Nat)(vs:List PV):Option cq :=
 if vs.all (fun v=>v.cs==z) then
  match h id,path with
  | some (.vec a z' l),[]=>if a=g∧z'=z∧off+vs.length≤l.length then some (cD h id (some (.vec a z (nW l off vs)))) else none
  | ob,path=>match ew ob path with
    | some (.vec a z' l n)=>if a=g∧z'=z∧off+vs.length≤l.length then
       match put ob path (.vec a z (nW l off vs) n) with
       | some o'=>some (cD h id (some o'))
       | none=>none
      else none
    | _=>none
 else none
def Gb (h:cq)(z:Nat)(x y:MV):Option (MV×cq) :=
 match elems h y with
 | none=>none
 | some ts=>match mu ts with
   | none=>none
   | some vs=>if pI z ts then
      match x with
      | .nil _=>some (wg 0,h)
      | .own id path off len g =>
        match ql h id path g z off (vs.take len) with
        | some h'=>some (wg (min vs.length len:Nat),h')
        | none=>none
      | _=>none
     else none
def yJ (g:Nat)(h:cq)(n id:Nat)(path:List Nat)(x:MV):Option (MV×cq) :=
 match o9 g h x with
 | some (t,h1)=>if t.cs=n then match put (h1 id) path t with | some o=>some (.dead 0,cD h1 id (some o)) | none=>none else none
 | none=>none
def Gc (g:Nat)(h:cq)(n:Nat)(a x:MV):Option (MV×cq) :=
 match a with
 | .ptr id np rp g0 o0=>match look (h id) np rp with
   | some (old,s,o)=>if s=g0∧o=o0∧old.cs=n then
      match x,old with
      | .own uU q9 off len g',.vec a z l n' =>
        if uU=id∧q9=rG np rp∧off=0∧g'=a∧len≤n' then
         match put (h id) (rG np rp) (.vec a z (l.take len) len) with | some o=>some (.dead 0,cD h id (some o)) | none=>none
        else yJ g h n id (rG np rp) x
      | x,_=>yJ g h n id (rG np rp) x
     else none
   | none=>none
 | _=>none
def Mv:MV→Bool | .dead _=>true | _=>false
def tT (h:cq)(agg:Bool)(n:Nat)(a:MV):Option MV :=
 match a with
 | .p (.ref v)=>if v.cs=n∧v.isAgg=agg then some (.p v) else none
 | .ptr id np rp g o=>match look (h id) np rp with
   | some (t,s,o')=>if s=g∧o'=o∧t.cs=n then
      let v:=vk id (rG np rp) t
      if v.isAgg=agg∧Mv v=false then some v else none
     else none
   | none=>none
 | _=>none
def CH (n m:Nat):Option MV→Option Nat
 | some v=>xe n v
 | none=>some m
def Bq (n:Nat)(lo hi:Option MV):Option (Nat×Nat) :=
 match CH n n hi with
 | some b=>match CH b 0 lo with
   | some a=>some (a,b)
   | none=>none
 | none=>none
def Av (h:cq)(z:Nat)(x:MV)(lo hi:Option MV):Option MV :=
 match x with
 | .p (.sl l)=>match Bq l.length lo hi with | some (a,b)=>if l.all (fun v=>v.cs==z) then some (.p (.sl ((l.take b).drop a))) else none | none=>none
 | .nil z=>match Bq 0 lo hi with | some _=>some (.nil z) | none=>none
 | .own id path off len g=>match Bq len lo hi,jG (h id) path with
   | some (a,b),some (g',z',_)=>if g'=g∧z'=z then some (.own id path (off+a) (b-a) g) else none
   | _,_=>none
 | _=>none
def yK:MV→Option Nat
 | .p (.sl l)=>some l.length
 | .nil _=>some 0
 | .own _ _ _ len _=>some len
 | _=>none
def Aw (h:cq)(z:Nat)(x i:MV):Option MV :=
 match x with
 | .p (.sl l)=>match xT l.length i with
   | some k=>match l[k]? with | some v=>if v.cs=z then some (.p (.ref v)) else none | none=>none
   | none=>none
 | .own id path off len g=>match xT len i with
   | some k=>match jG (h id) path with
     | some (g',z',_)=>if g'=g∧z'=z then some (.ptr id (some path) [off+k] g ((off+k)*z)) else none
     | none=>none
   | none=>none
 | _=>none
def rX:MV→Bool
 | .dead _ | .eO _=>false
 | _=>true
def okB:List Nat→List MV→Bool
 | [],[]=>true
 | z::zs,v::vs=>v.cs==z&&rX v&&okB zs vs
 | _,_=>false
def zT (g:Nat):MV→Option (T Nat)
 | .p v=>some (.p v)
 | .nil z=>some (.vec g z [] 0)
 | .agg l=>match CI l with | some ts=>some (ke ts) | none=>none
 | _=>none
where CI:List MV→Option (List (T Nat))
 | []=>some []
 | x::r=>match zT g x,CI r with | some t,some ts=>some (t::ts) | _,_=>none
def Br (f:Int→Int→Int):PV→List PV→Option PV
 | v,[]=>some v
 | .int k x,.int _ y::r=>Br f (.int k (f x y)) r
 | _,_=>none
def D1:PV→Bool | .bool _=>true | _=>false
def cf (K:jC)(g:Nat)(d:Option Nat)(s:gJ)(h:cq):sr→Option (MV×cq)
 | .move x=>some (cR s x,h)
 | .nilv z=>match mZ d h (.vec g z []) with | some h'=>some (.own (d.getD 0) [] 0 0 g,h') | none=>none
 | .pick c a b=>match cR s c with | .p (.bool t)=>some (if t then cR s a else cR s b,h) | _=>none
 | .box x=>match o9 g h (cR s x) with
   | some (t,h1)=>match mZ d h1 (.cell g t) with | some h'=>some (.ptr (d.getD 0) none [] g 0,h') | none=>none
   | none=>none
 | .build zs parts=>if okB zs (parts.map (cR s)) then some (uO (parts.map (cR s)),h) else none
 | .bsl mt z parts=>if okB (az parts.length z) (parts.map (cR s)) then
    match (if mt then none else pF (parts.map (cR s))) with
    | some vs=>some (.p (.sl vs),h)
    | none=>match tN g h (parts.map (cR s)) with
      | some (ts,h1)=>if pI z ts then
         match mZ d h1 (.vec g z ts) with | some h'=>some (.own (d.getD 0) [] 0 ts.length g,h') | none=>none
        else none
      | none=>none
   else none
 | .bslp z parts=>if okB (az parts.length z) (parts.map (cR s)) then
    match tN g h (parts.map (cR s)) with
    | some (ts,h1)=>if pI z ts then
       match mZ d h1 (.vec g z ts) with
       | some h2=>match mB h2 (.own (d.getD 0) [] 0 ts.length g) with | some v=>some (.p v,cD h2 (d.getD 0) (some .gone)) | none=>none
       | none=>none
      else none
    | none=>none
   else none
 | .load agg n x=>match tT h agg n (cR s x) with | some v=>some (v,h) | none=>none
 | .store n a x=>Gc g h n (cR s a) (cR s x)
 | .nilc x=>match cR s x with
   | .p (.ref v)=>some (.p (.ref v),h)
   | .ptr id np rp g o=>some (.ptr id np rp g o,h)
   | _=>none
 | .bin bl op x y=>match cR s x,cR s y with
   | .p a,.p b=>if D1 a=bl then (match jR op a b with | some v=>some (.p v,h) | none=>none) else none
   | _,_=>none
 | .eqs neg td x y=>match cR s x,cR s y with
   | .p a,.p b=>if pH td a&&pH td b then some (Ar (vl a b != neg),h) else none
   | _,_=>none
 | .isnil fk neg x=>match fk,cR s x with
   | false,.p .eX | true,.p .ff=>some (Ar (true != neg),h)
   | false,.p (.ref _) | false,.ptr .. | true,.p (.fn ..) | true,.fn ..=>some (Ar (false != neg),h)
   | _,_=>none
 | .not x=>match cR s x with | .p (.bool t)=>some (Ar !t,h) | _=>none
 | .neg x=>match cR s x with | .p (.int k n)=>some (.p (.int k (k.wrap (0-n))),h) | _=>none
 | .inv x=>match cR s x with
   | .p (.int k n)=>match Ig .xor k (if k.signed then -1 else k.max) n with | some m=>some (.p (.int k m),h) | none=>none
   | _=>none
 | .convI k x=>match cR s x with | .p (.int _ n)=>some (.p (.int k (k.wrap n)),h) | _=>none
 | .convS x=>match cR s x with | .p (.str b)=>some (.p (.str b),h) | _=>none
 | .convR x=>match cR s x with | .p (.int _ n)=>some (.p (.str (Utf8.encode n)),h) | _=>none
 | .sP f jf=>match pF (jf.map (cR s)) with
   | some vs=>some (.p (.fn f vs),h)
   | none=>some (.fn f (jf.map (cR s)),h)
 | .mksl z bytes zero l c=>match wi (cR s l),wi (cR s c) with
   | some l,some c=>match zT g zero with
     | some t=>if 0≤l∧l≤c∧c.toNat * bytes≤room∧t.cs=z then
        match mZ d h (.vec g z (az l.toNat t)) with
        | some h'=>some (.own (d.getD 0) [] 0 l.toNat g,h')
        | none=>none
       else none
     | none=>none
   | _,_=>none
 | .ny x lo hi=>match cR s x with
   | .p (.str b)=>match Bq b.size (lo.map (cR s)) (hi.map (cR s)) with | some (i,j)=>some (.p (.str (b.extract i j)),h) | none=>none
   | _=>none
 | .slice z x lo hi=>match Av h z (cR s x) (lo.map (cR s)) (hi.map (cR s)) with | some v=>some (v,h) | none=>none
 | .cut0 z x=>match cR s x with
   | .p (.sl _) | .own .. | .nil _=>some (.nil z,h)
   | _=>none
 | .clr z zero x=>match cR s x with
   | .p (.sl []) | .nil _=>some (.eO [],h)
   | .own id path off len g0=>match ql h id path g0 z off (az len zero) with
     | some h'=>if zero.cs=z then some (.eO [],h') else none
     | none=>none
   | _=>none
 | .faddr x i o=>match cR s x with
   | .p (.ref (.agg l))=>match l[i]? with | some v=>if PV.dm (l.take i)=o then some (.p (.ref v),h) else none | none=>none
   | .ptr id np rp g o0=>some (.ptr id np (rp++[i]) g (o0+o),h)
   | _=>none
 | .fld agg n o x i=>match cR s x with
   | .p (.agg l)=>match l[i]? with | some v=>if PV.dm (l.take i)=o∧v.cs=n∧v.isAgg=agg then some (.p v,h) else none | none=>none
   | .agg l=>match l[i]? with | some v=>if MV.dm (l.take i)=o∧v.cs=n∧v.isAgg=agg∧Mv v=false then some (v,h) else none | none=>none
   | _=>none
 | .iaddr z x i=>match Aw h z (cR s x) (cR s i) with | some v=>some (v,h) | none=>none
 | .nz n z x i=>match xT n (cR s i) with
   | some k=>match cR s x with
     | .p (.ref (.agg l))=>match l[k]? with | some v=>if PV.dm (l.take k)=k*z then some (.p (.ref v),h) else none | none=>none
     | .ptr id np rp g o0=>some (.ptr id np (rp++[k]) g (o0+k*z),h)
     | _=>none
   | none=>none
 | .idx agg z n x i=>match cR s x with
   | .p (.agg l)=>match xT n (cR s i) with
     | some k=>match l[k]? with | some v=>if PV.dm (l.take k)=k*z∧v.cs=z∧v.isAgg=agg then some (.p v,h) else none | none=>none
     | none=>none
   | _=>none
 | .sQ x i=>match cR s x with
   | .p (.str b)=>match xT b.size (cR s i) with
     | some k=>match b.data[k]? with | some c=>some (.p (.int .u8 c.toNat),h) | none=>none
     | none=>none
   | _=>none
 | .ext x i=>match cR s x with
   | .eO l=>match l[i]? with | some v=>some (v,h) | none=>none
   | _=>none
 | .call md f args=>match DY (cR s f) (args.map (cR s)) with
   | some (f,al)=>match md with
     | 0=>yH K h f al
     | 1=>Bp K g d h f al
     | _=>Aq K g d h f al
   | none=>none
 | .lenS x=>match cR s x with | .p (.str b)=>some (wg b.size,h) | _=>none
 | .appn z bytes zero x n=>match cR s x,wi (cR s n) with
   | .nil _,some k=>match zT g zero with
     | some t=>if 0<k∧k.toNat * bytes≤room∧t.cs=z then
        match mZ d h (.vec g z (az k.toNat t)) with
        | some h'=>some (.own (d.getD 0) [] 0 k.toNat g,h')
        | none=>none
       else none
     | none=>none
   | _,_=>none
 | .appk z x y=>match elems h (cR s y) with
   | none=>none
   | some ts=>match mu ts with
     | none=>none
     | some vs=>if pI z ts then
        match cR s x with
        | .own id path off len g0=>match ql h id path g0 z (off+len) vs with
          | some h1=>some (.own id path off (len+vs.length) g0,h1)
          | none=>none
        | _=>none
       else none
 | .sliceK z x lo hi=>match cR s x with
   | .own id path off _ g0=>match jG (h id) path with
     | some (g',z',l)=>if g'=g0∧z'=z∧off≤l.length then
        match xe (l.length-off) (cR s hi) with
        | some b=>match xe b (cR s lo) with | some a=>some (.own id path (off+a) (b-a) g0,h) | none=>none
        | none=>none
       else none
     | none=>none
   | _=>none
 | .Bn n z x=>match cR s x with
   | .p (.ref (.agg l))=>if l.length=n∧l.all (fun v=>v.cs==z)=true then some (.p (.sl l),h) else none
   | _=>none
 | .slice3 x lo hi mx=>match yK (cR s x) with
   | some n=>match xe n (cR s mx) with
     | some m=>match xe m (cR s hi) with
       | some b=>match xe b (cR s lo) with | some _=>some (.dead 1,h) | none=>none
       | none=>none
     | none=>none
   | none=>none
 | .capn x=>match cR s x with | .nil _=>some (wg (0:Nat),h) | _=>none
 | .len x=>match yK (cR s x) with | some n=>some (wg n,h) | none=>none
 | .app pz z bytes x y=>match rJ g d h z bytes (cR s x) (cR s y) with
   | some (.own id [] off len g1,h1)=>if pz then
      match mB h1 (.own id [] off len g1) with | some v=>some (.p v,cD h1 id (some .gone)) | none=>none
     else some (.own id [] off len g1,h1)
   | _=>none
 | .cpy z x y=>Gb h z (cR s x) (cR s y)
 | .mx l=>match l.map (cR s) with
   | .p v::r=>match pF r with
     | some vs=>match Br (fun x y=>if y>x then y else x) v vs with | some w=>some (.p w,h) | none=>none
     | none=>none
   | _=>none
 | .mn l=>match l.map (cR s) with
   | .p v::r=>match pF r with
     | some vs=>match Br (fun x y=>if y<x then y else x) v vs with | some w=>some (.p w,h) | none=>none
     | none=>none
   | _=>none
 | .tM | .su .. | .yB .. | .yC ..=>none
 | .bad=>none
def tU (s:gJ):Option (Nat×Bool)→Option Bool
 | none=>some true
 | some (t,b)=>match s t with
   | .p (.bool c)=>some (c==b)
   | .eO []=>some false
   | _=>none
def oE (K:jC)(g:Nat)(i:Ins)(s:gJ)(h:cq):Option (gJ×cq) :=
 match tU s i.guard with
 | some true=>match cf K g i.dst s h i.op with
   | some (v,h')=>some (eV s i.dst v,h')
   | none=>none
 | some false=>some (eV s i.dst (.eO []),h)
 | none=>none
def tV (K:jC):Nat→List Ins→gJ→cq→Option (gJ×cq)
 | _,[],s,h=>some (s,h)
 | g,i::r,s,h=>match oE K g i s h with
   | some (s',h')=>tV K (g+1) r s' h'
   | none=>none
def fA:sr→List dO
 | .move x | .box x | .load _ _ x | .nilc x | .isnil _ _ x | .not x | .neg x | .inv x | .convI _ x | .convS x | .convR x | .faddr x _ _ | .fld _ _ _ x _ | .ext x _ | .len x | .lenS x | .capn x | .cut0 _ x | .clr _ _ x | .Bn _ _ x=>[x]
 | .pick a b c=>[a,b,c]
 | .build _ l | .bsl _ _ l | .bslp _ l | .sP _ l | .mx l | .mn l=>l
 | .store _ a x | .bin _ _ a x | .eqs _ _ a x | .mksl _ _ _ a x | .iaddr _ a x | .nz _ _ a x | .idx _ _ _ a x | .sQ a x | .app _ _ _ a x | .cpy _ a x | .su _ _ a x | .yC a x=>[a,x]
 | .slice _ x lo hi | .ny x lo hi=>x::lo.toList++hi.toList
 | .call _ f args=>f::args
 | .yB m k v=>[m,k,v]
 | .slice3 x lo hi mx=>[x,lo,hi,mx]
 | .appn _ _ _ x n=>[x,n]
 | .appk _ x y=>[x,y]
 | .sliceK _ x lo hi=>[x,lo,hi]
 | .nilv _ | .tM | .bad=>[]
def tW:sr→Bool
 | .load .. | .iaddr .. | .su .. | .slice .. | .sliceK .. | .call 0 ..=>true
 | _=>false
def idle:sr→Bool
 | .move _ | .pick .. | .build .. | .nilc _ | .bin .. | .eqs .. | .isnil .. | .not _ | .neg _ | .inv _ | .convI .. | .convS _ | .convR _ | .sP .. | .cut0 .. | .faddr .. | .fld .. | .nz .. | .idx .. | .sQ .. | .lenS _ | .capn _ | .slice3 .. | .Bn .. | .len _ | .ny .. | .ext .. | .mx _ | .mn _=>true
 | _=>false
def mD (i:Nat):Nat:=if i<eB then i%1000 else i
def lJ (s:gJ)(h:cq)(i:Ins):List Nat :=
 match tU s i.guard with
 | some true=>(i.dst.toList++js h (js h (mC ((fA i.op).map (cR s))))).map mD
 | _=>[]
abbrev rK:=Bool×Nat×Nat×Nat
def CJ (s:gJ)(d:Option Nat):sr→Option rK
 | .load _ _ x=>match cR s x with | .ptr id none [i] _ _=>some (true,id,i,0) | _=>none
 | .app false _ _ x y=>match cR s x with
   | .own id [i] _ _ _=>match cR s y,d with | .p (.sl _),some d=>some (false,id,i,d) | _,_=>none
   | _=>none
 | _=>none
def wj (s:gJ)(i:Ins):Option rK:=match i.guard with | none=>CJ s i.dst i.op | some _=>none
def CK (x:List Nat):Option rK→Option rK→Bool
 | some (true,id,i,_),some (false,uU,j,d)=>id==uU&&i != j && !x.contains (mD d)
 | _,_=>false
abbrev Bs:=List (List Nat×Bool×Option rK)
def C8N (a b:List Nat):Bool:=a.all fun x=>!b.contains x
def Xy:dO→List Nat | .t n=>[n] | _=>[]
def tX (i:Ins):List Nat:=(fA i.op).flatMap Xy++(match i.guard with | some (t,_)=>[t] | none=>[])
def Gd (x y:Ins):Bool :=
 (match x.dst with | some d=>!(tX y).contains d&&y.dst != some d | none=>true)&&(match y.dst with | some d=>!(tX x).contains d | none=>true)
def tY (K:jC):Nat→List Ins→gJ→cq→Bs
 | _,[],_,_=>[]
 | g,i::r,s,h=>(lJ s h i,idle i.op || tW i.op,wj s i)::(match oE K g i s h with
   | some (s',h')=>tY K (g+1) r s' h'
   | none=>[])
def Ge (F:Bs)(l:List (Nat×Nat)):Bool :=
 l.all fun (a,b)=>match F[a]?,F[b]? with
  | some (x,rx,px),some (y,ry,py)=>(rx&&ry) || C8N x y || CK x px py
  | _,_=>false
def rY (K:jC)(loose:List (Nat×Nat))(ops:List Ins)(σ:St):Option St :=
 match tV K σ.nx ops σ.s σ.h with
 | some (s,h)=>if loose.isEmpty || Ge (tY K σ.nx ops σ.s σ.h) loose then some ⟨s,h,σ.nx+ops.length⟩ else none
 | none=>none
def D2 (h:cq)(γ:Nat):MV→Option cq
 | .ptr id none [] _ _=>match h id with
   | some (.cell a t)=>some (cD h id (some (.cell a (Ap γ t))))
   | _=>none
 | .own id (i::p) _ _ _=>match ew (h id) (i::p) with
   | some (.vec g z l n)=>match put (h id) (i::p) (.vec g z (nR γ l) n) with
     | some o=>some (cD h id (some o))
     | none=>none
   | _=>none
 | _=>none
def yL (g:Gh)(σ:St):Option St :=
 match g with
 | .bn ks ids=>some (rI ks ids σ)
 | .freeze t=>if 3000000≤t then (match D2 σ.h σ.nx (.ptr (t-3000000) none [] 0 0) with
   | some h=>some ⟨σ.s,h,σ.nx+1⟩
   | none=>none) else if 2000000≤t then (match σ.s (t%1000),σ.h (t / 1000%1000) with
   | .nil z,none=>some ⟨cD σ.s (t%1000) (.own (t / 1000%1000) [] 0 0 σ.nx),cD σ.h (t / 1000%1000) (some (.vec σ.nx z [])),σ.nx+1⟩
   | .nil _,some _=>none
   | _,_=>some ⟨σ.s,σ.h,σ.nx+1⟩) else if 1000000≤t then (match D2 σ.h σ.nx (σ.s (t-1000000)) with
   | some h=>some ⟨σ.s,h,σ.nx+1⟩
   | none=>none) else match σ.s t with
   | .own id [] 0 len g0=>match σ.h id with
     | some (.vec g1 _ l)=>if g0=g1∧len≤l.length then
        match lv l with
        | some vs=>some ⟨cD σ.s t (.p (.sl (vs.take len))),cD σ.h id (some .gone),σ.nx⟩
        | none=>none
       else none
     | _=>none
   | .own id (i::p) _ _ _=>match ew (σ.h id) (i::p) with
     | some (.vec g1 z l n)=>match lv l with
       | some vs=>match put (σ.h id) (i::p) (.vec g1 z (vs.map .p) n) with
         | some o'=>some ⟨σ.s,cD σ.h id (some o'),σ.nx⟩
         | none=>none
       | none=>none
     | _=>none
   | .ptr id none [] g0 0=>match σ.h id with
     | some (.cell g1 u)=>if g0=g1 then
        match sO u with
        | some v=>some ⟨cD σ.s t (.p (.ref v)),cD σ.h id (some .gone),σ.nx⟩
        | none=>none
       else none
     | _=>none
   | .p v=>some ⟨cD σ.s t (.p v),σ.h,σ.nx⟩
   | .nil _=>some ⟨cD σ.s t (.p (.sl [])),σ.h,σ.nx⟩
   | _=>none
def CL (s:gJ)(h:cq):RV→Option MV
 | .tmp t=>some (s t)
 | .cell a agg n=>tT h agg n (s a)
def xU (s:gJ)(h:cq):List RV→Option (List MV)
 | []=>some []
 | x::r=>match CL s h x,xU s h r with | some v,some vs=>some (v::vs) | _,_=>none
def CM:List MV→MV
 | [v]=>v
 | l=>.eO l
def uV (args:List MV):gJ:=fun i=>args.getD i (.dead 0)
def nq (ext:List (Obj Nat)):cq:=fun i=>if eB≤i then ext[i-eB]? else none
def m4 (i:Nat):Bool:=i<eB
def qc (n:Nat)(dK:List Nat)(i:Nat):Option Nat:=if eB≤i then (if i<eB+n then some i else none) else (pc dK i).map (kP + ·)
mutual
def rL (h:cq):MV→Option MV
 | .p v=>some (.p v)
 | .agg l=>match yM h l with | some vs=>some (uO vs) | none=>none
 | .eO l=>match yM h l with | some vs=>some (.eO vs) | none=>none
 | v=>if (kf v).all (fun i=>!m4 i) && !(kf v).isEmpty then some v else match mB h v with | some w=>if (kf v).all m4 then some (.p w) else none | none=>none
def yM (h:cq):List MV→Option (List MV)
 | []=>some []
 | x::r=>match rL h x,yM h r with | some v,some vs=>some (v::vs) | _,_=>none
end
def xV (F:qj)(n:Nat)(σ:St):Option CF :=
 if 1000000<n then none else
 match xU σ.s σ.h F.res with
 | none=>none
 | some vs =>
   let r:=CM vs
   let pd:=(bp n).map (eB + ·)
   if F.DV then
    match rL σ.h r,sx σ.h pd with
    | some v,some ext =>
      let φ:=j6 σ.h (qc n []) jP
      some (φ v,ext.map (kO φ jP),[])
    | _,_=>none
   else
    let dK:=(js σ.h (js σ.h (kf r++pd))).filter m4
    let φ:=j6 σ.h (qc n dK) jP
    match sx σ.h pd,sx σ.h dK with
    | some ext,some es=>some (φ r,ext.map (kO φ jP),es.map (kO φ (fun _=>1)))
    | _,_=>none
inductive Prim where
 | clone (z bytes:Nat)
 | sort
 | insert
 deriving Inhabited
def Ax:List PV→Option (List Int)
 | []=>some []
 | .int .i64 n::r=>match Ax r with | some l=>some (n::l) | none=>none
 | _::_=>none
def D3 (x:Int):List Int→List Int
 | []=>[x]
 | y::r=>if x≤y then x::y::r else y::D3 x r
def lS:List Int→List Int
 | []=>[]
 | x::r=>D3 x (lS r)
def Mw (path:List Nat)(off len g:Nat)(o:Obj Nat):Option CF :=
 match elems (nq [o]) (.own eB path off len g) with
 | some ts=>match mu ts with
   | some vs=>match Ax vs with
     | some zs=>if zs.length<4611686018427387904 then
        match ql (nq [o]) eB path g 1 off ((lS zs).map (.int .i64)) with
        | some h'=>match h' eB with | some o'=>some (.eO [],[o'],[]) | none=>none
        | none=>none
       else none
     | none=>none
   | none=>none
 | none=>none
def Ii (len i g:Nat)(v:Int)(o o2:Obj Nat):Option CF :=
 match o with
 | .vec g' z l=>match mu l with
   | some vs=>match Ax vs with
     | some zs=>if g'=g∧z=1∧zs.length=len∧i≤len∧len<1000000000000 then
        some (.own eB [] 0 (len+1) 1,[.vec 1 1 ((zs.take i++v::zs.drop i).map fun n=>.p (.int .i64 n)),o2],[])
       else none
     | none=>none
   | none=>none
 | _=>none
def vn:Prim→List MV→List (Obj Nat)→Option CF
 | .clone z bytes,[.p (.sl l)],[]=>if l.all (fun v=>v.cs==z)&&decide (l.length*bytes≤room) then
    some (.own kP [] 0 l.length 1,[],[.vec 1 z (l.map .p)])
    else none
 | .sort,[.own id path off len g],[o]=>if id=eB then Mw path off len g o else none
 | .sort,[.nil _],[]=>some (.eO [],[],[])
 | .sort,[.p (.sl [])],[]=>some (.eO [],[],[])
 | .insert,[.own id [] 0 len g,.p (.int .i64 i),.own Ij [] 0 1 g2],[o,.vec g3 1 [.p (.int .i64 v)]]=>if id=eB∧Ij=eB+1∧g3=g2∧0≤i then Ii len i.toNat g v o (.vec g2 1 [.p (.int .i64 v)]) else none
 | _,_,_=>none
inductive yN where
 | code (F:qj)
 | qm (p:Prim)
 deriving Inhabited
abbrev mz:=Nat→Option yN
def n4 (Φ:mz)(R:MC→St→Option (Ex×St)):jC:=fun f args ext =>
 match Φ f with
 | none=>none
 | some (.qm p)=>vn p args ext
 | some (.code F)=>match R F.body ⟨uV args,nq ext,1⟩ with
   | some (.normal,σ)=>xV F ext.length σ
   | some (.ret,σ)=>xV F ext.length σ
   | _=>none
def run (Φ:mz):Nat→MC→St→Option (Ex×St)
 | 0,_,_=>none
 | n+1,c,σ=>match c with
   | .skip=>some (.normal,σ)
   | .ret=>some (.ret,σ)
   | .bad=>none
   | .exit id=>some (.exit id,σ)
   | .gh g=>match yL g σ with | some σ'=>some (.normal,σ') | none=>none
   | .yD loose ops=>match rY (n4 Φ (run Φ n)) loose ops σ with | some σ'=>some (.normal,σ') | none=>none
   | .seq a b=>match run Φ n a σ with
     | some (.normal,σ')=>run Φ n b σ'
     | r=>r
   | .cond c a b=>match cR σ.s c with
     | .p (.bool true)=>run Φ n a σ
     | .p (.bool false)=>run Φ n b σ
     | _=>none
   | .block id c=>match run Φ n c σ with
     | some (.exit j,σ')=>if j=id then some (.normal,σ') else some (.exit j,σ')
     | r=>r
   | .loop ks ids c=>match run Φ n c (rI ks ids σ) with
     | some (.normal,σ')=>run Φ n (.loop ks ids c) σ'
     | r=>r
end Go.Mid
namespace Go.Mid
structure rZ where
 bn:List (List Nat×List Nat):=[]
 fz:List (Nat×List Nat):=[]
 sh:List Nat:=[]
 tk:List Nat:=[]
 mt:List Nat:=[]
 pz:List Nat:=[]
 DV:Bool:=false
 deriving Inhabited
section
variable (P:Program)
def qO (t:TypeId):Bool:=(P.underlying t).isSome
def mU (t:TypeId):Bool:=match P.underlying t with | some (.struct _) | some (.array _ _)=>true | _=>false
def vo {α:Type}:List (Option α)→Option (List α)
 | []=>some []
 | x::r=>match x,vo r with | some v,some vs=>some (v::vs) | _,_=>none
def Ik:Nat→TypeId→Option MV
 | 0,_=>none
 | n+1,t=>match P.underlying t with
   | some .bool=>some (.p (.bool false))
   | some (.int k)=>some (.p (.int k 0))
   | some .string=>some (.p (.str ⟨#[]⟩))
   | some (.pointer _)=>some (.p .eX)
   | some (.func ..)=>some (.p .ff)
   | some (.map ..)=>some (.p (.mp [] []))
   | some (.slice e)=>some (.nil (P.cellsOf e))
   | some (.struct fs)=>match vo (fs.toList.map fun f=>Ik n f.type) with | some l=>some (uO l) | none=>none
   | some (.array k e)=>match Ik n e with | some v=>some (uO (az k v)) | none=>none
   | _=>none
mutual
def xf:PV→List Value→Option (List Value)
 | .int k n,cs=>match cs with | .int k' n'::r=>if k=k'∧n=n' then some r else none | _=>none
 | .bool b,cs=>match cs with | .bool b'::r=>if b=b' then some r else none | _=>none
 | .str s,cs=>match cs with | .string s'::r=>if s.size=0∧s'.size=0 then some r else none | _=>none
 | .eX,cs=>match cs with | .pointer none::r=>some r | _=>none
 | .ff,cs=>match cs with | .nilFunc::r=>some r | _=>none
 | .mp ks vs,cs=>match cs with | .map none::r=>if ks.isEmpty&&vs.isEmpty then some r else none | _=>none
 | .agg l,cs=>Il l cs
 | _,_=>none
def Il:List PV→List Value→Option (List Value)
 | [],cs=>some cs
 | x::r,cs=>match xf x cs with | some d=>Il r d | none=>none
end
mutual
def sy:MV→List Value→Option (List Value)
 | .p v,cs=>xf v cs
 | .nil _,cs=>match cs with | .slice _ 0 0::r=>some r | _=>none
 | .agg l,cs=>CN l cs
 | _,_=>none
def CN:List MV→List Value→Option (List Value)
 | [],cs=>some cs
 | x::r,cs=>match sy x cs with | some d=>CN r d | none=>none
end
def vp (t:TypeId):Option (List Value):=match P.info? t with
 | some i=>match i.zero with | some z=>some z.cells.toList | none=>none
 | none=>none
def Bt (t:TypeId):Option MV:=match Ik P 20 t,vp P t with
 | some v,some cs=>match sy v cs with | some []=>some v | _=>none
 | _,_=>none
def Mx (t:TypeId):Option PV:=match Bt P t with
 | some (.p v)=>some v
 | some (.nil _)=>some (.sl [])
 | _=>none
def QJ (t:TypeId):Value→Option MV
 | .bool b=>some (.p (.bool b))
 | .int k n=>some (.p (.int k n))
 | .string s=>some (.p (.str s))
 | .pointer none=>some (.p .eX)
 | .nilFunc=>some (.p .ff)
 | .map none=>some (.p (.mp [] []))
 | .slice none 0 0=>match P.underlying t with | some (.slice e)=>some (.nil (P.cellsOf e)) | _=>some (.nil 0)
 | _=>none
def QK (l:List Int):PV:=.agg (l.map (.int .u8 ·))
def Gf (g:Nat):Option PV:=match P.globals[g]? with
 | some x=>if x.name == "math/bits.deBruijn32tab" then some (QK [0,1,28,2,29,14,24,3,30,22,20,15,25,17,4,8,31,27,13,23,21,19,16,7,26,12,18,6,11,5,10,9]) else none
 | none=>none
def fB (t:TypeId):Operand→Option dO
 | .tmp n=>some (.t n)
 | .const v=>match QJ P t v with | some m=>some (.c m) | none=>none
 | .func f=>if f<we then some (.f f) else none
 | .global g=>match Gf P g with | some v=>some (.c (.p (.ref v))) | none=>none
def qP:List TypeId→List Operand→Option (List dO)
 | t::ts,x::r=>match fB P t x,qP ts r with | some o,some os=>some (o::os) | _,_=>none
 | [],[]=>some []
 | [],x::r=>match fB P 0 x,qP [] r with | some o,some os=>some (o::os) | _,_=>none
 | _,[]=>some []
def vq:Option Operand→Option (Option dO)
 | none=>some none
 | some x=>match fB P 0 x with | some o=>some (some o) | none=>none
def xW (parts:List (Nat×Operand)):List TypeId→Nat→List Value→Option (List dO)
 | [],_,rest=>if rest.isEmpty then some [] else none
 | t::r,i,rest=>if (rest.take (P.cellsOf t)).length=P.cellsOf t then
    match (match parts.find? (·.1==i) with
     | some (_,x)=>fB P t x
     | none=>match Ik P 20 t with | some v=>(match sy v (rest.take (P.cellsOf t)) with | some []=>some (.c v) | _=>none) | none=>none),xW parts r (i+1) (rest.drop (P.cellsOf t)) with
    | some o,some os=>some (o::os)
    | _,_=>none
   else none
def My:List Nat→Bool
 | []=>true
 | x::r=>!r.contains x&&My r
def Ay (n:Nat)(parts:List (Nat×Operand)):Bool:=parts.all (fun p=>decide (p.1<n))&&(My (parts.map (·.1))&&decide (n≤9223372036854775807))
def Bu:List Field→Nat→Bool
 | [],_=>true
 | f::r,o=>f.offset==o&&qO P f.type&&Bu r (o+P.cellsOf f.type)
def Im:List (Field×Option TD)→Nat→Option (List TD)
 | [],_=>some []
 | (f,d)::r,off=>match d,Im r (off+P.cellsOf f.type) with
   | some d,some ds=>if f.name ≠ "_"∧f.offset=off∧d.cs=P.cellsOf f.type then some (d::ds) else none
   | _,_=>none
def yO:Nat→TypeId→Option TD
 | 0,_=>none
 | n+1,t=>match P.underlying t with
   | some (.int k)=>some (.int k)
   | some .bool=>some .bool
   | some .string=>some .str
   | some (.struct fs)=>if P.stoodInHeld t then none else match Im P (fs.toList.map fun f=>(f,yO n f.type)) 0 with | some l=>some (.agg l) | none=>none
   | some (.array k e)=>match yO n e with | some d=>if d.cs=P.cellsOf e then some (.agg (az k d)) else none | none=>none
   | _=>none
def QL (t:TypeId):Option TD:=if P.eqGuardType P.depth t then none else yO P 20 t
def Mz:Option Operand→Bool
 | some (.const (.int k n))=>k==.i64&&n==0
 | _=>false
def pJ (sh:Nat)(mt pz:Bool)(rt:TypeId):Op→Option sr
 | .move x=>match fB P rt x with | some o=>some (.move o) | none=>none
 | .assign x=>match x,P.underlying rt with
   | .const (.slice none 0 0),some (.slice e)=>some (.nilv (P.cellsOf e))
   | x,_=>match fB P rt x with | some o=>some (.move o) | none=>none
 | .pick c a b=>match fB P 0 c,fB P rt a,fB P rt b with | some c,some a,some b=>some (.pick c a b) | _,_,_=>none
 | .alloc t=>match Bt P t with | some z=>some (.box (.c z)) | none=>none
 | .box t x=>match fB P t x with | some o=>some (.box o) | none=>none
 | .build t parts=>match vp P t,P.underlying t with
   | some zc,some (.struct fs)=>if Ay fs.size parts.toList&&Bu P fs.toList 0 then
      match xW P parts.toList (fs.toList.map (·.type)) 0 zc with | some l=>some (.build (fs.toList.map fun f=>P.cellsOf f.type) l) | none=>none
     else none
   | some zc,some (.array n e)=>if Ay n parts.toList&&qO P e then
      match xW P parts.toList (az n e) 0 zc with | some l=>some (.build (az n (P.cellsOf e)) l) | none=>none
     else none
   | _,_=>none
 | .buildSlice t n parts=>match P.underlying t with
   | some (.slice e)=>if P.cellsOf e=0∨n*P.cellsOf e>16777216 then none else
     match vp P e with
     | some zc=>if zc.length=P.cellsOf e∧Ay n parts.toList then
        match xW P parts.toList (az n e) 0 (az n zc).flatten with | some l=>some (if pz then .bslp (P.cellsOf e) l else .bsl (mt || n==0) (P.cellsOf e) l) | none=>none
       else none
     | none=>none
   | _=>none
 | .load t x=>match fB P 0 x with | some o=>if qO P t then some (.load (mU P t) (P.cellsOf t) o) else none | none=>none
 | .store t a x=>match fB P 0 a,fB P t x with | some a,some x=>if qO P t then some (.store (P.cellsOf t) a x) else none | _,_=>none
 | .nilCheck x=>match fB P 0 x with | some o=>some (.nilc o) | none=>none
 | .binOp op t x y yt=>match fB P t x,fB P yt y with
   | some a,some b=>match P.underlying t with
     | some (.int _) | some .string=>some (.bin false op a b)
     | some .bool=>some (.bin true op a b)
     | some (.struct _) | some (.array ..)=>(match op,QL P t with | .eql,some d=>some (.eqs false d a b) | .neq,some d=>some (.eqs true d a b) | _,_=>none)
     | some (.pointer _)=>match op,y with
       | .eql,.const (.pointer none)=>some (.isnil false false a)
       | .neq,.const (.pointer none)=>some (.isnil false true a)
       | _,_=>none
     | some (.func ..)=>match op,y with
       | .eql,.const .nilFunc=>some (.isnil true false a)
       | .neq,.const .nilFunc=>some (.isnil true true a)
       | _,_=>none
     | _=>none
   | _,_=>none
 | .unOp op t x=>match fB P t x with
   | some a=>match op with | .not=>some (.not a) | .neg=>some (.neg a) | .xor=>some (.inv a) | _=>none
   | none=>none
 | .convert src dst x=>match fB P src x with
   | some a=>match P.underlying src,P.underlying dst with
     | some (.int _),some (.int k)=>some (.convI k a)
     | some .string,some .string=>some (.convS a)
     | some (.int _),some .string=>some (.convR a)
     | _,_=>none
   | none=>none
 | .makeFunc (.func f) first jf=>if we≤f then none else if first.size=0 then (match qP P [] jf.toList with | some l=>some (.sP f l) | none=>none) else if jf.size=0 then (match qP P [] first.toList with | some l=>some (.sP (we+f) l) | none=>none) else none
 | .makeSlice t l c=>match P.underlying t with
   | some (.slice e)=>if P.cellsOf e=0∨P.bytesOf e=0 then none else match Bt P e,fB P 0 l,fB P 0 c with
     | some z,some l,some c=>some (.mksl (P.cellsOf e) (P.bytesOf e) z l c)
     | _,_,_=>none
   | _=>none
 | .slice t x lo hi mx=>if mx.isNone then
    match fB P t x,vq P lo,vq P hi with
    | some x,some lo,some hi=>match P.underlying t with
      | some (.slice e)=>if P.cellsOf e=0 then none else if mt then (match lo,hi with | some lo,some hi=>some (.sliceK (P.cellsOf e) x lo hi) | _,_=>none) else some (.slice (P.cellsOf e) x lo hi)
      | some .string=>some (.ny x lo hi)
      | some (.array n e)=>if P.cellsOf e=0 then none else (match lo,hi with | none,none=>some (.Bn n (P.cellsOf e) x) | _,_=>none)
      | _=>none
    | _,_,_=>none
   else if lo.isNone&&Mz hi&&Mz mx then
    match fB P t x,P.underlying t with
    | some x,some (.slice e)=>if P.cellsOf e=0 then none else some (.cut0 (P.cellsOf e) x)
    | _,_=>none
   else match fB P t x,lo.bind (fB P 0),hi.bind (fB P 0),mx.bind (fB P 0) with
    | some x,some lo,some hi,some mx=>match P.underlying t with | some (.slice e)=>if P.cellsOf e=0 then none else some (.slice3 x lo hi mx) | _=>none
    | _,_,_,_=>none
 | .fieldAddr t x f=>match fB P 0 x,P.underlying t with
   | some x,some (.struct fs)=>match fs[f]? with
     | some fd=>if P.cellsOf fd.type=0 then none else some (.faddr x f fd.offset)
     | none=>none
   | _,_=>none
 | .field t x f=>match fB P t x,P.underlying t with
   | some x,some (.struct fs)=>match fs[f]? with
     | some fd=>if qO P fd.type then some (.fld (mU P fd.type) (P.cellsOf fd.type) fd.offset x f) else none
     | none=>none
   | _,_=>none
 | .indexAddr t x i=>match fB P 0 x,fB P 0 i,P.underlying t with
   | some x,some i,some (.slice e)=>if P.cellsOf e=0 then none else some (.iaddr (P.cellsOf e) x i)
   | some x,some i,some (.array n e)=>if P.cellsOf e=0 then none else some (.nz n (P.cellsOf e) x i)
   | _,_,_=>none
 | .index t x i=>match fB P t x,fB P 0 i,P.underlying t with
   | some x,some i,some (.array n e)=>if qO P e then some (.idx (mU P e) (P.cellsOf e) n x i) else none
   | some x,some i,some .string=>some (.sQ x i)
   | _,_,_=>none
 | .extract x i=>match fB P 0 x with | some o=>some (.ext o i) | none=>none
 | .makeMap t _=>match P.underlying t with | some (.map ..)=>some .tM | _=>none
 | .lookup t m k ok=>match P.underlying t with
   | some (.map kt et)=>match fB P t m,fB P kt k,Ik P 20 et with
     | some m,some k,some z=>some (.su z ok m k)
     | _,_,_=>none
   | _=>none
 | .mapUpdate t m k v=>match P.underlying t with
   | some (.map kt et)=>match fB P t m,fB P kt k,fB P et v with
     | some m,some k,some v=>some (.yB m k v)
     | _,_,_=>none
   | _=>none
 | .call c=>match c.callee with
   | .value f=>match fB P 0 f,qP P c.argTypes.toList c.args.toList with
     | some f,some l=>some (.call sh f l)
     | _,_=>none
   | .invoke ..=>none
   | .builtin b=>match qP P c.argTypes.toList c.args.toList with
     | none=>none
     | some l=>match b,l,c.argTypes.toList with
       | .len,[x],[t]=>match P.underlying t with | some .string=>some (.lenS x) | some (.slice _)=>some (.len x) | _=>none
       | .cap,[x],[t]=>match P.underlying t with | some (.slice _)=>some (.capn x) | _=>none
       | .append,[x,y],[t,ty]=>match P.underlying t,P.underlying ty with
         | some (.slice e),some (.int _)=>if P.cellsOf e=0∨P.bytesOf e=0 then none else match Bt P e with | some z=>some (.appn (P.cellsOf e) (P.bytesOf e) z x y) | none=>none
         | some (.slice e),_=>if mt then (if t=ty∧P.cellsOf e≠0∧P.bytesOf e≠0 then some (.appk (P.cellsOf e) x y) else none) else if t=ty∧P.cellsOf e≠0∧P.bytesOf e≠0∧(vp P e).map List.length=some (P.cellsOf e) then some (.app pz (P.cellsOf e) (P.bytesOf e) x y) else none
         | _,_=>none
       | .copy,[x,y],[t,_]=>match P.underlying t with | some (.slice e)=>if P.cellsOf e=0 then none else some (.cpy (P.cellsOf e) x y) | _=>none
       | .clear,[x],[t]=>match P.underlying t with
         | some (.slice e)=>match Mx P e with
           | some v=>if P.cellsOf e=0 then none else some (.clr (P.cellsOf e) v x)
           | _=>none
         | _=>none
       | .min,l,_=>some (.mn l)
       | .max,l,_=>some (.mx l)
       | .delete,[m,k],[t,_]=>match P.underlying t with | some (.map ..)=>some (.yC m k) | _=>none
       | _,_,_=>none
 | _=>none
def Xz (ops:Array Oper):Option (Nat×Bool)→Option (Option (Nat×Bool))
 | none=>some none
 | some (j,b)=>match (ops[j]?).bind (·.dst) with | some t=>some (some (t,b)) | none=>none
def XA (nt:Nat)(o:Oper):Bool:=match o.dst with | some d=>decide (d<nt) | none=>true
def XB (A:rZ)(o:Oper):Nat:=match o.dst with | some d=>if A.sh.contains d then 1 else if A.tk.contains d then 2 else 0 | none=>0
def MA (l:List Nat)(o:Oper):Bool:=match o.dst with | some d=>l.contains d | none=>false
def xg (A:rZ)(nt:Nat)(ops:Array Oper)(o:Oper):Option Ins :=
 if XA nt o then
  match Xz ops o.guard with
  | some g=>some ⟨o.dst,g,(pJ P (XB A o) (MA A.mt o) (MA A.pz o) o.type o.op).getD .bad⟩
  | none=>none
 else none
def CO (A:rZ)(nt:Nat)(ops:Array Oper):List Oper→Option (List Ins)
 | []=>some []
 | o::r=>match xg P A nt ops o,CO A nt ops r with | some i,some is=>some (i::is) | _,_=>none
def Bv (ops:Array Oper)(is:List Ins):List (Nat×Nat) :=
 let b:=Region.before ops
 (bp is.length).flatMap fun j=>(bp j).filterMap fun i =>
   match is[i]?,is[j]? with
   | some x,some y=>if idle x.op || idle y.op || (tW x.op&&tW y.op) || (b.getD j 0).testBit i then none else some (i,j)
   | _,_=>none
def MB (ops:Array Oper)(is:List Ins):Bool :=
 let b:=Region.before ops
 (bp is.length).all fun j =>
   (match ops[j]? with | some o=>o.after.toList.all fun e=>!Region.binds .any e || decide (e.on<j) | none=>false) &&
   (bp j).all fun i=>(b.getD j 0).testBit i || match is[i]?,is[j]? with | some x,some y=>Gd x y | _,_=>false
def MD (l:List Nat)(c:MC):MC:=l.foldr (fun s c=>.seq (.gh (.freeze s)) c) c
def sA (A:rZ)(nt:Nat):Code→Nat→Option (MC×Nat)
 | .skip,n=>some (.skip,n)
 | .ret,n=>some (.seq (.gh (.bn (A.bn.getD n ([],[])).1 (A.bn.getD n ([],[])).2)) .ret,n+1)
 | .exit id,n=>some (.seq (.gh (.bn (A.bn.getD n ([],[])).1 (A.bn.getD n ([],[])).2)) (.exit id),n+1)
 | .region id ops draw,n=>match CO P A nt ops ops.toList with
   | some is=>if !draw || MB ops is then some (MD ((A.fz.find? (·.1==id)).elim [] (·.2)) (.yD (if draw then Bv ops is else []) is),n) else some (.bad,n)
   | none=>none
 | .seq a b,n=>match sA A nt a n with
   | some (x,n1)=>match sA A nt b n1 with
     | some (y,n2)=>some (.seq x y,n2)
     | none=>none
   | none=>none
 | .cond c a b,n=>match fB P 0 c,sA A nt a n with
   | some c,some (x,n1)=>match sA A nt b n1 with
     | some (y,n2)=>some (.cond c x y,n2)
     | none=>none
   | _,_=>none
 | .block id c,n=>match sA A nt c n with | some (x,n1)=>some (.block id x,n1) | none=>none
 | .loop c,n=>match sA A nt c (n+1) with
   | some (x,n1)=>some (.loop (A.bn.getD n ([],[])).1 (A.bn.getD n ([],[])).2 x,n1)
   | none=>none
 | _,n=>some (.bad,n)
def QM (tmps:Nat):ResultVar→Option RV
 | .tmp t=>if t<tmps then some (.tmp t) else none
 | .cell a t=>if a<tmps∧qO P t=true then some (.cell a (mU P t) (P.cellsOf t)) else none
def CP (tmps:Nat):List ResultVar→Option (List RV)
 | []=>some []
 | x::r=>match QM P tmps x,CP tmps r with | some v,some vs=>some (v::vs) | _,_=>none
def QN (A:rZ)(fn:Func):Option qj :=
 match fn.body with
 | some c=>match sA P A fn.ntmps c 0,CP P fn.ntmps fn.results.toList with
   | some (b,_),some rs=>some ⟨b,rs,A.DV⟩
   | _,_=>none
 | none=>none
end
end Go.Mid
namespace Go.Mid
open Go.RowKit
def vt (f:Nat)(vs:Array Value):Value:=if f<we then .func (.func f) #[] vs else .func (.func (f-we)) vs #[]
theorem QO {f:Nat}{vs:Array Value}(h:f<we):vt f vs=.func (.func f) #[] vs:=if_pos h
theorem XC {f:Nat}{vs:Array Value}(h:we≤f):vt f vs=.func (.func (f-we)) vs #[]:=if_neg (Nat.not_lt.2 h)
theorem QP (f:Nat)(vs:Array Value):∃ g i c,vt f vs=.func g i c:=by
 unfold vt;split<;>exact ⟨_,_,_,rfl⟩
theorem ME (f:Nat)(vs:Array Value):(vt f vs).cells=#[vt f vs]:=by
 unfold vt;split<;>rfl
structure An where
 g:Nat
 b:Option Nat
 cap:Nat
section
variable {α β:Type}(f:α→β)
mutual
def T.mapA:T α→T β
 | .p v=>.p v
 | .m v=>.m v
 | .agg l=>.agg (T.cQ l)
 | .vec a z l n=>.vec (f a) z (T.cQ l) n
 | .mp a ks l=>.mp (f a) ks (T.cQ l)
 | .hole n=>.hole n
def T.cQ:List (T α)→List (T β)
 | []=>[]
 | x::r=>T.mapA x::T.cQ r
end
def Obj.mapA:Obj α→Obj β
 | .cell a t=>.cell (f a) (t.mapA f)
 | .vec a z l=>.vec (f a) z (T.cQ f l)
 | .mp a ks l=>.mp (f a) ks (T.cQ f l)
 | .gone=>.gone
theorem T.mapAs_eq (l:List (T α)):T.cQ f l=l.map (T.mapA f):=by
 induction l with
 | nil=>rfl
 | cons x r ih=>simp [T.cQ,ih]
end
def Row (w:World)(b o:Nat)(cs:List Value):Prop:=∀ j v,cs[j]?=some v→w.cell? ⟨b,o+j,none⟩=some v
def l4 (w:World)(b n:Nat):Prop:=∃ c ty,w.heap[b]?=some (.cells c ty (0,0))∧c.size=n
theorem Row.nil {w:World}{b o:Nat}:Row w b o []:=fun j v h=>by simp at h
theorem Row.append {w:World}{b o:Nat}{c d:List Value}:Row w b o (c++d)↔Row w b o c∧Row w b (o+c.length) d:=by
 constructor
 · intro h;refine ⟨fun j v hj=>h j v ?_,fun j v hj=>?_⟩
   · rw [cY (by exact (aL.1 hj).1)];exact hj
   · have:=h (c.length+j) v (by rw [bG (by omega)];simpa using hj)
     rwa [← bX] at this
 · rintro ⟨h1,h2⟩ j v hj;by_cases eC:j<c.length
   · rw [cY eC] at hj;exact h1 j v hj
   · rw [bG (by omega)] at hj
     have:=h2 (j-c.length) v hj
     rwa [bX,Nat.add_sub_cancel' (by omega)] at this
theorem Row.one {w:World}{b o:Nat}{v:Value}:Row w b o [v]↔w.cell? ⟨b,o,none⟩=some v:=by
 constructor
 · intro h;exact h 0 v rfl
 · intro h j u hj;cases j with
   | zero=>simp at hj;subst hj;exact h
   | succ j=>simp at hj
theorem MF {w w':World}{b:Nat}(h:w'.heap[b]?=w.heap[b]?)(o:Nat):w'.cell? ⟨b,o,none⟩=w.cell? ⟨b,o,none⟩:=World.cell?_of_block (w:=w) h
theorem Row.frame {w w':World}{b o:Nat}{cs:List Value}(h:w'.heap[b]?=w.heap[b]?)(r:Row w b o cs):Row w' b o cs :=
 fun j v hj=>by rw [MF h];exact r j v hj
theorem l4.frame {w w':World}{b n:Nat}(h:w'.heap[b]?=w.heap[b]?)(r:l4 w b n):l4 w' b n:=by
 obtain ⟨c,ty,e,hs⟩:=r;exact ⟨c,ty,by rw [h,e],hs⟩
def pk (agg:Bool)(cs:List Value):Value:=if agg then .agg cs.toArray else cs.headD undef
section
variable (w:World)(A:Nat→Prop)
mutual
def ed:PV→List Value→Prop
 | .int k n,cs=>cs=[.int k n]
 | .bool b,cs=>cs=[.bool b]
 | .str s,cs=>cs=[.string s]
 | .agg l,cs=>cU l cs
 | .sl l,cs=>∃ a cap,cs=[.slice a l.length cap]∧l.length≤cap∧(l=[]∨∃ b o z,a=some ⟨b,o,none⟩∧A b∧fH l b o z)
 | .ref v,cs=>∃ b o,cs=[.pointer (some ⟨b,o,none⟩)]∧A b∧∃ cv,ed v cv∧Row w b o cv
 | .fn f jf,cs=>∃ vs,cs=[vt f vs.toArray]∧kU jf vs
 | .mp ks vs,cs=>(cs=[.map none]∧ks=[]∧vs=[]) ∨
    ∃ b es clock,cs=[.map (some b)]∧A b∧w.heap[b]?=some (.map es clock)∧kU ks (es.toList.map (·.key))∧kU vs (es.toList.map (·.val))
 | .eX,cs=>cs=[.pointer none]
 | .ff,cs=>cs=[.nilFunc]
def cU:List PV→List Value→Prop
 | [],cs=>cs=[]
 | x::r,cs=>∃ c d,cs=c++d∧ed x c∧cU r d
def fH:List PV→Nat→Nat→Nat→Prop
 | [],_,_,_=>True
 | x::r,b,o,z=>(∃ c,ed x c∧c.length=z∧Row w b o c)∧fH r b (o+z) z
def kU:List PV→List Value→Prop
 | [],vs=>vs=[]
 | x::r,vs=>∃ c d,vs=pk x.isAgg c::d∧ed x c∧kU r d
end
def pe (v:PV)(val:Value):Prop:=∃ c,ed w A v c∧val=pk v.isAgg c
end
section
variable {w:World}{A:Nat→Prop}
mutual
theorem ed.len:∀ {v:PV} {cs:List Value},ed w A v cs→cs.length=v.cs
 | .int ..,cs,h=>by simp only [ed] at h;subst h;rfl
 | .bool _,cs,h=>by simp only [ed] at h;subst h;rfl
 | .str _,cs,h=>by simp only [ed] at h;subst h;rfl
 | .agg l,cs,h=>by simp only [ed] at h;simp only [PV.cs];exact cU.len h
 | .sl _,cs,h=>by simp only [ed] at h;obtain ⟨a,cap,rfl,_⟩:=h;rfl
 | .ref _,cs,h=>by simp only [ed] at h;obtain ⟨a,cap,rfl,_⟩:=h;rfl
 | .fn ..,cs,h=>by simp only [ed] at h;obtain ⟨a,rfl,_⟩:=h;rfl
 | .mp ..,cs,h=>by
   simp only [ed] at h;rcases h with ⟨rfl,_⟩ | ⟨_,_,_,rfl,_⟩<;>rfl
 | .eX,cs,h=>by simp only [ed] at h;subst h;rfl
 | .ff,cs,h=>by simp only [ed] at h;subst h;rfl
theorem cU.len:∀ {l:List PV} {cs:List Value},cU w A l cs→cs.length=PV.dm l
 | [],cs,h=>by simp only [cU] at h;subst h;rfl
 | x::r,cs,h=>by
   simp only [cU] at h;obtain ⟨c,d,rfl,h1,h2⟩:=h;rw [aQ,ed.len h1,cU.len h2,PV.dm]
end
variable {w':World}{A':Nat→Prop}
mutual
theorem ed.frame (hA:∀ b,A b→A' b)(hw:∀ b,A b→w'.heap[b]?=w.heap[b]?):∀ {v:PV} {cs:List Value},ed w A v cs→ed w' A' v cs
 | .int ..,cs,h=>by simpa only [ed] using h
 | .bool _,cs,h=>by simpa only [ed] using h
 | .str _,cs,h=>by simpa only [ed] using h
 | .agg l,cs,h=>by simp only [ed] at h ⊢;exact cU.frame hA hw h
 | .sl l,cs,h=>by
   simp only [ed] at h ⊢;obtain ⟨a,cap,rfl,hc,h⟩:=h;refine ⟨a,cap,rfl,hc,?_⟩;rcases h with h | ⟨b,o,z,rfl,hb,h⟩
   · exact .inl h
   · exact .inr ⟨b,o,z,rfl,hA b hb,fH.frame hA hw hb h⟩
 | .ref v,cs,h=>by
   simp only [ed] at h ⊢;obtain ⟨b,o,rfl,hb,cv,h1,h2⟩:=h;exact ⟨b,o,rfl,hA b hb,cv,ed.frame hA hw h1,h2.frame (hw b hb)⟩
 | .fn f l,cs,h=>by
   simp only [ed] at h ⊢;obtain ⟨vs,rfl,h⟩:=h;exact ⟨vs,rfl,kU.frame hA hw h⟩
 | .mp ks vs,cs,h=>by
   simp only [ed] at h ⊢;rcases h with h | ⟨b,es,clock,rfl,hb,he,h1,h2⟩
   · exact .inl h
   · exact .inr ⟨b,es,clock,rfl,hA b hb,by rw [hw b hb,he],kU.frame hA hw h1,kU.frame hA hw h2⟩
 | .eX,cs,h=>by simpa only [ed] using h
 | .ff,cs,h=>by simpa only [ed] using h
theorem cU.frame (hA:∀ b,A b→A' b)(hw:∀ b,A b→w'.heap[b]?=w.heap[b]?):∀ {l:List PV} {cs:List Value},cU w A l cs→cU w' A' l cs
 | [],cs,h=>by simpa only [cU] using h
 | x::r,cs,h=>by
   simp only [cU] at h ⊢;obtain ⟨c,d,rfl,h1,h2⟩:=h;exact ⟨c,d,rfl,ed.frame hA hw h1,cU.frame hA hw h2⟩
theorem fH.frame (hA:∀ b,A b→A' b)(hw:∀ b,A b→w'.heap[b]?=w.heap[b]?):∀ {l:List PV} {b o z:Nat},A b→fH w A l b o z→fH w' A' l b o z
 | [],b,o,z,_,h=>by simp only [fH]
 | x::r,b,o,z,hb,h=>by
   simp only [fH] at h ⊢;obtain ⟨⟨c,h1,h2,h3⟩,h4⟩:=h;exact ⟨⟨c,ed.frame hA hw h1,h2,h3.frame (hw b hb)⟩,fH.frame hA hw hb h4⟩
theorem kU.frame (hA:∀ b,A b→A' b)(hw:∀ b,A b→w'.heap[b]?=w.heap[b]?):∀ {l:List PV} {vs:List Value},kU w A l vs→kU w' A' l vs
 | [],vs,h=>by simpa only [kU] using h
 | x::r,vs,h=>by
   simp only [kU] at h ⊢;obtain ⟨c,d,rfl,h1,h2⟩:=h;exact ⟨c,d,rfl,ed.frame hA hw h1,kU.frame hA hw h2⟩
end
theorem pe.frame (hA:∀ b,A b→A' b)(hw:∀ b,A b→w'.heap[b]?=w.heap[b]?){v:PV}{val:Value}(h:pe w A v val):pe w' A' v val:=by
 obtain ⟨c,h1,h2⟩:=h;exact ⟨c,h1.frame hA hw,h2⟩
end
end Go.Mid
namespace Go.Mid
open Go.RowKit
def dv:=Nat→Prop
def dv.le (a b:dv):Prop:=∀ g,a g→b g
def dv.add (a:dv)(g:Nat):dv:=fun i=>a i∨i=g
theorem dv.le_refl (a:dv):a.le a:=fun _ h=>h
theorem dv.le_trans {a b c:dv}(h:a.le b)(k:b.le c):a.le c:=fun g hg=>k g (h g hg)
theorem dv.eP (a:dv)(g:Nat):a.le (a.add g):=fun _ h=>.inl h
theorem dv.iW (a:dv)(g:Nat):(a.add g) g:=.inr rfl
def lg (an:An)(z off len:Nat)(a:Option Addr)(cap:Nat):Prop :=
 match an.b with
 | none=>len=0∧cap=0
 | some b=>(cap+off=an.cap∧an.cap≤9223372036854775807)∧((len=0∧cap=0)∨a=some ⟨b,off*z,none⟩)
section
variable (w:World)(A:Nat→Prop)(E:dV An)(nx:dv)
mutual
def bT:MV→Value→Prop
 | .p v,val=>pe w A v val
 | .nil _,val=>∃ a,val=.slice a 0 0
 | .own id path off len g,val=>nx g∧∃ a cap,val=.slice a len cap∧len≤cap ∧
    ∀ an z,fq (E id) (some path)=some (an,some z)→an.g=g→lg an z off len a cap
 | .ptr id np _ g o,val=>nx g∧∃ a,val=.pointer (some a) ∧
    ∀ an z,fq (E id) np=some (an,z)→an.g=g→∃ b,an.b=some b∧a=⟨b,o,none⟩
 | .fC ..,_=>False
 | .agg l,val=>∃ cs,val=.agg cs.toArray∧ef l cs
 | .fn f jf,val=>∃ vs,val=vt f vs.toArray∧dh jf vs
 | .eO l,val=>∃ vs,val=.tuple vs.toArray∧dh l vs
 | .dead _,_=>True
def ef:List MV→List Value→Prop
 | [],cs=>cs=[]
 | x::r,cs=>∃ v d,cs=v.cells.toList++d∧v.cells.size=x.cs∧(∀ c,v=.agg c→x.isAgg=true∨∃ n,x=.dead n)∧bT x v∧ef r d
def dh:List MV→List Value→Prop
 | [],vs=>vs=[]
 | x::r,vs=>∃ v d,vs=v::d∧bT x v∧dh r d
end
mutual
def TAt:T An→Nat→Nat→Prop
 | .p v,b,o=>∃ cs,ed w A v cs∧Row w b o cs
 | .m v,b,o=>v.cs=1∧v.isAgg=false∧∃ val,bT w A E nx v val∧Row w b o [val]
 | .agg l,b,o=>cK l b o
 | .vec an z l n,b,o=>∃ a cap,Row w b o [.slice a n cap]∧n≤l.length∧lg an z 0 n a cap ∧
    match an.b with
    | none=>l=[]∧an.cap=0
    | some b'=>l4 w b' (an.cap*z)∧l.length≤an.cap∧(∀ t∈l,t.cs=z)∧cK l b' 0
 | .mp ..,_,_=>False
 | .hole n,b,o=>∀ j,j<n→∃ v,w.cell? ⟨b,o+j,none⟩=some v
def cK:List (T An)→Nat→Nat→Prop
 | [],_,_=>True
 | t::r,b,o=>TAt t b o∧cK r b (o+t.cs)
end
def VB (an:An)(z:Nat)(l:List (T An)):Prop :=
 match an.b with
 | none=>l=[]∧an.cap=0
 | some b=>l4 w b (an.cap*z)∧l.length≤an.cap∧(∀ t∈l,t.cs=z)∧cK w A E nx l b 0
def OAt:Obj An→Prop
 | .cell an t=>∃ b,an.b=some b∧l4 w b t.cs∧TAt w A E nx t b 0
 | .vec an z l=>VB w A E nx an z l
 | .mp ..=>False
 | .gone=>True
end
mutual
def T.blk:T An→List Nat
 | .agg l=>T.b9 l
 | .vec an _ l _=>an.b.toList++T.b9 l
 | .mp an _ l=>an.b.toList++T.b9 l
 | _=>[]
def T.b9:List (T An)→List Nat
 | []=>[]
 | t::r=>t.blk++T.b9 r
end
def Obj.blk:Obj An→List Nat
 | .cell an t=>an.b.toList++t.blk
 | .vec an _ l=>an.b.toList++T.b9 l
 | .mp an _ l=>an.b.toList++T.b9 l
 | .gone=>[]
mutual
def T.st (nx:dv):T An→Prop
 | .agg l=>T.ku nx l
 | .vec an _ l _=>nx an.g∧T.ku nx l
 | .mp an _ l=>nx an.g∧T.ku nx l
 | _=>True
def T.ku (nx:dv):List (T An)→Prop
 | []=>True
 | t::r=>t.st nx∧T.ku nx r
end
def Obj.st (nx:dv):Obj An→Prop
 | .cell an t=>nx an.g∧t.st nx
 | .vec an _ l=>nx an.g∧T.ku nx l
 | .mp an _ l=>nx an.g∧T.ku nx l
 | .gone=>True
def oW (nx:dv)(E E':dV An):Prop:=∀ id np an z,fq (E' id) np=some (an,z)→nx an.g→fq (E id) np=some (an,z)
theorem oW.refl (nx:dv)(E:dV An):oW nx E E:=fun _ _ _ _ h _=>h
theorem oW.trans {nx nx':dv}{E E' yP:dV An}(h:oW nx E E')(h':oW nx' E' yP)(hn:nx.le nx'):oW nx E yP :=
 fun id np an z hh hg=>h id np an z (h' id np an z hh (hn _ hg)) hg
structure Fr (w w':World)(A A':Nat→Prop)(E E':dV An)(nx nx':dv):Prop where
 hA:∀ b,A b→A' b
 hw:∀ b,A b→w'.heap[b]?=w.heap[b]?
 hE:oW nx E E'
 hn:nx.le nx'
section
variable {w w':World}{A A':Nat→Prop}{E E':dV An}{nx nx':dv}
mutual
theorem bT.frame (f:Fr w w' A A' E E' nx nx'):∀ {v:MV} {val:Value},bT w A E nx v val→bT w' A' E' nx' v val
 | .p v,val,h=>by simp only [bT] at h ⊢;exact h.frame f.hA f.hw
 | .nil _,val,h=>by simpa only [bT] using h
 | .own ..,val,h=>by
   simp only [bT] at h ⊢;obtain ⟨hg,a,cap,rfl,hc,h⟩:=h;exact ⟨f.hn _ hg,a,cap,rfl,hc,fun an z hh rM=>h an z (f.hE _ _ _ _ hh (rM ▸ hg)) rM⟩
 | .ptr ..,val,h=>by
   simp only [bT] at h ⊢;obtain ⟨hg,a,rfl,h⟩:=h;exact ⟨f.hn _ hg,a,rfl,fun an z hh rM=>h an z (f.hE _ _ _ _ hh (rM ▸ hg)) rM⟩
 | .fC ..,val,h=>by simp only [bT] at h
 | .agg l,val,h=>by
   simp only [bT] at h ⊢;obtain ⟨cs,rfl,h⟩:=h;exact ⟨cs,rfl,ef.frame f h⟩
 | .fn _ l,val,h=>by
   simp only [bT] at h ⊢;obtain ⟨vs,rfl,h⟩:=h;exact ⟨vs,rfl,dh.frame f h⟩
 | .eO l,val,h=>by
   simp only [bT] at h ⊢;obtain ⟨vs,rfl,h⟩:=h;exact ⟨vs,rfl,dh.frame f h⟩
 | .dead _,val,h=>by simp only [bT]
theorem ef.frame (f:Fr w w' A A' E E' nx nx'):∀ {l:List MV} {cs:List Value},ef w A E nx l cs→ef w' A' E' nx' l cs
 | [],cs,h=>by simpa only [ef] using h
 | x::r,cs,h=>by
   simp only [ef] at h ⊢;obtain ⟨v,d,rfl,h1,h2,h3,h4⟩:=h;exact ⟨v,d,rfl,h1,h2,bT.frame f h3,ef.frame f h4⟩
theorem dh.frame (f:Fr w w' A A' E E' nx nx'):∀ {l:List MV} {vs:List Value},dh w A E nx l vs→dh w' A' E' nx' l vs
 | [],vs,h=>by simpa only [dh] using h
 | x::r,vs,h=>by
   simp only [dh] at h ⊢;obtain ⟨v,d,rfl,h1,h2⟩:=h;exact ⟨v,d,rfl,bT.frame f h1,dh.frame f h2⟩
end
mutual
theorem TAt.frame (f:Fr w w' A A' E E' nx nx'):∀ {t:T An} {b o:Nat},(w'.heap[b]?=w.heap[b]?)→(∀ x∈t.blk,w'.heap[x]?=w.heap[x]?)→TAt w A E nx t b o→TAt w' A' E' nx' t b o
 | .p v,b,o,hb,_,h=>by
   simp only [TAt] at h ⊢;obtain ⟨cs,h1,h2⟩:=h;exact ⟨cs,h1.frame f.hA f.hw,h2.frame hb⟩
 | .m v,b,o,hb,_,h=>by
   simp only [TAt] at h ⊢;obtain ⟨h0,Bw,val,h1,h2⟩:=h;exact ⟨h0,Bw,val,h1.frame f,h2.frame hb⟩
 | .agg l,b,o,hb,hk,h=>by
   simp only [TAt] at h ⊢;exact cK.frame f hb (by simpa only [T.blk] using hk) h
 | .vec an z l n,b,o,hb,hk,h=>by
   simp only [TAt] at h ⊢;obtain ⟨a,cap,h1,h2,h3,h4⟩:=h;refine ⟨a,cap,h1.frame hb,h2,h3,?_⟩;cases kM:an.b with
   | none=>simpa only [kM] using h4
   | some b' =>
     simp only [kM] at h4 ⊢;simp only [T.blk,kM,cp,aS,a7,aM] at hk;exact ⟨h4.1.frame (hk b' (.inl rfl)),h4.2.1,h4.2.2.1,cK.frame f (hk b' (.inl rfl)) (fun x hx=>hk x (.inr hx)) h4.2.2.2⟩
 | .mp ..,_,_,_,_,h=>by simp only [TAt] at h
 | .hole n,b,o,hb,_,h=>by
   simp only [TAt] at h ⊢;intro j hj;rw [MF hb];exact h j hj
theorem cK.frame (f:Fr w w' A A' E E' nx nx'):∀ {l:List (T An)} {b o:Nat},(w'.heap[b]?=w.heap[b]?)→(∀ x∈T.b9 l,w'.heap[x]?=w.heap[x]?)→cK w A E nx l b o→cK w' A' E' nx' l b o
 | [],b,o,_,_,h=>by simp only [cK]
 | t::r,b,o,hb,hk,h=>by
   simp only [cK] at h ⊢;simp only [T.b9,List.mem_append] at hk;exact ⟨TAt.frame f hb (fun x hx=>hk x (.inl hx)) h.1,cK.frame f hb (fun x hx=>hk x (.inr hx)) h.2⟩
end
theorem OAt.frame (f:Fr w w' A A' E E' nx nx'){o:Obj An}(hk:∀ x∈o.blk,w'.heap[x]?=w.heap[x]?)(h:OAt w A E nx o):OAt w' A' E' nx' o:=by
 cases o with
 | cell an t =>
   simp only [OAt] at h ⊢;obtain ⟨b,hb,h1,h2⟩:=h;simp only [Obj.blk,hb,cp,aS,a7,aM] at hk;exact ⟨b,hb,h1.frame (hk b (.inl rfl)),TAt.frame f (hk b (.inl rfl)) (fun x hx=>hk x (.inr hx)) h2⟩
 | vec an z l =>
   simp only [OAt,VB] at h ⊢;cases kM:an.b with
   | none=>simpa only [kM] using h
   | some b' =>
     simp only [kM] at h ⊢;simp only [Obj.blk,kM,cp,aS,a7,aM] at hk;exact ⟨h.1.frame (hk b' (.inl rfl)),h.2.1,h.2.2.1,cK.frame f (hk b' (.inl rfl)) (fun x hx=>hk x (.inr hx)) h.2.2.2⟩
 | mp=>simp only [OAt] at h
 | gone=>simp only [OAt]
end
def jH (E:dV An)(b:Nat):Prop:=∃ i o,E i=some o∧b∈o.blk
structure MR (w:World)(A:Nat→Prop)(E:dV An)(h:cq)(nx:dv):Prop where
 er:∀ i,h i=(E i).map (Obj.mapA An.g)
 at_:∀ i o,E i=some o→OAt w A E nx o
 lt:∀ b,jH E b→b<w.heap.size∧¬ A b
 nd:∀ i o,E i=some o→o.blk.Nodup
 dj:∀ i j o o',i≠j→E i=some o→E j=some o'→∀ b∈o.blk,b∉o'.blk
 im:∀ b,A b→b<w.heap.size
 st:∀ i o,E i=some o→o.st nx
structure gK (w:World)(A:Nat→Prop)(E:dV An)(nx:dv)(w':World)(A':Nat→Prop)(E':dV An):Prop where
 os:w'.os=w.os
 tape:w'.tape=w.tape
 output:w'.output=w.output
 size:w.heap.size≤w'.heap.size
 bn:∀ b,b<w.heap.size→¬ jH E b→w'.heap[b]?=w.heap[b]?
 sub:∀ b,A b→A' b
 Az:∀ b,b<w.heap.size→A' b→A b∨jH E b
 own:∀ b,b<w.heap.size→jH E' b→jH E b
 ns:oW nx E E'
theorem gK.tZ {w w':World}{A A':Nat→Prop}{E E':dV An}{nx:dv}{h:cq}(m:MR w A E h nx)(g:gK w A E nx w' A' E')(b:Nat)(hb:A b):w'.heap[b]?=w.heap[b]? :=
 g.bn b (m.im b hb) fun ho=>(m.lt b ho).2 hb
theorem gK.refl (w:World)(A:Nat→Prop)(E:dV An)(nx:dv):gK w A E nx w A E :=
 ⟨rfl,rfl,rfl,au _,fun _ _ _=>rfl,fun _ h=>h,fun _ _ h=>.inl h,fun _ _ h=>h,oW.refl _ _⟩
theorem gK.trans {w w' XD:World}{A A' XE:Nat→Prop}{E E' yP:dV An}{nx nx':dv}(h:gK w A E nx w' A' E')(k:gK w' A' E' nx' XD XE yP)(hn:nx.le nx') :
 gK w A E nx XD XE yP where
 os:=k.os.trans h.os
 tape:=k.tape.trans h.tape
 output:=k.output.trans h.output
 size:=Nat.le_trans h.size k.size
 bn:=fun b hb ho=>(k.bn b (br hb h.size) fun oQ=>ho (h.own b hb oQ)).trans (h.bn b hb ho)
 sub:=fun b hb=>k.sub b (h.sub b hb)
 Az:=fun b hb hA=>(k.Az b (br hb h.size) hA).elim (h.Az b hb) fun ho=>.inr (h.own b hb ho)
 own:=fun b hb ho=>h.own b hb (k.own b (br hb h.size) ho)
 ns:=h.ns.trans k.ns hn
theorem bT.go {w w':World}{A A':Nat→Prop}{E E':dV An}{nx nx':dv}{h:cq}(m:MR w A E h nx)(g:gK w A E nx w' A' E')(hn:nx.le nx'){v:MV}{val:Value}
 (hv:bT w A E nx v val):bT w' A' E' nx' v val:=hv.frame ⟨g.sub,g.tZ m,g.ns,hn⟩
end Go.Mid
namespace Go.Mid
open Go.RowKit
theorem QQ {P:Program}{o:Oper}{a:Act}{w w':World}{next:Act→World→Prop}{Q:Exit→Act→World→Prop}{val:Value}
 (h:(execOp a.eval o).run P w=.ok (.value val) w') (hn:next (a.put o.dst val) w'):o.wp P a w next Q:=by
 unfold Oper.wp;rw [h];exact hn
theorem C6Z {P:Program}{o:Oper}{a:Act}{w w':World}{next:Act→World→Prop}{Q:Exit→Act→World→Prop}
 (h:(execOp a.eval o).run P w=.ok .skip w') (hn:next (a.put o.dst undef) w'):o.wp P a w next Q:=by
 unfold Oper.wp;rw [h];exact hn
def cJ (P:Program)(o:Oper)(a:Act)(w:World)(A:Nat→Prop)(E:dV An)(nx:dv)(γ:Nat)(v:MV)(h':cq):Prop :=
 ∃ val w' A' E',((execOp a.eval o).run P w=.ok (.value val) w'∨((execOp a.eval o).run P w=.ok .skip w'∧val=undef)) ∧
  bT w' A' E' (nx.add γ) v val∧MR w' A' E' h' (nx.add γ)∧gK w A E nx w' A' E'
mutual
theorem T.kx {n m:dv}(h:n.le m):∀ {t:T An},t.st n→t.st m
 | .p _,_=>trivial
 | .m _,_=>trivial
 | .agg l,k=>by simp only [T.st] at k ⊢;exact T.l5 h k
 | .vec ..,k=>by simp only [T.st] at k ⊢;exact ⟨h _ k.1,T.l5 h k.2⟩
 | .mp ..,k=>by simp only [T.st] at k ⊢;exact ⟨h _ k.1,T.l5 h k.2⟩
 | .hole _,_=>trivial
theorem T.l5 {n m:dv}(h:n.le m):∀ {l:List (T An)},T.ku n l→T.ku m l
 | [],_=>trivial
 | _::_,k=>by simp only [T.ku] at k ⊢;exact ⟨T.kx h k.1,T.l5 h k.2⟩
end
theorem Obj.kx {n m:dv}(h:n.le m){o:Obj An}(k:o.st n):o.st m:=by
 cases o<;>simp only [Obj.st] at k ⊢
 · exact ⟨h _ k.1,T.kx h k.2⟩
 · exact ⟨h _ k.1,T.l5 h k.2⟩
 · exact ⟨h _ k.1,T.l5 h k.2⟩
theorem Fr.same (w:World)(A:Nat→Prop)(E:dV An){n m:dv}(h:n.le m):Fr w w A A E E n m:=⟨fun _ h=>h,fun _ _=>rfl,oW.refl _ _,h⟩
theorem MR.mono {w:World}{A:Nat→Prop}{E:dV An}{h:cq}{n m:dv}(k:MR w A E h n)(hn:n.le m):MR w A E h m :=
 ⟨k.er,fun i o ho=>OAt.frame (Fr.same w A E hn) (fun _ _=>rfl) (k.at_ i o ho),k.lt,k.nd,k.dj,k.im,fun i o ho=>Obj.kx hn (k.st i o ho)⟩
section
variable {P:Program}{o:Oper}{a:Act}{w:World}{A:Nat→Prop}{E:dV An}{nx:dv}{γ:Nat}{v:MV}{h:cq}
theorem cJ.idle {val:Value}(hr:(execOp a.eval o).run P w=.ok (.value val) w)(hv:bT w A E nx v val)(hm:MR w A E h nx):cJ P o a w A E nx γ v h :=
 ⟨val,w,A,E,.inl hr,hv.frame (Fr.same w A E (nx.eP γ)),hm.mono (nx.eP γ),gK.refl w A E nx⟩
end
section
variable {w:World}{A:Nat→Prop}{E:dV An}{nx:dv}{val:Value}
theorem A19 {k:IntKind}{n:Int}:bT w A E nx (.p (.int k n)) val↔val=.int k n:=by
 simp only [bT,pe,ed,PV.isAgg,pk];constructor
 · rintro ⟨c,rfl,rfl⟩;rfl
 · rintro rfl;exact ⟨_,rfl,rfl⟩
theorem ua {b:Bool}:bT w A E nx (.p (.bool b)) val↔val=.bool b:=by
 simp only [bT,pe,ed,PV.isAgg,pk];constructor
 · rintro ⟨c,rfl,rfl⟩;rfl
 · rintro rfl;exact ⟨_,rfl,rfl⟩
theorem AA {s:ByteArray}:bT w A E nx (.p (.str s)) val↔val=.string s:=by
 simp only [bT,pe,ed,PV.isAgg,pk];constructor
 · rintro ⟨c,rfl,rfl⟩;rfl
 · rintro rfl;exact ⟨_,rfl,rfl⟩
theorem XF:bT w A E nx (.p .eX) val↔val=.pointer none:=by
 simp only [bT,pe,ed,PV.isAgg,pk];constructor
 · rintro ⟨c,rfl,rfl⟩;rfl
 · rintro rfl;exact ⟨_,rfl,rfl⟩
theorem XG:bT w A E nx (.p .ff) val↔val=.nilFunc:=by
 simp only [bT,pe,ed,PV.isAgg,pk];constructor
 · rintro ⟨c,rfl,rfl⟩;rfl
 · rintro rfl;exact ⟨_,rfl,rfl⟩
theorem MG {l:List PV}:bT w A E nx (.p (.agg l)) val↔∃ cs,val=.agg cs.toArray∧cU w A l cs:=by
 simp only [bT,pe,ed,PV.isAgg,pk];constructor
 · rintro ⟨c,h,rfl⟩;exact ⟨c,rfl,h⟩
 · rintro ⟨c,rfl,h⟩;exact ⟨c,h,rfl⟩
theorem vu {l:List PV}:bT w A E nx (.p (.sl l)) val↔∃ p cap,val=.slice p l.length cap∧l.length≤cap∧(l=[]∨∃ b o z,p=some ⟨b,o,none⟩∧A b∧fH w A l b o z):=by
 simp only [bT,pe,ed,PV.isAgg,pk];constructor
 · rintro ⟨c,⟨p,cap,rfl,h⟩,rfl⟩;exact ⟨p,cap,rfl,h⟩
 · rintro ⟨p,cap,rfl,h⟩;exact ⟨_,⟨p,cap,rfl,h⟩,rfl⟩
theorem AD {u:PV}:bT w A E nx (.p (.ref u)) val↔∃ b o,val=.pointer (some ⟨b,o,none⟩)∧A b∧∃ cv,ed w A u cv∧Row w b o cv:=by
 simp only [bT,pe,ed,PV.isAgg,pk];constructor
 · rintro ⟨c,⟨b,o,rfl,h⟩,rfl⟩;exact ⟨b,o,rfl,h⟩
 · rintro ⟨b,o,rfl,h⟩;exact ⟨_,⟨b,o,rfl,h⟩,rfl⟩
theorem MH {f:Nat}{l:List PV}:bT w A E nx (.p (.fn f l)) val↔∃ vs,val=vt f vs.toArray∧kU w A l vs:=by
 simp only [bT,pe,ed,PV.isAgg,pk];constructor
 · rintro ⟨c,⟨vs,rfl,h⟩,rfl⟩;exact ⟨vs,rfl,h⟩
 · rintro ⟨vs,rfl,h⟩;exact ⟨_,⟨vs,rfl,h⟩,rfl⟩
end
def GL (P:Program)(w:World)(A:Nat→Prop):Prop:=∀ g v,Gf P g=some v→pe w A (.ref v) (.pointer (some ⟨g,0,none⟩))
theorem GL.frame {P:Program}{w w':World}{A A':Nat→Prop}(h:GL P w A)(hA:∀ b,A b→A' b)(hw:∀ b,A b→w'.heap[b]?=w.heap[b]?):GL P w' A':=fun g v hg=>(h g v hg).frame hA hw
structure qd (P:Program)(w:World)(A:Nat→Prop)(E:dV An)(nx:dv)(s:gJ)(a:Act):Prop where
 sl:∀ k,bT w A E nx (s k) (a.tmps.getD k undef)
 gl:GL P w A
section
variable {P:Program}{w:World}{A:Nat→Prop}{E:dV An}{nx:dv}{s:gJ}{a:Act}
theorem C60 {t:TypeId}{v:Value}{m:MV}(h:QJ P t v=some m):bT w A E nx m v:=by
 unfold QJ at h;split at h<;>try cases h
 · exact ua.2 rfl
 · exact A19.2 rfl
 · exact AA.2 rfl
 · exact XF.2 rfl
 · exact XG.2 rfl
 · simp only [bT,pe,ed];exact ⟨_,.inl ⟨rfl,trivial,trivial⟩,rfl⟩
 · split at h<;>cases h<;>(simp only [bT];exact ⟨none,rfl⟩)
theorem j0 (hs:qd P w A E nx s a){t:TypeId}{x:Operand}{o:dO}(h:fB P t x=some o):bT w A E nx (cR s o) (a.eval x):=by
 unfold fB at h;cases x with
 | tmp n=>simp only [aa] at h;subst h;exact hs.sl n
 | const v =>
   simp only at h;split at h
   · rename_i m hm;cases h;exact C60 hm
   · cases h
 | global g =>
   simp only at h;split at h
   · rename_i v hv;cases h;simp only [cR,bT];exact hs.gl g v hv
   · cases h
 | func f =>
   simp only at h;split at h
   · rename_i hf;cases h;exact MH.2 ⟨[],(QO hf).symm,by simp only [kU]⟩
   · cases h
theorem Gg (hs:qd P w A E nx s a):∀ {ts:List TypeId} {xs:List Operand} {os:List dO},qP P ts xs=some os→dh w A E nx (os.map (cR s)) (xs.map a.eval)
 | [],[],os,h=>by simp only [qP] at h;cases h;simp only [cr,dh]
 | t::ts,[],os,h=>by simp only [qP] at h;cases h;simp only [cr,dh]
 | [],x::r,os,h=>by
   simp only [qP] at h;split at h
   · rename_i o XH h1 h2;cases h;simp only [aH,dh];exact ⟨_,_,rfl,j0 hs h1,Gg hs h2⟩
   · cases h
 | t::ts,x::r,os,h=>by
   simp only [qP] at h;split at h
   · rename_i o XH h1 h2;cases h;simp only [aH,dh];exact ⟨_,_,rfl,j0 hs h1,Gg hs h2⟩
   · cases h
end
section
variable {P:Program}(w:World)
theorem XI (op:BinOp)(k:IntKind)(x y n:Int)(h:Ig op k x y=some n):(Op.intBits op k x y).run P w=.ok (.int k n) w:=by
 cases op<;>simp [Ig] at h<;>subst h<;>simp [Op.intBits]
theorem XJ {t:TypeId}(ht:P.underlying t=some .bool)(m n:Bool):(lD t (.bool m) (.bool n)).run P w=.ok (m==n) w:=by
 have h:∀ d,(gO (d+1) t (.bool m) (.bool n)).run P w=.ok (m==n) w:=by
  intro d;simp [gO,a8 ht w]
 exact h 9999
theorem C8Q (op:BinOp)(t:TypeId){x y z:PV}(h:jR op x y=some z){A:Nat→Prop}{E:dV An}{nx:dv}{a b:Value}
 (ha:bT w A E nx (.p x) a) (hb:bT w A E nx (.p y) b) (yQ:(∃ p,x=.bool p)→P.underlying t=some .bool) :
 ∃ c,(binOp op t a b).run P w=.ok c w∧bT w A E nx (.p z) c∧∀ X Y,(eqGuard op t X Y a b).run P w=.ok () w:=by
 cases x<;>cases y<;>simp only [jR] at h<;>try cases h
 · rename_i k m k' n;rw [A19] at ha hb;subst ha;subst hb;have hg:∀ X Y,(eqGuard op t X Y (.int k m) (.int k' n)).run P w=.ok () w:=by
    intro X Y;unfold eqGuard;cases op<;>simp
   cases op<;>simp only at h
   all_goals first
    | (split at h
       · cases h
       · rename_i hk;simp only [ne_eq,Decidable.not_not] at hk;subst hk
         first
          | (simp only [aa] at h;subst h
             refine ⟨_,?_,A19.2 rfl,hg⟩;simp [binOp,Op.intArith];done)
          | (simp only [aa] at h;subst h
             refine ⟨_,?_,ua.2 rfl,hg⟩;simp [binOp,Op.intCmp];done)
          | (split at h
             · cases h
             · rename_i hz;simp only [aa] at h;subst h;refine ⟨_,?_,A19.2 rfl,hg⟩;simp [binOp,Op.intDiv,hz];done)
          | (split at h
             · rename_i r hr;simp only [aa] at h;subst h;refine ⟨_,?_,A19.2 rfl,hg⟩
               have:=XI (P:=P) w _ k m n r hr
               simpa [binOp] using this
             · cases h))
    | (split at h
       · cases h
       · rename_i hz;simp only [aa] at h;subst h;refine ⟨_,?_,A19.2 rfl,hg⟩;simp [binOp,Op.shift,hz];done)
 · rename_i m n;rw [ua] at ha hb;subst ha;subst hb;have ht:=yQ ⟨_,rfl⟩;have hg:∀ X Y,(eqGuard op t X Y (.bool m) (.bool n)).run P w=.ok () w:=by
    intro X Y;unfold eqGuard;cases op<;>simp
   cases op<;>simp only at h<;>cases h
   · refine ⟨_,?_,ua.2 rfl,hg⟩;have e:binOp .eql t (.bool m) (.bool n)=(do pure (.bool (← lD t (.bool m) (.bool n)))):=rfl
     rw [e];simp only [bx,XJ w ht,aV,bM]
   · refine ⟨_,?_,ua.2 rfl,hg⟩;have e:binOp .neq t (.bool m) (.bool n)=(do pure (.bool (!(← lD t (.bool m) (.bool n))))):=rfl
     rw [e];simp only [bx,XJ w ht,aV,bM]
 · rename_i m n;rw [AA] at ha hb;subst ha;subst hb;have hg:∀ X Y,(eqGuard op t X Y (.string m) (.string n)).run P w=.ok () w:=by
    intro X Y;unfold eqGuard;cases op<;>simp
   cases op<;>simp only at h
   all_goals first
    | cases h;done
    | (simp only [aa] at h;subst h
       refine ⟨_,?_,ua.2 rfl,hg⟩;simp [binOp,Op.stringOp];done)
    | (split at h
       · rename_i hz;simp only [aa] at h;subst h;refine ⟨_,?_,AA.2 rfl,hg⟩;have AE:¬ (((m.size+n.size:Nat):Int)>IntKind.i64.max):=by
          simp only [IntKind.max,IntKind.signed,IntKind.bits];simp;omega
         simp [binOp,Op.stringOp];omega
       · cases h)
end
end Go.Mid
namespace Go.Mid
open Go.RowKit
section
variable {w:World}{A:Nat→Prop}{E:dV An}{nx:dv}
theorem cU.get:∀ {l:List PV} {cs:List Value} {i:Nat} {x:PV},cU w A l cs→l[i]?=some x →
 ∃ p c q,cs=p++c++q∧p.length=PV.dm (l.take i)∧ed w A x c
 | [],_,i,x,_,hi=>by simp at hi
 | y::r,cs,0,x,h,hi=>by
   simp only [cU] at h;obtain ⟨c,d,rfl,h1,h2⟩:=h;simp only [bP,aa] at hi;subst hi;exact ⟨[],c,d,rfl,rfl,h1⟩
 | y::r,cs,i+1,x,h,hi=>by
   simp only [cU] at h;obtain ⟨c,d,rfl,h1,h2⟩:=h;simp only [bK] at hi;obtain ⟨p,c',q,rfl,hp,hc⟩:=cU.get h2 hi;refine ⟨c++p,c',q,by simp only [bh],?_,hc⟩
   rw [aQ,hp,h1.len,bV,PV.dm]
theorem ef.get:∀ {l:List MV} {cs:List Value} {i:Nat} {x:MV},ef w A E nx l cs→l[i]?=some x →
 ∃ p v q,cs=p++v.cells.toList++q∧p.length=MV.dm (l.take i)∧v.cells.size=x.cs∧(∀ c,v=.agg c→x.isAgg=true∨∃ n,x=.dead n)∧bT w A E nx x v
 | [],_,i,x,_,hi=>by simp at hi
 | y::r,cs,0,x,h,hi=>by
   simp only [ef] at h;obtain ⟨v,d,rfl,h1,h2,h3,h4⟩:=h;simp only [bP,aa] at hi;subst hi;exact ⟨[],v,d,rfl,rfl,h1,h2,h3⟩
 | y::r,cs,i+1,x,h,hi=>by
   simp only [ef] at h;obtain ⟨v,d,rfl,h1,h2,h3,h4⟩:=h;simp only [bK] at hi;obtain ⟨p,v',q,rfl,hp,hc⟩:=ef.get h4 hi;refine ⟨v.cells.toList++p,v',q,by simp only [bh],?_,hc⟩
   rw [aQ,hp,eg,h1,bV,MV.dm]
theorem ed.one {v:PV}{c:List Value}(h:ed w A v c)(hv:v.isAgg=false):∃ x,c=[x]∧x.cells=#[x]:=by
 cases v<;>simp only [ed] at h<;>try (subst h;exact ⟨_,rfl,rfl⟩)
 · simp [PV.isAgg] at hv
 · obtain ⟨a,cap,rfl,_⟩:=h;exact ⟨_,rfl,rfl⟩
 · obtain ⟨a,cap,rfl,_⟩:=h;exact ⟨_,rfl,rfl⟩
 · obtain ⟨a,rfl,_⟩:=h;exact ⟨_,rfl,ME _ _⟩
 · rcases h with ⟨rfl,_⟩ | ⟨_,_,_,rfl,_⟩<;>exact ⟨_,rfl,rfl⟩
theorem ed.m5 {v:PV}{c:List Value}(h:ed w A v c):(pk v.isAgg c).cells=c.toArray:=by
 cases hv:v.isAgg with
 | true=>simp [pk,dp]
 | false =>
   obtain ⟨x,rfl,hx⟩:=h.one hv;simp [pk,hx]
theorem bT.vw {x:MV}{v:Value}(h:bT w A E nx x v)(hx:x.isAgg=false)(hd:∀ n,x≠.dead n):v.cells=#[v]:=by
 cases x with
 | p u =>
   simp only [bT,pe] at h;obtain ⟨c,h1,rfl⟩:=h;simp only [MV.isAgg] at hx;obtain ⟨y,rfl,hy⟩:=h1.one hx;simp [pk,hx,hy]
 | nil=>simp only [bT] at h;obtain ⟨a,rfl⟩:=h;rfl
 | own=>simp only [bT] at h;obtain ⟨_,a,cap,rfl,_⟩:=h;rfl
 | ptr=>simp only [bT] at h;obtain ⟨_,a,rfl,_⟩:=h;rfl
 | fC=>simp only [bT] at h
 | agg=>simp [MV.isAgg] at hx
 | fn=>simp only [bT] at h;obtain ⟨_,rfl,_⟩:=h;exact ME _ _
 | eO=>simp only [bT] at h;obtain ⟨_,rfl,_⟩:=h;rfl
 | dead n=>exact absurd rfl (hd n)
theorem bT.D4 {x:MV}{v:Value}(h:bT w A E nx x v)(hx:x.isAgg=true):∃ c,v=.agg c:=by
 cases x<;>simp only [MV.isAgg,aF] at hx
 · rename_i u;cases u<;>simp only [PV.isAgg,aF] at hx;obtain ⟨cs,rfl,_⟩:=MG.1 h;exact ⟨_,rfl⟩
 · simp only [bT] at h;obtain ⟨cs,rfl,_⟩:=h;exact ⟨_,rfl⟩
theorem bT.Io {x:MV}{v:Value}(h:bT w A E nx x v)(hd:∀ n,x≠.dead n):pk x.isAgg v.cells.toList=v:=by
 cases hx:x.isAgg with
 | true=>obtain ⟨c,rfl⟩:=h.D4 hx;simp [pk,dp]
 | false=>have:=h.vw hx hd;simp [pk,this]
end
section
variable {P:Program}(w:World)
theorem QR {t:TypeId}(h:P.cellsOf t≠0):∃ i,P.info? t=some i∧i.size=P.cellsOf t:=by
 unfold Program.cellsOf at h ⊢;cases hi:P.info? t with
 | none=>simp [hi] at h
 | some i=>exact ⟨i,rfl,by simp⟩
theorem B49 {t:TypeId}{d:TypeDesc}(h:P.underlying t=some d):∃ i,P.info? t=some i∧i.size=P.cellsOf t:=by
 unfold Program.underlying at h;unfold Program.cellsOf;cases hi:P.info? t with
 | none=>simp [hi] at h
 | some i=>exact ⟨i,rfl,by simp⟩
theorem XK {t:TypeId}{i:TypeInfo}(h:P.info? t=some i):(sizeOf t).run P w=.ok i.size w:=by
 simp [sizeOf,typeInfo,h]
theorem D5 {t:TypeId}(h:qO P t=true):(sizeOf t).run P w=.ok (P.cellsOf t) w:=by
 unfold qO at h;obtain ⟨d,hd⟩:=fj.1 h;obtain ⟨i,hi,hs⟩:=B49 hd;rw [XK w hi,hs]
theorem Bx {t:TypeId}(h:P.cellsOf t≠0):(sizeOf t).run P w=.ok (P.cellsOf t) w:=by
 obtain ⟨i,hi,hs⟩:=QR h;rw [XK w hi,hs]
theorem XL {t:TypeId}(h:qO P t=true):(isAgg t).run P w=.ok (mU P t) w:=by
 unfold qO at h;obtain ⟨d,hd⟩:=fj.1 h;simp only [isAgg,bx,a8 hd,aV,mU,hd];cases d<;>rfl
theorem Gi {t:TypeId}(h:qO P t=true)(p c q:List Value)(hc:c.length=P.cellsOf t)(h1:mU P t=false→c.length=1) :
 (part t (p++c++q).toArray p.length).run P w=.ok (pk (mU P t) c) w:=by
 simp only [part,bx,XL w h,aV];cases hg:mU P t with
 | true =>
   simp only [if_true,bx,D5 w h,aV,bM,pk];congr 2;rw [← hc];apply gP;simp [List.drop_left',List.take_left']
 | false =>
   have hl:=h1 hg;obtain ⟨x,rfl⟩:=List.length_eq_one_iff.1 hl;simp [pk]
end
section
variable {P:Program}{w:World}{A:Nat→Prop}
def TD.isAgg:TD→Bool | .agg _=>true | _=>false
mutual
theorem D6:∀ {d:TD} {x:PV},pH d x=true→x.cs=d.cs∧x.isAgg=d.isAgg
 | .int _,.int ..,_=>⟨rfl,rfl⟩
 | .bool,.bool _,_=>⟨rfl,rfl⟩
 | .str,.str _,_=>⟨rfl,rfl⟩
 | .agg l,.agg m,h=>by
   simp only [pH] at h;simp only [PV.cs,TD.cs,PV.isAgg,TD.isAgg,and_true];exact XM h
 | .int _,.bool _,h | .int _,.str _,h | .int _,.agg _,h | .int _,.sl _,h | .int _,.ref _,h | .int _,.fn ..,h | .int _,.mp ..,h | .int _,.eX,h | .int _,.ff,h=>by simp [pH] at h
 | .bool,.int ..,h | .bool,.str _,h | .bool,.agg _,h | .bool,.sl _,h | .bool,.ref _,h | .bool,.fn ..,h | .bool,.mp ..,h | .bool,.eX,h | .bool,.ff,h=>by simp [pH] at h
 | .str,.int ..,h | .str,.bool _,h | .str,.agg _,h | .str,.sl _,h | .str,.ref _,h | .str,.fn ..,h | .str,.mp ..,h | .str,.eX,h | .str,.ff,h=>by simp [pH] at h
 | .agg _,.int ..,h | .agg _,.bool _,h | .agg _,.str _,h | .agg _,.sl _,h | .agg _,.ref _,h | .agg _,.fn ..,h | .agg _,.mp ..,h | .agg _,.eX,h | .agg _,.ff,h=>by simp [pH] at h
theorem XM:∀ {l:List TD} {m:List PV},sq l m=true→PV.dm m=TD.dm l
 | [],[],_=>rfl
 | d::l,x::m,h=>by
   simp only [sq,ak] at h;simp only [PV.dm,TD.dm,(D6 h.1).1,XM h.2]
 | [],_::_,h | _::_,[],h=>by simp [sq] at h
end
theorem QS {n:Nat}{t:TypeId}{d:TD}(h:yO P n t=some d):qO P t=true∧mU P t=d.isAgg:=by
 cases n with
 | zero=>simp [yO] at h
 | succ n =>
   unfold yO at h;unfold qO mU;cases hu:P.underlying t with
   | none=>rw [hu] at h;cases h
   | some dd =>
     rw [hu] at h;cases dd<;>simp only at h<;>first
      | (cases h;exact ⟨rfl,rfl⟩)
      | (cases h;done)
      | (split at h
         · cases h
         · split at h
           · cases h;exact ⟨rfl,rfl⟩
           · cases h)
      | (split at h
         · split at h
           · cases h;exact ⟨rfl,rfl⟩
           · cases h
         · cases h)
theorem XN {n:Nat}{e:TypeId}{d:TD}{z:Nat}(f:Nat)(hz:P.cellsOf e=z)(hu:qO P e=true)(hagg:mU P e=d.isAgg)(hd:d.cs=z)
 (ih:∀ (x y:PV) (cx cy:List Value),pH d x=true→pH d y=true→ed w A x cx→ed w A y cy→(gO (f+n) e (pk x.isAgg cx) (pk y.isAgg cy)).run P w=.ok (vl x y) w) :
 ∀ (k i:Nat) (xs ys:List PV) (px cx py cy:List Value),sq (az k d) xs=true→sq (az k d) ys=true→cU w A xs cx→cU w A ys cy →
  px.length=i*z→py.length=i*z →
  ((forIn (List.range' i k) ((none,()):Option Bool×Unit) fun j r=>do
    let a ← part e (px++cx).toArray (j*z)
    let b ← part e (py++cy).toArray (j*z)
    let c ← gO (f+n) e a b
    if (!c)=true then pure (ForInStep.done (some false,())) else pure (ForInStep.yield (none,())):Sem (Option Bool×Unit))).run P w =
    .ok (if xd xs ys then (none,()) else (some false,())) w
 | 0,i,xs,ys,px,cx,py,cy,hx,hy,_,_,_,_=>by
   cases xs with
   | nil=>cases ys with
     | nil=>simp [xd]
     | cons=>simp [sq] at hy
   | cons=>simp [sq] at hx
 | k+1,i,xs,ys,px,cx,py,cy,hx,hy,rx,ry,lx,ly=>by
   cases xs with
   | nil=>simp [cG,sq] at hx
   | cons x xs =>
     cases ys with
     | nil=>simp [cG,sq] at hy
     | cons y ys =>
       simp only [cG,sq,ak] at hx hy;simp only [cU] at rx ry;obtain ⟨c1,d1,rfl,r1,r2⟩:=rx;obtain ⟨c2,d2,rfl,s1,s2⟩:=ry;obtain ⟨uW,hx2⟩:=D6 hx.1;obtain ⟨CQ,hy2⟩:=D6 hy.1;have e1:=Gi (P:=P) w hu px c1 d1 (by rw [r1.len,uW,hd,hz]) (fun h=>by rw [hagg] at h;rw [← hx2] at h;obtain ⟨_,rfl,_⟩:=r1.one h;rfl)
       have e2:=Gi (P:=P) w hu py c2 d2 (by rw [s1.len,CQ,hd,hz]) (fun h=>by rw [hagg] at h;rw [← hy2] at h;obtain ⟨_,rfl,_⟩:=s1.one h;rfl)
       rw [hagg,← hx2] at e1;rw [hagg,← hy2] at e2;rw [lx] at e1;rw [ly] at e2;rw [List.range'_succ,List.forIn_cons];simp only [← bh] at e1 e2 ⊢;simp only [bx,e1,e2,aV,ih x y c1 c2 hx.1 hy.1 r1 s1,Sem.run_ite];cases he:vl x y with
       | false=>simp [xd,he]
       | true =>
         simp only [bI,aF,if_false,bM,aV]
         have:=XN f hz hu hagg hd ih k (i+1) xs ys (px++c1) d1 (py++c2) d2 hx.2 hy.2 r2 s2
          (by rw [aQ,lx,r1.len,uW,hd,dA]) (by rw [aQ,ly,s1.len,CQ,hd,dA])
         simp only [xd,he,cE];exact this
end
end Go.Mid
namespace Go.Mid
open Go.RowKit
section
variable {P:Program}{w:World}{A:Nat→Prop}
theorem XO {n f:Nat}(ih:∀ (t:TypeId) (d:TD),yO P n t=some d→∀ (x y:PV) (cx cy:List Value),pH d x=true→pH d y=true→ed w A x cx→ed w A y cy →
 (gO (f+n) t (pk x.isAgg cx) (pk y.isAgg cy)).run P w=.ok (vl x y) w) :
 ∀ (fs:List Field) (off:Nat) (ds:List TD) (xs ys:List PV) (px cx py cy:List Value),Im P (fs.map fun f=>(f,yO P n f.type)) off=some ds→sq ds xs=true→sq ds ys=true →
  cU w A xs cx→cU w A ys cy→px.length=off→py.length=off →
  (qN (f+n) (px++cx).toArray (py++cy).toArray fs).run P w=.ok (xd xs ys) w
 | [],off,ds,xs,ys,px,cx,py,cy,h,hx,hy,_,_,_,_=>by
   simp only [aH,cr,Im] at h;cases h;cases xs<;>cases ys<;>simp [sq] at hx hy;simp [qN,xd]
 | fd::fs,off,ds,xs,ys,px,cx,py,cy,h,hx,hy,rx,ry,lx,ly=>by
   simp only [aH,cr,Im] at h;split at h
   · rename_i d ds' h1 h2;split at h
     · rename_i hc;obtain ⟨ub,lK,fg⟩:=hc;cases h;cases xs with
       | nil=>simp [sq] at hx
       | cons x xs =>
         cases ys with
         | nil=>simp [sq] at hy
         | cons y ys =>
           simp only [sq,ak] at hx hy;simp only [cU] at rx ry;obtain ⟨c1,d1,rfl,r1,r2⟩:=rx;obtain ⟨c2,d2,rfl,s1,s2⟩:=ry;obtain ⟨uW,hx2⟩:=D6 hx.1;obtain ⟨CQ,hy2⟩:=D6 hy.1;obtain ⟨hu,hagg⟩:=QS h1;have e1:=Gi (P:=P) w hu px c1 d1 (by rw [r1.len,uW,fg]) (fun h=>by rw [hagg] at h;rw [← hx2] at h;obtain ⟨_,rfl,_⟩:=r1.one h;rfl)
           have e2:=Gi (P:=P) w hu py c2 d2 (by rw [s1.len,CQ,fg]) (fun h=>by rw [hagg] at h;rw [← hy2] at h;obtain ⟨_,rfl,_⟩:=s1.one h;rfl)
           rw [hagg,← hx2] at e1;rw [hagg,← hy2] at e2;rw [lx,← lK] at e1;rw [ly,← lK] at e2;have QT:=XO ih fs (off+P.cellsOf fd.type) ds' xs ys (px++c1) d1 (py++c2) d2 h2 hx.2 hy.2 r2 s2
            (by rw [aQ,lx,r1.len,uW,fg]) (by rw [aQ,ly,s1.len,CQ,fg])
           simp only [← bh] at e1 e2 ⊢;simp only [qN,if_pos ub,bx,e1,e2,aV,ih fd.type d h1 x y c1 c2 hx.1 hy.1 r1 s1,Sem.run_ite];cases he:vl x y with
           | false=>simp [xd,he]
           | true =>
             simp only [bI,aF,if_false,xd,he,cE];exact QT
     · cases h
   · cases h
theorem XP:∀ (n:Nat) (f:Nat) (t:TypeId) (d:TD),yO P n t=some d→∀ (x y:PV) (cx cy:List Value),pH d x=true→pH d y=true→ed w A x cx→ed w A y cy →
 (gO (f+n) t (pk x.isAgg cx) (pk y.isAgg cy)).run P w=.ok (vl x y) w
 | 0,_,_,_,h=>by simp [yO] at h
 | n+1,f,t,d,h=>by
   intro x y cx cy hx hy rx ry;have ih:=XP n;unfold yO at h;cases hu:P.underlying t with
   | none=>rw [hu] at h;cases h
   | some dd =>
     rw [hu] at h;cases dd<;>simp only at h<;>try (cases h;done)
     · cases h;cases x<;>simp [pH] at hx;cases y<;>simp [pH] at hy;simp only [ed] at rx ry;subst rx;subst ry;exact run_equalIn_bool' w (f+n) t _ _ hu
     · cases h;cases x<;>simp [pH] at hx;cases y<;>simp [pH] at hy;simp only [ed] at rx ry;subst rx;subst ry;subst hx;subst hy;exact run_equalIn_int w (f+n) t _ _ _ _ hu
     · cases h;cases x<;>simp [pH] at hx;cases y<;>simp [pH] at hy;simp only [ed] at rx ry;subst rx;subst ry;exact run_equalIn_string w (f+n) t _ _ hu
     · rename_i len e;split at h
       · rename_i d' h1;split at h
         · rename_i fg;cases h;cases x<;>simp only [pH,aF] at hx;cases y<;>simp only [pH,aF] at hy;simp only [ed] at rx ry;obtain ⟨XQ,hagg⟩:=QS h1
           have:=XN (P:=P) (w:=w) (A:=A) (n:=n) (e:=e) (d:=d') (z:=P.cellsOf e) f rfl XQ hagg fg (ih f e d' h1) len 0 _ _ [] cx [] cy hx hy rx ry (by simp) (by simp)
           simp only [a7] at this;rw [show f+(n+1)=(f+n)+1 from rfl];simp only [pk,PV.isAgg,if_true,gO,bx,a8 hu,aV,D5 w XQ];have hs:([:len]:Std.Legacy.Range).size=len:=by simp [Std.Legacy.Range.size]
           rw [Std.Legacy.Range.forIn_eq_forIn_range',hs];simp only at this ⊢;rw [this];simp only [vl];cases xd _ _<;>rfl
         · cases h
       · cases h
     · rename_i fs;split at h
       · cases h
       · rename_i hst;split at h
         · rename_i ds h1;cases h;cases x<;>simp only [pH,aF] at hx;cases y<;>simp only [pH,aF] at hy;simp only [ed] at rx ry;have XR:P.fieldsOf t=fs:=by simp [Program.fieldsOf,hu]
           have:=run_equalIn_struct (P:=P) w (f+n) t cx.toArray cy.toArray (by rw [XR];exact hu) (by simpa using hst)
           rw [show f+(n+1)=(f+n)+1 from rfl];simp only [pk,PV.isAgg,if_true];rw [this,XR]
           have:=XO (ih f) fs.toList 0 ds _ _ [] cx [] cy h1 hx hy rx ry rfl rfl
           simpa [vl] using this
         · cases h
end
end Go.Mid
namespace Go.Mid
open Go.RowKit
theorem D7 (a:Act)(v:Value):a.eval (.const v)=v:=rfl
section
variable {P:Program}{o:Oper}{a:Act}{w:World}{A:Nat→Prop}{E:dV An}{nx:dv}{γ:Nat}{v:MV}{h h':cq}{s:gJ}{K:jC}{d:Option Nat}
 (hs:qd P w A E nx s a) (hm:MR w A E h nx)
include hs hm
theorem XS {x:Operand}{y:dO}(ho:o.op=.move x∨o.op=.assign x)(hx:fB P o.type x=some y)
 (he:cf K γ d s h (.move y)=some (v,h')):cJ P o a w A E nx γ v h':=by
 simp only [cf,aa,ae] at he;obtain ⟨rfl,rfl⟩:=he;refine cJ.idle ?_ (j0 hs hx) hm;rcases ho with ho | ho<;>simp [execOp,ho]
theorem D0G {c x y:Operand}{c' x' y':dO}(ho:o.op=.pick c x y){t0:TypeId}(hc:fB P t0 c=some c'){t1 t2:TypeId}(hx:fB P t1 x=some x')(hy:fB P t2 y=some y')
 (he:cf K γ d s h (.pick c' x' y')=some (v,h')):cJ P o a w A E nx γ v h':=by
 simp only [cf] at he;split at he
 · rename_i b hb;simp only [aa,ae] at he;obtain ⟨rfl,rfl⟩:=he;have AF:=j0 hs hc;rw [hb,ua] at AF;refine cJ.idle (val:=if b then a.eval x else a.eval y) ?_ ?_ hm
   · simp [execOp,ho,AF,asBool]
   · cases b
     · exact j0 hs hy
     · exact j0 hs hx
 · cases he
theorem D0H {x:Operand}{y:dO}(ho:o.op=.nilCheck x){t:TypeId}(hx:fB P t x=some y)
 (he:cf K γ d s h (.nilc y)=some (v,h')):cJ P o a w A E nx γ v h':=by
 have hv:=j0 hs hx;simp only [cf] at he;split at he
 · rename_i u hu;simp only [aa,ae] at he;obtain ⟨rfl,rfl⟩:=he;rw [hu] at hv;obtain ⟨b,o',cL,_⟩:=AD.1 hv;refine cJ.idle (val:=a.eval x) ?_ hv hm;simp [execOp,ho,cL]
 · rename_i id np rp g o' hu;simp only [aa,ae] at he;obtain ⟨rfl,rfl⟩:=he;rw [hu] at hv;refine cJ.idle (val:=a.eval x) ?_ hv hm;simp only [bT] at hv;obtain ⟨_,p,cL,_⟩:=hv;simp [execOp,ho,cL]
 · cases he
theorem QU {bl:Bool}{op:BinOp}{t yt:TypeId}{x y:Operand}{x' y':dO}(ho:o.op=.binOp op t x y yt)(hx:fB P t x=some x')(hy:fB P yt y=some y')
 (hb:P.underlying t=some .bool∨(∃ k,P.underlying t=some (.int k))∨P.underlying t=some .string)
 (yQ:bl=true→P.underlying t=some .bool)
 (he:cf K γ d s h (.bin bl op x' y')=some (v,h')):cJ P o a w A E nx γ v h':=by
 have dL:=j0 hs hx;have uX:=j0 hs hy;simp only [cf] at he;split at he
 · rename_i p q hp hq;split at he
   · rename_i tw;split at he
     · rename_i r hr;simp only [aa,ae] at he;obtain ⟨rfl,rfl⟩:=he;rw [hp] at dL;rw [hq] at uX;obtain ⟨c,pK,oX,sB⟩:=C8Q (P:=P) w op t hr dL uX (by rintro ⟨b,rfl⟩;exact yQ tw.symm)
       refine cJ.idle (val:=c) ?_ oX hm;simp [execOp,ho,sB,pK]
     · cases he
   · cases he
 · cases he
theorem MI {op:BinOp}{t yt:TypeId}{x y:Operand}{x' y':dO}{neg:Bool}{td:TD}(ho:o.op=.binOp op t x y yt)(fh:op=if neg then .neq else .eql)
 (hx:fB P t x=some x') (hy:fB P yt y=some y') (xh:QL P t=some td) (hagg:mU P t=true)
 (he:cf K γ d s h (.eqs neg td x' y')=some (v,h')):cJ P o a w A E nx γ v h':=by
 have dL:=j0 hs hx;have uX:=j0 hs hy;simp only [cf] at he;split at he
 · rename_i p q hp hq;split at he
   · rename_i ra;simp only [ak] at ra;simp only [aa,ae,Ar] at he;obtain ⟨rfl,rfl⟩:=he;rw [hp] at dL;rw [hq] at uX;unfold QL at xh;split at xh
     · cases xh
     · rename_i hg;have rM:P.eqGuardType P.depth t=false:=by simpa using hg
       simp only [bT,pe] at dL uX;obtain ⟨cx,rx,ex⟩:=dL;obtain ⟨cy,ry,ey⟩:=uX;have hu:=QS xh;have qW:p.isAgg=true:=by rw [(D6 ra.1).2,← hu.2,hagg]
       have XT:q.isAgg=true:=by rw [(D6 ra.2).2,← hu.2,hagg]
       have hr:=XP (P:=P) (w:=w) (A:=A) 20 9980 t td xh p q cx cy ra.1 ra.2 rx ry;rw [qW,XT] at hr;rw [qW] at ex;rw [XT] at ey;simp only [pk,if_true] at hr ex ey;refine cJ.idle (val:=.bool (vl p q != neg)) ?_ (ua.2 rfl) hm;cases neg with
       | false =>
         simp only [aF,if_false] at fh;subst fh;simp only [execOp,ho,ex,ey,bx,run_eqGuard_agg w _ _ _ _ _ _ rM,aV,run_eql_struct,hr,bM,Bool.bne_false]
       | true =>
         simp only [if_true] at fh;subst fh;simp only [execOp,ho,ex,ey,bx,run_eqGuard_agg w _ _ _ _ _ _ rM,aV,run_neq_struct,hr,bM,Bool.bne_true]
   · cases he
 · cases he
theorem D2G {t:TypeId}{x:Operand}{x':dO}(ho:o.op=.unOp .not t x)(hx:fB P t x=some x')
 (he:cf K γ d s h (.not x')=some (v,h')):cJ P o a w A E nx γ v h':=by
 have dL:=j0 hs hx;simp only [cf] at he;split at he
 · rename_i b hb;simp only [aa,ae,Ar] at he;obtain ⟨rfl,rfl⟩:=he;rw [hb,ua] at dL;refine cJ.idle (val:=.bool !b) ?_ (ua.2 rfl) hm;simp [execOp,ho,dL,uN]
 · cases he
theorem D2H {t:TypeId}{x:Operand}{x':dO}(ho:o.op=.unOp .neg t x)(hx:fB P t x=some x')
 (he:cf K γ d s h (.neg x')=some (v,h')):cJ P o a w A E nx γ v h':=by
 have dL:=j0 hs hx;simp only [cf] at he;split at he
 · rename_i k n hb;simp only [aa,ae] at he;obtain ⟨rfl,rfl⟩:=he;rw [hb,A19] at dL;refine cJ.idle (val:=.int k (k.wrap (0-n))) ?_ (A19.2 rfl) hm;simp [execOp,ho,dL,uN,Op.intArith]
 · cases he
theorem D2I {t:TypeId}{x:Operand}{x':dO}(ho:o.op=.unOp .xor t x)(hx:fB P t x=some x')
 (he:cf K γ d s h (.inv x')=some (v,h')):cJ P o a w A E nx γ v h':=by
 have dL:=j0 hs hx;simp only [cf] at he;split at he
 · rename_i k n hb;split at he
   · rename_i m QV;simp only [aa,ae] at he;obtain ⟨rfl,rfl⟩:=he;rw [hb,A19] at dL;refine cJ.idle (val:=.int k m) ?_ (A19.2 rfl) hm
     have:=XI (P:=P) w .xor k (if k.signed then -1 else k.max) n m QV
     simp [execOp,ho,dL,uN,this]
   · cases he
 · cases he
theorem C8R {src dst:TypeId}{k0 k:IntKind}{x:Operand}{x':dO}(ho:o.op=.convert src dst x)(hx:fB P src x=some x')(h0:P.underlying src=some (.int k0))(h1:P.underlying dst=some (.int k))
 (he:cf K γ d s h (.convI k x')=some (v,h')):cJ P o a w A E nx γ v h':=by
 have dL:=j0 hs hx;simp only [cf] at he;split at he
 · rename_i k1 n hb;simp only [aa,ae] at he;obtain ⟨rfl,rfl⟩:=he;rw [hb,A19] at dL;refine cJ.idle (val:=.int k (k.wrap n)) ?_ (A19.2 rfl) hm;simp [execOp,ho,dL,convert,a8 h0,a8 h1,Conv.intToInt]
 · cases he
theorem C8S {src dst:TypeId}{x:Operand}{x':dO}(ho:o.op=.convert src dst x)(hx:fB P src x=some x')(h0:P.underlying src=some .string)(h1:P.underlying dst=some .string)
 (he:cf K γ d s h (.convS x')=some (v,h')):cJ P o a w A E nx γ v h':=by
 have dL:=j0 hs hx;simp only [cf] at he;split at he
 · rename_i b hb;simp only [aa,ae] at he;obtain ⟨rfl,rfl⟩:=he;rw [hb,AA] at dL;refine cJ.idle (val:=.string b) ?_ (AA.2 rfl) hm;simp [execOp,ho,dL,convert,a8 h0,a8 h1]
 · cases he
theorem C8T {src dst:TypeId}{k0:IntKind}{x:Operand}{x':dO}(ho:o.op=.convert src dst x)(hx:fB P src x=some x')(h0:P.underlying src=some (.int k0))(h1:P.underlying dst=some .string)
 (he:cf K γ d s h (.convR x')=some (v,h')):cJ P o a w A E nx γ v h':=by
 have dL:=j0 hs hx;simp only [cf] at he;split at he
 · rename_i k1 n hb;simp only [aa,ae] at he;obtain ⟨rfl,rfl⟩:=he;rw [hb,A19] at dL;refine cJ.idle (val:=.string (Utf8.encode n)) ?_ (AA.2 rfl) hm;simp [execOp,ho,dL,convert,a8 h0,a8 h1,Conv.intToString]
 · cases he
theorem XU {op:BinOp}{t yt e:TypeId}{x:Operand}{x':dO}{neg:Bool}(ho:o.op=.binOp op t x (.const (.pointer none)) yt)(fh:op=if neg then .neq else .eql)
 (hx:fB P t x=some x') (hu:P.underlying t=some (.pointer e))
 (he:cf K γ d s h (.isnil false neg x')=some (v,h')):cJ P o a w A E nx γ v h':=by
 have dL:=j0 hs hx;have main:∀ (b:Bool) (p:Option Addr),a.eval x=.pointer p→b=p.isNone→cJ P o a w A E nx γ (Ar (b != neg)) h:=by
  intro b p hp hb;refine cJ.idle (val:=.bool (b != neg)) ?_ (ua.2 rfl) hm;have h0:∀ f,(gO (f+1) t (.pointer p) (.pointer none)).run P w=.ok b w:=by
   intro f;subst hb;cases p<;>simp [gO,a8 hu]
  have h1:(lD t (.pointer p) (.pointer none)).run P w=.ok b w:=h0 9999;have h2:(eqGuard op t x (.const (.pointer none)) (.pointer p) (.pointer none)).run P w=.ok () w:=by
   unfold eqGuard;cases op<;>simp
  cases neg with
  | false =>
    simp only [aF,if_false] at fh;subst fh;have e1:binOp .eql t (.pointer p) (.pointer none)=(do pure (.bool (← lD t (.pointer p) (.pointer none)))):=by cases p<;>rfl
    simp [execOp,ho,hp,D7,h2,e1,h1]
  | true =>
    simp only [if_true] at fh;subst fh;have e1:binOp .neq t (.pointer p) (.pointer none)=(do pure (.bool (!(← lD t (.pointer p) (.pointer none))))):=by cases p<;>rfl
    simp [execOp,ho,hp,D7,h2,e1,h1]
 simp only [cf] at he;split at he<;>simp only [aa,ae,reduceCtorEq] at he<;>try contradiction
 · obtain ⟨rfl,rfl⟩:=he;rename_i hb;rw [hb,XF] at dL;exact main true none dL rfl
 · obtain ⟨rfl,rfl⟩:=he;rename_i hb;rw [hb] at dL;obtain ⟨b,o',cL,_⟩:=AD.1 dL;exact main false _ cL rfl
 · obtain ⟨rfl,rfl⟩:=he;rename_i hb;rw [hb] at dL;simp only [bT] at dL;obtain ⟨_,p,cL,_⟩:=dL;exact main false _ cL rfl
theorem XV {op:BinOp}{t yt:TypeId}{ps rs:Array TypeId}{vr:Bool}{x:Operand}{x':dO}{neg:Bool}(ho:o.op=.binOp op t x (.const .nilFunc) yt)(fh:op=if neg then .neq else .eql)
 (hx:fB P t x=some x') (hu:P.underlying t=some (.func ps rs vr))
 (he:cf K γ d s h (.isnil true neg x')=some (v,h')):cJ P o a w A E nx γ v h':=by
 have dL:=j0 hs hx;have main:∀ (b:Bool) (p:Value),a.eval x=p→(p=.nilFunc∧b=true∨(∃ f i c,p=.func f i c)∧b=false)→cJ P o a w A E nx γ (Ar (b != neg)) h:=by
  intro b p hp hb;refine cJ.idle (val:=.bool (b != neg)) ?_ (ua.2 rfl) hm;have h0:∀ f,(gO (f+1) t p .nilFunc).run P w=.ok b w:=by
   intro f;rcases hb with ⟨rfl,rfl⟩ | ⟨⟨f,i,c,rfl⟩,rfl⟩<;>simp [gO,a8 hu]
  have h1:(lD t p .nilFunc).run P w=.ok b w:=h0 9999;have h2:(eqGuard op t x (.const .nilFunc) p .nilFunc).run P w=.ok () w:=by
   rcases hb with ⟨rfl,rfl⟩ | ⟨⟨f,i,c,rfl⟩,rfl⟩<;>(unfold eqGuard;cases op<;>simp)
  cases neg with
  | false =>
    simp only [aF,if_false] at fh;subst fh;have e1:binOp .eql t p .nilFunc=(do pure (.bool (← lD t p .nilFunc))):=by
     rcases hb with ⟨rfl,rfl⟩ | ⟨⟨f,i,c,rfl⟩,rfl⟩<;>rfl
    simp [execOp,ho,hp,D7,h2,e1,h1]
  | true =>
    simp only [if_true] at fh;subst fh;have e1:binOp .neq t p .nilFunc=(do pure (.bool (!(← lD t p .nilFunc)))):=by
     rcases hb with ⟨rfl,rfl⟩ | ⟨⟨f,i,c,rfl⟩,rfl⟩<;>rfl
    simp [execOp,ho,hp,D7,h2,e1,h1]
 simp only [cf] at he;split at he<;>simp only [aa,ae,reduceCtorEq] at he<;>try contradiction
 · obtain ⟨rfl,rfl⟩:=he;rename_i hb;rw [hb,XG] at dL;exact main true _ dL (.inl ⟨rfl,rfl⟩)
 · obtain ⟨rfl,rfl⟩:=he;rename_i hb;rw [hb] at dL;obtain ⟨vs,cL,_⟩:=MH.1 dL;exact main false _ cL (.inr ⟨QP _ _,rfl⟩)
 · obtain ⟨rfl,rfl⟩:=he;rename_i hb;rw [hb] at dL;simp only [bT] at dL;obtain ⟨vs,cL,_⟩:=dL;exact main false _ cL (.inr ⟨QP _ _,rfl⟩)
theorem D2J {x:Operand}{i:Nat}{x':dO}{t:TypeId}(ho:o.op=.extract x i)(hx:fB P t x=some x')
 (he:cf K γ d s h (.ext x' i)=some (v,h')):cJ P o a w A E nx γ v h':=by
 have dL:=j0 hs hx;simp only [cf] at he;split at he
 · rename_i l hb;split at he
   · rename_i u hi;simp only [aa,ae] at he;obtain ⟨rfl,rfl⟩:=he;rw [hb] at dL;simp only [bT] at dL;obtain ⟨vs,cL,hl⟩:=dL;have key:∀ {l:List MV} {vs:List Value} {i:Nat},dh w A E nx l vs→l[i]?=some u→∃ x,vs[i]?=some x∧bT w A E nx u x:=by
      intro l
      induction l with
      | nil=>intro vs i _ hi;simp at hi
      | cons y r ih =>
        intro vs i hl hi;simp only [dh] at hl;obtain ⟨x,d,rfl,h1,h2⟩:=hl;cases i with
        | zero=>simp at hi;subst hi;exact ⟨x,rfl,h1⟩
        | succ i=>simp at hi;simpa using ih h2 hi
     obtain ⟨x,uW,hx2⟩:=key hl hi;refine cJ.idle (val:=x) ?_ hx2 hm;simp [execOp,ho,cL,Instr.extract,uW]
   · cases he
 · cases he
end
end Go.Mid
namespace Go.Mid
open Go.RowKit
section
variable {α β:Type}(f:α→β)
theorem CR:∀ (p:List Nat) (t:T α),c6 (t.mapA f) p=(c6 t p).map (T.mapA f)
 | [],t=>by simp [c6]
 | i::r,.p v=>by
   cases v<;>simp only [T.mapA,c6,dM];rename_i l;cases l[i]? with
   | none=>rfl
   | some v=>exact CR r (.p v)
 | i::r,.m v=>by simp [T.mapA,c6]
 | i::r,.agg l=>by
   simp only [T.mapA,c6,T.mapAs_eq,aN];cases l[i]? with
   | none=>rfl
   | some t=>exact CR r t
 | i::r,.vec a z l n=>by
   simp only [T.mapA,c6,T.mapAs_eq,aN];cases l[i]? with
   | none=>rfl
   | some t=>exact CR r t
 | i::r,.mp a ks l=>by
   simp only [T.mapA,c6,T.mapAs_eq,aN];cases l[i]? with
   | none=>rfl
   | some t=>exact CR r t
 | i::r,.hole n=>by simp [T.mapA,c6]
theorem XW (ob:Option (Obj α))(p:List Nat):ew (ob.map (Obj.mapA f)) p=(ew ob p).map (T.mapA f):=by
 cases ob with
 | none=>cases p<;>rfl
 | some o =>
   cases o with
   | cell a t=>simp only [ar,Obj.mapA,ew];exact CR f p t
   | vec a z l =>
     cases p with
     | nil=>rfl
     | cons i r =>
       simp only [ar,Obj.mapA,ew,T.mapAs_eq,aN];cases l[i]? with
       | none=>rfl
       | some t=>exact CR f r t
   | mp a ks l =>
     cases p with
     | nil=>rfl
     | cons i r =>
       simp only [ar,Obj.mapA,ew,T.mapAs_eq,aN];cases l[i]? with
       | none=>rfl
       | some t=>exact CR f r t
   | gone=>cases p<;>rfl
theorem XX (ob:Option (Obj α))(p:List Nat):jG (ob.map (Obj.mapA f)) p=(jG ob p).map fun x=>(f x.1,x.2.1,x.2.2.map (T.mapA f)):=by
 have h:=XW f ob p;cases ob with
 | none=>cases p<;>rfl
 | some o =>
   cases o with
   | vec a z l =>
     cases p with
     | nil=>simp [Obj.mapA,jG,T.mapAs_eq]
     | cons i r =>
       simp only [ar,jG] at h ⊢;simp only [Obj.mapA] at h ⊢;rw [h];cases hs:ew (some (Obj.vec a z l)) (i::r) with
       | none=>rfl
       | some t=>cases t<;>simp [T.mapA,T.mapAs_eq]
   | cell a t =>
     simp only [ar,jG] at h ⊢;simp only [Obj.mapA] at h ⊢;rw [h];cases hs:ew (some (Obj.cell a t)) p with
     | none=>rfl
     | some t=>cases t<;>simp [T.mapA,T.mapAs_eq]
   | mp a ks l =>
     simp only [ar,jG] at h ⊢;simp only [Obj.mapA] at h ⊢;rw [h];cases hs:ew (some (Obj.mp a ks l)) p with
     | none=>rfl
     | some t=>cases t<;>simp [T.mapA,T.mapAs_eq]
   | gone =>
     simp only [ar,jG] at h ⊢;simp only [Obj.mapA] at h ⊢;rw [h];cases hs:ew (some (Obj.gone:Obj α)) p with
     | none=>rfl
     | some t=>cases t<;>simp [T.mapA,T.mapAs_eq]
mutual
theorem T.ky:∀ (t:T α),(t.mapA f).cs=t.cs
 | .p _=>rfl
 | .m _=>rfl
 | .agg l=>by simp only [T.mapA,T.cs];exact T.qX l
 | .vec ..=>rfl
 | .mp ..=>rfl
 | .hole _=>rfl
theorem T.qX:∀ (l:List (T α)),T.dm (T.cQ f l)=T.dm l
 | []=>rfl
 | t::r=>by simp only [T.cQ,T.dm,T.ky t,T.qX r]
end
theorem T.yR (l:List (T α)):T.dm (l.map (T.mapA f))=T.dm l:=by rw [← T.mapAs_eq,T.qX]
theorem MJ:∀ (p:List Nat) (t:T α) (o:Nat),lX (t.mapA f) p o=(lX t p o).map fun x=>(x.1.mapA f,x.2)
 | [],t,o=>by simp [lX]
 | i::r,.p v,o=>by
   cases v<;>simp only [T.mapA,lX,dM];rename_i l;cases l[i]? with
   | none=>rfl
   | some v=>exact MJ r (.p v) _
 | i::r,.m v,o=>by simp [T.mapA,lX]
 | i::r,.agg l,o=>by
   simp only [T.mapA,lX,T.mapAs_eq,aN];cases l[i]? with
   | none=>rfl
   | some t =>
     simp only [ar];rw [← List.map_take,T.yR f];exact MJ r t _
 | i::r,.vec a z l n,o=>by simp [T.mapA,lX]
 | i::r,.mp a ks l,o=>by simp [T.mapA,lX]
 | i::r,.hole n,o=>by simp [T.mapA,lX]
theorem D0I (ob:Option (Obj α))(np:Option (List Nat))(rp:List Nat):look (ob.map (Obj.mapA f)) np rp=(look ob np rp).map fun x=>(x.1.mapA f,f x.2.1,x.2.2):=by
 cases np with
 | none =>
   cases ob with
   | none=>rfl
   | some o =>
     cases o<;>simp only [look,ar,Obj.mapA,dM];rename_i a t;rw [MJ];cases lX t rp 0<;>rfl
 | some p =>
   simp only [look,XX];cases jG ob p with
   | none=>rfl
   | some x =>
     obtain ⟨a,z,l⟩:=x;cases rp with
     | nil=>rfl
     | cons i r =>
       simp only [ar,aN];cases l[i]? with
       | none=>rfl
       | some t =>
         simp only [ar];rw [MJ];cases lX t r (i*z)<;>rfl
end
section
variable {α:Type}
theorem CS:∀ (p q:List Nat) (t:T α),c6 t (p++q)=(c6 t p).bind fun u=>c6 u q
 | [],q,t=>by simp [c6]
 | i::r,q,.p v=>by
   cases v<;>simp only [aS,c6,Option.bind_none];rename_i l;cases l[i]? with
   | none=>rfl
   | some v=>exact CS r q (.p v)
 | i::r,q,.m v=>by simp [c6]
 | i::r,q,.agg l=>by
   simp only [aS,c6];cases l[i]? with
   | none=>rfl
   | some t=>exact CS r q t
 | i::r,q,.vec a z l n=>by
   simp only [aS,c6];cases l[i]? with
   | none=>rfl
   | some t=>exact CS r q t
 | i::r,q,.mp a ks l=>by
   simp only [aS,c6];cases l[i]? with
   | none=>rfl
   | some t=>exact CS r q t
 | i::r,q,.hole n=>by simp [c6]
theorem MK:∀ (p:List Nat) (t u:T α) (o o':Nat),lX t p o=some (u,o')→c6 t p=some u
 | [],t,u,o,o',h=>by simp only [lX,aa,ae] at h;simp [c6,h.1]
 | i::r,.p v,u,o,o',h=>by
   cases v<;>simp only [lX,reduceCtorEq] at h;rename_i l;simp only [c6];cases hl:l[i]? with
   | none=>simp [hl] at h
   | some v=>simp only [hl] at h;exact MK r _ u _ o' h
 | i::r,.m v,u,o,o',h=>by simp [lX] at h
 | i::r,.agg l,u,o,o',h=>by
   simp only [lX] at h;simp only [c6];cases hl:l[i]? with
   | none=>simp [hl] at h
   | some t=>simp only [hl] at h;exact MK r _ u _ o' h
 | i::r,.vec a z l n,u,o,o',h=>by simp [lX] at h
 | i::r,.mp a ks l,u,o,o',h=>by simp [lX] at h
 | i::r,.hole n,u,o,o',h=>by simp [lX] at h
theorem XY (ob:Option (Obj α))(p q:List Nat){u:T α}(h:ew ob p=some u):ew ob (p++q)=c6 u q:=by
 cases ob with
 | none=>cases p<;>simp [ew] at h
 | some o =>
   cases o with
   | cell a t=>simp only [ew] at h ⊢;rw [CS,h];rfl
   | vec a z l =>
     cases p with
     | nil=>simp [ew] at h
     | cons i r =>
       simp only [ew,aS] at h ⊢;cases hl:l[i]? with
       | none=>simp [hl] at h
       | some t=>simp only [hl] at h ⊢;rw [CS,h];rfl
   | mp a ks l =>
     cases p with
     | nil=>simp [ew] at h
     | cons i r =>
       simp only [ew,aS] at h ⊢;cases hl:l[i]? with
       | none=>simp [hl] at h
       | some t=>simp only [hl] at h ⊢;rw [CS,h];rfl
   | gone=>cases p<;>simp [ew] at h
theorem C61 (ob:Option (Obj α))(p:List Nat){a:α}{z:Nat}{l:List (T α)}(h:jG ob p=some (a,z,l))(i:Nat)(r:List Nat){t:T α}(ht:l[i]?=some t) :
 ew ob (p++i::r)=c6 t r:=by
 have key:∀ n,ew ob p=some (.vec a z l n)→ew ob (p++i::r)=c6 t r:=by
  intro n hs;rw [XY ob p (i::r) hs];simp only [c6,ht]
 cases ob with
 | none=>cases p<;>simp [jG,ew] at h
 | some o =>
   cases o with
   | vec a' z' l' =>
     cases p with
     | nil =>
       simp only [jG,aa,ae] at h;obtain ⟨rfl,rfl,rfl⟩:=h;simp only [a7,ew,ht]
     | cons j q =>
       simp only [jG] at h;split at h
       · rename_i hs;simp only [aa,ae] at h;obtain ⟨rfl,rfl,rfl⟩:=h;exact key _ hs
       · cases h
   | cell a' t' =>
     simp only [jG] at h;split at h
     · rename_i hs;simp only [aa,ae] at h;obtain ⟨rfl,rfl,rfl⟩:=h;exact key _ hs
     · cases h
   | mp a' ks l' =>
     simp only [jG] at h;split at h
     · rename_i hs;simp only [aa,ae] at h;obtain ⟨rfl,rfl,rfl⟩:=h;exact key _ hs
     · cases h
   | gone =>
     simp only [jG] at h;split at h
     · rename_i hs;simp only [aa,ae] at h;obtain ⟨rfl,rfl,rfl⟩:=h;exact key _ hs
     · cases h
theorem ML {ob:Option (Obj α)}{np:Option (List Nat)}{rp:List Nat}{u:T α}{a:α}{o:Nat}(h:look ob np rp=some (u,a,o)):ew ob (rG np rp)=some u:=by
 cases np with
 | none =>
   cases ob with
   | none=>simp [look] at h
   | some ob =>
     cases ob<;>simp only [look,reduceCtorEq] at h;split at h
     · rename_i hl;simp only [aa,ae] at h;obtain ⟨rfl,rfl,rfl⟩:=h;simp only [rG,Option.getD_none,a7,ew];exact MK _ _ _ _ _ hl
     · cases h
 | some p =>
   simp only [look] at h;split at h
   · rename_i a' z l i r hv;split at h
     · rename_i t ht;split at h
       · rename_i hl;simp only [aa,ae] at h;obtain ⟨rfl,rfl,rfl⟩:=h;simp only [rG,Option.getD_some];rw [C61 ob p hv i r ht];exact MK _ _ _ _ _ hl
       · cases h
     · cases h
   · cases h
theorem MM {ob:Option (Obj α)}{p:List Nat}{a:α}{z:Nat}{l:List (T α)}(h:jG ob p=some (a,z,l)) :
 (p=[]∧ob=some (.vec a z l))∨∃ n,ew ob p=some (.vec a z l n):=by
 have via:(match ew ob p with | some (.vec a z l _)=>some (a,z,l) | _=>none)=some (a,z,l)→∃ n,ew ob p=some (.vec a z l n):=by
  intro hh;cases hs:ew ob p with
  | none=>rw [hs] at hh;cases hh
  | some t =>
    rw [hs] at hh;cases t<;>simp only [aa,ae,reduceCtorEq] at hh;obtain ⟨rfl,rfl,rfl⟩:=hh;exact ⟨_,rfl⟩
 cases ob with
 | none=>exact .inr (via (by cases p<;>simp [jG,ew] at h))
 | some o =>
   cases o with
   | vec a' z' l' =>
     cases p with
     | nil =>
       simp only [jG,aa,ae] at h;obtain ⟨rfl,rfl,rfl⟩:=h;exact .inl ⟨rfl,rfl⟩
     | cons i r=>exact .inr (via h)
   | cell a' t=>exact .inr (via h)
   | mp a' ks l'=>exact .inr (via h)
   | gone=>exact .inr (via h)
theorem sR {ob:Option (Obj α)}{p:List Nat}{a:α}{z:Nat}{l:List (T α)}(h:jG ob p=some (a,z,l)):fq ob (some p)=some (a,some z):=by
 cases ob with
 | none=>cases p<;>simp [jG,ew] at h
 | some o =>
   cases o with
   | vec a' z' l' =>
     cases p with
     | nil =>
       simp only [jG,aa,ae] at h;obtain ⟨rfl,rfl,rfl⟩:=h;rfl
     | cons j q =>
       simp only [jG] at h;split at h
       · rename_i hs;simp only [aa,ae] at h;obtain ⟨rfl,rfl,rfl⟩:=h;simp only [fq,hs]
       · cases h
   | mp a' ks l' =>
     cases p with
     | nil=>simp [jG,ew] at h
     | cons j q =>
       simp only [jG] at h;split at h
       · rename_i hs;simp only [aa,ae] at h;obtain ⟨rfl,rfl,rfl⟩:=h;simp only [fq,hs]
       · cases h
   | cell a' t' =>
     simp only [jG] at h;split at h
     · rename_i hs;simp only [aa,ae] at h;obtain ⟨rfl,rfl,rfl⟩:=h;simp only [fq,hs]
     · cases h
   | gone =>
     simp only [jG] at h;split at h
     · rename_i hs;simp only [aa,ae] at h;obtain ⟨rfl,rfl,rfl⟩:=h;simp only [fq,hs]
     · cases h
theorem Gj {ob:Option (Obj α)}{np:Option (List Nat)}{rp:List Nat}{u:T α}{a:α}{o:Nat}(h:look ob np rp=some (u,a,o)):∃ z,fq ob np=some (a,z):=by
 cases np with
 | none =>
   cases ob with
   | none=>simp [look] at h
   | some ob =>
     cases ob<;>simp only [look,reduceCtorEq] at h;split at h
     · simp only [aa,ae] at h;obtain ⟨rfl,rfl,rfl⟩:=h;exact ⟨none,rfl⟩
     · cases h
 | some p =>
   simp only [look] at h;split at h
   · rename_i a' z l i r hv;split at h
     · split at h
       · simp only [aa,ae] at h;obtain ⟨rfl,rfl,rfl⟩:=h;exact ⟨some z,sR hv⟩
       · cases h
     · cases h
   · cases h
end
section
variable {w:World}{A:Nat→Prop}{E:dV An}{nx:dv}
theorem cK.get:∀ {l:List (T An)} {b o i:Nat} {t:T An},cK w A E nx l b o→l[i]?=some t→TAt w A E nx t b (o+T.dm (l.take i))
 | [],b,o,i,t,_,h=>by simp at h
 | x::r,b,o,0,t,k,h=>by simp only [cK] at k;simp at h;subst h;simpa [T.dm] using k.1
 | x::r,b,o,i+1,t,k,h=>by
   simp only [cK] at k;simp only [bK] at h
   have:=cK.get k.2 h
   rwa [bV,T.dm,← bX]
theorem AG {α:Type}{z:Nat}:∀ {l:List (T α)} {i:Nat},(∀ t∈l,t.cs=z)→i≤l.length→T.dm (l.take i)=i*z
 | _,0,_,_=>by simp [T.dm]
 | [],i+1,_,h=>by simp at h
 | x::r,i+1,h,hi=>by
   rw [bV,T.dm,h x (by simp),AG (fun t ht=>h t (by simp [ht])) (by simpa using hi),dA,iz]
theorem cK.elem {l:List (T An)}{b i z:Nat}{t:T An}(k:cK w A E nx l b 0)(hz:∀ t∈l,t.cs=z)(h:l[i]?=some t):TAt w A E nx t b (i*z):=by
 have:=k.get h
 rwa [Nat.zero_add,AG hz (Nat.le_of_lt (aL.1 h).1)] at this
theorem MN:∀ (p:List Nat) (t u:T An) (b o o':Nat),lX t p o=some (u,o')→TAt w A E nx t b o→TAt w A E nx u b o'
 | [],t,u,b,o,o',h,k=>by
   simp only [lX,aa,ae] at h;obtain ⟨rfl,rfl⟩:=h;exact k
 | i::r,.p v,u,b,o,o',h,k=>by
   cases v<;>simp only [lX,reduceCtorEq] at h;rename_i l;split at h
   · rename_i v hv;refine MN r _ u b _ o' h ?_;simp only [TAt,ed] at k ⊢;obtain ⟨cs,k1,k2⟩:=k;obtain ⟨p,c,q,rfl,hp,hc⟩:=k1.get hv;refine ⟨c,hc,?_⟩;rw [← hp];exact (Row.append.1 (Row.append.1 k2).1).2
   · cases h
 | i::r,.m v,u,b,o,o',h,_=>by simp [lX] at h
 | i::r,.agg l,u,b,o,o',h,k=>by
   simp only [lX] at h;split at h
   · rename_i t ht;simp only [TAt] at k;exact MN r _ u b _ o' h (k.get ht)
   · cases h
 | i::r,.vec a z l n,u,b,o,o',h,_=>by simp [lX] at h
 | i::r,.mp a ks l,u,b,o,o',h,_=>by simp [lX] at h
 | i::r,.hole n,u,b,o,o',h,_=>by simp [lX] at h
theorem Ip:∀ (p:List Nat) (t u:T An) (b o:Nat),c6 t p=some u→TAt w A E nx t b o→∃ b' o',TAt w A E nx u b' o'∧(b'=b∨b'∈t.blk)
 | [],t,u,b,o,h,k=>by
   simp only [c6,aa] at h;subst h;exact ⟨b,o,k,.inl rfl⟩
 | i::r,.p v,u,b,o,h,k=>by
   cases v<;>simp only [c6,reduceCtorEq] at h;rename_i l;split at h
   · rename_i v hv
     have:TAt w A E nx (.p v) b (o+PV.dm (l.take i)):=by
      simp only [TAt,ed] at k ⊢;obtain ⟨cs,k1,k2⟩:=k;obtain ⟨p,c,q,rfl,hp,hc⟩:=k1.get hv;refine ⟨c,hc,?_⟩;rw [← hp];exact (Row.append.1 (Row.append.1 k2).1).2
     obtain ⟨b',o',h1,h2⟩:=Ip r (.p v) u b _ h this;exact ⟨b',o',h1,.inl (h2.resolve_right (by simp [T.blk]))⟩
   · cases h
 | i::r,.m v,u,b,o,h,_=>by simp [c6] at h
 | i::r,.agg l,u,b,o,h,k=>by
   simp only [c6] at h;split at h
   · rename_i t ht;simp only [TAt] at k;obtain ⟨b',o',h1,h2⟩:=Ip r t u b _ h (k.get ht);refine ⟨b',o',h1,h2.imp id fun hb=>?_⟩
     simp only [T.blk];have key:∀ {l:List (T An)} {i:Nat},l[i]?=some t→b'∈T.b9 l:=by
      intro l
      induction l with
      | nil=>intro i h;simp at h
      | cons x q ih =>
        intro i h;cases i with
        | zero=>simp at h;subst h;simp [T.b9,hb]
        | succ i=>simp at h;simp [T.b9,ih h]
     exact key ht
   · cases h
 | i::r,.vec a z l n,u,b,o,h,k=>by
   simp only [c6] at h;split at h
   · rename_i t ht;simp only [TAt] at k;obtain ⟨p,cap,_,_,_,k4⟩:=k;cases hb:a.b with
     | none=>simp only [hb] at k4;rw [k4.1] at ht;simp at ht
     | some b0 =>
       simp only [hb] at k4;obtain ⟨b',o',h1,h2⟩:=Ip r t u b0 _ h (k4.2.2.2.elem k4.2.2.1 ht);refine ⟨b',o',h1,.inr ?_⟩;simp only [T.blk,hb,cp,aS,a7,aM];refine h2.imp id fun hb=>?_
       have key:∀ {l:List (T An)} {i:Nat},l[i]?=some t→b'∈T.b9 l:=by
        intro l
        induction l with
        | nil=>intro i h;simp at h
        | cons x q ih =>
          intro i h;cases i with
          | zero=>simp at h;subst h;simp [T.b9,hb]
          | succ i=>simp at h;simp [T.b9,ih h]
       exact key ht
   · cases h
 | i::r,.mp a ks l,u,b,o,_,k=>by simp only [TAt] at k
 | i::r,.hole n,u,b,o,h,_=>by simp [c6] at h
end
end Go.Mid
namespace Go.Mid
open Go.RowKit
section
variable {w:World}{A:Nat→Prop}{E:dV An}{nx:dv}{h:cq}
theorem MR.vec (m:MR w A E h nx){id:Nat}{path:List Nat}{g z:Nat}{l:List (T Nat)}(hv:jG (h id) path=some (g,z,l)) :
 ∃ an l',jG (E id) path=some (an,z,l')∧an.g=g∧l=l'.map (T.mapA An.g):=by
 rw [m.er id,XX] at hv;cases hE:jG (E id) path with
 | none=>simp [hE] at hv
 | some x =>
   obtain ⟨an,z',l'⟩:=x;simp only [hE,ar,aa,ae] at hv;obtain ⟨rfl,rfl,rfl⟩:=hv;exact ⟨an,l',rfl,rfl,rfl⟩
theorem MR.look (m:MR w A E h nx){id:Nat}{np:Option (List Nat)}{rp:List Nat}{g o:Nat}{t:T Nat}(hv:look (h id) np rp=some (t,g,o)) :
 ∃ an t',look (E id) np rp=some (t',an,o)∧an.g=g∧t=t'.mapA An.g:=by
 rw [m.er id,D0I] at hv;cases hE:Mid.look (E id) np rp with
 | none=>simp [hE] at hv
 | some x =>
   obtain ⟨t',an,o'⟩:=x;simp only [hE,ar,aa,ae] at hv;obtain ⟨rfl,rfl,rfl⟩:=hv;exact ⟨an,t',rfl,rfl,rfl⟩
theorem MR.sub (m:MR w A E h nx){id:Nat}{p:List Nat}{t:T Nat}(hv:ew (h id) p=some t):∃ t',ew (E id) p=some t'∧t=t'.mapA An.g:=by
 rw [m.er id,XW] at hv;cases hE:ew (E id) p with
 | none=>simp [hE] at hv
 | some t'=>simp only [hE,ar,aa] at hv;exact ⟨t',rfl,hv.symm⟩
theorem MR.uc (m:MR w A E h nx){id:Nat}{path:List Nat}{an:An}{z:Nat}{l:List (T An)}(hv:jG (E id) path=some (an,z,l)):VB w A E nx an z l:=by
 have key:∀ {o:Obj An} {n:Nat},E id=some o→ew (some o) path=some (.vec an z l n)→VB w A E nx an z l:=by
  intro o n ho hs;have lh:=m.at_ id o ho;have fin:∀ {b o':Nat},TAt w A E nx (.vec an z l n) b o'→VB w A E nx an z l:=by
   intro b o' k;simp only [TAt] at k;obtain ⟨_,_,_,_,_,k⟩:=k;simp only [VB];exact k
  cases o with
  | cell a t =>
    simp only [OAt] at lh;obtain ⟨b,_,_,k⟩:=lh;simp only [ew] at hs;obtain ⟨b',o',k',_⟩:=Ip _ _ _ _ _ hs k;exact fin k'
  | vec a z' l' =>
    cases path with
    | nil=>simp [ew] at hs
    | cons i r =>
      simp only [ew] at hs;split at hs
      · rename_i t ht;simp only [OAt,VB] at lh;cases hb:a.b with
        | none=>simp only [hb] at lh;rw [lh.1] at ht;simp at ht
        | some b =>
          simp only [hb] at lh;obtain ⟨b',o',k',_⟩:=Ip _ _ _ _ _ hs (lh.2.2.2.elem lh.2.2.1 ht);exact fin k'
      · cases hs
  | mp=>simp only [OAt] at lh
  | gone=>cases path<;>simp [ew] at hs
 cases ho:E id with
 | none=>rw [ho] at hv;cases path<;>simp [jG,ew] at hv
 | some o =>
   rw [ho] at hv;rcases MM hv with ⟨rfl,he⟩ | ⟨n,hs⟩
   · cases he
     have:=m.at_ id _ ho
     simpa only [OAt] using this
   · exact key ho hs
theorem MR.sS (m:MR w A E h nx){id:Nat}{np:Option (List Nat)}{rp:List Nat}{an:An}{o:Nat}{t:T An}(hv:Mid.look (E id) np rp=some (t,an,o)) :
 ∃ b,an.b=some b∧TAt w A E nx t b o:=by
 cases np with
 | none =>
   cases ho:E id with
   | none=>rw [ho] at hv;simp [Mid.look] at hv
   | some ob =>
     rw [ho] at hv;cases ob<;>simp only [Mid.look,reduceCtorEq] at hv;rename_i a t0;split at hv
     · rename_i u o' hl;simp only [aa,ae] at hv;obtain ⟨rfl,rfl,rfl⟩:=hv
       have:=m.at_ id _ ho
       simp only [OAt] at this;obtain ⟨b,hb,_,k⟩:=this;exact ⟨b,hb,MN _ _ _ _ _ _ hl k⟩
     · cases hv
 | some p =>
   simp only [Mid.look] at hv;split at hv
   · rename_i a z l i r iT;split at hv
     · rename_i t0 AH;split at hv
       · rename_i u o' hl;simp only [aa,ae] at hv;obtain ⟨rfl,rfl,rfl⟩:=hv;have k:=m.uc iT;simp only [VB] at k;cases hb:a.b with
         | none=>simp only [hb] at k;rw [k.1] at AH;simp at AH
         | some b =>
           simp only [hb] at k;exact ⟨b,rfl,MN _ _ _ _ _ _ hl (k.2.2.2.elem k.2.2.1 AH)⟩
       · cases hv
     · cases hv
   · cases hv
theorem Bz:∀ (p:List Nat) (t u:T An),c6 t p=some u→t.st nx→u.st nx
 | [],t,u,h,k=>by simp only [c6,aa] at h;subst h;exact k
 | i::r,.p v,u,h,k=>by
   cases v<;>simp only [c6,reduceCtorEq] at h;split at h
   · rename_i v hv;exact Bz r (.p v) u h trivial
   · cases h
 | i::r,.m v,u,h,_=>by simp [c6] at h
 | i::r,.agg l,u,h,k=>by
   simp only [c6] at h;split at h
   · rename_i t ht;simp only [T.st] at k;have key:∀ {l:List (T An)} {i:Nat},T.ku nx l→l[i]?=some t→t.st nx:=by
      intro l
      induction l with
      | nil=>intro i _ h;simp at h
      | cons x q ih =>
        intro i k h;simp only [T.ku] at k;cases i with
        | zero=>simp at h;subst h;exact k.1
        | succ i=>simp at h;exact ih k.2 h
     exact Bz r t u h (key k ht)
   · cases h
 | i::r,.vec a z l n,u,h,k=>by
   simp only [c6] at h;split at h
   · rename_i t ht;simp only [T.st] at k;have key:∀ {l:List (T An)} {i:Nat},T.ku nx l→l[i]?=some t→t.st nx:=by
      intro l
      induction l with
      | nil=>intro i _ h;simp at h
      | cons x q ih =>
        intro i k h;simp only [T.ku] at k;cases i with
        | zero=>simp at h;subst h;exact k.1
        | succ i=>simp at h;exact ih k.2 h
     exact Bz r t u h (key k.2 ht)
   · cases h
 | i::r,.mp a ks l,u,h,k=>by
   simp only [c6] at h;split at h
   · rename_i t ht;simp only [T.st] at k;have key:∀ {l:List (T An)} {i:Nat},T.ku nx l→l[i]?=some t→t.st nx:=by
      intro l
      induction l with
      | nil=>intro i _ h;simp at h
      | cons x q ih =>
        intro i k h;simp only [T.ku] at k;cases i with
        | zero=>simp at h;subst h;exact k.1
        | succ i=>simp at h;exact ih k.2 h
     exact Bz r t u h (key k.2 ht)
   · cases h
 | i::r,.hole n,u,h,_=>by simp [c6] at h
theorem T.pL {l:List (T An)}{i:Nat}{t:T An}(k:T.ku nx l)(h:l[i]?=some t):t.st nx:=by
 induction l generalizing i with
 | nil=>simp at h
 | cons x q ih =>
   simp only [T.ku] at k;cases i with
   | zero=>simp at h;subst h;exact k.1
   | succ i=>simp at h;exact ih k.2 h
theorem MR.ud (m:MR w A E h nx){id:Nat}{p:List Nat}{t:T An}(hs:ew (E id) p=some t):t.st nx:=by
 cases ho:E id with
 | none=>rw [ho] at hs;cases p<;>simp [ew] at hs
 | some o =>
   rw [ho] at hs
   have:=m.st id o ho
   cases o with
   | cell a t0=>simp only [ew] at hs;simp only [Obj.st] at this;exact Bz _ _ _ hs this.2
   | vec a z l =>
     cases p with
     | nil=>simp [ew] at hs
     | cons i r =>
       simp only [ew] at hs;simp only [Obj.st] at this;split at hs
       · rename_i t0 AH;exact Bz _ _ _ hs (T.pL this.2 AH)
       · cases hs
   | mp a ks l =>
     cases p with
     | nil=>simp [ew] at hs
     | cons i r =>
       simp only [ew] at hs;simp only [Obj.st] at this;split at hs
       · rename_i t0 AH;exact Bz _ _ _ hs (T.pL this.2 AH)
       · cases hs
   | gone=>cases p<;>simp [ew] at hs
theorem XZ {c:Array Value}(h:(oN c).cells=#[oN c]):False:=by
 simp only [dp] at h;have hm:oN c∈c:=by
  have:oN c∈#[oN c]:=by simp
  rw [← h] at this;exact this
 have:=Array.sizeOf_lt_of_mem hm
 simp at this;omega
theorem QW {b o:Nat}:∀ (n:Nat),(∀ j,j<n→∃ v,w.cell? ⟨b,o+j,none⟩=some v)→∃ cs:List Value,cs.length=n∧Row w b o cs
 | 0,_=>⟨[],rfl,Row.nil⟩
 | n+1,k=>by
   obtain ⟨cs,h1,h2⟩:=QW n (fun j hj=>k j (by omega))
   obtain ⟨v,hv⟩:=k n (by omega)
   refine ⟨cs++[v],by simp [h1],Row.append.2 ⟨h2,?_⟩⟩
   rw [h1];exact Row.one.2 hv
def yS (w:World)(A:Nat→Prop)(E:dV An)(nx:dv)(x:MV)(cs:List Value):Prop :=
 cs.length=x.cs∧((∃ n,x=.dead n)∨bT w A E nx x (pk x.isAgg cs)∧(x.isAgg=false→∃ v,cs=[v]∧v.cells=#[v]))
theorem yS.val {x:MV}{cs:List Value}(k:yS w A E nx x cs):bT w A E nx x (pk x.isAgg cs):=by
 rcases k.2 with ⟨n,rfl⟩ | h
 · simp only [bT]
 · exact h.1
theorem yS.comp {x:MV}{cs:List Value}(k:yS w A E nx x cs):∃ v,v.cells.toList=cs∧v.cells.size=x.cs∧(∀ c,v=.agg c→x.isAgg=true∨∃ n,x=.dead n)∧bT w A E nx x v:=by
 rcases k.2 with ⟨n,rfl⟩ | ⟨h1,h2⟩
 · exact ⟨.agg cs.toArray,by simp [dp],by simpa [dp,MV.cs] using k.1,fun c _=>.inr ⟨n,rfl⟩,by simp only [bT]⟩
 · cases hx:x.isAgg with
   | true =>
     refine ⟨.agg cs.toArray,by simp [dp],by simpa [dp] using k.1,fun c _=>.inl rfl,?_⟩
     simpa [hx,pk] using h1
   | false =>
     obtain ⟨v,rfl,hv⟩:=h2 hx;refine ⟨v,by simp [hv],by simpa [hv] using k.1,?_,?_⟩
     · rintro c rfl;exact (XZ hv).elim
     · simpa [hx,pk] using h1
theorem CT:∀ {l:List MV} {vs:List PV},pF l=some vs→l=vs.map .p
 | [],vs,h=>by simp only [pF] at h;cases h;rfl
 | x::r,vs,h=>by
   cases x<;>simp only [pF,reduceCtorEq] at h;split at h
   · rename_i l hl;cases h;simp [CT hl]
   · cases h
theorem QX:∀ {vs:List PV} {cs:List Value},ef w A E nx (vs.map .p) cs→cU w A vs cs
 | [],cs,h=>by simpa only [cr,ef,cU] using h
 | x::r,cs,h=>by
   simp only [aH,ef] at h;obtain ⟨v,d,rfl,h1,h2,h3,h4⟩:=h;simp only [cU];simp only [bT,pe] at h3;obtain ⟨c,h5,rfl⟩:=h3;refine ⟨c,d,?_,h5,QX h4⟩;rw [h5.m5]
theorem yT:∀ {vs:List PV} {l:List Value},dh w A E nx (vs.map .p) l↔kU w A vs l
 | [],l=>by simp only [cr,dh,kU]
 | x::r,l=>by
   simp only [aH,dh,kU,bT,pe];constructor
   · rintro ⟨v,d,rfl,⟨c,h1,rfl⟩,h2⟩;exact ⟨c,d,rfl,h1,yT.1 h2⟩
   · rintro ⟨c,d,rfl,h1,h2⟩;exact ⟨_,d,rfl,⟨c,h1,rfl⟩,yT.2 h2⟩
theorem MO {l:List MV}{cs:List Value}(h:ef w A E nx l cs):bT w A E nx (uO l) (.agg cs.toArray):=by
 unfold uO;cases ha:pF l with
 | none=>simp only [bT];exact ⟨cs,rfl,h⟩
 | some vs =>
   rw [CT ha] at h;exact MG.2 ⟨cs,rfl,QX h⟩
theorem QY (l:List MV):(uO l).cs=MV.dm l∧(uO l).isAgg=true:=by
 unfold uO;cases ha:pF l with
 | none=>exact ⟨rfl,rfl⟩
 | some vs =>
   rw [CT ha];refine ⟨?_,rfl⟩;simp only [MV.cs,PV.cs];clear ha
   induction vs with
   | nil=>rfl
   | cons x r ih=>simp [PV.dm,MV.dm,MV.cs,ih]
mutual
theorem QZ (m:MR w A E h nx){id:Nat}:∀ (t:T An) (path:List Nat) (b o:Nat),ew (E id) path=some t→TAt w A E nx t b o →
 ∃ cs,Row w b o cs∧yS w A E nx (vk id path (t.mapA An.g)) cs∧cs.length=t.cs
 | .p v,path,b,o,_,k=>by
   simp only [TAt] at k;obtain ⟨cs,h1,h2⟩:=k;refine ⟨cs,h2,⟨by simpa [T.mapA,vk,MV.cs] using h1.len,.inr ⟨?_,?_⟩⟩,by simpa [T.cs] using h1.len⟩
   · simp only [T.mapA,vk,MV.isAgg,bT,pe];exact ⟨cs,h1,rfl⟩
   · intro hx;obtain ⟨x,rfl,Iq⟩:=h1.one hx;exact ⟨x,rfl,Iq⟩
 | .m v,path,b,o,_,k=>by
   simp only [TAt] at k;obtain ⟨h0,h1,val,h2,h3⟩:=k;refine ⟨[val],h3,⟨by simpa [T.mapA,vk] using h0.symm,?_⟩,by simpa [T.cs] using h0.symm⟩
   simp only [T.mapA,vk];by_cases hd:∃ n,v=.dead n
   · exact .inl hd
   · refine .inr ⟨by simpa [h1,pk] using h2,fun _=>⟨val,rfl,h2.vw h1 (fun n e=>hd ⟨n,e⟩)⟩⟩
 | .agg l,path,b,o,hs,k=>by
   simp only [TAt] at k;obtain ⟨cs,h1,h2,h3⟩:=X0 m l [] path b o (by simpa using hs) k
   simp only [T.mapA,vk];refine ⟨cs,h1,⟨?_,.inr ⟨?_,?_⟩⟩,by simpa [T.cs] using h3⟩
   · rw [(QY _).1]
     have:∀ {l:List MV} {cs:List Value},ef w A E nx l cs→cs.length=MV.dm l:=by
      intro l
      induction l with
      | nil=>intro cs h;simp only [ef] at h;subst h;rfl
      | cons x r ih =>
        intro cs h;simp only [ef] at h;obtain ⟨v,d,rfl,h1,_,_,h4⟩:=h;rw [aQ,eg,h1,ih h4,MV.dm]
     exact this h2
   · rw [(QY _).2];simpa [pk] using MO h2
   · rw [(QY _).2];intro h;cases h
 | .vec an z l n,path,b,o,hs,k=>by
   have hst:=m.ud hs;simp only [T.st] at hst;simp only [TAt] at k;obtain ⟨a,cap,h1,h2,h3,h4⟩:=k;refine ⟨[.slice a n cap],h1,⟨rfl,.inr ⟨?_,fun _=>⟨_,rfl,rfl⟩⟩⟩,rfl⟩
   simp only [T.mapA,vk,MV.isAgg,pk,bT,aF,if_false,lN];refine ⟨hst.1,a,cap,rfl,?_,fun qQ z' hn hg=>?_⟩
   · unfold lg at h3;cases hb:an.b with
     | none=>simp only [hb] at h3;omega
     | some b' =>
       simp only [hb] at h3 h4
       have:=h4.2.1
       have:=h3.1
       omega
   · have:fq (E id) (some path)=some (an,some z):=by
      refine sR (l:=l) ?_;unfold jG;split
      · rename_i he;rw [he] at hs;simp [ew] at hs
      · rw [hs]
     rw [this] at hn;cases hn;exact h3
 | .mp ..,_,_,_,_,k=>by simp only [TAt] at k
 | .hole n,path,b,o,_,k=>by
   simp only [TAt] at k
   have:=QW n k
   obtain ⟨cs,h1,h2⟩:=this;exact ⟨cs,h2,⟨by simpa [T.mapA,vk,MV.cs] using h1,.inl ⟨n,rfl⟩⟩,by simpa [T.cs] using h1⟩
theorem X0 (m:MR w A E h nx){id:Nat}:∀ (l pre:List (T An)) (path:List Nat) (b o:Nat),ew (E id) path=some (.agg (pre++l))→cK w A E nx l b o →
 ∃ cs,Row w b o cs∧ef w A E nx (w9 id path pre.length (T.cQ An.g l)) cs∧cs.length=T.dm l
 | [],pre,path,b,o,_,_=>⟨[],Row.nil,by simp only [T.cQ,w9,ef],rfl⟩
 | t::r,pre,path,b,o,hs,k=>by
   simp only [cK] at k;have ht:ew (E id) (path++[pre.length])=some t:=by
    rw [XY _ _ _ hs];simp [c6]
   obtain ⟨c,h1,h2,h3⟩:=QZ m t (path++[pre.length]) b o ht k.1;obtain ⟨d,h4,h5,h6⟩:=X0 m r (pre++[t]) path b (o+t.cs) (by simpa using hs) k.2
   obtain ⟨v,AJ,vz,hv3,hv4⟩:=h2.comp;refine ⟨c++d,Row.append.2 ⟨h1,by rw [h3];exact h4⟩,?_,by rw [aQ,h3,h6,T.dm]⟩
   simp only [T.cQ,w9,ef];refine ⟨v,d,by rw [AJ],vz,hv3,hv4,?_⟩
   simpa using h5
end
end
end Go.Mid
namespace Go.Mid
open Go.RowKit
theorem ue (b o n:Nat):(⟨b,o,none⟩:Addr).add n=⟨b,o+n,none⟩:=by
 unfold Addr.add;split
 · rename_i h;subst h;rfl
 · rfl
section
variable {w:World}{A:Nat→Prop}{E:dV An}{nx:dv}
theorem fH.get:∀ {l:List PV} {b o z i:Nat} {x:PV},fH w A l b o z→l[i]?=some x→∃ c,ed w A x c∧c.length=z∧Row w b (o+i*z) c
 | [],_,_,_,i,x,_,h=>by simp at h
 | y::r,b,o,z,0,x,k,h=>by
   simp only [fH] at k;obtain ⟨⟨c,h1,h2,h3⟩,_⟩:=k;simp at h;subst h;exact ⟨c,h1,h2,by simpa using h3⟩
 | y::r,b,o,z,i+1,x,k,h=>by
   simp only [fH] at k;simp only [bK] at h;obtain ⟨c,h1,h2,h3⟩:=fH.get k.2 h;refine ⟨c,h1,h2,?_⟩
   rwa [bX,iz z,← dA] at h3
theorem Ir {x:MV}{val:Value}{i:Int}(h:wi x=some i)(hv:bT w A E nx x val):∃ k,val=.int k i:=by
 unfold wi at h;split at h
 · cases h;exact ⟨_,A19.1 hv⟩
 · cases h
theorem Is {x:MV}{val:Value}{n k:Nat}(h:xT n x=some k)(hv:bT w A E nx x val):∃ kd,val=.int kd k∧k<n:=by
 unfold xT at h;split at h
 · rename_i i hi;split at h
   · rename_i hb;cases h;obtain ⟨kd,rfl⟩:=Ir hi hv;exact ⟨kd,by rw [Int.toNat_of_nonneg hb.1],by omega⟩
   · cases h
 · cases h
theorem Gk {x:MV}{val:Value}{n k:Nat}(h:xe n x=some k)(hv:bT w A E nx x val):∃ kd,val=.int kd k∧k≤n:=by
 unfold xe at h;split at h
 · rename_i i hi;split at h
   · rename_i hb;cases h;obtain ⟨kd,rfl⟩:=Ir hi hv;exact ⟨kd,by rw [Int.toNat_of_nonneg hb.1],by omega⟩
   · cases h
 · cases h
end
section
variable {P:Program}{o:Oper}{a:Act}{w:World}{A:Nat→Prop}{E:dV An}{nx:dv}{γ:Nat}{v:MV}{h h':cq}{s:gJ}{K:jC}{d:Option Nat}
 (hs:qd P w A E nx s a) (hm:MR w A E h nx)
theorem MP (w:World){t:TypeId}(hU:qO P t=true){b o:Nat}{cs:List Value}(hc:cs.length=P.cellsOf t)(hr:Row w b o cs)(h1:mU P t=false→cs.length=1) :
 (loadVar t ⟨b,o,none⟩).run P w=.ok (pk (mU P t) cs) w:=by
 have hrow:∀ j v,cs[j]?=some v→w.cell? ((⟨b,o,none⟩:Addr).add j)=some v:=fun j v hj=>by rw [ue];exact hr j v hj
 simp only [loadVar,bx,XL w hU,aV];cases hg:mU P t with
 | true =>
   simp only [if_true,bx,D5 w hU,aV];rw [← hc,run_loadCells_list w _ cs hrow];simp [pk]
 | false =>
   obtain ⟨x,rfl⟩:=List.length_eq_one_iff.1 (h1 hg)
   have:=Row.one.1 hr
   simp [pk,this]
include hs hm
theorem D0J {t:TypeId}{x:Operand}{x':dO}{t0:TypeId}(ho:o.op=.load t x)(hx:fB P t0 x=some x')(hU:qO P t=true)
 (he:cf K γ d s h (.load (mU P t) (P.cellsOf t) x')=some (v,h')):cJ P o a w A E nx γ v h':=by
 have dL:=j0 hs hx;simp only [cf] at he;split at he
 · rename_i u hu;simp only [aa,ae] at he;obtain ⟨rfl,rfl⟩:=he;unfold tT at hu;split at hu
   · rename_i pv hp;split at hu
     · rename_i hc;cases hu;rw [hp] at dL;obtain ⟨b,o',cL,hA,cv,h1,h2⟩:=AD.1 dL;refine cJ.idle (val:=pk (mU P t) cv) ?_ ?_ hm
       · simp only [execOp,ho,cL,Instr.loadAt,jk,bx,bM,aV];rw [MP w hU (by rw [h1.len,hc.1]) h2 (fun hg=>by rw [← hc.2] at hg;obtain ⟨_,rfl,_⟩:=h1.one hg;rfl)]
         rfl
       · simp only [bT,pe];exact ⟨cv,h1,by rw [hc.2]⟩
     · cases hu
   · rename_i id np rp g o' hp;split at hu
     · rename_i t' s' oo hl;simp only at hu;split at hu
       · rename_i hc;obtain ⟨rfl,rfl,fg⟩:=hc;split at hu
         · rename_i hagg;obtain ⟨hagg,rb⟩:=hagg;cases hu;obtain ⟨an,tA,n5,hg,rfl⟩:=hm.look hl;obtain ⟨b,hb,lh⟩:=hm.sS n5;rw [hp] at dL;simp only [bT] at dL;obtain ⟨_,ad,cL,re⟩:=dL;obtain ⟨z,hn⟩:=Gj n5;obtain ⟨b',jt,rfl⟩:=re an z hn hg;rw [hb] at jt;cases jt;obtain ⟨cs,hrow,It,hlen⟩:=QZ hm tA (rG np rp) b oo (ML n5) lh;rw [T.ky] at fg;refine cJ.idle (val:=pk (mU P t) cs) ?_ ?_ hm
           · simp only [execOp,ho,cL,Instr.loadAt,jk,bx,bM,aV];rw [MP w hU (by rw [hlen,fg]) hrow ?_]
             · rfl
             · intro rM;rw [← hagg] at rM;rcases It.2 with ⟨n,hn⟩ | ⟨_,h2⟩
               · rw [hn] at rb;cases rb
               · obtain ⟨x,rfl,_⟩:=h2 rM;rfl
           · rw [← hagg];exact It.val
         · cases hu
       · cases hu
     · cases hu
   · cases hu
 · cases he
omit hs hm in
theorem BA {c:Call}{b:Builtin}(ho:o.op=.call c)(hc:c.callee=.builtin b) :
 (execOp a.eval o).run P w=(builtin b c.argTypes o.type (c.args.map fun | .const _=>true | _=>false) (c.args.map a.eval)).run P w:=by
 simp only [execOp,ho,resolve,hc,bx,bM,aV,invoke];rfl
theorem D2K {x:Operand}{x':dO}{t t0 e:TypeId}{c:Call}(ho:o.op=.call c)(pK:c.callee=.builtin .len)(oX:c.args=#[x])(sB:c.argTypes=#[t])(hx:fB P t0 x=some x')
 (hu:P.underlying t=some (.slice e))
 (he:cf K γ d s h (.len x')=some (v,h')):cJ P o a w A E nx γ v h':=by
 have dL:=j0 hs hx;simp only [cf] at he;split at he
 · rename_i n hn;simp only [aa,ae,wg] at he;obtain ⟨rfl,rfl⟩:=he;have main:∀ p cap,a.eval x=.slice p n cap→cJ P o a w A E nx γ (.p (.int .i64 n)) h:=by
    intro p cap cL;refine cJ.idle (val:=.int .i64 n) ?_ (A19.2 rfl) hm;rw [BA ho pK];simp [builtin,oX,sB,cL,Builtin.len_,a8 hu,goInt]
   unfold yK at hn;split at hn
   · rename_i l hl;cases hn;rw [hl] at dL;obtain ⟨p,cap,cL,_⟩:=vu.1 dL;exact main p cap cL
   · rename_i z hl;cases hn;rw [hl] at dL;simp only [bT] at dL;obtain ⟨p,cL⟩:=dL;exact main p 0 cL
   · rename_i id path off len g hl;cases hn;rw [hl] at dL;simp only [bT] at dL;obtain ⟨_,p,cap,cL,_⟩:=dL;exact main p cap cL
   · cases hn
 · cases he
theorem D0K {x:Operand}{x':dO}{t t0 e:TypeId}{c:Call}(ho:o.op=.call c)(pK:c.callee=.builtin .cap)(oX:c.args=#[x])(sB:c.argTypes=#[t])(hx:fB P t0 x=some x')
 (hu:P.underlying t=some (.slice e))
 (he:cf K γ d s h (.capn x')=some (v,h')):cJ P o a w A E nx γ v h':=by
 have dL:=j0 hs hx;simp only [cf] at he;split at he
 · rename_i z hb;simp only [aa,ae,wg] at he;obtain ⟨rfl,rfl⟩:=he;rw [hb] at dL;simp only [bT] at dL;obtain ⟨p,cL⟩:=dL;refine cJ.idle (val:=.int .i64 (0:Nat)) ?_ (A19.2 rfl) hm;rw [BA ho pK];simp [builtin,oX,sB,cL,Builtin.cap_,a8 hu,goInt]
 · cases he
theorem D0L {x:Operand}{x':dO}{t t0:TypeId}{c:Call}(ho:o.op=.call c)(pK:c.callee=.builtin .len)(oX:c.args=#[x])(sB:c.argTypes=#[t])(hx:fB P t0 x=some x')
 (hu:P.underlying t=some .string)
 (he:cf K γ d s h (.lenS x')=some (v,h')):cJ P o a w A E nx γ v h':=by
 have dL:=j0 hs hx;simp only [cf] at he;split at he
 · rename_i b hb;simp only [aa,ae,wg] at he;obtain ⟨rfl,rfl⟩:=he;rw [hb,AA] at dL;refine cJ.idle (val:=.int .i64 b.size) ?_ (A19.2 rfl) hm;rw [BA ho pK];simp [builtin,oX,sB,dL,Builtin.len_,a8 hu,goInt]
 · cases he
theorem C8U {x ix:Operand}{x' iu:dO}{t t0 t1 e:TypeId}(ho:o.op=.indexAddr t x ix)(hx:fB P t0 x=some x')(AK:fB P t1 ix=some iu)
 (hu:P.underlying t=some (.slice e)) (hz:P.cellsOf e≠0)
 (he:cf K γ d s h (.iaddr (P.cellsOf e) x' iu)=some (v,h')):cJ P o a w A E nx γ v h':=by
 have dL:=j0 hs hx;have yU:=j0 hs AK;simp only [cf] at he;split at he
 · rename_i u nr;simp only [aa,ae] at he;obtain ⟨rfl,rfl⟩:=he;have main:∀ b o' len cap kd (k:Nat),a.eval x=.slice (some ⟨b,o',none⟩) len cap→a.eval ix=.int kd k→k<len→bT w A E nx u (.pointer (some ⟨b,o'+k*P.cellsOf e,none⟩)) →
    cJ P o a w A E nx γ u h:=by
    intro b o' len cap kd k h1 h2 h3 h4;refine cJ.idle ?_ h4 hm;have h5:(k:Int)<(len:Int):=by omega
    simp [execOp,ho,h1,h2,Instr.indexAt,asIntOf,a8 hu,h3,Bx w hz,ue]
   unfold Aw at nr;split at nr
   · rename_i l hl;split at nr
     · rename_i k hk;split at nr
       · rename_i pv xX;split at nr
         · rename_i fg;cases nr;obtain ⟨kd,pM,eC⟩:=Is hk yU;rw [hl] at dL;obtain ⟨p,cap,cL,_,iw⟩:=vu.1 dL;rcases iw with rfl | ⟨b,o',z,rfl,hA,iw⟩
           · simp at xX
           · obtain ⟨c,h1,h2,h3⟩:=iw.get xX
             have:z=P.cellsOf e:=by rw [← h2,h1.len,fg]
             subst this;exact main b o' l.length cap kd k cL pM eC (AD.2 ⟨b,_,rfl,hA,c,h1,h3⟩)
         · cases nr
       · cases nr
     · cases nr
   · rename_i id path off len g hl;split at nr
     · rename_i k hk;split at nr
       · rename_i g' z' l' iT;split at nr
         · rename_i hc;obtain ⟨rfl,rfl⟩:=hc;cases nr;obtain ⟨kd,pM,eC⟩:=Is hk yU;rw [hl] at dL;simp only [bT] at dL;obtain ⟨hg,p,cap,cL,nL,ja⟩:=dL;obtain ⟨an,lA,nA,D8,rfl⟩:=hm.vec iT;have hn:=sR nA;have hh:=ja an _ hn D8;unfold lg at hh;cases hb:an.b with
           | none=>simp only [hb] at hh;omega
           | some b =>
             simp only [hb] at hh;rcases hh with ⟨n7,hh | rfl⟩
             · omega
             · refine main b _ len cap kd k cL pM eC ?_;simp only [bT];refine ⟨by omega,_,rfl,fun qQ z qR rM=>?_⟩
               rw [hn] at qR;cases qR;exact ⟨b,hb,by rw [ir]⟩
         · cases nr
       · cases nr
     · cases nr
   · cases nr
 · cases he
omit hs hm in
theorem Iu (hs:qd P w A E nx s a){n:Nat}{lo hi:Option Operand}{km dN:Option dO}(wk:vq P lo=some km)(xY:vq P hi=some dN){i j:Nat}(he:Bq n (km.map (cR s)) (dN.map (cR s))=some (i,j)) :
 i≤j∧j≤n∧∀ X1 cap,n≤cap→(ej X1 n cap (lo.map a.eval) (hi.map a.eval) none).run P w=.ok (i,j,cap) w:=by
 have opt:∀ {x:Option Operand} {x':Option dO},vq P x=some x'→(x=none∧x'=none)∨∃ y y' t,x=some y∧x'=some y'∧fB P t y=some y':=by
  intro x x' hx;unfold vq at hx;cases x with
  | none=>simp at hx;exact .inl ⟨rfl,hx.symm⟩
  | some y =>
    simp only at hx;split at hx
    · rename_i y' hy;cases hx;exact .inr ⟨y,y',0,rfl,rfl,hy⟩
    · cases hx
 unfold Bq at he;have bd:∀ {x:Option Operand} {x':Option dO} {n m:Nat} {r:Nat},vq P x=some x'→CH n m (x'.map (cR s))=some r→(x=none∧r=m)∨∃ y kd,x=some y∧a.eval y=.int kd r∧r≤n:=by
  intro x x' n m r hx hb;rcases opt hx with ⟨rfl,rfl⟩ | ⟨y,y',t,rfl,rfl,hy⟩
  · simp only [dM,CH,aa] at hb;exact .inl ⟨rfl,hb.symm⟩
  · simp only [ar,CH] at hb;obtain ⟨kd,cL,hle⟩:=Gk hb (j0 hs hy);exact .inr ⟨y,kd,rfl,cL,hle⟩
 split at he
 · rename_i jj h1;split at he
   · rename_i ii h4;simp only [aa,ae] at he;obtain ⟨rfl,rfl⟩:=he;have h3:=bd xY h1;have h6:=bd wk h4;have h2:jj≤n:=by
      rcases h3 with ⟨_,rfl⟩ | ⟨_,_,_,_,h⟩
      · exact au _
      · exact h
     have h5:ii≤jj:=by
      rcases h6 with ⟨_,rfl⟩ | ⟨_,_,_,_,h⟩
      · exact Nat.zero_le _
      · exact h
     refine ⟨h5,h2,fun X1 cap n7=>?_⟩
     have e1:∀ (kd:IntKind) (m y:Nat) (cd:BoundsCode),m≤y→(gp (.int kd m) y cd).run P w=.ok m w:=by
      intro kd m y cd hle
      have:(m:Int)≤(y:Int):=by omega
      simp [gp,asIntOf,this]
     rcases h3 with ⟨rfl,rfl⟩ | ⟨y,kd,rfl,hy,_⟩<;>rcases h6 with ⟨rfl,rfl⟩ | ⟨y2,X2,rfl,hy2,_⟩
     · simp [ej]
     · simp [ej,hy2,e1 X2 ii _ _ h5]
     · simp [ej,hy,e1 kd jj cap _ (by omega)]
     · simp [ej,hy,hy2,e1 kd jj cap _ (by omega),e1 X2 ii _ _ h5]
   · cases he
 · cases he
theorem C62 {x:Operand}{x':dO}{lo hi:Option Operand}{km dN:Option dO}{t t0:TypeId}(ho:o.op=.slice t x lo hi none)(hx:fB P t0 x=some x')
 (wk:vq P lo=some km) (xY:vq P hi=some dN) (hu:P.underlying t=some .string)
 (he:cf K γ d s h (.ny x' km dN)=some (v,h')):cJ P o a w A E nx γ v h':=by
 have dL:=j0 hs hx;simp only [cf] at he;split at he
 · rename_i b hb;split at he
   · rename_i i j gU;simp only [aa,ae] at he;obtain ⟨rfl,rfl⟩:=he;rw [hb,AA] at dL;obtain ⟨_,_,hr⟩:=Iu hs wk xY gU;refine cJ.idle (val:=.string (b.extract i j)) ?_ (AA.2 rfl) hm;simp [execOp,ho,dL,jV,mJ,a8 hu,hr false b.size (au _)]
   · cases he
 · cases he
omit hs hm in
theorem C8V {u:MV}{val:Value}{n:Nat}(hv:bT w A E nx u val)(h:yK u=some n):∃ p cap,val=.slice p n cap∧n≤cap:=by
 unfold yK at h;split at h
 · cases h;obtain ⟨p,cap,cL,hc,_⟩:=vu.1 hv;exact ⟨p,cap,cL,hc⟩
 · cases h;simp only [bT] at hv;obtain ⟨p,cL⟩:=hv;exact ⟨p,0,cL,au _⟩
 · cases h;simp only [bT] at hv;obtain ⟨_,p,cap,cL,hc,_⟩:=hv;exact ⟨p,cap,cL,hc⟩
 · cases h
theorem C63 {x lo hi mx:Operand}{x' km dN Q0:dO}{t t0 t1 t2 t3 e:TypeId}(ho:o.op=.slice t x (some lo) (some hi) (some mx))(hx:fB P t0 x=some x')
 (wk:fB P t1 lo=some km) (xY:fB P t2 hi=some dN) (Q1:fB P t3 mx=some Q0) (hu:P.underlying t=some (.slice e)) (hz:P.cellsOf e≠0)
 (he:cf K γ d s h (.slice3 x' km dN Q0)=some (v,h')):cJ P o a w A E nx γ v h':=by
 have dL:=j0 hs hx;simp only [cf] at he;split at he
 · rename_i n hn;split at he
   · rename_i m D9;split at he
     · rename_i b n8;split at he
       · rename_i c pK;simp only [aa,ae] at he;obtain ⟨rfl,rfl⟩:=he;obtain ⟨p,cap,cL,n7⟩:=C8V dL hn;obtain ⟨k1,v1,l1⟩:=Gk D9 (j0 hs Q1);obtain ⟨k2,v2,l2⟩:=Gk n8 (j0 hs xY);obtain ⟨k3,v3,l3⟩:=Gk pK (j0 hs wk);have e1:∀ (kd:IntKind) (m y:Nat) (cd:BoundsCode),m≤y→(gp (.int kd m) y cd).run P w=.ok m w:=by
          intro kd m y cd hle
          have:(m:Int)≤(y:Int):=by omega
          simp [gp,asIntOf,this]
         refine cJ.idle (val:=.slice (if m=c then p else p.map (·.add (c*P.cellsOf e))) (b-c) (m-c)) ?_ (by simp only [bT]) hm
         simp [execOp,ho,cL,jV,mJ,a8 hu,ej,v1,v2,v3,e1 k1 m cap _ (by omega),e1 k2 b m _ l2,e1 k3 c b _ l3,Bx w hz]
       · cases he
     · cases he
   · cases he
 · cases he
omit hs hm in
theorem cU.el:∀ {l:List PV} {cs:List Value} {b o z:Nat},cU w A l cs→Row w b o cs→l.all (fun v=>v.cs==z)=true→fH w A l b o z
 | [],_,_,_,_,_,_,_=>by simp only [fH]
 | x::r,cs,b,o,z,h,hr,hz=>by
   simp only [cU] at h;obtain ⟨c,d,rfl,h1,h2⟩:=h;simp only [dw,ak,beq_iff_eq] at hz;obtain ⟨r1,r2⟩:=Row.append.1 hr;simp only [fH];have hc:c.length=z:=by rw [h1.len,hz.1]
   exact ⟨⟨c,h1,hc,r1⟩,cU.el h2 (hc ▸ r2) hz.2⟩
omit hs hm in
theorem fH.drop:∀ {l:List PV} {b o' z:Nat} (k:Nat),fH w A l b o' z→fH w A (l.drop k) b (o'+k*z) z
 | l,b,o',z,0,h=>by simpa using h
 | [],b,o',z,k+1,_=>by simp only [List.drop_nil,fH]
 | x::r,b,o',z,k+1,h=>by
   simp only [fH] at h
   have:=fH.drop k h.2
   rw [List.drop_succ_cons,dA,iz (k*z),← bX];exact this
omit hs hm in
theorem fH.take:∀ {l:List PV} {b o' z:Nat} (k:Nat),fH w A l b o' z→fH w A (l.take k) b o' z
 | l,b,o',z,0,h=>by simp only [List.take_zero,fH]
 | [],b,o',z,k+1,_=>by simp only [List.take_nil,fH]
 | x::r,b,o',z,k+1,h=>by
   simp only [fH] at h;rw [bV];simp only [fH];exact ⟨h.1,fH.take k h.2⟩
omit hs hm in
theorem fH.z {l:List PV}{b o' z:Nat}(k:fH w A l b o' z)(eD:l ≠ []){n:Nat}(hz:l.all (fun v=>v.cs==n)=true):z=n:=by
 cases l with
 | nil=>exact absurd rfl eD
 | cons x r =>
   simp only [fH] at k;obtain ⟨⟨c,h1,h2,_⟩,_⟩:=k;simp only [dw,ak,beq_iff_eq] at hz;rw [← h2,h1.len,hz.1]
theorem C8W {x:Operand}{x':dO}{lo hi:Option Operand}{km dN:Option dO}{t t0 e:TypeId}(ho:o.op=.slice t x lo hi none)(hx:fB P t0 x=some x')
 (wk:vq P lo=some km) (xY:vq P hi=some dN) (hu:P.underlying t=some (.slice e)) (hz:P.cellsOf e≠0)
 (he:cf K γ d s h (.slice (P.cellsOf e) x' km dN)=some (v,h')):cJ P o a w A E nx γ v h':=by
 have dL:=j0 hs hx;simp only [cf] at he;split at he
 · rename_i u nr;simp only [aa,ae] at he;obtain ⟨rfl,rfl⟩:=he;have main:∀ p len cap i j,a.eval x=.slice p len cap→Bq len (km.map (cR s)) (dN.map (cR s))=some (i,j)→len≤cap →
    bT w A E nx u (.slice (if cap=i then p else p.map (·.add (i*P.cellsOf e))) (j-i) (cap-i))→cJ P o a w A E nx γ u h:=by
    intro p len cap i j h1 h2 h3 h4;obtain ⟨_,_,hr⟩:=Iu hs wk xY h2;refine cJ.idle ?_ h4 hm;simp [execOp,ho,h1,jV,mJ,a8 hu,hr true cap h3,Bx w hz]
   unfold Av at nr;split at nr
   · rename_i l hl;split at nr
     · rename_i i j gU;split at nr
       · rename_i ko;cases nr;rw [hl] at dL;obtain ⟨p,cap,cL,nL,iw⟩:=vu.1 dL;obtain ⟨yV,hj1,_⟩:=Iu hs wk xY gU;refine main p l.length cap i j cL gU nL ?_;have hlen:((l.take j).drop i).length=j-i:=by rw [List.length_drop,List.length_take,Nat.min_eq_left hj1]
         refine vu.2 ⟨_,_,by rw [hlen],by rw [hlen];omega,?_⟩
         by_cases eD:j=i
         · left;exact List.eq_nil_of_length_eq_zero (by rw [hlen];omega)
         · right;rcases iw with rfl | ⟨b,o',z,rfl,hA,iw⟩
           · simp at hj1;omega
           · have Iv:=iw.z (by rintro rfl;simp at hj1;omega) ko
             subst Iv;refine ⟨b,o'+i*P.cellsOf e,P.cellsOf e,?_,hA,fH.drop i (fH.take j iw)⟩;rw [if_neg (by omega)]
             simp [ue]
       · cases nr
     · cases nr
   · rename_i z hl;split at nr
     · rename_i ij gU;cases nr;rw [hl] at dL;simp only [bT] at dL;obtain ⟨p,cL⟩:=dL;obtain ⟨i,j⟩:=ij;obtain ⟨yV,hj1,_⟩:=Iu hs wk xY gU;refine main p 0 0 i j cL gU (au _) ?_
       have:i=0:=by omega
       have:j=0:=by omega
       subst i;subst j;simp only [bT];exact ⟨_,rfl⟩
     · cases nr
   · rename_i id path off len g hl;split at nr
     · rename_i i j g' z' l' gU iT;split at nr
       · rename_i hc;obtain ⟨rfl,rfl⟩:=hc;cases nr;rw [hl] at dL;simp only [bT] at dL;obtain ⟨hg,p,cap,cL,nL,ja⟩:=dL;obtain ⟨yV,hj1,_⟩:=Iu hs wk xY gU;refine main p len cap i j cL gU nL ?_;simp only [bT];refine ⟨hg,_,_,rfl,by omega,fun an z hn Iw=>?_⟩
         obtain ⟨qQ,lA,nA,D8,rfl⟩:=hm.vec iT;have qR:=sR nA;rw [qR] at hn;cases hn;have hh:=ja _ _ qR D8;unfold lg at hh ⊢;cases hb:an.b with
         | none=>simp only [hb] at hh ⊢;omega
         | some b =>
           simp only [hb] at hh ⊢;refine ⟨by omega,?_⟩
           by_cases Gl:cap=i
           · left;omega
           · rcases hh with ⟨n7,hh | rfl⟩
             · left;omega
             · right;rw [if_neg Gl];simp [ue,ir]
       · cases nr
     · cases nr
   · cases nr
 · cases he
theorem C64 {x lo hi:Operand}{x' km dN:dO}{t t0 t1 t2 e:TypeId}(ho:o.op=.slice t x (some lo) (some hi) none)(hx:fB P t0 x=some x')
 (wk:fB P t1 lo=some km) (xY:fB P t2 hi=some dN) (hu:P.underlying t=some (.slice e)) (hz:P.cellsOf e≠0)
 (he:cf K γ d s h (.sliceK (P.cellsOf e) x' km dN)=some (v,h')):cJ P o a w A E nx γ v h':=by
 have dL:=j0 hs hx;simp only [cf] at he;split at he
 · rename_i id path off len g hl;split at he
   · rename_i g' z' l' iT;split at he
     · rename_i hc;obtain ⟨rfl,rfl,lK⟩:=hc;split at he
       · rename_i j hj1;split at he
         · rename_i i yV;simp only [aa,ae] at he;obtain ⟨rfl,rfl⟩:=he;rw [hl] at dL;simp only [bT] at dL;obtain ⟨hg,p,cap,cL,nL,ja⟩:=dL;obtain ⟨k2,v2,l2⟩:=Gk hj1 (j0 hs xY);obtain ⟨k3,v3,l3⟩:=Gk yV (j0 hs wk);obtain ⟨an,lA,nA,D8,rfl⟩:=hm.vec iT;have qR:=sR nA;have hh:=ja _ _ qR D8;have hB:=hm.uc nA;have hjc:j≤cap:=by
            rw [List.length_map] at l2 lK;unfold lg at hh;unfold VB at hB;cases hb:an.b with
            | none =>
              simp only [hb] at hh hB;obtain ⟨rfl,_⟩:=hB;simp at l2;omega
            | some b =>
              simp only [hb] at hh hB;omega
           have e1:∀ (kd:IntKind) (m y:Nat) (cd:BoundsCode),m≤y→(gp (.int kd m) y cd).run P w=.ok m w:=by
            intro kd m y cd hle
            have:(m:Int)≤(y:Int):=by omega
            simp [gp,asIntOf,this]
           refine cJ.idle (val:=.slice (if cap=i then p else p.map (·.add (i*P.cellsOf e))) (j-i) (cap-i)) ?_ ?_ hm
           · simp [execOp,ho,cL,jV,mJ,a8 hu,ej,v2,v3,e1 k2 j cap _ hjc,e1 k3 i j _ l3,Bx w hz]
           · simp only [bT];refine ⟨hg,_,_,rfl,by omega,fun X3 z hn Iw=>?_⟩
             rw [qR] at hn;cases hn;unfold lg at hh ⊢;cases hb:an.b with
             | none=>simp only [hb] at hh ⊢;omega
             | some b =>
               simp only [hb] at hh ⊢;refine ⟨by omega,?_⟩
               by_cases Gl:cap=i
               · left;omega
               · rcases hh with ⟨n7,hh | rfl⟩
                 · left;omega
                 · right;rw [if_neg Gl];simp [ue,ir]
         · cases he
       · cases he
     · cases he
   · cases he
 · cases he
theorem D2L {x:Operand}{x':dO}{t t0 e:TypeId}{n:Nat}(ho:o.op=.slice t x none none none)(hx:fB P t0 x=some x')
 (hu:P.underlying t=some (.array n e)) (hz:P.cellsOf e≠0)
 (he:cf K γ d s h (.Bn n (P.cellsOf e) x')=some (v,h')):cJ P o a w A E nx γ v h':=by
 have dL:=j0 hs hx;simp only [cf] at he;split at he
 · rename_i l hl;split at he
   · rename_i hc;simp only [aa,ae] at he;obtain ⟨rfl,rfl⟩:=he;rw [hl] at dL;obtain ⟨b,o',cL,hA,cv,AF,hrow⟩:=AD.1 dL;simp only [ed] at AF;refine cJ.idle (val:=.slice (some (if n=0 then (⟨b,o',none⟩:Addr) else (⟨b,o',none⟩:Addr).add (0*P.cellsOf e))) (n-0) (n-0)) ?_ ?_ hm
     · simp [execOp,ho,cL,jV,a8 hu,ej,jk,Bx w hz]
     · refine vu.2 ⟨_,_,by rw [hc.1,Nat.sub_zero],by rw [hc.1];omega,?_⟩
       right;refine ⟨b,o',P.cellsOf e,?_,hA,cU.el AF hrow hc.2⟩;split<;>simp [ue]
   · cases he
 · cases he
theorem D0M {x:Operand}{x':dO}{t t0 e:TypeId}(ho:o.op=.slice t x none (some (.const (.int .i64 0))) (some (.const (.int .i64 0))))(hx:fB P t0 x=some x')
 (hu:P.underlying t=some (.slice e)) (hz:P.cellsOf e≠0)
 (he:cf K γ d s h (.cut0 (P.cellsOf e) x')=some (v,h')):cJ P o a w A E nx γ v h':=by
 have dL:=j0 hs hx;have main:∀ p len cap,a.eval x=.slice p len cap→cJ P o a w A E nx γ (.nil (P.cellsOf e)) h:=by
  intro p len cap cL;refine cJ.idle (val:=.slice (if (0:Nat)=0 then p else p) 0 0) ?_ (by simp only [bT];exact ⟨_,rfl⟩) hm
  simp [execOp,ho,cL,jV,mJ,a8 hu,Bx w hz,ej,gp,asIntOf,D7]
 simp only [cf] at he;split at he<;>simp only [aa,ae,reduceCtorEq] at he<;>try contradiction
 · obtain ⟨rfl,rfl⟩:=he;rename_i l hl;rw [hl] at dL;obtain ⟨p,cap,cL,_⟩:=vu.1 dL;exact main p _ cap cL
 · obtain ⟨rfl,rfl⟩:=he;rename_i hl;rw [hl] at dL;simp only [bT] at dL;obtain ⟨_,p,cap,cL,_⟩:=dL;exact main p _ cap cL
 · obtain ⟨rfl,rfl⟩:=he;rename_i hl;rw [hl] at dL;simp only [bT] at dL;obtain ⟨p,cL⟩:=dL;exact main p _ 0 cL
theorem C8X {x:Operand}{x':dO}{t t0:TypeId}{i:Nat}{fs:Array Field}{fd:Field}(ho:o.op=.fieldAddr t x i)(hx:fB P t0 x=some x')
 (hu:P.underlying t=some (.struct fs)) (hf:fs[i]?=some fd) (hz:P.cellsOf fd.type≠0)
 (he:cf K γ d s h (.faddr x' i fd.offset)=some (v,h')):cJ P o a w A E nx γ v h':=by
 have dL:=j0 hs hx;have main:∀ p u,a.eval x=.pointer (some p)→bT w A E nx u (.pointer (some (p.add fd.offset)))→cJ P o a w A E nx γ u h:=by
  intro p u cL hk;refine cJ.idle ?_ hk hm;simp [execOp,ho,cL,Instr.fieldAt,a8 hu,hf,jk,fieldPlace,Bx w hz,hz]
 simp only [cf] at he;split at he
 · rename_i l hl;split at he
   · rename_i pv xX;split at he
     · rename_i lK;simp only [aa,ae] at he;obtain ⟨rfl,rfl⟩:=he;rw [hl] at dL;obtain ⟨b,o',cL,hA,cv,h1,h2⟩:=AD.1 dL;simp only [ed] at h1;obtain ⟨p,c,q,rfl,hp,hc⟩:=h1.get xX;refine main _ _ cL (AD.2 ⟨b,o'+fd.offset,by rw [ue],hA,c,hc,?_⟩)
       rw [← lK,← hp];exact (Row.append.1 (Row.append.1 h2).1).2
     · cases he
   · cases he
 · rename_i id np rp g o0 hl;simp only [aa,ae] at he;obtain ⟨rfl,rfl⟩:=he;rw [hl] at dL;simp only [bT] at dL;obtain ⟨hg,p,cL,re⟩:=dL;refine main p _ cL ?_;simp only [bT];refine ⟨hg,_,rfl,fun an z hn Iw=>?_⟩
   obtain ⟨b,hb,rfl⟩:=re an z hn Iw;exact ⟨b,hb,by rw [ue]⟩
 · cases he
theorem C65 {x ix:Operand}{x' iu:dO}{t t0 t1 e:TypeId}{n:Nat}(ho:o.op=.indexAddr t x ix)(hx:fB P t0 x=some x')(AK:fB P t1 ix=some iu)
 (hu:P.underlying t=some (.array n e)) (hz:P.cellsOf e≠0)
 (he:cf K γ d s h (.nz n (P.cellsOf e) x' iu)=some (v,h')):cJ P o a w A E nx γ v h':=by
 have dL:=j0 hs hx;have yU:=j0 hs AK;simp only [cf] at he;split at he
 · rename_i k hk;obtain ⟨kd,pM,eC⟩:=Is hk yU;have main:∀ p u,a.eval x=.pointer (some p)→bT w A E nx u (.pointer (some (p.add (k*P.cellsOf e))))→cJ P o a w A E nx γ u h:=by
    intro p u cL hk;refine cJ.idle ?_ hk hm;have h5:(k:Int)<(n:Int):=by omega
    simp [execOp,ho,cL,pM,Instr.indexAt,asIntOf,a8 hu,jk,Bx w hz,eC]
   split at he
   · rename_i l hl;split at he
     · rename_i pv xX;split at he
       · rename_i lK;simp only [aa,ae] at he;obtain ⟨rfl,rfl⟩:=he;rw [hl] at dL;obtain ⟨b,o',cL,hA,cv,h1,h2⟩:=AD.1 dL;simp only [ed] at h1;obtain ⟨p,c,q,rfl,hp,hc⟩:=h1.get xX;refine main _ _ cL (AD.2 ⟨b,o'+k*P.cellsOf e,by rw [ue],hA,c,hc,?_⟩)
         rw [← lK,← hp];exact (Row.append.1 (Row.append.1 h2).1).2
       · cases he
     · cases he
   · rename_i id np rp g o0 hl;simp only [aa,ae] at he;obtain ⟨rfl,rfl⟩:=he;rw [hl] at dL;simp only [bT] at dL;obtain ⟨hg,p,cL,re⟩:=dL;refine main p _ cL ?_;simp only [bT];refine ⟨hg,_,rfl,fun an z hn Iw=>?_⟩
     obtain ⟨b,hb,rfl⟩:=re an z hn Iw;exact ⟨b,hb,by rw [ue]⟩
   · cases he
 · cases he
end
end Go.Mid
namespace Go.Mid
open Go.RowKit
section
variable {P:Program}{o:Oper}{a:Act}{w:World}{A:Nat→Prop}{E:dV An}{nx:dv}{γ:Nat}{v:MV}{h h':cq}{s:gJ}{K:jC}{d:Option Nat}
 (hs:qd P w A E nx s a) (hm:MR w A E h nx)
include hs hm
theorem D2M {x:Operand}{x':dO}{t t0:TypeId}{i:Nat}{fs:Array Field}{fd:Field}(ho:o.op=.field t x i)(hx:fB P t0 x=some x')
 (hu:P.underlying t=some (.struct fs)) (hf:fs[i]?=some fd) (hU:qO P fd.type=true)
 (he:cf K γ d s h (.fld (mU P fd.type) (P.cellsOf fd.type) fd.offset x' i)=some (v,h')):cJ P o a w A E nx γ v h':=by
 have dL:=j0 hs hx;have main:∀ (p c q:List Value) u,a.eval x=.agg (p++c++q).toArray→p.length=fd.offset→c.length=P.cellsOf fd.type→(mU P fd.type=false→c.length=1) →
  bT w A E nx u (pk (mU P fd.type) c)→cJ P o a w A E nx γ u h:=by
  intro p c q u cL hp hc h1 hk;refine cJ.idle ?_ hk hm
  have:=Gi (P:=P) w hU p c q hc h1
  rw [hp] at this;simp only [execOp,ho,cL,Instr.field,bx,a8 hu,aV,hf,asAgg,bM,this]
 simp only [cf] at he;split at he
 · rename_i l hl;split at he
   · rename_i pv xX;split at he
     · rename_i hc;obtain ⟨h1,h2,h3⟩:=hc;simp only [aa,ae] at he;obtain ⟨rfl,rfl⟩:=he;rw [hl] at dL;obtain ⟨cs,cL,fg⟩:=MG.1 dL;obtain ⟨p,c,q,rfl,hp,hc⟩:=fg.get xX;refine main p c q _ cL (by rw [hp,h1]) (by rw [hc.len,h2]) (fun hg=>?_) ?_
       · rw [← h3] at hg;obtain ⟨_,rfl,_⟩:=hc.one hg;rfl
       · simp only [bT,pe];exact ⟨c,hc,by rw [h3]⟩
     · cases he
   · cases he
 · rename_i l hl;split at he
   · rename_i mv hmv;split at he
     · rename_i hc;obtain ⟨h1,h2,h3,rb⟩:=hc;simp only [aa,ae] at he;obtain ⟨rfl,rfl⟩:=he;rw [hl] at dL;simp only [bT] at dL;obtain ⟨cs,cL,fg⟩:=dL;obtain ⟨p,u,q,rfl,hp,hsz,Ea,hk⟩:=fg.get hmv;have MQ:∀ n,mv≠.dead n:=by rintro n rfl;cases rb
       refine main p u.cells.toList q _ cL (by rw [hp,h1]) (by rw [eg,hsz,h2]) (fun hg=>?_) ?_
       · rw [← h3] at hg;rw [hk.vw hg MQ];rfl
       · rw [← h3,hk.Io MQ];exact hk
     · cases he
   · cases he
 · cases he
theorem D2N {x ix:Operand}{x' iu:dO}{t t0 t1 e:TypeId}{n:Nat}(ho:o.op=.index t x ix)(hx:fB P t0 x=some x')(AK:fB P t1 ix=some iu)
 (hu:P.underlying t=some (.array n e)) (hU:qO P e=true)
 (he:cf K γ d s h (.idx (mU P e) (P.cellsOf e) n x' iu)=some (v,h')):cJ P o a w A E nx γ v h':=by
 have dL:=j0 hs hx;have yU:=j0 hs AK;simp only [cf] at he;split at he
 · rename_i l hl;split at he
   · rename_i k hk;obtain ⟨kd,pM,eC⟩:=Is hk yU;split at he
     · rename_i pv xX;split at he
       · rename_i hc;obtain ⟨h1,h2,h3⟩:=hc;simp only [aa,ae] at he;obtain ⟨rfl,rfl⟩:=he;rw [hl] at dL;obtain ⟨cs,cL,fg⟩:=MG.1 dL;obtain ⟨p,c,q,rfl,hp,hc⟩:=fg.get xX;have hr:=Gi (P:=P) w hU p c q (by rw [hc.len,h2]) (fun hg=>by rw [← h3] at hg;obtain ⟨_,rfl,_⟩:=hc.one hg;rfl)
         rw [hp,h1] at hr;refine cJ.idle (val:=pk (mU P e) c) ?_ (by simp only [bT,pe];exact ⟨c,hc,by rw [h3]⟩) hm
         have h5:(k:Int)<(n:Int):=by omega
         simp [execOp,ho,cL,pM,Instr.index,asIntOf,a8 hu,eC,D5 w hU];simp at hr;rw [hr];rfl
       · cases he
     · cases he
   · cases he
 · cases he
theorem D0N {x ix:Operand}{x' iu:dO}{t t0 t1:TypeId}(ho:o.op=.index t x ix)(hx:fB P t0 x=some x')(AK:fB P t1 ix=some iu)
 (hu:P.underlying t=some .string)
 (he:cf K γ d s h (.sQ x' iu)=some (v,h')):cJ P o a w A E nx γ v h':=by
 have dL:=j0 hs hx;have yU:=j0 hs AK;simp only [cf] at he;split at he
 · rename_i b hb;split at he
   · rename_i k hk;obtain ⟨kd,pM,eC⟩:=Is hk yU;split at he
     · rename_i c hc;simp only [aa,ae] at he;obtain ⟨rfl,rfl⟩:=he;rw [hb,AA] at dL;refine cJ.idle (val:=.int .u8 c.toNat) ?_ (A19.2 rfl) hm;have hg:b[k]?=some c:=by
        have mV:k<b.data.size:=eC;rw [Array.getElem?_eq_getElem mV] at hc;rw [getElem?_pos b k eC];exact hc
       simp [execOp,ho,dL,pM,Instr.index,asIntOf,a8 hu,hg]
     · cases he
   · cases he
 · cases he
theorem X4 {f k:Nat}{first jf xs:Array Operand}{l:List dO}{ts:List TypeId}(ho:o.op=.makeFunc (.func f) first jf)(hk:(k=f∧f<we∧first=#[]∧xs=jf)∨(k=we+f∧jf=#[]∧xs=first))(hl:qP P ts xs.toList=some l)
 (he:cf K γ d s h (.sP k l)=some (v,h')):cJ P o a w A E nx γ v h':=by
 have hv:=Gg hs hl;have il:(execOp a.eval o).run P w=.ok (.value (vt k (xs.toList.map a.eval).toArray)) w:=by
  rcases hk with ⟨rfl,h1,rfl,rfl⟩ | ⟨rfl,rfl,rfl⟩
  · rw [QO h1];simp [execOp,ho,Instr.makeFunc];apply gP;simp
  · rw [XC (Nat.le_add_right _ _),Nat.add_sub_cancel_left];simp [execOp,ho,Instr.makeFunc];apply gP;simp
 simp only [cf] at he;split at he
 · rename_i vs fX;simp only [aa,ae] at he;obtain ⟨rfl,rfl⟩:=he;rw [CT fX] at hv;exact cJ.idle il (MH.2 ⟨_,rfl,yT.1 hv⟩) hm
 · simp only [aa,ae] at he;obtain ⟨rfl,rfl⟩:=he;exact cJ.idle il (by simp only [bT];exact ⟨_,rfl,hv⟩) hm
omit hs hm in
theorem Q2 (f:Int→Int→Int)(g:Value→Value→Sem Value)(hg:∀ k x k' y,(g (.int k x) (.int k' y)).run P w=.ok (.int k (f x y)) w) :
 ∀ (vs:List PV) (x r:PV) (hJ:List Value),Br f x vs=some r→kU w A vs hJ→∀ val,bT w A E nx (.p x) val→∃ res,(hJ.foldlM g val).run P w=.ok res w∧bT w A E nx (.p r) res
 | [],x,r,hJ,h,hv,val,hx=>by
   simp only [Br,aa] at h;subst h;simp only [kU] at hv;subst hv;exact ⟨val,by simp,hx⟩
 | y::vs,x,r,hJ,h,hv,val,hx=>by
   cases x<;>cases y<;>simp only [Br,reduceCtorEq] at h;simp only [kU] at hv;obtain ⟨c,dd,rfl,h1,h2⟩:=hv;simp only [ed] at h1;subst h1;rw [A19] at hx;subst hx;obtain ⟨res,h3,h4⟩:=Q2 f g hg vs _ r dd h h2 _ (A19.2 rfl);refine ⟨res,?_,h4⟩;simp only [List.foldlM_cons,bx,PV.isAgg,pk,aF,if_false,lN,hg,aV];exact h3
theorem D4k {l:List dO}{c:Call}{ts:List TypeId}(ho:o.op=.call c)(pK:c.callee=.builtin .max)(hl:qP P ts c.args.toList=some l)
 (he:cf K γ d s h (.mx l)=some (v,h')):cJ P o a w A E nx γ v h':=by
 have hv:=Gg hs hl;simp only [cf] at he;split at he
 · rename_i x r Q3;split at he
   · rename_i vs fX;split at he
     · rename_i res nS;simp only [aa,ae] at he;obtain ⟨rfl,rfl⟩:=he;rw [Q3,CT fX] at hv;simp only [dh] at hv;obtain ⟨val,hJ,yW,hx,hr⟩:=hv;obtain ⟨rv,h1,h2⟩:=Q2 (P:=P) (fun x y=>if y>x then y else x) Builtin.max2 (fun _ _ _ _=>rfl) vs x res hJ nS (yT.1 hr) val hx
       refine cJ.idle (val:=rv) ?_ h2 hm;rw [BA ho pK]
       have:(c.args.map a.eval).toList=val::hJ:=by rw [jx,yW]
       simp only [builtin,Builtin.max_,this,bx,h1,aV,bM]
     · cases he
   · cases he
 · cases he
theorem D4l {l:List dO}{c:Call}{ts:List TypeId}(ho:o.op=.call c)(pK:c.callee=.builtin .min)(hl:qP P ts c.args.toList=some l)
 (he:cf K γ d s h (.mn l)=some (v,h')):cJ P o a w A E nx γ v h':=by
 have hv:=Gg hs hl;simp only [cf] at he;split at he
 · rename_i x r Q3;split at he
   · rename_i vs fX;split at he
     · rename_i res nS;simp only [aa,ae] at he;obtain ⟨rfl,rfl⟩:=he;rw [Q3,CT fX] at hv;simp only [dh] at hv;obtain ⟨val,hJ,yW,hx,hr⟩:=hv;obtain ⟨rv,h1,h2⟩:=Q2 (P:=P) (fun x y=>if y<x then y else x) Builtin.min2 (fun _ _ _ _=>rfl) vs x res hJ nS (yT.1 hr) val hx
       refine cJ.idle (val:=rv) ?_ h2 hm;rw [BA ho pK]
       have:(c.args.map a.eval).toList=val::hJ:=by rw [jx,yW]
       simp only [builtin,Builtin.min_,this,bx,h1,aV,bM]
     · cases he
   · cases he
 · cases he
end
end Go.Mid
