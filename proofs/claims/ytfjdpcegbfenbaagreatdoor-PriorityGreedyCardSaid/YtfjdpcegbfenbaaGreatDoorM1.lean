/- The middle semantics: values, owned memory, instructions and their execution (definitions only). -/
import Derived.Orders
import Derived.Below
import Derived.Laws.StructEq
set_option linter.unusedSimpArgs false
set_option linter.unusedVariables false
open Array renaming length_toList → dW, ext' → gI, toList_map → jg
open BitVec renaming ofInt → b8
open Bool renaming false_eq_true → aI, and_eq_true → aj, not_true → b3, true_and → ej
open Go renaming run_underlying → aZ
open Go.Instr renaming sureAddr → iW, sliceBounds → dY, sliceBound → fW, sliceAt → jF, slice → mE
open Go.Op renaming bytesLess → lN, equal → lk, equalIn → gH, eqFields → qC, unary → uA
open Go.Result renaming andThen_ok → aV
open Go.Sem renaming run_bind → bn, run_pure → bL
open Go.Value renaming cells → db, agg → oF
open List renaming range → bA, replicate → aq, getElem?_append_left → cP, getElem?_eq_some_iff → aF, getElem?_append_right → bE, length_append → aQ, cons_append → aS, nil_append → a6, mem_cons → aE, map_nil → cl, map_cons → aD, getElem?_cons_zero → bP, getElem?_cons_succ → bJ, append_assoc → bf, take_succ_cons → bS, replicate_succ → cB, getElem?_map → aH, headD_cons → lE, all_cons → dC
open Nat renaming add_assoc → bU, le_refl → ar, lt_of_lt_of_le → bp, succ_mul → dv, add_comm → hJ, add_mul → gX
open Option renaming toList → cg, isSome_iff_exists → e7, map_none → dx, map_some → ak
open Option.some renaming injEq → aa
open Prod.mk renaming injEq → ae
namespace Go.Mid
inductive PV where
 | int (k:IntKind) (n:Int)
 | bool (b:Bool)
 | str (s:ByteArray)
 | agg (l:List PV)
 | sl (l:List PV)
 | ref (v:PV)
 | fn (f:Nat) (iR:List PV)
 | mp (ks vs:List PV)
 | eQ
 | ff
 deriving Inhabited
inductive MV where
 | p (v:PV)
 | nil (z:Nat)
 | own (id:Nat) (path:List Nat) (off len g:Nat)
 | ptr (id:Nat) (np:Option (List Nat)) (rp:List Nat) (g o:Nat)
 | fy (id:Nat) (path:List Nat) (g:Nat)
 | agg (l:List MV)
 | fn (f:Nat) (iR:List MV)
 | eJ (l:List MV)
 | dead (n:Nat)
instance:Inhabited MV:=⟨.dead 0⟩
inductive T (α:Type) where
 | p (v:PV)
 | m (v:MV)
 | agg (l:List (T α))
 | vec (a:α) (z:Nat) (l:List (T α)) (n:Nat)
 | mp (a:α) (ks:List PV) (vs:List (T α))
 | hole (n:Nat)
instance {α:Type}:Inhabited (T α):=⟨.hole 0⟩
inductive Obj (α:Type) where
 | cell (a:α) (t:T α)
 | vec (a:α) (z:Nat) (l:List (T α))
 | mp (a:α) (ks:List PV) (vs:List (T α))
 | gone
instance {α:Type}:Inhabited (Obj α):=⟨.gone⟩
abbrev gD:=Nat→MV
abbrev dL (α:Type):=Nat→Option (Obj α)
abbrev cj:=dL Nat
def cz {α:Type} (f:Nat→α) (k:Nat) (v:α):Nat→α:=fun i=>if i=k then v else f i
def eO (f:gD) (k:Option Nat) (v:MV):gD:=match k with | some d=>cz f d v | none=>f
structure St where
 s:gD
 h:cj
 nx:Nat
mutual
def PV.cs:PV→Nat
 | .agg l=>PV.da l
 | _=>1
def PV.da:List PV→Nat
 | []=>0
 | x::xs=>x.cs + PV.da xs
end
mutual
def MV.cs:MV→Nat
 | .p v=>v.cs
 | .agg l=>MV.da l
 | .eJ _=>0
 | .dead n=>n
 | _=>1
def MV.da:List MV→Nat
 | []=>0
 | x::xs=>x.cs + MV.da xs
end
section
variable {α:Type}
mutual
def T.cs:T α→Nat
 | .p v=>v.cs
 | .m v=>v.cs
 | .agg l=>T.da l
 | .vec .. | .mp ..=>1
 | .hole n=>n
def T.da:List (T α)→Nat
 | []=>0
 | x::xs=>x.cs + T.da xs
end
def PV.isAgg:PV→Bool | .agg _=>true | _=>false
def MV.isAgg:MV→Bool | .agg _=>true | .p v=>v.isAgg | _=>false
def pq:List MV→Option (List PV)
 | []=>some []
 | .p v::r=>match pq r with | some l=>some (v::l) | none=>none
 | _::_=>none
def uB (l:List MV):MV:=match pq l with | some vs=>.p (.agg vs) | none=>.agg l
def mh:List (T α)→Option (List PV)
 | []=>some []
 | .p v::r=>match mh r with | some l=>some (v::l) | none=>none
 | _::_=>none
def jY (l:List (T α)):T α:=match mh l with | some vs=>.p (.agg vs) | none=>.agg l
def cU:T α→List Nat→Option (T α)
 | t,[]=>some t
 | .p (.agg l),i::r=>match l[i]? with | some v=>cU (.p v) r | none=>none
 | .agg l,i::r=>match l[i]? with | some t=>cU t r | none=>none
 | .vec _ _ l _,i::r=>match l[i]? with | some t=>cU t r | none=>none
 | .mp _ _ l,i::r=>match l[i]? with | some t=>cU t r | none=>none
 | _,_::_=>none
def ef (ob:Option (Obj α)) (path:List Nat):Option (T α) :=
 match ob,path with
 | some (.cell _ t),p=>cU t p
 | some (.vec _ _ l),i::r=>match l[i]? with | some t=>cU t r | none=>none
 | some (.mp _ _ l),i::r=>match l[i]? with | some t=>cU t r | none=>none
 | _,_=>none
def jo (ob:Option (Obj α)) (path:List Nat):Option (α×Nat×List (T α)) :=
 match ob,path with
 | some (.vec a z l),[]=>some (a,z,l)
 | ob,p=>match ef ob p with
   | some (.vec a z l _)=>some (a,z,l)
   | _=>none
def Pz (ob:Option (Obj α)) (path:List Nat):Option (α×List PV×List (T α)) :=
 match ob,path with
 | some (.mp a ks vs),[]=>some (a,ks,vs)
 | ob,p=>match ef ob p with
   | some (.mp a ks vs)=>some (a,ks,vs)
   | _=>none
def lP:T α→List Nat→Nat→Option (T α×Nat)
 | t,[],o=>some (t,o)
 | .p (.agg l),i::r,o=>match l[i]? with | some v=>lP (.p v) r (o + PV.da (l.take i)) | none=>none
 | .agg l,i::r,o=>match l[i]? with | some t=>lP t r (o + T.da (l.take i)) | none=>none
 | _,_::_,_=>none
def look (ob:Option (Obj α)) (np:Option (List Nat)) (rp:List Nat):Option (T α×α×Nat) :=
 match np with
 | none=>match ob with
   | some (.cell a t)=>match lP t rp 0 with | some (u,o)=>some (u,a,o) | none=>none
   | _=>none
 | some p=>match jo ob p,rp with
   | some (a,z,l),i::r=>match l[i]? with
     | some t=>match lP t r (i * z) with | some (u,o)=>some (u,a,o) | none=>none
     | none=>none
   | _,_=>none
def ru (np:Option (List Nat)) (rp:List Nat):List Nat:=np.getD []++rp
def fg (ob:Option (Obj α)) (np:Option (List Nat)):Option (α×Option Nat) :=
 match np with
 | none=>match ob with
   | some (.cell a _)=>some (a,none)
   | _=>none
 | some p=>match ob,p with
   | some (.vec a z _),[]=>some (a,some z)
   | some (.mp a _ _),[]=>some (a,none)
   | ob,p=>match ef ob p with
     | some (.vec a z _ _)=>some (a,some z)
     | some (.mp a _ _)=>some (a,none)
     | _=>none
def c7:T α→List Nat→T α→Option (T α)
 | _,[],u=>some u
 | .p (.agg l),i::r,u=>match l[i]? with
   | some v=>match c7 (.p v) r u with
     | some w=>some (jY ((l.map T.p).set i w))
     | none=>none
   | none=>none
 | .agg l,i::r,u=>match l[i]? with
   | some t=>match c7 t r u with
     | some w=>some (jY (l.set i w))
     | none=>none
   | none=>none
 | .vec g z l n,i::r,u=>match l[i]? with
   | some t=>match c7 t r u with
     | some w=>some (.vec g z (l.set i w) n)
     | none=>none
   | none=>none
 | .mp g ks l,i::r,u=>match l[i]? with
   | some t=>match c7 t r u with
     | some w=>some (.mp g ks (l.set i w))
     | none=>none
   | none=>none
 | _,_::_,_=>none
def put (ob:Option (Obj α)) (path:List Nat) (u:T α):Option (Obj α) :=
 match ob,path with
 | some (.cell a t),p=>match c7 t p u with | some w=>some (.cell a w) | none=>none
 | some (.vec g z l),i::r=>match l[i]? with
   | some t=>match c7 t r u with | some w=>some (.vec g z (l.set i w)) | none=>none
   | none=>none
 | some (.mp g ks l),i::r=>match l[i]? with
   | some t=>match c7 t r u with | some w=>some (.mp g ks (l.set i w)) | none=>none
   | none=>none
 | _,_=>none
end
mutual
def u0 (id:Nat) (path:List Nat):T Nat→MV
 | .p v=>.p v
 | .m v=>v
 | .agg l=>uB (wT id path 0 l)
 | .vec g _ _ n=>.own id path 0 n g
 | .mp g _ _=>.fy id path g
 | .hole n=>.dead n
def wT (id:Nat) (path:List Nat) (i:Nat):List (T Nat)→List MV
 | []=>[]
 | t::r=>u0 id (path++[i]) t::wT id path (i + 1) r
end
mutual
def sG:T Nat→Option PV
 | .p v=>some v
 | .m _=>none
 | .agg l=>match kZ l with | some vs=>some (.agg vs) | none=>none
 | .vec _ _ l n=>match kZ l with | some vs=>some (.sl (vs.take n)) | none=>none
 | .mp _ ks vs=>match kZ vs with | some ws=>some (.mp ks ws) | none=>none
 | .hole _=>none
def kZ:List (T Nat)→Option (List PV)
 | []=>some []
 | t::r=>match sG t,kZ r with | some v,some vs=>some (v::vs) | _,_=>none
end
mutual
def mq (h:cj):MV→Option PV
 | .p v=>some v
 | .nil _=>some (.sl [])
 | .own id path off len g=>match jo (h id) path with
   | some (g',_,l)=>if g'=g∧off + len ≤ l.length then
      match kZ l with | some vs=>some (.sl ((vs.drop off).take len)) | none=>none
     else none
   | none=>none
 | .ptr id np rp g o=>match look (h id) np rp with
   | some (t,s,o')=>if s=g∧o'=o then match sG t with | some v=>some (.ref v) | none=>none else none
   | none=>none
 | .fy id path g=>match Pz (h id) path with
   | some (g',ks,vs)=>if g'=g then match kZ vs with | some ws=>some (.mp ks ws) | none=>none else none
   | none=>none
 | .agg l=>match rz h l with | some vs=>some (.agg vs) | none=>none
 | .fn f iR=>match rz h iR with | some vs=>some (.fn f vs) | none=>none
 | .eJ _=>none
 | .dead _=>none
def rz (h:cj):List MV→Option (List PV)
 | []=>some []
 | x::r=>match mq h x,rz h r with | some v,some vs=>some (v::vs) | _,_=>none
end
end Go.Mid
namespace Go.Mid
inductive dI where
 | t (n:Nat)
 | c (v:MV)
 | f (id:Nat)
 deriving Inhabited
inductive TD where
 | int (k:IntKind)
 | bool
 | str
 | agg (l:List TD)
 deriving Inhabited
mutual
def TD.cs:TD→Nat
 | .agg l=>TD.da l
 | _=>1
def TD.da:List TD→Nat
 | []=>0
 | x::r=>x.cs + TD.da r
end
mutual
def pt:TD→PV→Bool
 | .int k,.int k' _=>k == k'
 | .bool,.bool _=>true
 | .str,.str _=>true
 | .agg l,.agg m=>sg l m
 | _,_=>false
def sg:List TD→List PV→Bool
 | [],[]=>true
 | t::r,x::q=>pt t x && sg r q
 | _,_=>false
end
mutual
def u5:PV→PV→Bool
 | .int _ a,.int _ b=>a == b
 | .bool a,.bool b=>a == b
 | .str a,.str b=>a.toList == b.toList
 | .agg l,.agg m=>wU l m
 | _,_=>false
def wU:List PV→List PV→Bool
 | [],[]=>true
 | x::r,y::q=>u5 x y && wU r q
 | _,_=>false
end
inductive si where
 | move (x:dI)
 | nilv (z:Nat)
 | pick (c a b:dI)
 | box (x:dI)
 | build (zs:List Nat) (parts:List dI)
 | bsl (mt:Bool) (z:Nat) (parts:List dI)
 | bslp (z:Nat) (parts:List dI)
 | load (agg:Bool) (n:Nat) (x:dI)
 | store (n:Nat) (a x:dI)
 | nilc (x:dI)
 | bin (bl:Bool) (op:BinOp) (x y:dI)
 | eqs (neg:Bool) (td:TD) (x y:dI)
 | isnil (fk neg:Bool) (x:dI)
 | not (x:dI)
 | neg (x:dI)
 | inv (x:dI)
 | convI (k:IntKind) (x:dI)
 | convS (x:dI)
 | convR (x:dI)
 | sH (f:Nat) (iR:List dI)
 | mksl (z bytes:Nat) (zero:MV) (len cap:dI)
 | slice (z:Nat) (x:dI) (lo hi:Option dI)
 | nj (x:dI) (lo hi:Option dI)
 | cut0 (z:Nat) (x:dI)
 | clr (z:Nat) (zero:PV) (x:dI)
 | faddr (x:dI) (i o:Nat)
 | fld (agg:Bool) (n o:Nat) (x:dI) (i:Nat)
 | iaddr (z:Nat) (x i:dI)
 | nk (n z:Nat) (x i:dI)
 | idx (agg:Bool) (z n:Nat) (x i:dI)
 | sK (x i:dI)
 | ext (x:dI) (i:Nat)
 | call (md:Nat) (f:dI) (args:List dI)
 | len (x:dI)
 | lenS (x:dI)
 | capn (x:dI)
 | slice3 (x lo hi mx:dI)
 | appn (z bytes:Nat) (zero:MV) (x n:dI)
 | appk (z:Nat) (x y:dI)
 | sliceK (z:Nat) (x lo hi:dI)
 | Bb (n z:Nat) (x:dI)
 | app (pz:Bool) (z bytes:Nat) (x y:dI)
 | cpy (z:Nat) (x y:dI)
 | mx (l:List dI)
 | mn (l:List dI)
 | tx
 | sj (zero:MV) (ok:Bool) (m k:dI)
 | yl (m k v:dI)
 | ym (m k:dI)
 | bad
 deriving Inhabited
structure Ins where
 dst:Option Nat
 guard:Option (Nat×Bool):=none
 op:si
 deriving Inhabited
inductive Gh where
 | freeze (s:Nat)
 | bm (ks ids:List Nat)
 deriving Inhabited
inductive MC where
 | skip
 | yn (loose:List (Nat×Nat)) (ops:List Ins)
 | seq (a b:MC)
 | cond (c:dI) (a b:MC)
 | block (id:Nat) (c:MC)
 | loop (ks ids:List Nat) (c:MC)
 | exit (id:Nat)
 | ret
 | gh (g:Gh)
 | bad
 deriving Inhabited
inductive RV where
 | tmp (t:Nat)
 | cell (a:Nat) (agg:Bool) (n:Nat)
 deriving Inhabited
structure p9 where
 body:MC
 res:List RV
 DH:Bool
 deriving Inhabited
inductive Ex where
 | normal | exit (id:Nat) | ret
 deriving DecidableEq,Inhabited
def HV (op:BinOp) (k:IntKind) (x y:Int):Option Int :=
 match op with
 | .and=>some (k.wrap (b8 k.bits x &&& b8 k.bits y).toNat)
 | .or=>some (k.wrap (b8 k.bits x ||| b8 k.bits y).toNat)
 | .xor=>some (k.wrap (b8 k.bits x ^^^ b8 k.bits y).toNat)
 | .andNot=>some (k.wrap (b8 k.bits x &&& ~~~ b8 k.bits y).toNat)
 | _=>none
def jz (op:BinOp):PV→PV→Option PV
 | .int k a,.int k' b =>
   match op with
   | .shl=>if b < 0 then none else some (.int k (k.wrap (a * 2 ^ min b.toNat k.bits)))
   | .shr=>if b < 0 then none else some (.int k (a.fdiv (2 ^ min b.toNat k.bits)))
   | op=>if k ≠ k' then none else
     match op with
     | .add=>some (.int k (k.wrap (a + b)))
     | .sub=>some (.int k (k.wrap (a - b)))
     | .mul=>some (.int k (k.wrap (a * b)))
     | .quo=>if b=0 then none else some (.int k (k.wrap (a.tdiv b)))
     | .rem=>if b=0 then none else some (.int k (a.tmod b))
     | .eql=>some (.bool (a == b))
     | .neq=>some (.bool (a != b))
     | .lss=>some (.bool (a < b))
     | .leq=>some (.bool (a ≤ b))
     | .gtr=>some (.bool (a > b))
     | .geq=>some (.bool (a ≥ b))
     | op=>match HV op k a b with | some n=>some (.int k n) | none=>none
 | .str a,.str b =>
   match op with
   | .add=>if a.size + b.size ≤ 9223372036854775807 then some (.str (a++b)) else none
   | .eql=>some (.bool (a.toList == b.toList))
   | .neq=>some (.bool !(a.toList == b.toList))
   | .lss=>some (.bool (lN a.toList b.toList))
   | .leq=>some (.bool (lN a.toList b.toList || a.toList == b.toList))
   | .gtr=>some (.bool !(lN a.toList b.toList || a.toList == b.toList))
   | .geq=>some (.bool !(lN a.toList b.toList))
   | _=>none
 | .bool a,.bool b =>
   match op with
   | .eql=>some (.bool (a == b))
   | .neq=>some (.bool !(a == b))
   | _=>none
 | _,_=>none
mutual
def jZ:MV→List Nat
 | .own id .. | .ptr id .. | .fy id ..=>[id]
 | .agg l | .fn _ l | .eJ l=>mu l
 | _=>[]
def mu:List MV→List Nat
 | []=>[]
 | x::r=>jZ x++mu r
end
section
variable {α:Type}
mutual
def tg:T α→List Nat
 | .m v=>jZ v
 | .agg l=>oN l
 | .vec _ _ l _=>oN l
 | .mp _ _ l=>oN l
 | _=>[]
def oN:List (T α)→List Nat
 | []=>[]
 | x::r=>tg x++oN r
end
def yo:Option (Obj α)→List Nat
 | some (.cell _ t)=>tg t
 | some (.vec _ _ l)=>oN l
 | some (.mp _ _ l)=>oN l
 | _=>[]
end
def uC (h:cj) (id:Nat) (path:List Nat) (g:Nat):Bool :=
 match jo (h id) path with | some (g',_,_)=>g' == g | none=>false
def xD (h:cj) (id:Nat) (np:Option (List Nat)) (rp:List Nat) (g o:Nat):Bool :=
 match look (h id) np rp with | some (_,s,o')=>s == g && o' == o | none=>false
def DI (h:cj) (id:Nat) (path:List Nat) (g:Nat):Bool :=
 match Pz (h id) path with | some (g',_,_)=>g' == g | none=>false
mutual
def jT (h:cj) (ρ:Nat→Option Nat) (ζ:Nat→Nat):MV→MV
 | .own id path off len g=>match ρ id with
   | some j=>if uC h id path g then .own j path off len (ζ g) else .dead 1
   | none=>.dead 1
 | .ptr id np rp g o=>match ρ id with
   | some j=>if xD h id np rp g o then .ptr j np rp (ζ g) o else .dead 1
   | none=>.dead 1
 | .fy id path g=>match ρ id with
   | some j=>if DI h id path g then .fy j path (ζ g) else .dead 1
   | none=>.dead 1
 | .agg l=>.agg (sm h ρ ζ l)
 | .fn f l=>.fn f (sm h ρ ζ l)
 | .eJ l=>.eJ (sm h ρ ζ l)
 | v=>v
def sm (h:cj) (ρ:Nat→Option Nat) (ζ:Nat→Nat):List MV→List MV
 | []=>[]
 | x::r=>jT h ρ ζ x::sm h ρ ζ r
end
section
variable {α:Type} (φ:MV→MV) (ζ:α→α)
mutual
def iS:T α→T α
 | .m v=>.m (φ v)
 | .agg l=>.agg (jw l)
 | .vec g s l n=>.vec (ζ g) s (jw l) n
 | .mp g ks l=>.mp (ζ g) ks (jw l)
 | .p v=>.p v
 | .hole n=>.hole n
def jw:List (T α)→List (T α)
 | []=>[]
 | x::r=>iS x::jw r
end
def kF:Obj α→Obj α
 | .cell a t=>.cell (ζ a) (iS φ ζ t)
 | .vec g s l=>.vec (ζ g) s (jw φ ζ l)
 | .mp g ks l=>.mp (ζ g) ks (jw φ ζ l)
 | .gone=>.gone
end
def jx (g:Nat):Nat:=if g=0 then 0 else 1
def vU (ids:List Nat) (i:Nat):Bool:=1000000 ≤ i || ids.contains (i % 1000)
def th (ids:List Nat) (i:Nat):Option Nat:=if vU ids i then some i else none
def rA (ks ids:List Nat) (σ:St):St :=
 { s:=fun k=>if ks.contains k then jT σ.h (th ids) jx (σ.s k) else .dead 0
   h:=fun i=>if vU ids i then (σ.h i).map (kF (jT σ.h (th ids) jx) jx) else none
   nx:=2 }
def nM (g:Nat) (l:List (T Nat)):List (T Nat):=jw (fun v=>v) (fun _=>g) l
def Ac (g:Nat) (t:T Nat):T Nat:=iS (fun v=>v) (fun _=>g) t
mutual
def oW (g:Nat) (h:cj):MV→Option (T Nat×cj)
 | .p v=>some (.p v,h)
 | .own id path off len g'=>match h id,path with
   | some (.vec uD z l),[]=>if g'=uD∧off=0∧len ≤ l.length then some (.vec g z (nM g l) len,cz h id (some .gone)) else none
   | ob,path=>match ef ob path with
     | some (.vec uD z l _)=>if g'=uD∧off=0∧len ≤ l.length then
        match put ob path (.hole 1) with | some o=>some (.vec g z (nM g l) len,cz h id (some o)) | none=>none
       else none
     | _=>none
 | .fy id path g'=>match h id,path with
   | some (.mp uD ks vs),[]=>if g'=uD then some (.mp g ks (nM g vs),cz h id (some .gone)) else none
   | _,_=>none
 | .agg l=>match tC g h l with | some (ts,h')=>some (jY ts,h') | none=>none
 | .nil z=>some (.vec g z [] 0,h)
 | .eJ _ | .dead _=>none
 | v=>some (.m v,h)
def tC (g:Nat) (h:cj):List MV→Option (List (T Nat)×cj)
 | []=>some ([],h)
 | x::r=>match oW g h x with
   | some (t,h')=>match tC g h' r with
     | some (ts,HW)=>some (t::ts,HW)
     | none=>none
   | none=>none
end
section
variable {α:Type} (ck:Nat→α→α) (rs:α→α)
mutual
def mQ:T Nat→T α→T α
 | .agg l,.agg m=>.agg (ou l m)
 | .vec g0 _ _ _,.vec a z l n=>.vec (ck g0 a) z (jw (fun v=>v) rs l) n
 | .mp g0 _ _,.mp a ks l=>.mp (ck g0 a) ks (jw (fun v=>v) rs l)
 | _,t=>iS (fun v=>v) rs t
def ou:List (T Nat)→List (T α)→List (T α)
 | x::r,y::q=>mQ x y::ou r q
 | _,q=>jw (fun v=>v) rs q
end
def qT:Option (Obj Nat)→Obj α→Obj α
 | some (.cell g0 t),.cell b u=>.cell (ck g0 b) (mQ ck rs t u)
 | some (.vec g0 _ _),.vec a z l=>.vec (ck g0 a) z (jw (fun v=>v) rs l)
 | some (.mp g0 _ _),.mp a ks l=>.mp (ck g0 a) ks (jw (fun v=>v) rs l)
 | _,o=>kF (fun v=>v) rs o
end
def uE (g g0 a:Nat):Nat:=if a=0 then g0 else g
def xE (g _:Nat):Nat:=g
section
variable (hr h:cj) (ρ:Nat→Nat)
mutual
def na:MV→MV
 | .own id path off len g=>if uC hr id path g then (match fg (h (ρ id)) (some path) with | some (g',_)=>.own (ρ id) path off len g' | none=>.dead 1) else .dead 1
 | .ptr id np rp g o=>if xD hr id np rp g o then (match fg (h (ρ id)) np with | some (g',_)=>.ptr (ρ id) np rp g' o | none=>.dead 1) else .dead 1
 | .fy id path g=>if DI hr id path g then (match fg (h (ρ id)) (some path) with | some (g',_)=>.fy (ρ id) path g' | none=>.dead 1) else .dead 1
 | .agg l=>.agg (tD l)
 | .fn f l=>.fn f (tD l)
 | .eJ l=>.eJ (tD l)
 | v=>v
def tD:List MV→List MV
 | []=>[]
 | x::r=>na x::tD r
end
end
def yp:List Nat→List Nat
 | []=>[]
 | x::r=>if (yp r).contains x then yp r else x::yp r
def jd (h:cj) (l:List Nat):List Nat:=yp (l++l.flatMap fun i=>yo (h i))
def oX (l:List Nat) (x:Nat):Option Nat:=l.findIdx? (· == x)
def ep:Nat:=1000000
def kG:Nat:=2000000
mutual
def u6:PV→Bool
 | .int .. | .bool _ | .str _ | .eQ | .ff=>true
 | .agg l=>DJ l
 | _=>false
def DJ:List PV→Bool
 | []=>true
 | x::r=>u6 x && DJ r
end
def D4X:MV→Bool
 | .p v=>u6 v
 | _=>false
abbrev Cs:=MV×List (Obj Nat)×List (Obj Nat)
abbrev jl:=Nat→List MV→List (Obj Nat)→Option Cs
def cJ (s:gD):dI→MV
 | .t n=>s n
 | .c v=>v
 | .f id=>.p (.fn id [])
def callee:MV→Option (Nat×List MV)
 | .p (.fn f cs)=>some (f,cs.map .p)
 | .fn f cs=>some (f,cs)
 | _=>none
def vV:Nat:=1000000
def DK (m:MV) (args:List MV):Option (Nat×List MV):=match callee m with
 | some (f,cs)=>if f < vV then some (f,args++cs) else some (f - vV,cs++args)
 | none=>none
def DL (dG:List (Obj Nat)):cj:=fun i=>if kG ≤ i then dG[i - kG]? else none
section
variable {α:Type}
mutual
def yq:T α→Bool
 | .p v=>u6 v
 | .m _=>false
 | .agg l=>uF l
 | .vec _ _ l _=>uF l
 | .mp _ _ l=>uF l
 | .hole _=>true
def uF:List (T α)→Bool
 | []=>true
 | x::r=>yq x && uF r
end
def tE:Obj α→Bool
 | .cell _ t=>yq t
 | .vec _ _ l=>uF l
 | .mp _ _ l=>uF l
 | .gone=>true
end
mutual
def uG:MV→Bool
 | .p v=>u6 v
 | .own .. | .ptr .. | .fy .. | .nil _ | .dead _=>true
 | .agg l | .eJ l | .fn _ l=>Bc l
def Bc:List MV→Bool
 | []=>true
 | x::r=>uG x && Bc r
end
def xF:Option Cs→Option (MV×Bool)
 | some (r,[],dG)=>match r with
   | .eJ l=>match rz (DL dG) l with
     | some vs=>some (.eJ (vs.map .p),uG r && dG.all tE)
     | none=>none
   | r=>match mq (DL dG) r with
     | some v=>some (.p v,uG r && dG.all tE)
     | none=>none
 | _=>none
def yr (K:jl) (h:cj) (f:Nat) (args:List MV):Option (MV×cj) :=
 match rz h args with
 | some vs=>match xF (K f (vs.map .p) []) with
   | some (v,fr)=>if fr || (pq args).isSome then some (v,h) else none
   | none=>none
 | none=>none
def xG (d k:Nat):Nat:=d + 1000 * (k + 1)
def pX (dn:Nat) (ids:List Nat) (i:Nat):Nat:=if kG ≤ i then xG dn (i - kG) else ids.getD (i - ep) 0
def tF (ids:List Nat) (i:Nat):Option Nat:=(oX ids i).map (ep + ·)
def sn (h:cj):List Nat→Option (List (Obj Nat))
 | []=>some []
 | i::r=>match h i,sn h r with | some o,some os=>some (o::os) | _,_=>none
def j6 (d:Option Nat) (n:Nat):List Nat:=(bA n).map (xG (d.getD 0))
def j0 (ext dG:List (Obj Nat)):cj:=fun i=>if kG ≤ i then dG[i - kG]? else if ep ≤ i then ext[i - ep]? else none
def mR (es ids:List Nat) (i:Nat):Option Nat:=match oX es i with
 | some k=>some (kG + k)
 | none=>match oX ids i with
   | some k=>some (ep + k)
   | none=>none
def qL (g:Nat) (h:cj) (i j:Nat):Obj Nat→Obj Nat:=qT (uE g) (xE g) (if kG ≤ j then none else h i)
def yu (g:Nat) (d:Option Nat) (h:cj) (ids:List Nat) (r:MV) (ext dG:List (Obj Nat)):Option (MV×cj) :=
 let es:=j6 d dG.length
 if ext.length ≠ ids.length∨(dG ≠ []∧d=none)∨es.any ids.contains=true∨1000000 < ids.length∨ep < xG (d.getD 0) dG.length then none else
 let h1:cj:=fun i=>match mR es ids i with
  | some j=>(j0 ext dG j).map (qL g h i j)
  | none=>h i
 let φ:=na (j0 ext dG) h1 (pX (d.getD 0) ids)
 some (φ r,fun i=>match mR es ids i with
  | some j=>(j0 ext dG j).map (fun o=>kF φ (fun a=>a) (qL g h i j o))
  | none=>h i)
def Bd (K:jl) (g:Nat) (d:Option Nat) (h:cj) (f:Nat) (args:List MV):Option (MV×cj) :=
 let ids:=jd h (jd h (mu args))
 match sn h ids with
 | none=>none
 | some qa =>
   match K f (sm h (tF ids) (fun _=>0) args) (qa.map (kF (jT h (tF ids) (fun _=>0)) (fun _=>0))) with
   | none=>none
   | some (r,ext,dG)=>yu g d h ids r ext dG
def Ad (K:jl) (g:Nat) (d:Option Nat) (h:cj) (f:Nat) (args:List MV):Option (MV×cj) :=
 match rz h args with
 | some vs=>match K f (vs.map .p) [] with
   | some (r,[],dG)=>if (pq args).isSome || (uG r && dG.all tE) then yu g d h [] r [] dG else none
   | _=>none
 | none=>none
def vW (n:Int):MV:=.p (.int .i64 n)
def Ae (b:Bool):MV:=.p (.bool b)
def vX:MV→Option Int | .p (.int _ n)=>some n | _=>none
def xH (n:Nat) (v:MV):Option Nat:=match vX v with | some i=>if 0 ≤ i∧i < n then some i.toNat else none | none=>none
def wV (n:Nat) (v:MV):Option Nat:=match vX v with | some i=>if 0 ≤ i∧i ≤ n then some i.toNat else none | none=>none
def room:Nat:=140737488355328
def mS (d:Option Nat) (h:cj) (o:Obj Nat):Option cj :=
 match d with
 | some d=>some (cz h d (some o))
 | none=>none
def elems (h:cj):MV→Option (List (T Nat))
 | .p (.sl l)=>some (l.map .p)
 | .nil _=>some []
 | .own id path off len g=>match jo (h id) path with
   | some (g',_,l)=>if g'=g∧off + len ≤ l.length then some ((l.drop off).take len) else none
   | none=>none
 | _=>none
def tj:T Nat→Bool | .p _=>true | _=>false
mutual
def Ct:T Nat→Bool
 | .p _ | .vec .. | .mp ..=>true
 | .m v=>match v with | .own .. | .ptr .. | .fy .. | .fn ..=>true | _=>false
 | .agg l=>Af l
 | .hole _=>false
def Af:List (T Nat)→Bool
 | []=>true
 | t::r=>Ct t && Af r
end
def rP (h:cj) (y:MV):Option (List (T Nat)×cj) :=
 match elems h y with
 | none=>none
 | some ts=>if ts.all tj then some (ts,h) else
   match y with
   | .own id [] 0 len _=>match h id with
     | some (.vec _ _ l)=>if len=l.length∧Af ts then some (ts,cz h id (some .gone)) else none
     | _=>none
   | _=>none
def pw (z:Nat) (l:List (T Nat)):Bool:=l.all fun t=>t.cs == z
def DM (g:Nat) (h:cj) (id z bytes len g0:Nat) (ts:List (T Nat)) (g1 z1:Nat) (l:List (T Nat)):Option (MV×cj) :=
 if g1=g0∧z1=z∧len ≤ l.length∧(len + ts.length) * bytes ≤ room then
  some (.own id [] 0 (len + ts.length) g,cz h id (some (.vec g z (l.take len++nM g ts))))
 else none
def Ag (g:Nat) (d:Option Nat) (h:cj) (id:Nat) (path:List Nat) (z bytes len g0:Nat) (ts:List (T Nat)):Option (MV×cj) :=
 match ef (h id) path with
 | some (.vec g1 z1 l n)=>if g1=g0∧z1=z∧len=n∧n ≤ l.length∧(len + ts.length) * bytes ≤ room then
    match put (h id) path (.hole 1) with
    | some o'=>match mS d (cz h id (some o')) (.vec g z (nM g (l.take len++ts))) with
      | some h2=>some (.own (d.getD 0) [] 0 (len + ts.length) g,h2)
      | none=>none
    | none=>none
   else none
 | _=>none
def rB (g:Nat) (d:Option Nat) (h:cj) (z bytes:Nat) (x y:MV):Option (MV×cj) :=
 match rP h y with
 | none=>none
 | some (ts,h1)=>if !pw z ts then none else
   match x with
   | .nil _=>if ts.length * bytes ≤ room then
      match mS d h1 (.vec g z (nM g ts)) with | some h2=>some (.own (d.getD 0) [] 0 ts.length g,h2) | none=>none
     else none
   | .own id path off len g0=>if off=0 then
      match h1 id,path with
      | some (.vec g1 z1 l),[]=>DM g h1 id z bytes len g0 ts g1 z1 l
      | _,path=>Ag g d h1 id path z bytes len g0 ts
     else none
   | _=>none
def nQ {α:Type} (l:List (T α)) (off:Nat) (vs:List PV):List (T α):=l.take off++vs.map .p++l.drop (off + vs.length)
def qb (h:cj) (id:Nat) (path:List Nat) (g z off:Nat) (vs:List PV):Option cj :=
 if vs.all (fun v=>v.cs == z) then
  match h id,path with
  | some (.vec a z' l),[]=>if a=g∧z'=z∧off + vs.length ≤ l.length then some (cz h id (some (.vec a z (nQ l off vs)))) else none
  | ob,path=>match ef ob path with
    | some (.vec a z' l n)=>if a=g∧z'=z∧off + vs.length ≤ l.length then
       match put ob path (.vec a z (nQ l off vs) n) with
       | some o'=>some (cz h id (some o'))
       | none=>none
      else none
    | _=>none
 else none
def FY (h:cj) (z:Nat) (x y:MV):Option (MV×cj) :=
 match elems h y with
 | none=>none
 | some ts=>match mh ts with
   | none=>none
   | some vs=>if pw z ts then
      match x with
      | .nil _=>some (vW 0,h)
      | .own id path off len g =>
        match qb h id path g z off (vs.take len) with
        | some h'=>some (vW (min vs.length len:Nat),h')
        | none=>none
      | _=>none
     else none
def yw (g:Nat) (h:cj) (n id:Nat) (path:List Nat) (x:MV):Option (MV×cj) :=
 match oW g h x with
 | some (t,h1)=>if t.cs=n then match put (h1 id) path t with | some o=>some (.dead 0,cz h1 id (some o)) | none=>none else none
 | none=>none
def FZ (g:Nat) (h:cj) (n:Nat) (a x:MV):Option (MV×cj) :=
 match a with
 | .ptr id np rp g0 o0=>match look (h id) np rp with
   | some (old,s,o)=>if s=g0∧o=o0∧old.cs=n then
      match x,old with
      | .own uH qU off len g',.vec a z l n' =>
        if uH=id∧qU=ru np rp∧off=0∧g'=a∧len ≤ n' then
         match put (h id) (ru np rp) (.vec a z (l.take len) len) with | some o=>some (.dead 0,cz h id (some o)) | none=>none
        else yw g h n id (ru np rp) x
      | x,_=>yw g h n id (ru np rp) x
     else none
   | none=>none
 | _=>none
def LG:MV→Bool | .dead _=>true | _=>false
def tG (h:cj) (agg:Bool) (n:Nat) (a:MV):Option MV :=
 match a with
 | .p (.ref v)=>if v.cs=n∧v.isAgg=agg then some (.p v) else none
 | .ptr id np rp g o=>match look (h id) np rp with
   | some (t,s,o')=>if s=g∧o'=o∧t.cs=n then
      let v:=u0 id (ru np rp) t
      if v.isAgg=agg∧LG v=false then some v else none
     else none
   | none=>none
 | _=>none
def Cu (n m:Nat):Option MV→Option Nat
 | some v=>wV n v
 | none=>some m
def Be (n:Nat) (lo hi:Option MV):Option (Nat×Nat) :=
 match Cu n n hi with
 | some b=>match Cu b 0 lo with
   | some a=>some (a,b)
   | none=>none
 | none=>none
def Ah (h:cj) (z:Nat) (x:MV) (lo hi:Option MV):Option MV :=
 match x with
 | .p (.sl l)=>match Be l.length lo hi with | some (a,b)=>if l.all (fun v=>v.cs == z) then some (.p (.sl ((l.take b).drop a))) else none | none=>none
 | .nil z=>match Be 0 lo hi with | some _=>some (.nil z) | none=>none
 | .own id path off len g=>match Be len lo hi,jo (h id) path with
   | some (a,b),some (g',z',_)=>if g'=g∧z'=z then some (.own id path (off + a) (b - a) g) else none
   | _,_=>none
 | _=>none
def yA:MV→Option Nat
 | .p (.sl l)=>some l.length
 | .nil _=>some 0
 | .own _ _ _ len _=>some len
 | _=>none
def Ai (h:cj) (z:Nat) (x i:MV):Option MV :=
 match x with
 | .p (.sl l)=>match xH l.length i with
   | some k=>match l[k]? with | some v=>if v.cs=z then some (.p (.ref v)) else none | none=>none
   | none=>none
 | .own id path off len g=>match xH len i with
   | some k=>match jo (h id) path with
     | some (g',z',_)=>if g'=g∧z'=z then some (.ptr id (some path) [off + k] g ((off + k) * z)) else none
     | none=>none
   | none=>none
 | _=>none
def rQ:MV→Bool
 | .dead _ | .eJ _=>false
 | _=>true
def okB:List Nat→List MV→Bool
 | [],[]=>true
 | z::zs,v::vs=>v.cs == z && rQ v && okB zs vs
 | _,_=>false
def zT (g:Nat):MV→Option (T Nat)
 | .p v=>some (.p v)
 | .nil z=>some (.vec g z [] 0)
 | .agg l=>match Cv l with | some ts=>some (jY ts) | none=>none
 | _=>none
where Cv:List MV→Option (List (T Nat))
 | []=>some []
 | x::r=>match zT g x,Cv r with | some t,some ts=>some (t::ts) | _,_=>none
def Bf (f:Int→Int→Int):PV→List PV→Option PV
 | v,[]=>some v
 | .int k x,.int _ y::r=>Bf f (.int k (f x y)) r
 | _,_=>none
def DN:PV→Bool | .bool _=>true | _=>false
def b7 (K:jl) (g:Nat) (d:Option Nat) (s:gD) (h:cj):si→Option (MV×cj)
 | .move x=>some (cJ s x,h)
 | .nilv z=>match mS d h (.vec g z []) with | some h'=>some (.own (d.getD 0) [] 0 0 g,h') | none=>none
 | .pick c a b=>match cJ s c with | .p (.bool t)=>some (if t then cJ s a else cJ s b,h) | _=>none
 | .box x=>match oW g h (cJ s x) with
   | some (t,h1)=>match mS d h1 (.cell g t) with | some h'=>some (.ptr (d.getD 0) none [] g 0,h') | none=>none
   | none=>none
 | .build zs parts=>if okB zs (parts.map (cJ s)) then some (uB (parts.map (cJ s)),h) else none
 | .bsl mt z parts=>if okB (aq parts.length z) (parts.map (cJ s)) then
    match (if mt then none else pq (parts.map (cJ s))) with
    | some vs=>some (.p (.sl vs),h)
    | none=>match tC g h (parts.map (cJ s)) with
      | some (ts,h1)=>if pw z ts then
         match mS d h1 (.vec g z ts) with | some h'=>some (.own (d.getD 0) [] 0 ts.length g,h') | none=>none
        else none
      | none=>none
   else none
 | .bslp z parts=>if okB (aq parts.length z) (parts.map (cJ s)) then
    match tC g h (parts.map (cJ s)) with
    | some (ts,h1)=>if pw z ts then
       match mS d h1 (.vec g z ts) with
       | some h2=>match mq h2 (.own (d.getD 0) [] 0 ts.length g) with | some v=>some (.p v,cz h2 (d.getD 0) (some .gone)) | none=>none
       | none=>none
      else none
    | none=>none
   else none
 | .load agg n x=>match tG h agg n (cJ s x) with | some v=>some (v,h) | none=>none
 | .store n a x=>FZ g h n (cJ s a) (cJ s x)
 | .nilc x=>match cJ s x with
   | .p (.ref v)=>some (.p (.ref v),h)
   | .ptr id np rp g o=>some (.ptr id np rp g o,h)
   | _=>none
 | .bin bl op x y=>match cJ s x,cJ s y with
   | .p a,.p b=>if DN a=bl then (match jz op a b with | some v=>some (.p v,h) | none=>none) else none
   | _,_=>none
 | .eqs neg td x y=>match cJ s x,cJ s y with
   | .p a,.p b=>if pt td a && pt td b then some (Ae (u5 a b != neg),h) else none
   | _,_=>none
 | .isnil fk neg x=>match fk,cJ s x with
   | false,.p .eQ | true,.p .ff=>some (Ae (true != neg),h)
   | false,.p (.ref _) | false,.ptr .. | true,.p (.fn ..) | true,.fn ..=>some (Ae (false != neg),h)
   | _,_=>none
 | .not x=>match cJ s x with | .p (.bool t)=>some (Ae !t,h) | _=>none
 | .neg x=>match cJ s x with | .p (.int k n)=>some (.p (.int k (k.wrap (0 - n))),h) | _=>none
 | .inv x=>match cJ s x with
   | .p (.int k n)=>match HV .xor k (if k.signed then -1 else k.max) n with | some m=>some (.p (.int k m),h) | none=>none
   | _=>none
 | .convI k x=>match cJ s x with | .p (.int _ n)=>some (.p (.int k (k.wrap n)),h) | _=>none
 | .convS x=>match cJ s x with | .p (.str b)=>some (.p (.str b),h) | _=>none
 | .convR x=>match cJ s x with | .p (.int _ n)=>some (.p (.str (Utf8.encode n)),h) | _=>none
 | .sH f iR=>match pq (iR.map (cJ s)) with
   | some vs=>some (.p (.fn f vs),h)
   | none=>some (.fn f (iR.map (cJ s)),h)
 | .mksl z bytes zero l c=>match vX (cJ s l),vX (cJ s c) with
   | some l,some c=>match zT g zero with
     | some t=>if 0 ≤ l∧l ≤ c∧c.toNat * bytes ≤ room∧t.cs=z then
        match mS d h (.vec g z (aq l.toNat t)) with
        | some h'=>some (.own (d.getD 0) [] 0 l.toNat g,h')
        | none=>none
       else none
     | none=>none
   | _,_=>none
 | .nj x lo hi=>match cJ s x with
   | .p (.str b)=>match Be b.size (lo.map (cJ s)) (hi.map (cJ s)) with | some (i,j)=>some (.p (.str (b.extract i j)),h) | none=>none
   | _=>none
 | .slice z x lo hi=>match Ah h z (cJ s x) (lo.map (cJ s)) (hi.map (cJ s)) with | some v=>some (v,h) | none=>none
 | .cut0 z x=>match cJ s x with
   | .p (.sl _) | .own .. | .nil _=>some (.nil z,h)
   | _=>none
 | .clr z zero x=>match cJ s x with
   | .p (.sl []) | .nil _=>some (.eJ [],h)
   | .own id path off len g0=>match qb h id path g0 z off (aq len zero) with
     | some h'=>if zero.cs=z then some (.eJ [],h') else none
     | none=>none
   | _=>none
 | .faddr x i o=>match cJ s x with
   | .p (.ref (.agg l))=>match l[i]? with | some v=>if PV.da (l.take i)=o then some (.p (.ref v),h) else none | none=>none
   | .ptr id np rp g o0=>some (.ptr id np (rp++[i]) g (o0 + o),h)
   | _=>none
 | .fld agg n o x i=>match cJ s x with
   | .p (.agg l)=>match l[i]? with | some v=>if PV.da (l.take i)=o∧v.cs=n∧v.isAgg=agg then some (.p v,h) else none | none=>none
   | .agg l=>match l[i]? with | some v=>if MV.da (l.take i)=o∧v.cs=n∧v.isAgg=agg∧LG v=false then some (v,h) else none | none=>none
   | _=>none
 | .iaddr z x i=>match Ai h z (cJ s x) (cJ s i) with | some v=>some (v,h) | none=>none
 | .nk n z x i=>match xH n (cJ s i) with
   | some k=>match cJ s x with
     | .p (.ref (.agg l))=>match l[k]? with | some v=>if PV.da (l.take k)=k * z then some (.p (.ref v),h) else none | none=>none
     | .ptr id np rp g o0=>some (.ptr id np (rp++[k]) g (o0 + k * z),h)
     | _=>none
   | none=>none
 | .idx agg z n x i=>match cJ s x with
   | .p (.agg l)=>match xH n (cJ s i) with
     | some k=>match l[k]? with | some v=>if PV.da (l.take k)=k * z∧v.cs=z∧v.isAgg=agg then some (.p v,h) else none | none=>none
     | none=>none
   | _=>none
 | .sK x i=>match cJ s x with
   | .p (.str b)=>match xH b.size (cJ s i) with
     | some k=>match b.data[k]? with | some c=>some (.p (.int .u8 c.toNat),h) | none=>none
     | none=>none
   | _=>none
 | .ext x i=>match cJ s x with
   | .eJ l=>match l[i]? with | some v=>some (v,h) | none=>none
   | _=>none
 | .call md f args=>match DK (cJ s f) (args.map (cJ s)) with
   | some (f,al)=>match md with
     | 0=>yr K h f al
     | 1=>Bd K g d h f al
     | _=>Ad K g d h f al
   | none=>none
 | .lenS x=>match cJ s x with | .p (.str b)=>some (vW b.size,h) | _=>none
 | .appn z bytes zero x n=>match cJ s x,vX (cJ s n) with
   | .nil _,some k=>match zT g zero with
     | some t=>if 0 < k∧k.toNat * bytes ≤ room∧t.cs=z then
        match mS d h (.vec g z (aq k.toNat t)) with
        | some h'=>some (.own (d.getD 0) [] 0 k.toNat g,h')
        | none=>none
       else none
     | none=>none
   | _,_=>none
 | .appk z x y=>match elems h (cJ s y) with
   | none=>none
   | some ts=>match mh ts with
     | none=>none
     | some vs=>if pw z ts then
        match cJ s x with
        | .own id path off len g0=>match qb h id path g0 z (off + len) vs with
          | some h1=>some (.own id path off (len + vs.length) g0,h1)
          | none=>none
        | _=>none
       else none
 | .sliceK z x lo hi=>match cJ s x with
   | .own id path off _ g0=>match jo (h id) path with
     | some (g',z',l)=>if g'=g0∧z'=z∧off ≤ l.length then
        match wV (l.length - off) (cJ s hi) with
        | some b=>match wV b (cJ s lo) with | some a=>some (.own id path (off + a) (b - a) g0,h) | none=>none
        | none=>none
       else none
     | none=>none
   | _=>none
 | .Bb n z x=>match cJ s x with
   | .p (.ref (.agg l))=>if l.length=n∧l.all (fun v=>v.cs == z)=true then some (.p (.sl l),h) else none
   | _=>none
 | .slice3 x lo hi mx=>match yA (cJ s x) with
   | some n=>match wV n (cJ s mx) with
     | some m=>match wV m (cJ s hi) with
       | some b=>match wV b (cJ s lo) with | some _=>some (.dead 1,h) | none=>none
       | none=>none
     | none=>none
   | none=>none
 | .capn x=>match cJ s x with | .nil _=>some (vW (0:Nat),h) | _=>none
 | .len x=>match yA (cJ s x) with | some n=>some (vW n,h) | none=>none
 | .app pz z bytes x y=>match rB g d h z bytes (cJ s x) (cJ s y) with
   | some (.own id [] off len g1,h1)=>if pz then
      match mq h1 (.own id [] off len g1) with | some v=>some (.p v,cz h1 id (some .gone)) | none=>none
     else some (.own id [] off len g1,h1)
   | _=>none
 | .cpy z x y=>FY h z (cJ s x) (cJ s y)
 | .mx l=>match l.map (cJ s) with
   | .p v::r=>match pq r with
     | some vs=>match Bf (fun x y=>if y > x then y else x) v vs with | some w=>some (.p w,h) | none=>none
     | none=>none
   | _=>none
 | .mn l=>match l.map (cJ s) with
   | .p v::r=>match pq r with
     | some vs=>match Bf (fun x y=>if y < x then y else x) v vs with | some w=>some (.p w,h) | none=>none
     | none=>none
   | _=>none
 | .tx | .sj .. | .yl .. | .ym ..=>none
 | .bad=>none
def tH (s:gD):Option (Nat×Bool)→Option Bool
 | none=>some true
 | some (t,b)=>match s t with
   | .p (.bool c)=>some (c == b)
   | .eJ []=>some false
   | _=>none
def ow (K:jl) (g:Nat) (i:Ins) (s:gD) (h:cj):Option (gD×cj) :=
 match tH s i.guard with
 | some true=>match b7 K g i.dst s h i.op with
   | some (v,h')=>some (eO s i.dst v,h')
   | none=>none
 | some false=>some (eO s i.dst (.eJ []),h)
 | none=>none
def tJ (K:jl):Nat→List Ins→gD→cj→Option (gD×cj)
 | _,[],s,h=>some (s,h)
 | g,i::r,s,h=>match ow K g i s h with
   | some (s',h')=>tJ K (g + 1) r s' h'
   | none=>none
def fv:si→List dI
 | .move x | .box x | .load _ _ x | .nilc x | .isnil _ _ x | .not x | .neg x | .inv x | .convI _ x | .convS x | .convR x | .faddr x _ _ | .fld _ _ _ x _ | .ext x _ | .len x | .lenS x | .capn x | .cut0 _ x | .clr _ _ x | .Bb _ _ x=>[x]
 | .pick a b c=>[a,b,c]
 | .build _ l | .bsl _ _ l | .bslp _ l | .sH _ l | .mx l | .mn l=>l
 | .store _ a x | .bin _ _ a x | .eqs _ _ a x | .mksl _ _ _ a x | .iaddr _ a x | .nk _ _ a x | .idx _ _ _ a x | .sK a x | .app _ _ _ a x | .cpy _ a x | .sj _ _ a x | .ym a x=>[a,x]
 | .slice _ x lo hi | .nj x lo hi=>x::lo.toList++hi.toList
 | .call _ f args=>f::args
 | .yl m k v=>[m,k,v]
 | .slice3 x lo hi mx=>[x,lo,hi,mx]
 | .appn _ _ _ x n=>[x,n]
 | .appk _ x y=>[x,y]
 | .sliceK _ x lo hi=>[x,lo,hi]
 | .nilv _ | .tx | .bad=>[]
def tK:si→Bool
 | .load .. | .iaddr .. | .sj .. | .slice .. | .sliceK .. | .call 0 ..=>true
 | _=>false
def idle:si→Bool
 | .move _ | .pick .. | .build .. | .nilc _ | .bin .. | .eqs .. | .isnil .. | .not _ | .neg _ | .inv _ | .convI .. | .convS _ | .convR _ | .sH .. | .cut0 .. | .faddr .. | .fld .. | .nk .. | .idx .. | .sK .. | .lenS _ | .capn _ | .slice3 .. | .Bb .. | .len _ | .nj .. | .ext .. | .mx _ | .mn _=>true
 | _=>false
def mw (i:Nat):Nat:=if i < ep then i % 1000 else i
def lv (s:gD) (h:cj) (i:Ins):List Nat :=
 match tH s i.guard with
 | some true=>(i.dst.toList++jd h (jd h (mu ((fv i.op).map (cJ s))))).map mw
 | _=>[]
abbrev rC:=Bool×Nat×Nat×Nat
def Cw (s:gD) (d:Option Nat):si→Option rC
 | .load _ _ x=>match cJ s x with | .ptr id none [i] _ _=>some (true,id,i,0) | _=>none
 | .app false _ _ x y=>match cJ s x with
   | .own id [i] _ _ _=>match cJ s y,d with | .p (.sl _),some d=>some (false,id,i,d) | _,_=>none
   | _=>none
 | _=>none
def vY (s:gD) (i:Ins):Option rC:=match i.guard with | none=>Cw s i.dst i.op | some _=>none
def Cx (x:List Nat):Option rC→Option rC→Bool
 | some (true,id,i,_),some (false,uH,j,d)=>id == uH && i != j && !x.contains (mw d)
 | _,_=>false
abbrev Bg:=List (List Nat×Bool×Option rC)
def C7J (a b:List Nat):Bool:=a.all fun x=>!b.contains x
def VW:dI→List Nat | .t n=>[n] | _=>[]
def tL (i:Ins):List Nat:=(fv i.op).flatMap VW++(match i.guard with | some (t,_)=>[t] | none=>[])
def F0 (x y:Ins):Bool :=
 (match x.dst with | some d=>!(tL y).contains d && y.dst != some d | none=>true) && (match y.dst with | some d=>!(tL x).contains d | none=>true)
def tM (K:jl):Nat→List Ins→gD→cj→Bg
 | _,[],_,_=>[]
 | g,i::r,s,h=>(lv s h i,idle i.op || tK i.op,vY s i)::(match ow K g i s h with
   | some (s',h')=>tM K (g + 1) r s' h'
   | none=>[])
def F1 (F:Bg) (l:List (Nat×Nat)):Bool :=
 l.all fun (a,b)=>match F[a]?,F[b]? with
  | some (x,rx,px),some (y,ry,py)=>(rx && ry) || C7J x y || Cx x px py
  | _,_=>false
def rR (K:jl) (loose:List (Nat×Nat)) (ops:List Ins) (σ:St):Option St :=
 match tJ K σ.nx ops σ.s σ.h with
 | some (s,h)=>if loose.isEmpty || F1 (tM K σ.nx ops σ.s σ.h) loose then some ⟨s,h,σ.nx + ops.length⟩ else none
 | none=>none
def DO (h:cj) (γ:Nat):MV→Option cj
 | .ptr id none [] _ _=>match h id with
   | some (.cell a t)=>some (cz h id (some (.cell a (Ac γ t))))
   | _=>none
 | .own id (i::p) _ _ _=>match ef (h id) (i::p) with
   | some (.vec g z l n)=>match put (h id) (i::p) (.vec g z (nM γ l) n) with
     | some o=>some (cz h id (some o))
     | none=>none
   | _=>none
 | _=>none
def yB (g:Gh) (σ:St):Option St :=
 match g with
 | .bm ks ids=>some (rA ks ids σ)
 | .freeze t=>if 3000000 ≤ t then (match DO σ.h σ.nx (.ptr (t - 3000000) none [] 0 0) with
   | some h=>some ⟨σ.s,h,σ.nx + 1⟩
   | none=>none) else if 2000000 ≤ t then (match σ.s (t % 1000),σ.h (t / 1000 % 1000) with
   | .nil z,none=>some ⟨cz σ.s (t % 1000) (.own (t / 1000 % 1000) [] 0 0 σ.nx),cz σ.h (t / 1000 % 1000) (some (.vec σ.nx z [])),σ.nx + 1⟩
   | .nil _,some _=>none
   | _,_=>some ⟨σ.s,σ.h,σ.nx + 1⟩) else if 1000000 ≤ t then (match DO σ.h σ.nx (σ.s (t - 1000000)) with
   | some h=>some ⟨σ.s,h,σ.nx + 1⟩
   | none=>none) else match σ.s t with
   | .own id [] 0 len g0=>match σ.h id with
     | some (.vec g1 _ l)=>if g0=g1∧len ≤ l.length then
        match kZ l with
        | some vs=>some ⟨cz σ.s t (.p (.sl (vs.take len))),cz σ.h id (some .gone),σ.nx⟩
        | none=>none
       else none
     | _=>none
   | .own id (i::p) _ _ _=>match ef (σ.h id) (i::p) with
     | some (.vec g1 z l n)=>match kZ l with
       | some vs=>match put (σ.h id) (i::p) (.vec g1 z (vs.map .p) n) with
         | some o'=>some ⟨σ.s,cz σ.h id (some o'),σ.nx⟩
         | none=>none
       | none=>none
     | _=>none
   | .ptr id none [] g0 0=>match σ.h id with
     | some (.cell g1 u)=>if g0=g1 then
        match sG u with
        | some v=>some ⟨cz σ.s t (.p (.ref v)),cz σ.h id (some .gone),σ.nx⟩
        | none=>none
       else none
     | _=>none
   | .p v=>some ⟨cz σ.s t (.p v),σ.h,σ.nx⟩
   | .nil _=>some ⟨cz σ.s t (.p (.sl [])),σ.h,σ.nx⟩
   | _=>none
def Cy (s:gD) (h:cj):RV→Option MV
 | .tmp t=>some (s t)
 | .cell a agg n=>tG h agg n (s a)
def xI (s:gD) (h:cj):List RV→Option (List MV)
 | []=>some []
 | x::r=>match Cy s h x,xI s h r with | some v,some vs=>some (v::vs) | _,_=>none
def Cz:List MV→MV
 | [v]=>v
 | l=>.eJ l
def uI (args:List MV):gD:=fun i=>args.getD i (.dead 0)
def nc (ext:List (Obj Nat)):cj:=fun i=>if ep ≤ i then ext[i - ep]? else none
def mT (i:Nat):Bool:=i < ep
def pY (n:Nat) (dG:List Nat) (i:Nat):Option Nat:=if ep ≤ i then (if i < ep + n then some i else none) else (oX dG i).map (kG + ·)
mutual
def rD (h:cj):MV→Option MV
 | .p v=>some (.p v)
 | .agg l=>match yC h l with | some vs=>some (uB vs) | none=>none
 | .eJ l=>match yC h l with | some vs=>some (.eJ vs) | none=>none
 | v=>if (jZ v).all (fun i=>!mT i) && !(jZ v).isEmpty then some v else match mq h v with | some w=>if (jZ v).all mT then some (.p w) else none | none=>none
def yC (h:cj):List MV→Option (List MV)
 | []=>some []
 | x::r=>match rD h x,yC h r with | some v,some vs=>some (v::vs) | _,_=>none
end
def xJ (F:p9) (n:Nat) (σ:St):Option Cs :=
 if 1000000 < n then none else
 match xI σ.s σ.h F.res with
 | none=>none
 | some vs =>
   let r:=Cz vs
   let oY:=(bA n).map (ep + ·)
   if F.DH then
    match rD σ.h r,sn σ.h oY with
    | some v,some ext =>
      let φ:=jT σ.h (pY n []) jx
      some (φ v,ext.map (kF φ jx),[])
    | _,_=>none
   else
    let dG:=(jd σ.h (jd σ.h (jZ r++oY))).filter mT
    let φ:=jT σ.h (pY n dG) jx
    match sn σ.h oY,sn σ.h dG with
    | some ext,some es=>some (φ r,ext.map (kF φ jx),es.map (kF φ (fun _=>1)))
    | _,_=>none
inductive Prim where
 | clone (z bytes:Nat)
 | sort
 | insert
 deriving Inhabited
def Aj:List PV→Option (List Int)
 | []=>some []
 | .int .i64 n::r=>match Aj r with | some l=>some (n::l) | none=>none
 | _::_=>none
def DP (x:Int):List Int→List Int
 | []=>[x]
 | y::r=>if x ≤ y then x::y::r else y::DP x r
def lI:List Int→List Int
 | []=>[]
 | x::r=>DP x (lI r)
def LH (path:List Nat) (off len g:Nat) (o:Obj Nat):Option Cs :=
 match elems (nc [o]) (.own ep path off len g) with
 | some ts=>match mh ts with
   | some vs=>match Aj vs with
     | some zs=>if zs.length < 4611686018427387904 then
        match qb (nc [o]) ep path g 1 off ((lI zs).map (.int .i64)) with
        | some h'=>match h' ep with | some o'=>some (.eJ [],[o'],[]) | none=>none
        | none=>none
       else none
     | none=>none
   | none=>none
 | none=>none
def HX (len i g:Nat) (v:Int) (o o2:Obj Nat):Option Cs :=
 match o with
 | .vec g' z l=>match mh l with
   | some vs=>match Aj vs with
     | some zs=>if g'=g∧z=1∧zs.length=len∧i ≤ len∧len < 1000000000000 then
        some (.own ep [] 0 (len + 1) 1,[.vec 1 1 ((zs.take i++v::zs.drop i).map fun n=>.p (.int .i64 n)),o2],[])
       else none
     | none=>none
   | none=>none
 | _=>none
def u7:Prim→List MV→List (Obj Nat)→Option Cs
 | .clone z bytes,[.p (.sl l)],[]=>if l.all (fun v=>v.cs == z) && decide (l.length * bytes ≤ room) then
    some (.own kG [] 0 l.length 1,[],[.vec 1 z (l.map .p)])
    else none
 | .sort,[.own id path off len g],[o]=>if id=ep then LH path off len g o else none
 | .sort,[.nil _],[]=>some (.eJ [],[],[])
 | .sort,[.p (.sl [])],[]=>some (.eJ [],[],[])
 | .insert,[.own id [] 0 len g,.p (.int .i64 i),.own HY [] 0 1 g2],[o,.vec g3 1 [.p (.int .i64 v)]]=>if id=ep∧HY=ep + 1∧g3=g2∧0 ≤ i then HX len i.toNat g v o (.vec g2 1 [.p (.int .i64 v)]) else none
 | _,_,_=>none
inductive yD where
 | code (F:p9)
 | qc (p:Prim)
 deriving Inhabited
abbrev ml:=Nat→Option yD
def nV (Φ:ml) (R:MC→St→Option (Ex×St)):jl:=fun f args ext =>
 match Φ f with
 | none=>none
 | some (.qc p)=>u7 p args ext
 | some (.code F)=>match R F.body ⟨uI args,nc ext,1⟩ with
   | some (.normal,σ)=>xJ F ext.length σ
   | some (.ret,σ)=>xJ F ext.length σ
   | _=>none
def run (Φ:ml):Nat→MC→St→Option (Ex×St)
 | 0,_,_=>none
 | n + 1,c,σ=>match c with
   | .skip=>some (.normal,σ)
   | .ret=>some (.ret,σ)
   | .bad=>none
   | .exit id=>some (.exit id,σ)
   | .gh g=>match yB g σ with | some σ'=>some (.normal,σ') | none=>none
   | .yn loose ops=>match rR (nV Φ (run Φ n)) loose ops σ with | some σ'=>some (.normal,σ') | none=>none
   | .seq a b=>match run Φ n a σ with
     | some (.normal,σ')=>run Φ n b σ'
     | r=>r
   | .cond c a b=>match cJ σ.s c with
     | .p (.bool true)=>run Φ n a σ
     | .p (.bool false)=>run Φ n b σ
     | _=>none
   | .block id c=>match run Φ n c σ with
     | some (.exit j,σ')=>if j=id then some (.normal,σ') else some (.exit j,σ')
     | r=>r
   | .loop ks ids c=>match run Φ n c (rA ks ids σ) with
     | some (.normal,σ')=>run Φ n (.loop ks ids c) σ'
     | r=>r
end Go.Mid
namespace Go.Mid
structure rS where
 bm:List (List Nat×List Nat):=[]
 fz:List (Nat×List Nat):=[]
 sh:List Nat:=[]
 tk:List Nat:=[]
 mt:List Nat:=[]
 pz:List Nat:=[]
 DH:Bool:=false
 deriving Inhabited
section
variable (P:Program)
def qD (t:TypeId):Bool:=(P.underlying t).isSome
def mO (t:TypeId):Bool:=match P.underlying t with | some (.struct _) | some (.array _ _)=>true | _=>false
def u9 {α:Type}:List (Option α)→Option (List α)
 | []=>some []
 | x::r=>match x,u9 r with | some v,some vs=>some (v::vs) | _,_=>none
def HZ:Nat→TypeId→Option MV
 | 0,_=>none
 | n + 1,t=>match P.underlying t with
   | some .bool=>some (.p (.bool false))
   | some (.int k)=>some (.p (.int k 0))
   | some .string=>some (.p (.str ⟨#[]⟩))
   | some (.pointer _)=>some (.p .eQ)
   | some (.func ..)=>some (.p .ff)
   | some (.map ..)=>some (.p (.mp [] []))
   | some (.slice e)=>some (.nil (P.cellsOf e))
   | some (.struct fs)=>match u9 (fs.toList.map fun f=>HZ n f.type) with | some l=>some (uB l) | none=>none
   | some (.array k e)=>match HZ n e with | some v=>some (uB (aq k v)) | none=>none
   | _=>none
mutual
def wW:PV→List Value→Option (List Value)
 | .int k n,cs=>match cs with | .int k' n'::r=>if k=k'∧n=n' then some r else none | _=>none
 | .bool b,cs=>match cs with | .bool b'::r=>if b=b' then some r else none | _=>none
 | .str s,cs=>match cs with | .string s'::r=>if s.size=0∧s'.size=0 then some r else none | _=>none
 | .eQ,cs=>match cs with | .pointer none::r=>some r | _=>none
 | .ff,cs=>match cs with | .nilFunc::r=>some r | _=>none
 | .mp ks vs,cs=>match cs with | .map none::r=>if ks.isEmpty && vs.isEmpty then some r else none | _=>none
 | .agg l,cs=>H0 l cs
 | _,_=>none
def H0:List PV→List Value→Option (List Value)
 | [],cs=>some cs
 | x::r,cs=>match wW x cs with | some d=>H0 r d | none=>none
end
mutual
def so:MV→List Value→Option (List Value)
 | .p v,cs=>wW v cs
 | .nil _,cs=>match cs with | .slice _ 0 0::r=>some r | _=>none
 | .agg l,cs=>CA l cs
 | _,_=>none
def CA:List MV→List Value→Option (List Value)
 | [],cs=>some cs
 | x::r,cs=>match so x cs with | some d=>CA r d | none=>none
end
def vd (t:TypeId):Option (List Value):=match P.info? t with
 | some i=>match i.zero with | some z=>some z.cells.toList | none=>none
 | none=>none
def Bh (t:TypeId):Option MV:=match HZ P 20 t,vd P t with
 | some v,some cs=>match so v cs with | some []=>some v | _=>none
 | _,_=>none
def LI (t:TypeId):Option PV:=match Bh P t with
 | some (.p v)=>some v
 | some (.nil _)=>some (.sl [])
 | _=>none
def PA (t:TypeId):Value→Option MV
 | .bool b=>some (.p (.bool b))
 | .int k n=>some (.p (.int k n))
 | .string s=>some (.p (.str s))
 | .pointer none=>some (.p .eQ)
 | .nilFunc=>some (.p .ff)
 | .map none=>some (.p (.mp [] []))
 | .slice none 0 0=>match P.underlying t with | some (.slice e)=>some (.nil (P.cellsOf e)) | _=>some (.nil 0)
 | _=>none
def PB (l:List Int):PV:=.agg (l.map (.int .u8 ·))
def F2 (g:Nat):Option PV:=match P.globals[g]? with
 | some x=>if x.name == "math/bits.deBruijn32tab" then some (PB [0,1,28,2,29,14,24,3,30,22,20,15,25,17,4,8,31,27,13,23,21,19,16,7,26,12,18,6,11,5,10,9]) else none
 | none=>none
def fx (t:TypeId):Operand→Option dI
 | .tmp n=>some (.t n)
 | .const v=>match PA P t v with | some m=>some (.c m) | none=>none
 | .func f=>if f < vV then some (.f f) else none
 | .global g=>match F2 P g with | some v=>some (.c (.p (.ref v))) | none=>none
def qE:List TypeId→List Operand→Option (List dI)
 | t::ts,x::r=>match fx P t x,qE ts r with | some o,some os=>some (o::os) | _,_=>none
 | [],[]=>some []
 | [],x::r=>match fx P 0 x,qE [] r with | some o,some os=>some (o::os) | _,_=>none
 | _,[]=>some []
def ve:Option Operand→Option (Option dI)
 | none=>some none
 | some x=>match fx P 0 x with | some o=>some (some o) | none=>none
def xK (parts:List (Nat×Operand)):List TypeId→Nat→List Value→Option (List dI)
 | [],_,rest=>if rest.isEmpty then some [] else none
 | t::r,i,rest=>if (rest.take (P.cellsOf t)).length=P.cellsOf t then
    match (match parts.find? (·.1 == i) with
     | some (_,x)=>fx P t x
     | none=>match HZ P 20 t with | some v=>(match so v (rest.take (P.cellsOf t)) with | some []=>some (.c v) | _=>none) | none=>none),xK parts r (i + 1) (rest.drop (P.cellsOf t)) with
    | some o,some os=>some (o::os)
    | _,_=>none
   else none
def LJ:List Nat→Bool
 | []=>true
 | x::r=>!r.contains x && LJ r
def Ak (n:Nat) (parts:List (Nat×Operand)):Bool:=parts.all (fun p=>decide (p.1 < n)) && (LJ (parts.map (·.1)) && decide (n ≤ 9223372036854775807))
def Bi:List Field→Nat→Bool
 | [],_=>true
 | f::r,o=>f.offset == o && qD P f.type && Bi r (o + P.cellsOf f.type)
def H3:List (Field×Option TD)→Nat→Option (List TD)
 | [],_=>some []
 | (f,d)::r,off=>match d,H3 r (off + P.cellsOf f.type) with
   | some d,some ds=>if f.name ≠ "_"∧f.offset=off∧d.cs=P.cellsOf f.type then some (d::ds) else none
   | _,_=>none
def yE:Nat→TypeId→Option TD
 | 0,_=>none
 | n + 1,t=>match P.underlying t with
   | some (.int k)=>some (.int k)
   | some .bool=>some .bool
   | some .string=>some .str
   | some (.struct fs)=>if P.stoodInHeld t then none else match H3 P (fs.toList.map fun f=>(f,yE n f.type)) 0 with | some l=>some (.agg l) | none=>none
   | some (.array k e)=>match yE n e with | some d=>if d.cs=P.cellsOf e then some (.agg (aq k d)) else none | none=>none
   | _=>none
def PC (t:TypeId):Option TD:=if P.eqGuardType P.depth t then none else yE P 20 t
def LK:Option Operand→Bool
 | some (.const (.int k n))=>k == .i64 && n == 0
 | _=>false
def pA (sh:Nat) (mt pz:Bool) (rt:TypeId):Op→Option si
 | .move x=>match fx P rt x with | some o=>some (.move o) | none=>none
 | .assign x=>match x,P.underlying rt with
   | .const (.slice none 0 0),some (.slice e)=>some (.nilv (P.cellsOf e))
   | x,_=>match fx P rt x with | some o=>some (.move o) | none=>none
 | .pick c a b=>match fx P 0 c,fx P rt a,fx P rt b with | some c,some a,some b=>some (.pick c a b) | _,_,_=>none
 | .alloc t=>match Bh P t with | some z=>some (.box (.c z)) | none=>none
 | .box t x=>match fx P t x with | some o=>some (.box o) | none=>none
 | .build t parts=>match vd P t,P.underlying t with
   | some zc,some (.struct fs)=>if Ak fs.size parts.toList && Bi P fs.toList 0 then
      match xK P parts.toList (fs.toList.map (·.type)) 0 zc with | some l=>some (.build (fs.toList.map fun f=>P.cellsOf f.type) l) | none=>none
     else none
   | some zc,some (.array n e)=>if Ak n parts.toList && qD P e then
      match xK P parts.toList (aq n e) 0 zc with | some l=>some (.build (aq n (P.cellsOf e)) l) | none=>none
     else none
   | _,_=>none
 | .buildSlice t n parts=>match P.underlying t with
   | some (.slice e)=>if P.cellsOf e=0∨n * P.cellsOf e > 16777216 then none else
     match vd P e with
     | some zc=>if zc.length=P.cellsOf e∧Ak n parts.toList then
        match xK P parts.toList (aq n e) 0 (aq n zc).flatten with | some l=>some (if pz then .bslp (P.cellsOf e) l else .bsl (mt || n == 0) (P.cellsOf e) l) | none=>none
       else none
     | none=>none
   | _=>none
 | .load t x=>match fx P 0 x with | some o=>if qD P t then some (.load (mO P t) (P.cellsOf t) o) else none | none=>none
 | .store t a x=>match fx P 0 a,fx P t x with | some a,some x=>if qD P t then some (.store (P.cellsOf t) a x) else none | _,_=>none
 | .nilCheck x=>match fx P 0 x with | some o=>some (.nilc o) | none=>none
 | .binOp op t x y yt=>match fx P t x,fx P yt y with
   | some a,some b=>match P.underlying t with
     | some (.int _) | some .string=>some (.bin false op a b)
     | some .bool=>some (.bin true op a b)
     | some (.struct _) | some (.array ..)=>(match op,PC P t with | .eql,some d=>some (.eqs false d a b) | .neq,some d=>some (.eqs true d a b) | _,_=>none)
     | some (.pointer _)=>match op,y with
       | .eql,.const (.pointer none)=>some (.isnil false false a)
       | .neq,.const (.pointer none)=>some (.isnil false true a)
       | _,_=>none
     | some (.func ..)=>match op,y with
       | .eql,.const .nilFunc=>some (.isnil true false a)
       | .neq,.const .nilFunc=>some (.isnil true true a)
       | _,_=>none
     | _=>none
   | _,_=>none
 | .unOp op t x=>match fx P t x with
   | some a=>match op with | .not=>some (.not a) | .neg=>some (.neg a) | .xor=>some (.inv a) | _=>none
   | none=>none
 | .convert src dst x=>match fx P src x with
   | some a=>match P.underlying src,P.underlying dst with
     | some (.int _),some (.int k)=>some (.convI k a)
     | some .string,some .string=>some (.convS a)
     | some (.int _),some .string=>some (.convR a)
     | _,_=>none
   | none=>none
 | .makeFunc (.func f) first iR=>if vV ≤ f then none else if first.size=0 then (match qE P [] iR.toList with | some l=>some (.sH f l) | none=>none) else if iR.size=0 then (match qE P [] first.toList with | some l=>some (.sH (vV + f) l) | none=>none) else none
 | .makeSlice t l c=>match P.underlying t with
   | some (.slice e)=>if P.cellsOf e=0∨P.bytesOf e=0 then none else match Bh P e,fx P 0 l,fx P 0 c with
     | some z,some l,some c=>some (.mksl (P.cellsOf e) (P.bytesOf e) z l c)
     | _,_,_=>none
   | _=>none
 | .slice t x lo hi mx=>if mx.isNone then
    match fx P t x,ve P lo,ve P hi with
    | some x,some lo,some hi=>match P.underlying t with
      | some (.slice e)=>if P.cellsOf e=0 then none else if mt then (match lo,hi with | some lo,some hi=>some (.sliceK (P.cellsOf e) x lo hi) | _,_=>none) else some (.slice (P.cellsOf e) x lo hi)
      | some .string=>some (.nj x lo hi)
      | some (.array n e)=>if P.cellsOf e=0 then none else (match lo,hi with | none,none=>some (.Bb n (P.cellsOf e) x) | _,_=>none)
      | _=>none
    | _,_,_=>none
   else if lo.isNone && LK hi && LK mx then
    match fx P t x,P.underlying t with
    | some x,some (.slice e)=>if P.cellsOf e=0 then none else some (.cut0 (P.cellsOf e) x)
    | _,_=>none
   else match fx P t x,lo.bind (fx P 0),hi.bind (fx P 0),mx.bind (fx P 0) with
    | some x,some lo,some hi,some mx=>match P.underlying t with | some (.slice e)=>if P.cellsOf e=0 then none else some (.slice3 x lo hi mx) | _=>none
    | _,_,_,_=>none
 | .fieldAddr t x f=>match fx P 0 x,P.underlying t with
   | some x,some (.struct fs)=>match fs[f]? with
     | some fd=>if P.cellsOf fd.type=0 then none else some (.faddr x f fd.offset)
     | none=>none
   | _,_=>none
 | .field t x f=>match fx P t x,P.underlying t with
   | some x,some (.struct fs)=>match fs[f]? with
     | some fd=>if qD P fd.type then some (.fld (mO P fd.type) (P.cellsOf fd.type) fd.offset x f) else none
     | none=>none
   | _,_=>none
 | .indexAddr t x i=>match fx P 0 x,fx P 0 i,P.underlying t with
   | some x,some i,some (.slice e)=>if P.cellsOf e=0 then none else some (.iaddr (P.cellsOf e) x i)
   | some x,some i,some (.array n e)=>if P.cellsOf e=0 then none else some (.nk n (P.cellsOf e) x i)
   | _,_,_=>none
 | .index t x i=>match fx P t x,fx P 0 i,P.underlying t with
   | some x,some i,some (.array n e)=>if qD P e then some (.idx (mO P e) (P.cellsOf e) n x i) else none
   | some x,some i,some .string=>some (.sK x i)
   | _,_,_=>none
 | .extract x i=>match fx P 0 x with | some o=>some (.ext o i) | none=>none
 | .makeMap t _=>match P.underlying t with | some (.map ..)=>some .tx | _=>none
 | .lookup t m k ok=>match P.underlying t with
   | some (.map kt et)=>match fx P t m,fx P kt k,HZ P 20 et with
     | some m,some k,some z=>some (.sj z ok m k)
     | _,_,_=>none
   | _=>none
 | .mapUpdate t m k v=>match P.underlying t with
   | some (.map kt et)=>match fx P t m,fx P kt k,fx P et v with
     | some m,some k,some v=>some (.yl m k v)
     | _,_,_=>none
   | _=>none
 | .call c=>match c.callee with
   | .value f=>match fx P 0 f,qE P c.argTypes.toList c.args.toList with
     | some f,some l=>some (.call sh f l)
     | _,_=>none
   | .invoke ..=>none
   | .builtin b=>match qE P c.argTypes.toList c.args.toList with
     | none=>none
     | some l=>match b,l,c.argTypes.toList with
       | .len,[x],[t]=>match P.underlying t with | some .string=>some (.lenS x) | some (.slice _)=>some (.len x) | _=>none
       | .cap,[x],[t]=>match P.underlying t with | some (.slice _)=>some (.capn x) | _=>none
       | .append,[x,y],[t,ty]=>match P.underlying t,P.underlying ty with
         | some (.slice e),some (.int _)=>if P.cellsOf e=0∨P.bytesOf e=0 then none else match Bh P e with | some z=>some (.appn (P.cellsOf e) (P.bytesOf e) z x y) | none=>none
         | some (.slice e),_=>if mt then (if t=ty∧P.cellsOf e ≠ 0∧P.bytesOf e ≠ 0 then some (.appk (P.cellsOf e) x y) else none) else if t=ty∧P.cellsOf e ≠ 0∧P.bytesOf e ≠ 0∧(vd P e).map List.length=some (P.cellsOf e) then some (.app pz (P.cellsOf e) (P.bytesOf e) x y) else none
         | _,_=>none
       | .copy,[x,y],[t,_]=>match P.underlying t with | some (.slice e)=>if P.cellsOf e=0 then none else some (.cpy (P.cellsOf e) x y) | _=>none
       | .clear,[x],[t]=>match P.underlying t with
         | some (.slice e)=>match LI P e with
           | some v=>if P.cellsOf e=0 then none else some (.clr (P.cellsOf e) v x)
           | _=>none
         | _=>none
       | .min,l,_=>some (.mn l)
       | .max,l,_=>some (.mx l)
       | .delete,[m,k],[t,_]=>match P.underlying t with | some (.map ..)=>some (.ym m k) | _=>none
       | _,_,_=>none
 | _=>none
def VX (ops:Array Oper):Option (Nat×Bool)→Option (Option (Nat×Bool))
 | none=>some none
 | some (j,b)=>match (ops[j]?).bind (·.dst) with | some t=>some (some (t,b)) | none=>none
def VY (nt:Nat) (o:Oper):Bool:=match o.dst with | some d=>decide (d < nt) | none=>true
def VZ (A:rS) (o:Oper):Nat:=match o.dst with | some d=>if A.sh.contains d then 1 else if A.tk.contains d then 2 else 0 | none=>0
def LM (l:List Nat) (o:Oper):Bool:=match o.dst with | some d=>l.contains d | none=>false
def wX (A:rS) (nt:Nat) (ops:Array Oper) (o:Oper):Option Ins :=
 if VY nt o then
  match VX ops o.guard with
  | some g=>some ⟨o.dst,g,(pA P (VZ A o) (LM A.mt o) (LM A.pz o) o.type o.op).getD .bad⟩
  | none=>none
 else none
def CB (A:rS) (nt:Nat) (ops:Array Oper):List Oper→Option (List Ins)
 | []=>some []
 | o::r=>match wX P A nt ops o,CB A nt ops r with | some i,some is=>some (i::is) | _,_=>none
def Bj (ops:Array Oper) (is:List Ins):List (Nat×Nat) :=
 let b:=Region.before ops
 (bA is.length).flatMap fun j=>(bA j).filterMap fun i =>
   match is[i]?,is[j]? with
   | some x,some y=>if idle x.op || idle y.op || (tK x.op && tK y.op) || (b.getD j 0).testBit i then none else some (i,j)
   | _,_=>none
def LN (ops:Array Oper) (is:List Ins):Bool :=
 let b:=Region.before ops
 (bA is.length).all fun j =>
   (match ops[j]? with | some o=>o.after.toList.all fun e=>!Region.binds .any e || decide (e.on < j) | none=>false) &&
   (bA j).all fun i=>(b.getD j 0).testBit i || match is[i]?,is[j]? with | some x,some y=>F0 x y | _,_=>false
def LO (l:List Nat) (c:MC):MC:=l.foldr (fun s c=>.seq (.gh (.freeze s)) c) c
def sq (A:rS) (nt:Nat):Code→Nat→Option (MC×Nat)
 | .skip,n=>some (.skip,n)
 | .ret,n=>some (.seq (.gh (.bm (A.bm.getD n ([],[])).1 (A.bm.getD n ([],[])).2)) .ret,n + 1)
 | .exit id,n=>some (.seq (.gh (.bm (A.bm.getD n ([],[])).1 (A.bm.getD n ([],[])).2)) (.exit id),n + 1)
 | .region id ops draw,n=>match CB P A nt ops ops.toList with
   | some is=>if !draw || LN ops is then some (LO ((A.fz.find? (·.1 == id)).elim [] (·.2)) (.yn (if draw then Bj ops is else []) is),n) else some (.bad,n)
   | none=>none
 | .seq a b,n=>match sq A nt a n with
   | some (x,n1)=>match sq A nt b n1 with
     | some (y,n2)=>some (.seq x y,n2)
     | none=>none
   | none=>none
 | .cond c a b,n=>match fx P 0 c,sq A nt a n with
   | some c,some (x,n1)=>match sq A nt b n1 with
     | some (y,n2)=>some (.cond c x y,n2)
     | none=>none
   | _,_=>none
 | .block id c,n=>match sq A nt c n with | some (x,n1)=>some (.block id x,n1) | none=>none
 | .loop c,n=>match sq A nt c (n + 1) with
   | some (x,n1)=>some (.loop (A.bm.getD n ([],[])).1 (A.bm.getD n ([],[])).2 x,n1)
   | none=>none
 | _,n=>some (.bad,n)
def PD (tmps:Nat):ResultVar→Option RV
 | .tmp t=>if t < tmps then some (.tmp t) else none
 | .cell a t=>if a < tmps∧qD P t=true then some (.cell a (mO P t) (P.cellsOf t)) else none
def CC (tmps:Nat):List ResultVar→Option (List RV)
 | []=>some []
 | x::r=>match PD P tmps x,CC tmps r with | some v,some vs=>some (v::vs) | _,_=>none
def PE (A:rS) (fn:Func):Option p9 :=
 match fn.body with
 | some c=>match sq P A fn.ntmps c 0,CC P fn.ntmps fn.results.toList with
   | some (b,_),some rs=>some ⟨b,rs,A.DH⟩
   | _,_=>none
 | none=>none
end
end Go.Mid
namespace Go.Mid
open Go.RowKit
def vf (f:Nat) (vs:Array Value):Value:=if f < vV then .func (.func f) #[] vs else .func (.func (f - vV)) vs #[]
theorem PF {f:Nat} {vs:Array Value} (h:f < vV):vf f vs=.func (.func f) #[] vs:=if_pos h
theorem V0 {f:Nat} {vs:Array Value} (h:vV ≤ f):vf f vs=.func (.func (f - vV)) vs #[]:=if_neg (Nat.not_lt.2 h)
theorem PG (f:Nat) (vs:Array Value):∃ g i c,vf f vs=.func g i c:=by
 unfold vf; split <;> exact ⟨_,_,_,rfl⟩
theorem LP (f:Nat) (vs:Array Value):(vf f vs).cells=#[vf f vs]:=by
 unfold vf; split <;> rfl
structure An where
 g:Nat
 b:Option Nat
 cap:Nat
section
variable {α β:Type} (f:α→β)
mutual
def T.mapA:T α→T β
 | .p v=>.p v
 | .m v=>.m v
 | .agg l=>.agg (T.cI l)
 | .vec a z l n=>.vec (f a) z (T.cI l) n
 | .mp a ks l=>.mp (f a) ks (T.cI l)
 | .hole n=>.hole n
def T.cI:List (T α)→List (T β)
 | []=>[]
 | x::r=>T.mapA x::T.cI r
end
def Obj.mapA:Obj α→Obj β
 | .cell a t=>.cell (f a) (t.mapA f)
 | .vec a z l=>.vec (f a) z (T.cI f l)
 | .mp a ks l=>.mp (f a) ks (T.cI f l)
 | .gone=>.gone
theorem T.mapAs_eq (l:List (T α)):T.cI f l=l.map (T.mapA f):=by
 induction l with
 | nil=>rfl
 | cons x r ih=>simp [T.cI,ih]
end
def Row (w:World) (b o:Nat) (cs:List Value):Prop:=∀ j v,cs[j]?=some v→w.cell? ⟨b,o + j,none⟩=some v
def lT (w:World) (b n:Nat):Prop:=∃ c ty,w.heap[b]?=some (.cells c ty (0,0))∧c.size=n
theorem Row.nil {w:World} {b o:Nat}:Row w b o []:=fun j v h=>by simp at h
theorem Row.append {w:World} {b o:Nat} {c d:List Value}:Row w b o (c++d)↔Row w b o c∧Row w b (o + c.length) d:=by
 constructor
 · intro h;refine ⟨fun j v hj=>h j v ?_,fun j v hj=>?_⟩
   · rw [cP (by exact (aF.1 hj).1)]; exact hj
   · have:=h (c.length + j) v (by rw [bE (by omega)]; simpa using hj)
     rwa [← bU] at this
 · rintro ⟨h1,h2⟩ j v hj;by_cases eF:j < c.length
   · rw [cP eF] at hj; exact h1 j v hj
   · rw [bE (by omega)] at hj
     have:=h2 (j - c.length) v hj
     rwa [bU,Nat.add_sub_cancel' (by omega)] at this
theorem Row.one {w:World} {b o:Nat} {v:Value}:Row w b o [v]↔w.cell? ⟨b,o,none⟩=some v:=by
 constructor
 · intro h; exact h 0 v rfl
 · intro h j u hj;cases j with
   | zero=>simp at hj; subst hj; exact h
   | succ j=>simp at hj
theorem LQ {w w':World} {b:Nat} (h:w'.heap[b]?=w.heap[b]?) (o:Nat):w'.cell? ⟨b,o,none⟩=w.cell? ⟨b,o,none⟩:=World.cell?_of_block (w:=w) h
theorem Row.frame {w w':World} {b o:Nat} {cs:List Value} (h:w'.heap[b]?=w.heap[b]?) (r:Row w b o cs):Row w' b o cs :=
 fun j v hj=>by rw [LQ h]; exact r j v hj
theorem lT.frame {w w':World} {b n:Nat} (h:w'.heap[b]?=w.heap[b]?) (r:lT w b n):lT w' b n:=by
 obtain ⟨c,ty,e,hs⟩:=r; exact ⟨c,ty,by rw [h,e],hs⟩
def pk (agg:Bool) (cs:List Value):Value:=if agg then .agg cs.toArray else cs.headD undef
section
variable (w:World) (A:Nat→Prop)
mutual
def dR:PV→List Value→Prop
 | .int k n,cs=>cs=[.int k n]
 | .bool b,cs=>cs=[.bool b]
 | .str s,cs=>cs=[.string s]
 | .agg l,cs=>cK l cs
 | .sl l,cs=>∃ a cap,cs=[.slice a l.length cap]∧l.length ≤ cap∧(l=[]∨∃ b o z,a=some ⟨b,o,none⟩∧A b∧fE l b o z)
 | .ref v,cs=>∃ b o,cs=[.pointer (some ⟨b,o,none⟩)]∧A b∧∃ cv,dR v cv∧Row w b o cv
 | .fn f iR,cs=>∃ vs,cs=[vf f vs.toArray]∧kK iR vs
 | .mp ks vs,cs=>(cs=[.map none]∧ks=[]∧vs=[]) ∨
    ∃ b es clock,cs=[.map (some b)]∧A b∧w.heap[b]?=some (.map es clock)∧kK ks (es.toList.map (·.key))∧kK vs (es.toList.map (·.val))
 | .eQ,cs=>cs=[.pointer none]
 | .ff,cs=>cs=[.nilFunc]
def cK:List PV→List Value→Prop
 | [],cs=>cs=[]
 | x::r,cs=>∃ c d,cs=c++d∧dR x c∧cK r d
def fE:List PV→Nat→Nat→Nat→Prop
 | [],_,_,_=>True
 | x::r,b,o,z=>(∃ c,dR x c∧c.length=z∧Row w b o c)∧fE r b (o + z) z
def kK:List PV→List Value→Prop
 | [],vs=>vs=[]
 | x::r,vs=>∃ c d,vs=pk x.isAgg c::d∧dR x c∧kK r d
end
def oZ (v:PV) (val:Value):Prop:=∃ c,dR w A v c∧val=pk v.isAgg c
end
section
variable {w:World} {A:Nat→Prop}
mutual
theorem dR.len:∀ {v:PV} {cs:List Value},dR w A v cs→cs.length=v.cs
 | .int ..,cs,h=>by simp only [dR] at h; subst h; rfl
 | .bool _,cs,h=>by simp only [dR] at h; subst h; rfl
 | .str _,cs,h=>by simp only [dR] at h; subst h; rfl
 | .agg l,cs,h=>by simp only [dR] at h; simp only [PV.cs]; exact cK.len h
 | .sl _,cs,h=>by simp only [dR] at h; obtain ⟨a,cap,rfl,_⟩:=h; rfl
 | .ref _,cs,h=>by simp only [dR] at h; obtain ⟨a,cap,rfl,_⟩:=h; rfl
 | .fn ..,cs,h=>by simp only [dR] at h; obtain ⟨a,rfl,_⟩:=h; rfl
 | .mp ..,cs,h=>by
   simp only [dR] at h;rcases h with ⟨rfl,_⟩ | ⟨_,_,_,rfl,_⟩ <;> rfl
 | .eQ,cs,h=>by simp only [dR] at h; subst h; rfl
 | .ff,cs,h=>by simp only [dR] at h; subst h; rfl
theorem cK.len:∀ {l:List PV} {cs:List Value},cK w A l cs→cs.length=PV.da l
 | [],cs,h=>by simp only [cK] at h; subst h; rfl
 | x::r,cs,h=>by
   simp only [cK] at h;obtain ⟨c,d,rfl,h1,h2⟩:=h;rw [aQ,dR.len h1,cK.len h2,PV.da]
end
variable {w':World} {A':Nat→Prop}
mutual
theorem dR.frame (hA:∀ b,A b→A' b) (hw:∀ b,A b→w'.heap[b]?=w.heap[b]?):∀ {v:PV} {cs:List Value},dR w A v cs→dR w' A' v cs
 | .int ..,cs,h=>by simpa only [dR] using h
 | .bool _,cs,h=>by simpa only [dR] using h
 | .str _,cs,h=>by simpa only [dR] using h
 | .agg l,cs,h=>by simp only [dR] at h ⊢; exact cK.frame hA hw h
 | .sl l,cs,h=>by
   simp only [dR] at h ⊢;obtain ⟨a,cap,rfl,hc,h⟩:=h;refine ⟨a,cap,rfl,hc,?_⟩;rcases h with h | ⟨b,o,z,rfl,hb,h⟩
   · exact .inl h
   · exact .inr ⟨b,o,z,rfl,hA b hb,fE.frame hA hw hb h⟩
 | .ref v,cs,h=>by
   simp only [dR] at h ⊢;obtain ⟨b,o,rfl,hb,cv,h1,h2⟩:=h;exact ⟨b,o,rfl,hA b hb,cv,dR.frame hA hw h1,h2.frame (hw b hb)⟩
 | .fn f l,cs,h=>by
   simp only [dR] at h ⊢;obtain ⟨vs,rfl,h⟩:=h;exact ⟨vs,rfl,kK.frame hA hw h⟩
 | .mp ks vs,cs,h=>by
   simp only [dR] at h ⊢;rcases h with h | ⟨b,es,clock,rfl,hb,he,h1,h2⟩
   · exact .inl h
   · exact .inr ⟨b,es,clock,rfl,hA b hb,by rw [hw b hb,he],kK.frame hA hw h1,kK.frame hA hw h2⟩
 | .eQ,cs,h=>by simpa only [dR] using h
 | .ff,cs,h=>by simpa only [dR] using h
theorem cK.frame (hA:∀ b,A b→A' b) (hw:∀ b,A b→w'.heap[b]?=w.heap[b]?):∀ {l:List PV} {cs:List Value},cK w A l cs→cK w' A' l cs
 | [],cs,h=>by simpa only [cK] using h
 | x::r,cs,h=>by
   simp only [cK] at h ⊢;obtain ⟨c,d,rfl,h1,h2⟩:=h;exact ⟨c,d,rfl,dR.frame hA hw h1,cK.frame hA hw h2⟩
theorem fE.frame (hA:∀ b,A b→A' b) (hw:∀ b,A b→w'.heap[b]?=w.heap[b]?):∀ {l:List PV} {b o z:Nat},A b→fE w A l b o z→fE w' A' l b o z
 | [],b,o,z,_,h=>by simp only [fE]
 | x::r,b,o,z,hb,h=>by
   simp only [fE] at h ⊢;obtain ⟨⟨c,h1,h2,h3⟩,h4⟩:=h;exact ⟨⟨c,dR.frame hA hw h1,h2,h3.frame (hw b hb)⟩,fE.frame hA hw hb h4⟩
theorem kK.frame (hA:∀ b,A b→A' b) (hw:∀ b,A b→w'.heap[b]?=w.heap[b]?):∀ {l:List PV} {vs:List Value},kK w A l vs→kK w' A' l vs
 | [],vs,h=>by simpa only [kK] using h
 | x::r,vs,h=>by
   simp only [kK] at h ⊢;obtain ⟨c,d,rfl,h1,h2⟩:=h;exact ⟨c,d,rfl,dR.frame hA hw h1,kK.frame hA hw h2⟩
end
theorem oZ.frame (hA:∀ b,A b→A' b) (hw:∀ b,A b→w'.heap[b]?=w.heap[b]?) {v:PV} {val:Value} (h:oZ w A v val):oZ w' A' v val:=by
 obtain ⟨c,h1,h2⟩:=h;exact ⟨c,h1.frame hA hw,h2⟩
end
end Go.Mid
namespace Go.Mid
open Go.RowKit
def di:=Nat→Prop
def di.le (a b:di):Prop:=∀ g,a g→b g
def di.add (a:di) (g:Nat):di:=fun i=>a i∨i=g
theorem di.le_refl (a:di):a.le a:=fun _ h=>h
theorem di.le_trans {a b c:di} (h:a.le b) (k:b.le c):a.le c:=fun g hg=>k g (h g hg)
theorem di.eH (a:di) (g:Nat):a.le (a.add g):=fun _ h=>.inl h
theorem di.iG (a:di) (g:Nat):(a.add g) g:=.inr rfl
def kR (an:An) (z off len:Nat) (a:Option Addr) (cap:Nat):Prop :=
 match an.b with
 | none=>len=0∧cap=0
 | some b=>(cap + off=an.cap∧an.cap ≤ 9223372036854775807)∧((len=0∧cap=0)∨a=some ⟨b,off * z,none⟩)
section
variable (w:World) (A:Nat→Prop) (E:dL An) (nx:di)
mutual
def bQ:MV→Value→Prop
 | .p v,val=>oZ w A v val
 | .nil _,val=>∃ a,val=.slice a 0 0
 | .own id path off len g,val=>nx g∧∃ a cap,val=.slice a len cap∧len ≤ cap ∧
    ∀ an z,fg (E id) (some path)=some (an,some z)→an.g=g→kR an z off len a cap
 | .ptr id np _ g o,val=>nx g∧∃ a,val=.pointer (some a) ∧
    ∀ an z,fg (E id) np=some (an,z)→an.g=g→∃ b,an.b=some b∧a=⟨b,o,none⟩
 | .fy ..,_=>False
 | .agg l,val=>∃ cs,val=.agg cs.toArray∧dV l cs
 | .fn f iR,val=>∃ vs,val=vf f vs.toArray∧c8 iR vs
 | .eJ l,val=>∃ vs,val=.tuple vs.toArray∧c8 l vs
 | .dead _,_=>True
def dV:List MV→List Value→Prop
 | [],cs=>cs=[]
 | x::r,cs=>∃ v d,cs=v.cells.toList++d∧v.cells.size=x.cs∧(∀ c,v=.agg c→x.isAgg=true∨∃ n,x=.dead n)∧bQ x v∧dV r d
def c8:List MV→List Value→Prop
 | [],vs=>vs=[]
 | x::r,vs=>∃ v d,vs=v::d∧bQ x v∧c8 r d
end
mutual
def TAt:T An→Nat→Nat→Prop
 | .p v,b,o=>∃ cs,dR w A v cs∧Row w b o cs
 | .m v,b,o=>v.cs=1∧v.isAgg=false∧∃ val,bQ w A E nx v val∧Row w b o [val]
 | .agg l,b,o=>cD l b o
 | .vec an z l n,b,o=>∃ a cap,Row w b o [.slice a n cap]∧n ≤ l.length∧kR an z 0 n a cap ∧
    match an.b with
    | none=>l=[]∧an.cap=0
    | some b'=>lT w b' (an.cap * z)∧l.length ≤ an.cap∧(∀ t ∈ l,t.cs=z)∧cD l b' 0
 | .mp ..,_,_=>False
 | .hole n,b,o=>∀ j,j < n→∃ v,w.cell? ⟨b,o + j,none⟩=some v
def cD:List (T An)→Nat→Nat→Prop
 | [],_,_=>True
 | t::r,b,o=>TAt t b o∧cD r b (o + t.cs)
end
def VB (an:An) (z:Nat) (l:List (T An)):Prop :=
 match an.b with
 | none=>l=[]∧an.cap=0
 | some b=>lT w b (an.cap * z)∧l.length ≤ an.cap∧(∀ t ∈ l,t.cs=z)∧cD w A E nx l b 0
def OAt:Obj An→Prop
 | .cell an t=>∃ b,an.b=some b∧lT w b t.cs∧TAt w A E nx t b 0
 | .vec an z l=>VB w A E nx an z l
 | .mp ..=>False
 | .gone=>True
end
mutual
def T.blk:T An→List Nat
 | .agg l=>T.b6 l
 | .vec an _ l _=>an.b.toList++T.b6 l
 | .mp an _ l=>an.b.toList++T.b6 l
 | _=>[]
def T.b6:List (T An)→List Nat
 | []=>[]
 | t::r=>t.blk++T.b6 r
end
def Obj.blk:Obj An→List Nat
 | .cell an t=>an.b.toList++t.blk
 | .vec an _ l=>an.b.toList++T.b6 l
 | .mp an _ l=>an.b.toList++T.b6 l
 | .gone=>[]
mutual
def T.st (nx:di):T An→Prop
 | .agg l=>T.j7 nx l
 | .vec an _ l _=>nx an.g∧T.j7 nx l
 | .mp an _ l=>nx an.g∧T.j7 nx l
 | _=>True
def T.j7 (nx:di):List (T An)→Prop
 | []=>True
 | t::r=>t.st nx∧T.j7 nx r
end
def Obj.st (nx:di):Obj An→Prop
 | .cell an t=>nx an.g∧t.st nx
 | .vec an _ l=>nx an.g∧T.j7 nx l
 | .mp an _ l=>nx an.g∧T.j7 nx l
 | .gone=>True
def oO (nx:di) (E E':dL An):Prop:=∀ id np an z,fg (E' id) np=some (an,z)→nx an.g→fg (E id) np=some (an,z)
theorem oO.refl (nx:di) (E:dL An):oO nx E E:=fun _ _ _ _ h _=>h
theorem oO.trans {nx nx':di} {E E' yF:dL An} (h:oO nx E E') (h':oO nx' E' yF) (hn:nx.le nx'):oO nx E yF :=
 fun id np an z hh hg=>h id np an z (h' id np an z hh (hn _ hg)) hg
structure Fr (w w':World) (A A':Nat→Prop) (E E':dL An) (nx nx':di):Prop where
 hA:∀ b,A b→A' b
 hw:∀ b,A b→w'.heap[b]?=w.heap[b]?
 hE:oO nx E E'
 hn:nx.le nx'
section
variable {w w':World} {A A':Nat→Prop} {E E':dL An} {nx nx':di}
mutual
theorem bQ.frame (f:Fr w w' A A' E E' nx nx'):∀ {v:MV} {val:Value},bQ w A E nx v val→bQ w' A' E' nx' v val
 | .p v,val,h=>by simp only [bQ] at h ⊢; exact h.frame f.hA f.hw
 | .nil _,val,h=>by simpa only [bQ] using h
 | .own ..,val,h=>by
   simp only [bQ] at h ⊢;obtain ⟨hg,a,cap,rfl,hc,h⟩:=h;exact ⟨f.hn _ hg,a,cap,rfl,hc,fun an z hh rE=>h an z (f.hE _ _ _ _ hh (rE ▸ hg)) rE⟩
 | .ptr ..,val,h=>by
   simp only [bQ] at h ⊢;obtain ⟨hg,a,rfl,h⟩:=h;exact ⟨f.hn _ hg,a,rfl,fun an z hh rE=>h an z (f.hE _ _ _ _ hh (rE ▸ hg)) rE⟩
 | .fy ..,val,h=>by simp only [bQ] at h
 | .agg l,val,h=>by
   simp only [bQ] at h ⊢;obtain ⟨cs,rfl,h⟩:=h;exact ⟨cs,rfl,dV.frame f h⟩
 | .fn _ l,val,h=>by
   simp only [bQ] at h ⊢;obtain ⟨vs,rfl,h⟩:=h;exact ⟨vs,rfl,c8.frame f h⟩
 | .eJ l,val,h=>by
   simp only [bQ] at h ⊢;obtain ⟨vs,rfl,h⟩:=h;exact ⟨vs,rfl,c8.frame f h⟩
 | .dead _,val,h=>by simp only [bQ]
theorem dV.frame (f:Fr w w' A A' E E' nx nx'):∀ {l:List MV} {cs:List Value},dV w A E nx l cs→dV w' A' E' nx' l cs
 | [],cs,h=>by simpa only [dV] using h
 | x::r,cs,h=>by
   simp only [dV] at h ⊢;obtain ⟨v,d,rfl,h1,h2,h3,h4⟩:=h;exact ⟨v,d,rfl,h1,h2,bQ.frame f h3,dV.frame f h4⟩
theorem c8.frame (f:Fr w w' A A' E E' nx nx'):∀ {l:List MV} {vs:List Value},c8 w A E nx l vs→c8 w' A' E' nx' l vs
 | [],vs,h=>by simpa only [c8] using h
 | x::r,vs,h=>by
   simp only [c8] at h ⊢;obtain ⟨v,d,rfl,h1,h2⟩:=h;exact ⟨v,d,rfl,bQ.frame f h1,c8.frame f h2⟩
end
mutual
theorem TAt.frame (f:Fr w w' A A' E E' nx nx'):∀ {t:T An} {b o:Nat},(w'.heap[b]?=w.heap[b]?)→(∀ x ∈ t.blk,w'.heap[x]?=w.heap[x]?)→TAt w A E nx t b o→TAt w' A' E' nx' t b o
 | .p v,b,o,hb,_,h=>by
   simp only [TAt] at h ⊢;obtain ⟨cs,h1,h2⟩:=h;exact ⟨cs,h1.frame f.hA f.hw,h2.frame hb⟩
 | .m v,b,o,hb,_,h=>by
   simp only [TAt] at h ⊢;obtain ⟨h0,DQ,val,h1,h2⟩:=h;exact ⟨h0,DQ,val,h1.frame f,h2.frame hb⟩
 | .agg l,b,o,hb,hk,h=>by
   simp only [TAt] at h ⊢;exact cD.frame f hb (by simpa only [T.blk] using hk) h
 | .vec an z l n,b,o,hb,hk,h=>by
   simp only [TAt] at h ⊢;obtain ⟨a,cap,h1,h2,h3,h4⟩:=h;refine ⟨a,cap,h1.frame hb,h2,h3,?_⟩;cases kC:an.b with
   | none=>simpa only [kC] using h4
   | some b' =>
     simp only [kC] at h4 ⊢;simp only [T.blk,kC,cg,aS,a6,aE] at hk;exact ⟨h4.1.frame (hk b' (.inl rfl)),h4.2.1,h4.2.2.1,cD.frame f (hk b' (.inl rfl)) (fun x hx=>hk x (.inr hx)) h4.2.2.2⟩
 | .mp ..,_,_,_,_,h=>by simp only [TAt] at h
 | .hole n,b,o,hb,_,h=>by
   simp only [TAt] at h ⊢;intro j hj;rw [LQ hb]; exact h j hj
theorem cD.frame (f:Fr w w' A A' E E' nx nx'):∀ {l:List (T An)} {b o:Nat},(w'.heap[b]?=w.heap[b]?)→(∀ x ∈ T.b6 l,w'.heap[x]?=w.heap[x]?)→cD w A E nx l b o→cD w' A' E' nx' l b o
 | [],b,o,_,_,h=>by simp only [cD]
 | t::r,b,o,hb,hk,h=>by
   simp only [cD] at h ⊢;simp only [T.b6,List.mem_append] at hk;exact ⟨TAt.frame f hb (fun x hx=>hk x (.inl hx)) h.1,cD.frame f hb (fun x hx=>hk x (.inr hx)) h.2⟩
end
theorem OAt.frame (f:Fr w w' A A' E E' nx nx') {o:Obj An} (hk:∀ x ∈ o.blk,w'.heap[x]?=w.heap[x]?) (h:OAt w A E nx o):OAt w' A' E' nx' o:=by
 cases o with
 | cell an t =>
   simp only [OAt] at h ⊢;obtain ⟨b,hb,h1,h2⟩:=h;simp only [Obj.blk,hb,cg,aS,a6,aE] at hk;exact ⟨b,hb,h1.frame (hk b (.inl rfl)),TAt.frame f (hk b (.inl rfl)) (fun x hx=>hk x (.inr hx)) h2⟩
 | vec an z l =>
   simp only [OAt,VB] at h ⊢;cases kC:an.b with
   | none=>simpa only [kC] using h
   | some b' =>
     simp only [kC] at h ⊢;simp only [Obj.blk,kC,cg,aS,a6,aE] at hk;exact ⟨h.1.frame (hk b' (.inl rfl)),h.2.1,h.2.2.1,cD.frame f (hk b' (.inl rfl)) (fun x hx=>hk x (.inr hx)) h.2.2.2⟩
 | mp=>simp only [OAt] at h
 | gone=>simp only [OAt]
end
def jq (E:dL An) (b:Nat):Prop:=∃ i o,E i=some o∧b ∈ o.blk
structure MR (w:World) (A:Nat→Prop) (E:dL An) (h:cj) (nx:di):Prop where
 er:∀ i,h i=(E i).map (Obj.mapA An.g)
 at_:∀ i o,E i=some o→OAt w A E nx o
 lt:∀ b,jq E b→b < w.heap.size∧¬ A b
 nd:∀ i o,E i=some o→o.blk.Nodup
 dj:∀ i j o o',i ≠ j→E i=some o→E j=some o'→∀ b ∈ o.blk,b ∉ o'.blk
 im:∀ b,A b→b < w.heap.size
 st:∀ i o,E i=some o→o.st nx
structure gE (w:World) (A:Nat→Prop) (E:dL An) (nx:di) (w':World) (A':Nat→Prop) (E':dL An):Prop where
 os:w'.os=w.os
 tape:w'.tape=w.tape
 output:w'.output=w.output
 size:w.heap.size ≤ w'.heap.size
 bm:∀ b,b < w.heap.size→¬ jq E b→w'.heap[b]?=w.heap[b]?
 sub:∀ b,A b→A' b
 Al:∀ b,b < w.heap.size→A' b→A b∨jq E b
 own:∀ b,b < w.heap.size→jq E' b→jq E b
 ns:oO nx E E'
theorem gE.tN {w w':World} {A A':Nat→Prop} {E E':dL An} {nx:di} {h:cj} (m:MR w A E h nx) (g:gE w A E nx w' A' E') (b:Nat) (hb:A b):w'.heap[b]?=w.heap[b]? :=
 g.bm b (m.im b hb) fun ho=>(m.lt b ho).2 hb
theorem gE.refl (w:World) (A:Nat→Prop) (E:dL An) (nx:di):gE w A E nx w A E :=
 ⟨rfl,rfl,rfl,ar _,fun _ _ _=>rfl,fun _ h=>h,fun _ _ h=>.inl h,fun _ _ h=>h,oO.refl _ _⟩
theorem gE.trans {w w' V1:World} {A A' V2:Nat→Prop} {E E' yF:dL An} {nx nx':di} (h:gE w A E nx w' A' E') (k:gE w' A' E' nx' V1 V2 yF) (hn:nx.le nx') :
 gE w A E nx V1 V2 yF where
 os:=k.os.trans h.os
 tape:=k.tape.trans h.tape
 output:=k.output.trans h.output
 size:=Nat.le_trans h.size k.size
 bm:=fun b hb ho=>(k.bm b (bp hb h.size) fun oH=>ho (h.own b hb oH)).trans (h.bm b hb ho)
 sub:=fun b hb=>k.sub b (h.sub b hb)
 Al:=fun b hb hA=>(k.Al b (bp hb h.size) hA).elim (h.Al b hb) fun ho=>.inr (h.own b hb ho)
 own:=fun b hb ho=>h.own b hb (k.own b (bp hb h.size) ho)
 ns:=h.ns.trans k.ns hn
theorem bQ.go {w w':World} {A A':Nat→Prop} {E E':dL An} {nx nx':di} {h:cj} (m:MR w A E h nx) (g:gE w A E nx w' A' E') (hn:nx.le nx') {v:MV} {val:Value}
 (hv:bQ w A E nx v val):bQ w' A' E' nx' v val:=hv.frame ⟨g.sub,g.tN m,g.ns,hn⟩
end Go.Mid
namespace Go.Mid
open Go.RowKit
theorem PH {P:Program} {o:Oper} {a:Act} {w w':World} {next:Act→World→Prop} {Q:Exit→Act→World→Prop} {val:Value}
 (h:(execOp a.eval o).run P w=.ok (.value val) w') (hn:next (a.put o.dst val) w'):o.wp P a w next Q:=by
 unfold Oper.wp; rw [h]; exact hn
theorem C5Z {P:Program} {o:Oper} {a:Act} {w w':World} {next:Act→World→Prop} {Q:Exit→Act→World→Prop}
 (h:(execOp a.eval o).run P w=.ok .skip w') (hn:next (a.put o.dst undef) w'):o.wp P a w next Q:=by
 unfold Oper.wp; rw [h]; exact hn
def cC (P:Program) (o:Oper) (a:Act) (w:World) (A:Nat→Prop) (E:dL An) (nx:di) (γ:Nat) (v:MV) (h':cj):Prop :=
 ∃ val w' A' E',((execOp a.eval o).run P w=.ok (.value val) w'∨((execOp a.eval o).run P w=.ok .skip w'∧val=undef)) ∧
  bQ w' A' E' (nx.add γ) v val∧MR w' A' E' h' (nx.add γ)∧gE w A E nx w' A' E'
mutual
theorem T.j8 {n m:di} (h:n.le m):∀ {t:T An},t.st n→t.st m
 | .p _,_=>trivial
 | .m _,_=>trivial
 | .agg l,k=>by simp only [T.st] at k ⊢; exact T.lU h k
 | .vec ..,k=>by simp only [T.st] at k ⊢; exact ⟨h _ k.1,T.lU h k.2⟩
 | .mp ..,k=>by simp only [T.st] at k ⊢; exact ⟨h _ k.1,T.lU h k.2⟩
 | .hole _,_=>trivial
theorem T.lU {n m:di} (h:n.le m):∀ {l:List (T An)},T.j7 n l→T.j7 m l
 | [],_=>trivial
 | _::_,k=>by simp only [T.j7] at k ⊢; exact ⟨T.j8 h k.1,T.lU h k.2⟩
end
theorem Obj.j8 {n m:di} (h:n.le m) {o:Obj An} (k:o.st n):o.st m:=by
 cases o <;> simp only [Obj.st] at k ⊢
 · exact ⟨h _ k.1,T.j8 h k.2⟩
 · exact ⟨h _ k.1,T.lU h k.2⟩
 · exact ⟨h _ k.1,T.lU h k.2⟩
theorem Fr.same (w:World) (A:Nat→Prop) (E:dL An) {n m:di} (h:n.le m):Fr w w A A E E n m:=⟨fun _ h=>h,fun _ _=>rfl,oO.refl _ _,h⟩
theorem MR.mono {w:World} {A:Nat→Prop} {E:dL An} {h:cj} {n m:di} (k:MR w A E h n) (hn:n.le m):MR w A E h m :=
 ⟨k.er,fun i o ho=>OAt.frame (Fr.same w A E hn) (fun _ _=>rfl) (k.at_ i o ho),k.lt,k.nd,k.dj,k.im,fun i o ho=>Obj.j8 hn (k.st i o ho)⟩
section
variable {P:Program} {o:Oper} {a:Act} {w:World} {A:Nat→Prop} {E:dL An} {nx:di} {γ:Nat} {v:MV} {h:cj}
theorem cC.idle {val:Value} (hr:(execOp a.eval o).run P w=.ok (.value val) w) (hv:bQ w A E nx v val) (hm:MR w A E h nx):cC P o a w A E nx γ v h :=
 ⟨val,w,A,E,.inl hr,hv.frame (Fr.same w A E (nx.eH γ)),hm.mono (nx.eH γ),gE.refl w A E nx⟩
end
section
variable {w:World} {A:Nat→Prop} {E:dL An} {nx:di} {val:Value}
theorem A1X {k:IntKind} {n:Int}:bQ w A E nx (.p (.int k n)) val↔val=.int k n:=by
 simp only [bQ,oZ,dR,PV.isAgg,pk];constructor
 · rintro ⟨c,rfl,rfl⟩; rfl
 · rintro rfl; exact ⟨_,rfl,rfl⟩
theorem tO {b:Bool}:bQ w A E nx (.p (.bool b)) val↔val=.bool b:=by
 simp only [bQ,oZ,dR,PV.isAgg,pk];constructor
 · rintro ⟨c,rfl,rfl⟩; rfl
 · rintro rfl; exact ⟨_,rfl,rfl⟩
theorem Am {s:ByteArray}:bQ w A E nx (.p (.str s)) val↔val=.string s:=by
 simp only [bQ,oZ,dR,PV.isAgg,pk];constructor
 · rintro ⟨c,rfl,rfl⟩; rfl
 · rintro rfl; exact ⟨_,rfl,rfl⟩
theorem V3:bQ w A E nx (.p .eQ) val↔val=.pointer none:=by
 simp only [bQ,oZ,dR,PV.isAgg,pk];constructor
 · rintro ⟨c,rfl,rfl⟩; rfl
 · rintro rfl; exact ⟨_,rfl,rfl⟩
theorem V4:bQ w A E nx (.p .ff) val↔val=.nilFunc:=by
 simp only [bQ,oZ,dR,PV.isAgg,pk];constructor
 · rintro ⟨c,rfl,rfl⟩; rfl
 · rintro rfl; exact ⟨_,rfl,rfl⟩
theorem LR {l:List PV}:bQ w A E nx (.p (.agg l)) val↔∃ cs,val=.agg cs.toArray∧cK w A l cs:=by
 simp only [bQ,oZ,dR,PV.isAgg,pk];constructor
 · rintro ⟨c,h,rfl⟩; exact ⟨c,rfl,h⟩
 · rintro ⟨c,rfl,h⟩; exact ⟨c,h,rfl⟩
theorem vg {l:List PV}:bQ w A E nx (.p (.sl l)) val↔∃ p cap,val=.slice p l.length cap∧l.length ≤ cap∧(l=[]∨∃ b o z,p=some ⟨b,o,none⟩∧A b∧fE w A l b o z):=by
 simp only [bQ,oZ,dR,PV.isAgg,pk];constructor
 · rintro ⟨c,⟨p,cap,rfl,h⟩,rfl⟩; exact ⟨p,cap,rfl,h⟩
 · rintro ⟨p,cap,rfl,h⟩; exact ⟨_,⟨p,cap,rfl,h⟩,rfl⟩
theorem Ao {u:PV}:bQ w A E nx (.p (.ref u)) val↔∃ b o,val=.pointer (some ⟨b,o,none⟩)∧A b∧∃ cv,dR w A u cv∧Row w b o cv:=by
 simp only [bQ,oZ,dR,PV.isAgg,pk];constructor
 · rintro ⟨c,⟨b,o,rfl,h⟩,rfl⟩; exact ⟨b,o,rfl,h⟩
 · rintro ⟨b,o,rfl,h⟩; exact ⟨_,⟨b,o,rfl,h⟩,rfl⟩
theorem LS {f:Nat} {l:List PV}:bQ w A E nx (.p (.fn f l)) val↔∃ vs,val=vf f vs.toArray∧kK w A l vs:=by
 simp only [bQ,oZ,dR,PV.isAgg,pk];constructor
 · rintro ⟨c,⟨vs,rfl,h⟩,rfl⟩; exact ⟨vs,rfl,h⟩
 · rintro ⟨vs,rfl,h⟩; exact ⟨_,⟨vs,rfl,h⟩,rfl⟩
end
def GL (P:Program) (w:World) (A:Nat→Prop):Prop:=∀ g v,F2 P g=some v→oZ w A (.ref v) (.pointer (some ⟨g,0,none⟩))
theorem GL.frame {P:Program} {w w':World} {A A':Nat→Prop} (h:GL P w A) (hA:∀ b,A b→A' b) (hw:∀ b,A b→w'.heap[b]?=w.heap[b]?):GL P w' A':=fun g v hg=>(h g v hg).frame hA hw
structure pZ (P:Program) (w:World) (A:Nat→Prop) (E:dL An) (nx:di) (s:gD) (a:Act):Prop where
 sl:∀ k,bQ w A E nx (s k) (a.tmps.getD k undef)
 gl:GL P w A
section
variable {P:Program} {w:World} {A:Nat→Prop} {E:dL An} {nx:di} {s:gD} {a:Act}
theorem C50 {t:TypeId} {v:Value} {m:MV} (h:PA P t v=some m):bQ w A E nx m v:=by
 unfold PA at h;split at h <;> try cases h
 · exact tO.2 rfl
 · exact A1X.2 rfl
 · exact Am.2 rfl
 · exact V3.2 rfl
 · exact V4.2 rfl
 · simp only [bQ,oZ,dR]; exact ⟨_,.inl ⟨rfl,trivial,trivial⟩,rfl⟩
 · split at h <;> cases h <;> (simp only [bQ]; exact ⟨none,rfl⟩)
theorem jM (hs:pZ P w A E nx s a) {t:TypeId} {x:Operand} {o:dI} (h:fx P t x=some o):bQ w A E nx (cJ s o) (a.eval x):=by
 unfold fx at h;cases x with
 | tmp n=>simp only [aa] at h; subst h; exact hs.sl n
 | const v =>
   simp only at h;split at h
   · rename_i m hm;cases h;exact C50 hm
   · cases h
 | global g =>
   simp only at h;split at h
   · rename_i v hv;cases h;simp only [cJ,bQ];exact hs.gl g v hv
   · cases h
 | func f =>
   simp only at h;split at h
   · rename_i hf;cases h;exact LS.2 ⟨[],(PF hf).symm,by simp only [kK]⟩
   · cases h
theorem F3 (hs:pZ P w A E nx s a):∀ {ts:List TypeId} {xs:List Operand} {os:List dI},qE P ts xs=some os→c8 w A E nx (os.map (cJ s)) (xs.map a.eval)
 | [],[],os,h=>by simp only [qE] at h; cases h; simp only [cl,c8]
 | t::ts,[],os,h=>by simp only [qE] at h; cases h; simp only [cl,c8]
 | [],x::r,os,h=>by
   simp only [qE] at h;split at h
   · rename_i o V5 h1 h2;cases h;simp only [aD,c8];exact ⟨_,_,rfl,jM hs h1,F3 hs h2⟩
   · cases h
 | t::ts,x::r,os,h=>by
   simp only [qE] at h;split at h
   · rename_i o V5 h1 h2;cases h;simp only [aD,c8];exact ⟨_,_,rfl,jM hs h1,F3 hs h2⟩
   · cases h
end
section
variable {P:Program} (w:World)
theorem V6 (op:BinOp) (k:IntKind) (x y n:Int) (h:HV op k x y=some n):(Op.intBits op k x y).run P w=.ok (.int k n) w:=by
 cases op <;> simp [HV] at h <;> subst h <;> simp [Op.intBits]
theorem V7 {t:TypeId} (ht:P.underlying t=some .bool) (m n:Bool):(lk t (.bool m) (.bool n)).run P w=.ok (m == n) w:=by
 have h:∀ d,(gH (d + 1) t (.bool m) (.bool n)).run P w=.ok (m == n) w:=by
  intro d;simp [gH,aZ ht w]
 exact h 9999
theorem C7M (op:BinOp) (t:TypeId) {x y z:PV} (h:jz op x y=some z) {A:Nat→Prop} {E:dL An} {nx:di} {a b:Value}
 (ha:bQ w A E nx (.p x) a) (hb:bQ w A E nx (.p y) b) (yG:(∃ p,x=.bool p)→P.underlying t=some .bool) :
 ∃ c,(binOp op t a b).run P w=.ok c w∧bQ w A E nx (.p z) c∧∀ X Y,(eqGuard op t X Y a b).run P w=.ok () w:=by
 cases x <;> cases y <;> simp only [jz] at h <;> try cases h
 · rename_i k m k' n;rw [A1X] at ha hb;subst ha; subst hb;have hg:∀ X Y,(eqGuard op t X Y (.int k m) (.int k' n)).run P w=.ok () w:=by
    intro X Y; unfold eqGuard; cases op <;> simp
   cases op <;> simp only at h
   all_goals first
    | (split at h
       · cases h
       · rename_i hk;simp only [ne_eq,Decidable.not_not] at hk;subst hk
         first
          | (simp only [aa] at h; subst h
             refine ⟨_,?_,A1X.2 rfl,hg⟩;simp [binOp,Op.intArith]; done)
          | (simp only [aa] at h; subst h
             refine ⟨_,?_,tO.2 rfl,hg⟩;simp [binOp,Op.intCmp]; done)
          | (split at h
             · cases h
             · rename_i hz;simp only [aa] at h; subst h;refine ⟨_,?_,A1X.2 rfl,hg⟩;simp [binOp,Op.intDiv,hz]; done)
          | (split at h
             · rename_i r hr;simp only [aa] at h; subst h;refine ⟨_,?_,A1X.2 rfl,hg⟩
               have:=V6 (P:=P) w _ k m n r hr
               simpa [binOp] using this
             · cases h))
    | (split at h
       · cases h
       · rename_i hz;simp only [aa] at h; subst h;refine ⟨_,?_,A1X.2 rfl,hg⟩;simp [binOp,Op.shift,hz]; done)
 · rename_i m n;rw [tO] at ha hb;subst ha; subst hb;have ht:=yG ⟨_,rfl⟩;have hg:∀ X Y,(eqGuard op t X Y (.bool m) (.bool n)).run P w=.ok () w:=by
    intro X Y; unfold eqGuard; cases op <;> simp
   cases op <;> simp only at h <;> cases h
   · refine ⟨_,?_,tO.2 rfl,hg⟩;have e:binOp .eql t (.bool m) (.bool n)=(do pure (.bool (← lk t (.bool m) (.bool n)))):=rfl
     rw [e];simp only [bn,V7 w ht,aV,bL]
   · refine ⟨_,?_,tO.2 rfl,hg⟩;have e:binOp .neq t (.bool m) (.bool n)=(do pure (.bool (!(← lk t (.bool m) (.bool n))))):=rfl
     rw [e];simp only [bn,V7 w ht,aV,bL]
 · rename_i m n;rw [Am] at ha hb;subst ha; subst hb;have hg:∀ X Y,(eqGuard op t X Y (.string m) (.string n)).run P w=.ok () w:=by
    intro X Y; unfold eqGuard; cases op <;> simp
   cases op <;> simp only at h
   all_goals first
    | cases h; done
    | (simp only [aa] at h; subst h
       refine ⟨_,?_,tO.2 rfl,hg⟩;simp [binOp,Op.stringOp]; done)
    | (split at h
       · rename_i hz;simp only [aa] at h; subst h;refine ⟨_,?_,Am.2 rfl,hg⟩;have CD:¬ (((m.size + n.size:Nat):Int) > IntKind.i64.max):=by
          simp only [IntKind.max,IntKind.signed,IntKind.bits]; simp; omega
         simp [binOp,Op.stringOp];omega
       · cases h)
end
end Go.Mid
namespace Go.Mid
open Go.RowKit
section
variable {w:World} {A:Nat→Prop} {E:dL An} {nx:di}
theorem cK.get:∀ {l:List PV} {cs:List Value} {i:Nat} {x:PV},cK w A l cs→l[i]?=some x →
 ∃ p c q,cs=p++c++q∧p.length=PV.da (l.take i)∧dR w A x c
 | [],_,i,x,_,hi=>by simp at hi
 | y::r,cs,0,x,h,hi=>by
   simp only [cK] at h;obtain ⟨c,d,rfl,h1,h2⟩:=h;simp only [bP,aa] at hi;subst hi;exact ⟨[],c,d,rfl,rfl,h1⟩
 | y::r,cs,i + 1,x,h,hi=>by
   simp only [cK] at h;obtain ⟨c,d,rfl,h1,h2⟩:=h;simp only [bJ] at hi;obtain ⟨p,c',q,rfl,hp,hc⟩:=cK.get h2 hi;refine ⟨c++p,c',q,by simp only [bf],?_,hc⟩
   rw [aQ,hp,h1.len,bS,PV.da]
theorem dV.get:∀ {l:List MV} {cs:List Value} {i:Nat} {x:MV},dV w A E nx l cs→l[i]?=some x →
 ∃ p v q,cs=p++v.cells.toList++q∧p.length=MV.da (l.take i)∧v.cells.size=x.cs∧(∀ c,v=.agg c→x.isAgg=true∨∃ n,x=.dead n)∧bQ w A E nx x v
 | [],_,i,x,_,hi=>by simp at hi
 | y::r,cs,0,x,h,hi=>by
   simp only [dV] at h;obtain ⟨v,d,rfl,h1,h2,h3,h4⟩:=h;simp only [bP,aa] at hi;subst hi;exact ⟨[],v,d,rfl,rfl,h1,h2,h3⟩
 | y::r,cs,i + 1,x,h,hi=>by
   simp only [dV] at h;obtain ⟨v,d,rfl,h1,h2,h3,h4⟩:=h;simp only [bJ] at hi;obtain ⟨p,v',q,rfl,hp,hc⟩:=dV.get h4 hi;refine ⟨v.cells.toList++p,v',q,by simp only [bf],?_,hc⟩
   rw [aQ,hp,dW,h1,bS,MV.da]
theorem dR.one {v:PV} {c:List Value} (h:dR w A v c) (hv:v.isAgg=false):∃ x,c=[x]∧x.cells=#[x]:=by
 cases v <;> simp only [dR] at h <;> try (subst h; exact ⟨_,rfl,rfl⟩)
 · simp [PV.isAgg] at hv
 · obtain ⟨a,cap,rfl,_⟩:=h; exact ⟨_,rfl,rfl⟩
 · obtain ⟨a,cap,rfl,_⟩:=h; exact ⟨_,rfl,rfl⟩
 · obtain ⟨a,rfl,_⟩:=h; exact ⟨_,rfl,LP _ _⟩
 · rcases h with ⟨rfl,_⟩ | ⟨_,_,_,rfl,_⟩ <;> exact ⟨_,rfl,rfl⟩
theorem dR.mU {v:PV} {c:List Value} (h:dR w A v c):(pk v.isAgg c).cells=c.toArray:=by
 cases hv:v.isAgg with
 | true=>simp [pk,db]
 | false =>
   obtain ⟨x,rfl,hx⟩:=h.one hv;simp [pk,hx]
theorem bQ.vh {x:MV} {v:Value} (h:bQ w A E nx x v) (hx:x.isAgg=false) (hd:∀ n,x ≠ .dead n):v.cells=#[v]:=by
 cases x with
 | p u =>
   simp only [bQ,oZ] at h;obtain ⟨c,h1,rfl⟩:=h;simp only [MV.isAgg] at hx;obtain ⟨y,rfl,hy⟩:=h1.one hx;simp [pk,hx,hy]
 | nil=>simp only [bQ] at h; obtain ⟨a,rfl⟩:=h; rfl
 | own=>simp only [bQ] at h; obtain ⟨_,a,cap,rfl,_⟩:=h; rfl
 | ptr=>simp only [bQ] at h; obtain ⟨_,a,rfl,_⟩:=h; rfl
 | fy=>simp only [bQ] at h
 | agg=>simp [MV.isAgg] at hx
 | fn=>simp only [bQ] at h; obtain ⟨_,rfl,_⟩:=h; exact LP _ _
 | eJ=>simp only [bQ] at h; obtain ⟨_,rfl,_⟩:=h; rfl
 | dead n=>exact absurd rfl (hd n)
theorem bQ.DR {x:MV} {v:Value} (h:bQ w A E nx x v) (hx:x.isAgg=true):∃ c,v=.agg c:=by
 cases x <;> simp only [MV.isAgg,aI] at hx
 · rename_i u;cases u <;> simp only [PV.isAgg,aI] at hx;obtain ⟨cs,rfl,_⟩:=LR.1 h;exact ⟨_,rfl⟩
 · simp only [bQ] at h; obtain ⟨cs,rfl,_⟩:=h; exact ⟨_,rfl⟩
theorem bQ.H4 {x:MV} {v:Value} (h:bQ w A E nx x v) (hd:∀ n,x ≠ .dead n):pk x.isAgg v.cells.toList=v:=by
 cases hx:x.isAgg with
 | true=>obtain ⟨c,rfl⟩:=h.DR hx; simp [pk,db]
 | false=>have:=h.vh hx hd; simp [pk,this]
end
section
variable {P:Program} (w:World)
theorem PI {t:TypeId} (h:P.cellsOf t ≠ 0):∃ i,P.info? t=some i∧i.size=P.cellsOf t:=by
 unfold Program.cellsOf at h ⊢;cases hi:P.info? t with
 | none=>simp [hi] at h
 | some i=>exact ⟨i,rfl,by simp⟩
theorem B4v {t:TypeId} {d:TypeDesc} (h:P.underlying t=some d):∃ i,P.info? t=some i∧i.size=P.cellsOf t:=by
 unfold Program.underlying at h;unfold Program.cellsOf;cases hi:P.info? t with
 | none=>simp [hi] at h
 | some i=>exact ⟨i,rfl,by simp⟩
theorem V8 {t:TypeId} {i:TypeInfo} (h:P.info? t=some i):(sizeOf t).run P w=.ok i.size w:=by
 simp [sizeOf,typeInfo,h]
theorem DS {t:TypeId} (h:qD P t=true):(sizeOf t).run P w=.ok (P.cellsOf t) w:=by
 unfold qD at h;obtain ⟨d,hd⟩:=e7.1 h;obtain ⟨i,hi,hs⟩:=B4v hd;rw [V8 w hi,hs]
theorem Bk {t:TypeId} (h:P.cellsOf t ≠ 0):(sizeOf t).run P w=.ok (P.cellsOf t) w:=by
 obtain ⟨i,hi,hs⟩:=PI h;rw [V8 w hi,hs]
theorem V9 {t:TypeId} (h:qD P t=true):(isAgg t).run P w=.ok (mO P t) w:=by
 unfold qD at h;obtain ⟨d,hd⟩:=e7.1 h;simp only [isAgg,bn,aZ hd,aV,mO,hd];cases d <;> rfl
theorem F4 {t:TypeId} (h:qD P t=true) (p c q:List Value) (hc:c.length=P.cellsOf t) (h1:mO P t=false→c.length=1) :
 (part t (p++c++q).toArray p.length).run P w=.ok (pk (mO P t) c) w:=by
 simp only [part,bn,V9 w h,aV];cases hg:mO P t with
 | true =>
   simp only [if_true,bn,DS w h,aV,bL,pk];congr 2;rw [← hc];apply gI;simp [List.drop_left',List.take_left']
 | false =>
   have hl:=h1 hg;obtain ⟨x,rfl⟩:=List.length_eq_one_iff.1 hl;simp [pk]
end
section
variable {P:Program} {w:World} {A:Nat→Prop}
def TD.isAgg:TD→Bool | .agg _=>true | _=>false
mutual
theorem DT:∀ {d:TD} {x:PV},pt d x=true→x.cs=d.cs∧x.isAgg=d.isAgg
 | .int _,.int ..,_=>⟨rfl,rfl⟩
 | .bool,.bool _,_=>⟨rfl,rfl⟩
 | .str,.str _,_=>⟨rfl,rfl⟩
 | .agg l,.agg m,h=>by
   simp only [pt] at h;simp only [PV.cs,TD.cs,PV.isAgg,TD.isAgg,and_true];exact Wa h
 | .int _,.bool _,h | .int _,.str _,h | .int _,.agg _,h | .int _,.sl _,h | .int _,.ref _,h | .int _,.fn ..,h | .int _,.mp ..,h | .int _,.eQ,h | .int _,.ff,h=>by simp [pt] at h
 | .bool,.int ..,h | .bool,.str _,h | .bool,.agg _,h | .bool,.sl _,h | .bool,.ref _,h | .bool,.fn ..,h | .bool,.mp ..,h | .bool,.eQ,h | .bool,.ff,h=>by simp [pt] at h
 | .str,.int ..,h | .str,.bool _,h | .str,.agg _,h | .str,.sl _,h | .str,.ref _,h | .str,.fn ..,h | .str,.mp ..,h | .str,.eQ,h | .str,.ff,h=>by simp [pt] at h
 | .agg _,.int ..,h | .agg _,.bool _,h | .agg _,.str _,h | .agg _,.sl _,h | .agg _,.ref _,h | .agg _,.fn ..,h | .agg _,.mp ..,h | .agg _,.eQ,h | .agg _,.ff,h=>by simp [pt] at h
theorem Wa:∀ {l:List TD} {m:List PV},sg l m=true→PV.da m=TD.da l
 | [],[],_=>rfl
 | d::l,x::m,h=>by
   simp only [sg,aj] at h;simp only [PV.da,TD.da,(DT h.1).1,Wa h.2]
 | [],_::_,h | _::_,[],h=>by simp [sg] at h
end
theorem PJ {n:Nat} {t:TypeId} {d:TD} (h:yE P n t=some d):qD P t=true∧mO P t=d.isAgg:=by
 cases n with
 | zero=>simp [yE] at h
 | succ n =>
   unfold yE at h;unfold qD mO;cases hu:P.underlying t with
   | none=>rw [hu] at h; cases h
   | some dd =>
     rw [hu] at h;cases dd <;> simp only at h <;> first
      | (cases h; exact ⟨rfl,rfl⟩)
      | (cases h; done)
      | (split at h
         · cases h
         · split at h
           · cases h; exact ⟨rfl,rfl⟩
           · cases h)
      | (split at h
         · split at h
           · cases h; exact ⟨rfl,rfl⟩
           · cases h
         · cases h)
theorem Wb {n:Nat} {e:TypeId} {d:TD} {z:Nat} (f:Nat) (hz:P.cellsOf e=z) (hu:qD P e=true) (hagg:mO P e=d.isAgg) (hd:d.cs=z)
 (ih:∀ (x y:PV) (cx cy:List Value),pt d x=true→pt d y=true→dR w A x cx→dR w A y cy→(gH (f + n) e (pk x.isAgg cx) (pk y.isAgg cy)).run P w=.ok (u5 x y) w) :
 ∀ (k i:Nat) (xs ys:List PV) (px cx py cy:List Value),sg (aq k d) xs=true→sg (aq k d) ys=true→cK w A xs cx→cK w A ys cy →
  px.length=i * z→py.length=i * z →
  ((forIn (List.range' i k) ((none,()):Option Bool×Unit) fun j r=>do
    let a ← part e (px++cx).toArray (j * z)
    let b ← part e (py++cy).toArray (j * z)
    let c ← gH (f + n) e a b
    if (!c)=true then pure (ForInStep.done (some false,())) else pure (ForInStep.yield (none,())):Sem (Option Bool×Unit))).run P w =
    .ok (if wU xs ys then (none,()) else (some false,())) w
 | 0,i,xs,ys,px,cx,py,cy,hx,hy,_,_,_,_=>by
   cases xs with
   | nil=>cases ys with
     | nil=>simp [wU]
     | cons=>simp [sg] at hy
   | cons=>simp [sg] at hx
 | k + 1,i,xs,ys,px,cx,py,cy,hx,hy,rx,ry,lx,ly=>by
   cases xs with
   | nil=>simp [cB,sg] at hx
   | cons x xs =>
     cases ys with
     | nil=>simp [cB,sg] at hy
     | cons y ys =>
       simp only [cB,sg,aj] at hx hy;simp only [cK] at rx ry;obtain ⟨c1,d1,rfl,r1,r2⟩:=rx;obtain ⟨c2,d2,rfl,s1,s2⟩:=ry;obtain ⟨uJ,hx2⟩:=DT hx.1;obtain ⟨CE,hy2⟩:=DT hy.1;have e1:=F4 (P:=P) w hu px c1 d1 (by rw [r1.len,uJ,hd,hz]) (fun h=>by rw [hagg] at h; rw [← hx2] at h; obtain ⟨_,rfl,_⟩:=r1.one h; rfl)
       have e2:=F4 (P:=P) w hu py c2 d2 (by rw [s1.len,CE,hd,hz]) (fun h=>by rw [hagg] at h; rw [← hy2] at h; obtain ⟨_,rfl,_⟩:=s1.one h; rfl)
       rw [hagg,← hx2] at e1;rw [hagg,← hy2] at e2;rw [lx] at e1; rw [ly] at e2;rw [List.range'_succ,List.forIn_cons];simp only [← bf] at e1 e2 ⊢;simp only [bn,e1,e2,aV,ih x y c1 c2 hx.1 hy.1 r1 s1,Sem.run_ite];cases he:u5 x y with
       | false=>simp [wU,he]
       | true =>
         simp only [b3,aI,if_false,bL,aV]
         have:=Wb f hz hu hagg hd ih k (i + 1) xs ys (px++c1) d1 (py++c2) d2 hx.2 hy.2 r2 s2
          (by rw [aQ,lx,r1.len,uJ,hd,dv]) (by rw [aQ,ly,s1.len,CE,hd,dv])
         simp only [wU,he,ej];exact this
end
end Go.Mid
namespace Go.Mid
open Go.RowKit
section
variable {P:Program} {w:World} {A:Nat→Prop}
theorem Wc {n f:Nat} (ih:∀ (t:TypeId) (d:TD),yE P n t=some d→∀ (x y:PV) (cx cy:List Value),pt d x=true→pt d y=true→dR w A x cx→dR w A y cy →
 (gH (f + n) t (pk x.isAgg cx) (pk y.isAgg cy)).run P w=.ok (u5 x y) w) :
 ∀ (fs:List Field) (off:Nat) (ds:List TD) (xs ys:List PV) (px cx py cy:List Value),H3 P (fs.map fun f=>(f,yE P n f.type)) off=some ds→sg ds xs=true→sg ds ys=true →
  cK w A xs cx→cK w A ys cy→px.length=off→py.length=off →
  (qC (f + n) (px++cx).toArray (py++cy).toArray fs).run P w=.ok (wU xs ys) w
 | [],off,ds,xs,ys,px,cx,py,cy,h,hx,hy,_,_,_,_=>by
   simp only [aD,cl,H3] at h; cases h;cases xs <;> cases ys <;> simp [sg] at hx hy;simp [qC,wU]
 | fd::fs,off,ds,xs,ys,px,cx,py,cy,h,hx,hy,rx,ry,lx,ly=>by
   simp only [aD,cl,H3] at h;split at h
   · rename_i d ds' h1 h2;split at h
     · rename_i hc;obtain ⟨tQ,lz,eY⟩:=hc;cases h;cases xs with
       | nil=>simp [sg] at hx
       | cons x xs =>
         cases ys with
         | nil=>simp [sg] at hy
         | cons y ys =>
           simp only [sg,aj] at hx hy;simp only [cK] at rx ry;obtain ⟨c1,d1,rfl,r1,r2⟩:=rx;obtain ⟨c2,d2,rfl,s1,s2⟩:=ry;obtain ⟨uJ,hx2⟩:=DT hx.1;obtain ⟨CE,hy2⟩:=DT hy.1;obtain ⟨hu,hagg⟩:=PJ h1;have e1:=F4 (P:=P) w hu px c1 d1 (by rw [r1.len,uJ,eY]) (fun h=>by rw [hagg] at h; rw [← hx2] at h; obtain ⟨_,rfl,_⟩:=r1.one h; rfl)
           have e2:=F4 (P:=P) w hu py c2 d2 (by rw [s1.len,CE,eY]) (fun h=>by rw [hagg] at h; rw [← hy2] at h; obtain ⟨_,rfl,_⟩:=s1.one h; rfl)
           rw [hagg,← hx2] at e1;rw [hagg,← hy2] at e2;rw [lx,← lz] at e1; rw [ly,← lz] at e2;have PK:=Wc ih fs (off + P.cellsOf fd.type) ds' xs ys (px++c1) d1 (py++c2) d2 h2 hx.2 hy.2 r2 s2
            (by rw [aQ,lx,r1.len,uJ,eY]) (by rw [aQ,ly,s1.len,CE,eY])
           simp only [← bf] at e1 e2 ⊢;simp only [qC,if_pos tQ,bn,e1,e2,aV,ih fd.type d h1 x y c1 c2 hx.1 hy.1 r1 s1,Sem.run_ite];cases he:u5 x y with
           | false=>simp [wU,he]
           | true =>
             simp only [b3,aI,if_false,wU,he,ej];exact PK
     · cases h
   · cases h
theorem Wd:∀ (n:Nat) (f:Nat) (t:TypeId) (d:TD),yE P n t=some d→∀ (x y:PV) (cx cy:List Value),pt d x=true→pt d y=true→dR w A x cx→dR w A y cy →
 (gH (f + n) t (pk x.isAgg cx) (pk y.isAgg cy)).run P w=.ok (u5 x y) w
 | 0,_,_,_,h=>by simp [yE] at h
 | n + 1,f,t,d,h=>by
   intro x y cx cy hx hy rx ry;have ih:=Wd n;unfold yE at h;cases hu:P.underlying t with
   | none=>rw [hu] at h; cases h
   | some dd =>
     rw [hu] at h;cases dd <;> simp only at h <;> try (cases h; done)
     · cases h;cases x <;> simp [pt] at hx;cases y <;> simp [pt] at hy;simp only [dR] at rx ry;subst rx; subst ry;exact run_equalIn_bool' w (f + n) t _ _ hu
     · cases h;cases x <;> simp [pt] at hx;cases y <;> simp [pt] at hy;simp only [dR] at rx ry;subst rx; subst ry;subst hx; subst hy;exact run_equalIn_int w (f + n) t _ _ _ _ hu
     · cases h;cases x <;> simp [pt] at hx;cases y <;> simp [pt] at hy;simp only [dR] at rx ry;subst rx; subst ry;exact run_equalIn_string w (f + n) t _ _ hu
     · rename_i len e;split at h
       · rename_i d' h1;split at h
         · rename_i eY;cases h;cases x <;> simp only [pt,aI] at hx;cases y <;> simp only [pt,aI] at hy;simp only [dR] at rx ry;obtain ⟨We,hagg⟩:=PJ h1
           have:=Wb (P:=P) (w:=w) (A:=A) (n:=n) (e:=e) (d:=d') (z:=P.cellsOf e) f rfl We hagg eY (ih f e d' h1) len 0 _ _ [] cx [] cy hx hy rx ry (by simp) (by simp)
           simp only [a6] at this;rw [show f + (n + 1)=(f + n) + 1 from rfl];simp only [pk,PV.isAgg,if_true,gH,bn,aZ hu,aV,DS w We];have hs:([:len]:Std.Legacy.Range).size=len:=by simp [Std.Legacy.Range.size]
           rw [Std.Legacy.Range.forIn_eq_forIn_range',hs];simp only at this ⊢;rw [this];simp only [u5];cases wU _ _ <;> rfl
         · cases h
       · cases h
     · rename_i fs;split at h
       · cases h
       · rename_i hst;split at h
         · rename_i ds h1;cases h;cases x <;> simp only [pt,aI] at hx;cases y <;> simp only [pt,aI] at hy;simp only [dR] at rx ry;have Wf:P.fieldsOf t=fs:=by simp [Program.fieldsOf,hu]
           have:=run_equalIn_struct (P:=P) w (f + n) t cx.toArray cy.toArray (by rw [Wf]; exact hu) (by simpa using hst)
           rw [show f + (n + 1)=(f + n) + 1 from rfl];simp only [pk,PV.isAgg,if_true];rw [this,Wf]
           have:=Wc (ih f) fs.toList 0 ds _ _ [] cx [] cy h1 hx hy rx ry rfl rfl
           simpa [u5] using this
         · cases h
end
end Go.Mid
namespace Go.Mid
open Go.RowKit
theorem DU (a:Act) (v:Value):a.eval (.const v)=v:=rfl
section
variable {P:Program} {o:Oper} {a:Act} {w:World} {A:Nat→Prop} {E:dL An} {nx:di} {γ:Nat} {v:MV} {h h':cj} {s:gD} {K:jl} {d:Option Nat}
 (hs:pZ P w A E nx s a) (hm:MR w A E h nx)
include hs hm
theorem Wg {x:Operand} {y:dI} (ho:o.op=.move x∨o.op=.assign x) (hx:fx P o.type x=some y)
 (he:b7 K γ d s h (.move y)=some (v,h')):cC P o a w A E nx γ v h':=by
 simp only [b7,aa,ae] at he;obtain ⟨rfl,rfl⟩:=he;refine cC.idle ?_ (jM hs hx) hm;rcases ho with ho | ho <;> simp [execOp,ho]
theorem C9y {c x y:Operand} {c' x' y':dI} (ho:o.op=.pick c x y) {t0:TypeId} (hc:fx P t0 c=some c') {t1 t2:TypeId} (hx:fx P t1 x=some x') (hy:fx P t2 y=some y')
 (he:b7 K γ d s h (.pick c' x' y')=some (v,h')):cC P o a w A E nx γ v h':=by
 simp only [b7] at he;split at he
 · rename_i b hb;simp only [aa,ae] at he;obtain ⟨rfl,rfl⟩:=he;have Ap:=jM hs hc;rw [hb,tO] at Ap;refine cC.idle (val:=if b then a.eval x else a.eval y) ?_ ?_ hm
   · simp [execOp,ho,Ap,asBool]
   · cases b
     · exact jM hs hy
     · exact jM hs hx
 · cases he
theorem C9z {x:Operand} {y:dI} (ho:o.op=.nilCheck x) {t:TypeId} (hx:fx P t x=some y)
 (he:b7 K γ d s h (.nilc y)=some (v,h')):cC P o a w A E nx γ v h':=by
 have hv:=jM hs hx;simp only [b7] at he;split at he
 · rename_i u hu;simp only [aa,ae] at he;obtain ⟨rfl,rfl⟩:=he;rw [hu] at hv;obtain ⟨b,o',cE,_⟩:=Ao.1 hv;refine cC.idle (val:=a.eval x) ?_ hv hm;simp [execOp,ho,cE]
 · rename_i id np rp g o' hu;simp only [aa,ae] at he;obtain ⟨rfl,rfl⟩:=he;rw [hu] at hv;refine cC.idle (val:=a.eval x) ?_ hv hm;simp only [bQ] at hv;obtain ⟨_,p,cE,_⟩:=hv;simp [execOp,ho,cE]
 · cases he
theorem PL {bl:Bool} {op:BinOp} {t yt:TypeId} {x y:Operand} {x' y':dI} (ho:o.op=.binOp op t x y yt) (hx:fx P t x=some x') (hy:fx P yt y=some y')
 (hb:P.underlying t=some .bool∨(∃ k,P.underlying t=some (.int k))∨P.underlying t=some .string)
 (yG:bl=true→P.underlying t=some .bool)
 (he:b7 K γ d s h (.bin bl op x' y')=some (v,h')):cC P o a w A E nx γ v h':=by
 have dH:=jM hs hx;have uK:=jM hs hy;simp only [b7] at he;split at he
 · rename_i p q hp hq;split at he
   · rename_i tm;split at he
     · rename_i r hr;simp only [aa,ae] at he;obtain ⟨rfl,rfl⟩:=he;rw [hp] at dH; rw [hq] at uK;obtain ⟨c,pB,oP,sr⟩:=C7M (P:=P) w op t hr dH uK (by rintro ⟨b,rfl⟩; exact yG tm.symm)
       refine cC.idle (val:=c) ?_ oP hm;simp [execOp,ho,sr,pB]
     · cases he
   · cases he
 · cases he
theorem LU {op:BinOp} {t yt:TypeId} {x y:Operand} {x' y':dI} {neg:Bool} {td:TD} (ho:o.op=.binOp op t x y yt) (eZ:op=if neg then .neq else .eql)
 (hx:fx P t x=some x') (hy:fx P yt y=some y') (wY:PC P t=some td) (hagg:mO P t=true)
 (he:b7 K γ d s h (.eqs neg td x' y')=some (v,h')):cC P o a w A E nx γ v h':=by
 have dH:=jM hs hx;have uK:=jM hs hy;simp only [b7] at he;split at he
 · rename_i p q hp hq;split at he
   · rename_i qV;simp only [aj] at qV;simp only [aa,ae,Ae] at he;obtain ⟨rfl,rfl⟩:=he;rw [hp] at dH; rw [hq] at uK;unfold PC at wY;split at wY
     · cases wY
     · rename_i hg;have rE:P.eqGuardType P.depth t=false:=by simpa using hg
       simp only [bQ,oZ] at dH uK;obtain ⟨cx,rx,ex⟩:=dH;obtain ⟨cy,ry,ey⟩:=uK;have hu:=PJ wY;have qM:p.isAgg=true:=by rw [(DT qV.1).2,← hu.2,hagg]
       have Wh:q.isAgg=true:=by rw [(DT qV.2).2,← hu.2,hagg]
       have hr:=Wd (P:=P) (w:=w) (A:=A) 20 9980 t td wY p q cx cy qV.1 qV.2 rx ry;rw [qM,Wh] at hr;rw [qM] at ex; rw [Wh] at ey;simp only [pk,if_true] at hr ex ey;refine cC.idle (val:=.bool (u5 p q != neg)) ?_ (tO.2 rfl) hm;cases neg with
       | false =>
         simp only [aI,if_false] at eZ;subst eZ;simp only [execOp,ho,ex,ey,bn,run_eqGuard_agg w _ _ _ _ _ _ rE,aV,run_eql_struct,hr,bL,Bool.bne_false]
       | true =>
         simp only [if_true] at eZ;subst eZ;simp only [execOp,ho,ex,ey,bn,run_eqGuard_agg w _ _ _ _ _ _ rE,aV,run_neq_struct,hr,bL,Bool.bne_true]
   · cases he
 · cases he
theorem D1v {t:TypeId} {x:Operand} {x':dI} (ho:o.op=.unOp .not t x) (hx:fx P t x=some x')
 (he:b7 K γ d s h (.not x')=some (v,h')):cC P o a w A E nx γ v h':=by
 have dH:=jM hs hx;simp only [b7] at he;split at he
 · rename_i b hb;simp only [aa,ae,Ae] at he;obtain ⟨rfl,rfl⟩:=he;rw [hb,tO] at dH;refine cC.idle (val:=.bool !b) ?_ (tO.2 rfl) hm;simp [execOp,ho,dH,uA]
 · cases he
theorem D1w {t:TypeId} {x:Operand} {x':dI} (ho:o.op=.unOp .neg t x) (hx:fx P t x=some x')
 (he:b7 K γ d s h (.neg x')=some (v,h')):cC P o a w A E nx γ v h':=by
 have dH:=jM hs hx;simp only [b7] at he;split at he
 · rename_i k n hb;simp only [aa,ae] at he;obtain ⟨rfl,rfl⟩:=he;rw [hb,A1X] at dH;refine cC.idle (val:=.int k (k.wrap (0 - n))) ?_ (A1X.2 rfl) hm;simp [execOp,ho,dH,uA,Op.intArith]
 · cases he
theorem D1x {t:TypeId} {x:Operand} {x':dI} (ho:o.op=.unOp .xor t x) (hx:fx P t x=some x')
 (he:b7 K γ d s h (.inv x')=some (v,h')):cC P o a w A E nx γ v h':=by
 have dH:=jM hs hx;simp only [b7] at he;split at he
 · rename_i k n hb;split at he
   · rename_i m PM;simp only [aa,ae] at he;obtain ⟨rfl,rfl⟩:=he;rw [hb,A1X] at dH;refine cC.idle (val:=.int k m) ?_ (A1X.2 rfl) hm
     have:=V6 (P:=P) w .xor k (if k.signed then -1 else k.max) n m PM
     simp [execOp,ho,dH,uA,this]
   · cases he
 · cases he
theorem C7N {src dst:TypeId} {k0 k:IntKind} {x:Operand} {x':dI} (ho:o.op=.convert src dst x) (hx:fx P src x=some x') (h0:P.underlying src=some (.int k0)) (h1:P.underlying dst=some (.int k))
 (he:b7 K γ d s h (.convI k x')=some (v,h')):cC P o a w A E nx γ v h':=by
 have dH:=jM hs hx;simp only [b7] at he;split at he
 · rename_i k1 n hb;simp only [aa,ae] at he;obtain ⟨rfl,rfl⟩:=he;rw [hb,A1X] at dH;refine cC.idle (val:=.int k (k.wrap n)) ?_ (A1X.2 rfl) hm;simp [execOp,ho,dH,convert,aZ h0,aZ h1,Conv.intToInt]
 · cases he
theorem C7O {src dst:TypeId} {x:Operand} {x':dI} (ho:o.op=.convert src dst x) (hx:fx P src x=some x') (h0:P.underlying src=some .string) (h1:P.underlying dst=some .string)
 (he:b7 K γ d s h (.convS x')=some (v,h')):cC P o a w A E nx γ v h':=by
 have dH:=jM hs hx;simp only [b7] at he;split at he
 · rename_i b hb;simp only [aa,ae] at he;obtain ⟨rfl,rfl⟩:=he;rw [hb,Am] at dH;refine cC.idle (val:=.string b) ?_ (Am.2 rfl) hm;simp [execOp,ho,dH,convert,aZ h0,aZ h1]
 · cases he
theorem C7P {src dst:TypeId} {k0:IntKind} {x:Operand} {x':dI} (ho:o.op=.convert src dst x) (hx:fx P src x=some x') (h0:P.underlying src=some (.int k0)) (h1:P.underlying dst=some .string)
 (he:b7 K γ d s h (.convR x')=some (v,h')):cC P o a w A E nx γ v h':=by
 have dH:=jM hs hx;simp only [b7] at he;split at he
 · rename_i k1 n hb;simp only [aa,ae] at he;obtain ⟨rfl,rfl⟩:=he;rw [hb,A1X] at dH;refine cC.idle (val:=.string (Utf8.encode n)) ?_ (Am.2 rfl) hm;simp [execOp,ho,dH,convert,aZ h0,aZ h1,Conv.intToString]
 · cases he
theorem Wi {op:BinOp} {t yt e:TypeId} {x:Operand} {x':dI} {neg:Bool} (ho:o.op=.binOp op t x (.const (.pointer none)) yt) (eZ:op=if neg then .neq else .eql)
 (hx:fx P t x=some x') (hu:P.underlying t=some (.pointer e))
 (he:b7 K γ d s h (.isnil false neg x')=some (v,h')):cC P o a w A E nx γ v h':=by
 have dH:=jM hs hx;have main:∀ (b:Bool) (p:Option Addr),a.eval x=.pointer p→b=p.isNone→cC P o a w A E nx γ (Ae (b != neg)) h:=by
  intro b p hp hb;refine cC.idle (val:=.bool (b != neg)) ?_ (tO.2 rfl) hm;have h0:∀ f,(gH (f + 1) t (.pointer p) (.pointer none)).run P w=.ok b w:=by
   intro f;subst hb;cases p <;> simp [gH,aZ hu]
  have h1:(lk t (.pointer p) (.pointer none)).run P w=.ok b w:=h0 9999;have h2:(eqGuard op t x (.const (.pointer none)) (.pointer p) (.pointer none)).run P w=.ok () w:=by
   unfold eqGuard; cases op <;> simp
  cases neg with
  | false =>
    simp only [aI,if_false] at eZ;subst eZ;have e1:binOp .eql t (.pointer p) (.pointer none)=(do pure (.bool (← lk t (.pointer p) (.pointer none)))):=by cases p <;> rfl
    simp [execOp,ho,hp,DU,h2,e1,h1]
  | true =>
    simp only [if_true] at eZ;subst eZ;have e1:binOp .neq t (.pointer p) (.pointer none)=(do pure (.bool (!(← lk t (.pointer p) (.pointer none))))):=by cases p <;> rfl
    simp [execOp,ho,hp,DU,h2,e1,h1]
 simp only [b7] at he;split at he <;> simp only [aa,ae,reduceCtorEq] at he <;> try contradiction
 · obtain ⟨rfl,rfl⟩:=he;rename_i hb;rw [hb,V3] at dH;exact main true none dH rfl
 · obtain ⟨rfl,rfl⟩:=he;rename_i hb;rw [hb] at dH;obtain ⟨b,o',cE,_⟩:=Ao.1 dH;exact main false _ cE rfl
 · obtain ⟨rfl,rfl⟩:=he;rename_i hb;rw [hb] at dH;simp only [bQ] at dH;obtain ⟨_,p,cE,_⟩:=dH;exact main false _ cE rfl
theorem Wj {op:BinOp} {t yt:TypeId} {ps rs:Array TypeId} {vr:Bool} {x:Operand} {x':dI} {neg:Bool} (ho:o.op=.binOp op t x (.const .nilFunc) yt) (eZ:op=if neg then .neq else .eql)
 (hx:fx P t x=some x') (hu:P.underlying t=some (.func ps rs vr))
 (he:b7 K γ d s h (.isnil true neg x')=some (v,h')):cC P o a w A E nx γ v h':=by
 have dH:=jM hs hx;have main:∀ (b:Bool) (p:Value),a.eval x=p→(p=.nilFunc∧b=true∨(∃ f i c,p=.func f i c)∧b=false)→cC P o a w A E nx γ (Ae (b != neg)) h:=by
  intro b p hp hb;refine cC.idle (val:=.bool (b != neg)) ?_ (tO.2 rfl) hm;have h0:∀ f,(gH (f + 1) t p .nilFunc).run P w=.ok b w:=by
   intro f;rcases hb with ⟨rfl,rfl⟩ | ⟨⟨f,i,c,rfl⟩,rfl⟩ <;> simp [gH,aZ hu]
  have h1:(lk t p .nilFunc).run P w=.ok b w:=h0 9999;have h2:(eqGuard op t x (.const .nilFunc) p .nilFunc).run P w=.ok () w:=by
   rcases hb with ⟨rfl,rfl⟩ | ⟨⟨f,i,c,rfl⟩,rfl⟩ <;> (unfold eqGuard; cases op <;> simp)
  cases neg with
  | false =>
    simp only [aI,if_false] at eZ;subst eZ;have e1:binOp .eql t p .nilFunc=(do pure (.bool (← lk t p .nilFunc))):=by
     rcases hb with ⟨rfl,rfl⟩ | ⟨⟨f,i,c,rfl⟩,rfl⟩ <;> rfl
    simp [execOp,ho,hp,DU,h2,e1,h1]
  | true =>
    simp only [if_true] at eZ;subst eZ;have e1:binOp .neq t p .nilFunc=(do pure (.bool (!(← lk t p .nilFunc)))):=by
     rcases hb with ⟨rfl,rfl⟩ | ⟨⟨f,i,c,rfl⟩,rfl⟩ <;> rfl
    simp [execOp,ho,hp,DU,h2,e1,h1]
 simp only [b7] at he;split at he <;> simp only [aa,ae,reduceCtorEq] at he <;> try contradiction
 · obtain ⟨rfl,rfl⟩:=he;rename_i hb;rw [hb,V4] at dH;exact main true _ dH (.inl ⟨rfl,rfl⟩)
 · obtain ⟨rfl,rfl⟩:=he;rename_i hb;rw [hb] at dH;obtain ⟨vs,cE,_⟩:=LS.1 dH;exact main false _ cE (.inr ⟨PG _ _,rfl⟩)
 · obtain ⟨rfl,rfl⟩:=he;rename_i hb;rw [hb] at dH;simp only [bQ] at dH;obtain ⟨vs,cE,_⟩:=dH;exact main false _ cE (.inr ⟨PG _ _,rfl⟩)
theorem D1y {x:Operand} {i:Nat} {x':dI} {t:TypeId} (ho:o.op=.extract x i) (hx:fx P t x=some x')
 (he:b7 K γ d s h (.ext x' i)=some (v,h')):cC P o a w A E nx γ v h':=by
 have dH:=jM hs hx;simp only [b7] at he;split at he
 · rename_i l hb;split at he
   · rename_i u hi;simp only [aa,ae] at he;obtain ⟨rfl,rfl⟩:=he;rw [hb] at dH;simp only [bQ] at dH;obtain ⟨vs,cE,hl⟩:=dH;have key:∀ {l:List MV} {vs:List Value} {i:Nat},c8 w A E nx l vs→l[i]?=some u→∃ x,vs[i]?=some x∧bQ w A E nx u x:=by
      intro l
      induction l with
      | nil=>intro vs i _ hi; simp at hi
      | cons y r ih =>
        intro vs i hl hi;simp only [c8] at hl;obtain ⟨x,d,rfl,h1,h2⟩:=hl;cases i with
        | zero=>simp at hi; subst hi; exact ⟨x,rfl,h1⟩
        | succ i=>simp at hi; simpa using ih h2 hi
     obtain ⟨x,uJ,hx2⟩:=key hl hi;refine cC.idle (val:=x) ?_ hx2 hm;simp [execOp,ho,cE,Instr.extract,uJ]
   · cases he
 · cases he
end
end Go.Mid
namespace Go.Mid
open Go.RowKit
section
variable {α β:Type} (f:α→β)
theorem CF:∀ (p:List Nat) (t:T α),cU (t.mapA f) p=(cU t p).map (T.mapA f)
 | [],t=>by simp [cU]
 | i::r,.p v=>by
   cases v <;> simp only [T.mapA,cU,dx];rename_i l;cases l[i]? with
   | none=>rfl
   | some v=>exact CF r (.p v)
 | i::r,.m v=>by simp [T.mapA,cU]
 | i::r,.agg l=>by
   simp only [T.mapA,cU,T.mapAs_eq,aH];cases l[i]? with
   | none=>rfl
   | some t=>exact CF r t
 | i::r,.vec a z l n=>by
   simp only [T.mapA,cU,T.mapAs_eq,aH];cases l[i]? with
   | none=>rfl
   | some t=>exact CF r t
 | i::r,.mp a ks l=>by
   simp only [T.mapA,cU,T.mapAs_eq,aH];cases l[i]? with
   | none=>rfl
   | some t=>exact CF r t
 | i::r,.hole n=>by simp [T.mapA,cU]
theorem Wk (ob:Option (Obj α)) (p:List Nat):ef (ob.map (Obj.mapA f)) p=(ef ob p).map (T.mapA f):=by
 cases ob with
 | none=>cases p <;> rfl
 | some o =>
   cases o with
   | cell a t=>simp only [ak,Obj.mapA,ef]; exact CF f p t
   | vec a z l =>
     cases p with
     | nil=>rfl
     | cons i r =>
       simp only [ak,Obj.mapA,ef,T.mapAs_eq,aH];cases l[i]? with
       | none=>rfl
       | some t=>exact CF f r t
   | mp a ks l =>
     cases p with
     | nil=>rfl
     | cons i r =>
       simp only [ak,Obj.mapA,ef,T.mapAs_eq,aH];cases l[i]? with
       | none=>rfl
       | some t=>exact CF f r t
   | gone=>cases p <;> rfl
theorem Wl (ob:Option (Obj α)) (p:List Nat):jo (ob.map (Obj.mapA f)) p=(jo ob p).map fun x=>(f x.1,x.2.1,x.2.2.map (T.mapA f)):=by
 have h:=Wk f ob p;cases ob with
 | none=>cases p <;> rfl
 | some o =>
   cases o with
   | vec a z l =>
     cases p with
     | nil=>simp [Obj.mapA,jo,T.mapAs_eq]
     | cons i r =>
       simp only [ak,jo] at h ⊢;simp only [Obj.mapA] at h ⊢;rw [h];cases hs:ef (some (Obj.vec a z l)) (i::r) with
       | none=>rfl
       | some t=>cases t <;> simp [T.mapA,T.mapAs_eq]
   | cell a t =>
     simp only [ak,jo] at h ⊢;simp only [Obj.mapA] at h ⊢;rw [h];cases hs:ef (some (Obj.cell a t)) p with
     | none=>rfl
     | some t=>cases t <;> simp [T.mapA,T.mapAs_eq]
   | mp a ks l =>
     simp only [ak,jo] at h ⊢;simp only [Obj.mapA] at h ⊢;rw [h];cases hs:ef (some (Obj.mp a ks l)) p with
     | none=>rfl
     | some t=>cases t <;> simp [T.mapA,T.mapAs_eq]
   | gone =>
     simp only [ak,jo] at h ⊢;simp only [Obj.mapA] at h ⊢;rw [h];cases hs:ef (some (Obj.gone:Obj α)) p with
     | none=>rfl
     | some t=>cases t <;> simp [T.mapA,T.mapAs_eq]
mutual
theorem T.j9:∀ (t:T α),(t.mapA f).cs=t.cs
 | .p _=>rfl
 | .m _=>rfl
 | .agg l=>by simp only [T.mapA,T.cs]; exact T.qN l
 | .vec ..=>rfl
 | .mp ..=>rfl
 | .hole _=>rfl
theorem T.qN:∀ (l:List (T α)),T.da (T.cI f l)=T.da l
 | []=>rfl
 | t::r=>by simp only [T.cI,T.da,T.j9 t,T.qN r]
end
theorem T.yH (l:List (T α)):T.da (l.map (T.mapA f))=T.da l:=by rw [← T.mapAs_eq,T.qN]
theorem LW:∀ (p:List Nat) (t:T α) (o:Nat),lP (t.mapA f) p o=(lP t p o).map fun x=>(x.1.mapA f,x.2)
 | [],t,o=>by simp [lP]
 | i::r,.p v,o=>by
   cases v <;> simp only [T.mapA,lP,dx];rename_i l;cases l[i]? with
   | none=>rfl
   | some v=>exact LW r (.p v) _
 | i::r,.m v,o=>by simp [T.mapA,lP]
 | i::r,.agg l,o=>by
   simp only [T.mapA,lP,T.mapAs_eq,aH];cases l[i]? with
   | none=>rfl
   | some t =>
     simp only [ak];rw [← List.map_take,T.yH f];exact LW r t _
 | i::r,.vec a z l n,o=>by simp [T.mapA,lP]
 | i::r,.mp a ks l,o=>by simp [T.mapA,lP]
 | i::r,.hole n,o=>by simp [T.mapA,lP]
theorem C9A (ob:Option (Obj α)) (np:Option (List Nat)) (rp:List Nat):look (ob.map (Obj.mapA f)) np rp=(look ob np rp).map fun x=>(x.1.mapA f,f x.2.1,x.2.2):=by
 cases np with
 | none =>
   cases ob with
   | none=>rfl
   | some o =>
     cases o <;> simp only [look,ak,Obj.mapA,dx];rename_i a t;rw [LW];cases lP t rp 0 <;> rfl
 | some p =>
   simp only [look,Wl];cases jo ob p with
   | none=>rfl
   | some x =>
     obtain ⟨a,z,l⟩:=x;cases rp with
     | nil=>rfl
     | cons i r =>
       simp only [ak,aH];cases l[i]? with
       | none=>rfl
       | some t =>
         simp only [ak];rw [LW];cases lP t r (i * z) <;> rfl
end
section
variable {α:Type}
theorem CG:∀ (p q:List Nat) (t:T α),cU t (p++q)=(cU t p).bind fun u=>cU u q
 | [],q,t=>by simp [cU]
 | i::r,q,.p v=>by
   cases v <;> simp only [aS,cU,Option.bind_none];rename_i l;cases l[i]? with
   | none=>rfl
   | some v=>exact CG r q (.p v)
 | i::r,q,.m v=>by simp [cU]
 | i::r,q,.agg l=>by
   simp only [aS,cU];cases l[i]? with
   | none=>rfl
   | some t=>exact CG r q t
 | i::r,q,.vec a z l n=>by
   simp only [aS,cU];cases l[i]? with
   | none=>rfl
   | some t=>exact CG r q t
 | i::r,q,.mp a ks l=>by
   simp only [aS,cU];cases l[i]? with
   | none=>rfl
   | some t=>exact CG r q t
 | i::r,q,.hole n=>by simp [cU]
theorem LX:∀ (p:List Nat) (t u:T α) (o o':Nat),lP t p o=some (u,o')→cU t p=some u
 | [],t,u,o,o',h=>by simp only [lP,aa,ae] at h; simp [cU,h.1]
 | i::r,.p v,u,o,o',h=>by
   cases v <;> simp only [lP,reduceCtorEq] at h;rename_i l;simp only [cU];cases hl:l[i]? with
   | none=>simp [hl] at h
   | some v=>simp only [hl] at h; exact LX r _ u _ o' h
 | i::r,.m v,u,o,o',h=>by simp [lP] at h
 | i::r,.agg l,u,o,o',h=>by
   simp only [lP] at h;simp only [cU];cases hl:l[i]? with
   | none=>simp [hl] at h
   | some t=>simp only [hl] at h; exact LX r _ u _ o' h
 | i::r,.vec a z l n,u,o,o',h=>by simp [lP] at h
 | i::r,.mp a ks l,u,o,o',h=>by simp [lP] at h
 | i::r,.hole n,u,o,o',h=>by simp [lP] at h
theorem Wm (ob:Option (Obj α)) (p q:List Nat) {u:T α} (h:ef ob p=some u):ef ob (p++q)=cU u q:=by
 cases ob with
 | none=>cases p <;> simp [ef] at h
 | some o =>
   cases o with
   | cell a t=>simp only [ef] at h ⊢; rw [CG,h]; rfl
   | vec a z l =>
     cases p with
     | nil=>simp [ef] at h
     | cons i r =>
       simp only [ef,aS] at h ⊢;cases hl:l[i]? with
       | none=>simp [hl] at h
       | some t=>simp only [hl] at h ⊢; rw [CG,h]; rfl
   | mp a ks l =>
     cases p with
     | nil=>simp [ef] at h
     | cons i r =>
       simp only [ef,aS] at h ⊢;cases hl:l[i]? with
       | none=>simp [hl] at h
       | some t=>simp only [hl] at h ⊢; rw [CG,h]; rfl
   | gone=>cases p <;> simp [ef] at h
theorem C51 (ob:Option (Obj α)) (p:List Nat) {a:α} {z:Nat} {l:List (T α)} (h:jo ob p=some (a,z,l)) (i:Nat) (r:List Nat) {t:T α} (ht:l[i]?=some t) :
 ef ob (p++i::r)=cU t r:=by
 have key:∀ n,ef ob p=some (.vec a z l n)→ef ob (p++i::r)=cU t r:=by
  intro n hs;rw [Wm ob p (i::r) hs];simp only [cU,ht]
 cases ob with
 | none=>cases p <;> simp [jo,ef] at h
 | some o =>
   cases o with
   | vec a' z' l' =>
     cases p with
     | nil =>
       simp only [jo,aa,ae] at h;obtain ⟨rfl,rfl,rfl⟩:=h;simp only [a6,ef,ht]
     | cons j q =>
       simp only [jo] at h;split at h
       · rename_i hs;simp only [aa,ae] at h;obtain ⟨rfl,rfl,rfl⟩:=h;exact key _ hs
       · cases h
   | cell a' t' =>
     simp only [jo] at h;split at h
     · rename_i hs;simp only [aa,ae] at h;obtain ⟨rfl,rfl,rfl⟩:=h;exact key _ hs
     · cases h
   | mp a' ks l' =>
     simp only [jo] at h;split at h
     · rename_i hs;simp only [aa,ae] at h;obtain ⟨rfl,rfl,rfl⟩:=h;exact key _ hs
     · cases h
   | gone =>
     simp only [jo] at h;split at h
     · rename_i hs;simp only [aa,ae] at h;obtain ⟨rfl,rfl,rfl⟩:=h;exact key _ hs
     · cases h
theorem LY {ob:Option (Obj α)} {np:Option (List Nat)} {rp:List Nat} {u:T α} {a:α} {o:Nat} (h:look ob np rp=some (u,a,o)):ef ob (ru np rp)=some u:=by
 cases np with
 | none =>
   cases ob with
   | none=>simp [look] at h
   | some ob =>
     cases ob <;> simp only [look,reduceCtorEq] at h;split at h
     · rename_i hl;simp only [aa,ae] at h;obtain ⟨rfl,rfl,rfl⟩:=h;simp only [ru,Option.getD_none,a6,ef];exact LX _ _ _ _ _ hl
     · cases h
 | some p =>
   simp only [look] at h;split at h
   · rename_i a' z l i r hv;split at h
     · rename_i t ht;split at h
       · rename_i hl;simp only [aa,ae] at h;obtain ⟨rfl,rfl,rfl⟩:=h;simp only [ru,Option.getD_some];rw [C51 ob p hv i r ht];exact LX _ _ _ _ _ hl
       · cases h
     · cases h
   · cases h
theorem LZ {ob:Option (Obj α)} {p:List Nat} {a:α} {z:Nat} {l:List (T α)} (h:jo ob p=some (a,z,l)) :
 (p=[]∧ob=some (.vec a z l))∨∃ n,ef ob p=some (.vec a z l n):=by
 have via:(match ef ob p with | some (.vec a z l _)=>some (a,z,l) | _=>none)=some (a,z,l)→∃ n,ef ob p=some (.vec a z l n):=by
  intro hh;cases hs:ef ob p with
  | none=>rw [hs] at hh; cases hh
  | some t =>
    rw [hs] at hh;cases t <;> simp only [aa,ae,reduceCtorEq] at hh;obtain ⟨rfl,rfl,rfl⟩:=hh;exact ⟨_,rfl⟩
 cases ob with
 | none=>exact .inr (via (by cases p <;> simp [jo,ef] at h))
 | some o =>
   cases o with
   | vec a' z' l' =>
     cases p with
     | nil =>
       simp only [jo,aa,ae] at h;obtain ⟨rfl,rfl,rfl⟩:=h;exact .inl ⟨rfl,rfl⟩
     | cons i r=>exact .inr (via h)
   | cell a' t=>exact .inr (via h)
   | mp a' ks l'=>exact .inr (via h)
   | gone=>exact .inr (via h)
theorem sL {ob:Option (Obj α)} {p:List Nat} {a:α} {z:Nat} {l:List (T α)} (h:jo ob p=some (a,z,l)):fg ob (some p)=some (a,some z):=by
 cases ob with
 | none=>cases p <;> simp [jo,ef] at h
 | some o =>
   cases o with
   | vec a' z' l' =>
     cases p with
     | nil =>
       simp only [jo,aa,ae] at h;obtain ⟨rfl,rfl,rfl⟩:=h;rfl
     | cons j q =>
       simp only [jo] at h;split at h
       · rename_i hs;simp only [aa,ae] at h;obtain ⟨rfl,rfl,rfl⟩:=h;simp only [fg,hs]
       · cases h
   | mp a' ks l' =>
     cases p with
     | nil=>simp [jo,ef] at h
     | cons j q =>
       simp only [jo] at h;split at h
       · rename_i hs;simp only [aa,ae] at h;obtain ⟨rfl,rfl,rfl⟩:=h;simp only [fg,hs]
       · cases h
   | cell a' t' =>
     simp only [jo] at h;split at h
     · rename_i hs;simp only [aa,ae] at h;obtain ⟨rfl,rfl,rfl⟩:=h;simp only [fg,hs]
     · cases h
   | gone =>
     simp only [jo] at h;split at h
     · rename_i hs;simp only [aa,ae] at h;obtain ⟨rfl,rfl,rfl⟩:=h;simp only [fg,hs]
     · cases h
theorem F5 {ob:Option (Obj α)} {np:Option (List Nat)} {rp:List Nat} {u:T α} {a:α} {o:Nat} (h:look ob np rp=some (u,a,o)):∃ z,fg ob np=some (a,z):=by
 cases np with
 | none =>
   cases ob with
   | none=>simp [look] at h
   | some ob =>
     cases ob <;> simp only [look,reduceCtorEq] at h;split at h
     · simp only [aa,ae] at h;obtain ⟨rfl,rfl,rfl⟩:=h;exact ⟨none,rfl⟩
     · cases h
 | some p =>
   simp only [look] at h;split at h
   · rename_i a' z l i r hv;split at h
     · split at h
       · simp only [aa,ae] at h;obtain ⟨rfl,rfl,rfl⟩:=h;exact ⟨some z,sL hv⟩
       · cases h
     · cases h
   · cases h
end
section
variable {w:World} {A:Nat→Prop} {E:dL An} {nx:di}
theorem cD.get:∀ {l:List (T An)} {b o i:Nat} {t:T An},cD w A E nx l b o→l[i]?=some t→TAt w A E nx t b (o + T.da (l.take i))
 | [],b,o,i,t,_,h=>by simp at h
 | x::r,b,o,0,t,k,h=>by simp only [cD] at k; simp at h; subst h; simpa [T.da] using k.1
 | x::r,b,o,i + 1,t,k,h=>by
   simp only [cD] at k;simp only [bJ] at h
   have:=cD.get k.2 h
   rwa [bS,T.da,← bU]
theorem Aq {α:Type} {z:Nat}:∀ {l:List (T α)} {i:Nat},(∀ t ∈ l,t.cs=z)→i ≤ l.length→T.da (l.take i)=i * z
 | _,0,_,_=>by simp [T.da]
 | [],i + 1,_,h=>by simp at h
 | x::r,i + 1,h,hi=>by
   rw [bS,T.da,h x (by simp),Aq (fun t ht=>h t (by simp [ht])) (by simpa using hi),dv,hJ]
theorem cD.elem {l:List (T An)} {b i z:Nat} {t:T An} (k:cD w A E nx l b 0) (hz:∀ t ∈ l,t.cs=z) (h:l[i]?=some t):TAt w A E nx t b (i * z):=by
 have:=k.get h
 rwa [Nat.zero_add,Aq hz (Nat.le_of_lt (aF.1 h).1)] at this
theorem L0:∀ (p:List Nat) (t u:T An) (b o o':Nat),lP t p o=some (u,o')→TAt w A E nx t b o→TAt w A E nx u b o'
 | [],t,u,b,o,o',h,k=>by
   simp only [lP,aa,ae] at h;obtain ⟨rfl,rfl⟩:=h; exact k
 | i::r,.p v,u,b,o,o',h,k=>by
   cases v <;> simp only [lP,reduceCtorEq] at h;rename_i l;split at h
   · rename_i v hv;refine L0 r _ u b _ o' h ?_;simp only [TAt,dR] at k ⊢;obtain ⟨cs,k1,k2⟩:=k;obtain ⟨p,c,q,rfl,hp,hc⟩:=k1.get hv;refine ⟨c,hc,?_⟩;rw [← hp];exact (Row.append.1 (Row.append.1 k2).1).2
   · cases h
 | i::r,.m v,u,b,o,o',h,_=>by simp [lP] at h
 | i::r,.agg l,u,b,o,o',h,k=>by
   simp only [lP] at h;split at h
   · rename_i t ht;simp only [TAt] at k;exact L0 r _ u b _ o' h (k.get ht)
   · cases h
 | i::r,.vec a z l n,u,b,o,o',h,_=>by simp [lP] at h
 | i::r,.mp a ks l,u,b,o,o',h,_=>by simp [lP] at h
 | i::r,.hole n,u,b,o,o',h,_=>by simp [lP] at h
theorem H5:∀ (p:List Nat) (t u:T An) (b o:Nat),cU t p=some u→TAt w A E nx t b o→∃ b' o',TAt w A E nx u b' o'∧(b'=b∨b' ∈ t.blk)
 | [],t,u,b,o,h,k=>by
   simp only [cU,aa] at h; subst h;exact ⟨b,o,k,.inl rfl⟩
 | i::r,.p v,u,b,o,h,k=>by
   cases v <;> simp only [cU,reduceCtorEq] at h;rename_i l;split at h
   · rename_i v hv
     have:TAt w A E nx (.p v) b (o + PV.da (l.take i)):=by
      simp only [TAt,dR] at k ⊢;obtain ⟨cs,k1,k2⟩:=k;obtain ⟨p,c,q,rfl,hp,hc⟩:=k1.get hv;refine ⟨c,hc,?_⟩;rw [← hp];exact (Row.append.1 (Row.append.1 k2).1).2
     obtain ⟨b',o',h1,h2⟩:=H5 r (.p v) u b _ h this;exact ⟨b',o',h1,.inl (h2.resolve_right (by simp [T.blk]))⟩
   · cases h
 | i::r,.m v,u,b,o,h,_=>by simp [cU] at h
 | i::r,.agg l,u,b,o,h,k=>by
   simp only [cU] at h;split at h
   · rename_i t ht;simp only [TAt] at k;obtain ⟨b',o',h1,h2⟩:=H5 r t u b _ h (k.get ht);refine ⟨b',o',h1,h2.imp id fun hb=>?_⟩
     simp only [T.blk];have key:∀ {l:List (T An)} {i:Nat},l[i]?=some t→b' ∈ T.b6 l:=by
      intro l
      induction l with
      | nil=>intro i h; simp at h
      | cons x q ih =>
        intro i h;cases i with
        | zero=>simp at h; subst h; simp [T.b6,hb]
        | succ i=>simp at h; simp [T.b6,ih h]
     exact key ht
   · cases h
 | i::r,.vec a z l n,u,b,o,h,k=>by
   simp only [cU] at h;split at h
   · rename_i t ht;simp only [TAt] at k;obtain ⟨p,cap,_,_,_,k4⟩:=k;cases hb:a.b with
     | none=>simp only [hb] at k4; rw [k4.1] at ht; simp at ht
     | some b0 =>
       simp only [hb] at k4;obtain ⟨b',o',h1,h2⟩:=H5 r t u b0 _ h (k4.2.2.2.elem k4.2.2.1 ht);refine ⟨b',o',h1,.inr ?_⟩;simp only [T.blk,hb,cg,aS,a6,aE];refine h2.imp id fun hb=>?_
       have key:∀ {l:List (T An)} {i:Nat},l[i]?=some t→b' ∈ T.b6 l:=by
        intro l
        induction l with
        | nil=>intro i h; simp at h
        | cons x q ih =>
          intro i h;cases i with
          | zero=>simp at h; subst h; simp [T.b6,hb]
          | succ i=>simp at h; simp [T.b6,ih h]
       exact key ht
   · cases h
 | i::r,.mp a ks l,u,b,o,_,k=>by simp only [TAt] at k
 | i::r,.hole n,u,b,o,h,_=>by simp [cU] at h
end
end Go.Mid
namespace Go.Mid
open Go.RowKit
section
variable {w:World} {A:Nat→Prop} {E:dL An} {nx:di} {h:cj}
theorem MR.vec (m:MR w A E h nx) {id:Nat} {path:List Nat} {g z:Nat} {l:List (T Nat)} (hv:jo (h id) path=some (g,z,l)) :
 ∃ an l',jo (E id) path=some (an,z,l')∧an.g=g∧l=l'.map (T.mapA An.g):=by
 rw [m.er id,Wl] at hv;cases hE:jo (E id) path with
 | none=>simp [hE] at hv
 | some x =>
   obtain ⟨an,z',l'⟩:=x;simp only [hE,ak,aa,ae] at hv;obtain ⟨rfl,rfl,rfl⟩:=hv;exact ⟨an,l',rfl,rfl,rfl⟩
theorem MR.look (m:MR w A E h nx) {id:Nat} {np:Option (List Nat)} {rp:List Nat} {g o:Nat} {t:T Nat} (hv:look (h id) np rp=some (t,g,o)) :
 ∃ an t',look (E id) np rp=some (t',an,o)∧an.g=g∧t=t'.mapA An.g:=by
 rw [m.er id,C9A] at hv;cases hE:Mid.look (E id) np rp with
 | none=>simp [hE] at hv
 | some x =>
   obtain ⟨t',an,o'⟩:=x;simp only [hE,ak,aa,ae] at hv;obtain ⟨rfl,rfl,rfl⟩:=hv;exact ⟨an,t',rfl,rfl,rfl⟩
theorem MR.sub (m:MR w A E h nx) {id:Nat} {p:List Nat} {t:T Nat} (hv:ef (h id) p=some t):∃ t',ef (E id) p=some t'∧t=t'.mapA An.g:=by
 rw [m.er id,Wk] at hv;cases hE:ef (E id) p with
 | none=>simp [hE] at hv
 | some t'=>simp only [hE,ak,aa] at hv; exact ⟨t',rfl,hv.symm⟩
theorem MR.tR (m:MR w A E h nx) {id:Nat} {path:List Nat} {an:An} {z:Nat} {l:List (T An)} (hv:jo (E id) path=some (an,z,l)):VB w A E nx an z l:=by
 have key:∀ {o:Obj An} {n:Nat},E id=some o→ef (some o) path=some (.vec an z l n)→VB w A E nx an z l:=by
  intro o n ho hs;have kS:=m.at_ id o ho;have fin:∀ {b o':Nat},TAt w A E nx (.vec an z l n) b o'→VB w A E nx an z l:=by
   intro b o' k;simp only [TAt] at k;obtain ⟨_,_,_,_,_,k⟩:=k;simp only [VB];exact k
  cases o with
  | cell a t =>
    simp only [OAt] at kS;obtain ⟨b,_,_,k⟩:=kS;simp only [ef] at hs;obtain ⟨b',o',k',_⟩:=H5 _ _ _ _ _ hs k;exact fin k'
  | vec a z' l' =>
    cases path with
    | nil=>simp [ef] at hs
    | cons i r =>
      simp only [ef] at hs;split at hs
      · rename_i t ht;simp only [OAt,VB] at kS;cases hb:a.b with
        | none=>simp only [hb] at kS; rw [kS.1] at ht; simp at ht
        | some b =>
          simp only [hb] at kS;obtain ⟨b',o',k',_⟩:=H5 _ _ _ _ _ hs (kS.2.2.2.elem kS.2.2.1 ht);exact fin k'
      · cases hs
  | mp=>simp only [OAt] at kS
  | gone=>cases path <;> simp [ef] at hs
 cases ho:E id with
 | none=>rw [ho] at hv; cases path <;> simp [jo,ef] at hv
 | some o =>
   rw [ho] at hv;rcases LZ hv with ⟨rfl,he⟩ | ⟨n,hs⟩
   · cases he
     have:=m.at_ id _ ho
     simpa only [OAt] using this
   · exact key ho hs
theorem MR.sM (m:MR w A E h nx) {id:Nat} {np:Option (List Nat)} {rp:List Nat} {an:An} {o:Nat} {t:T An} (hv:Mid.look (E id) np rp=some (t,an,o)) :
 ∃ b,an.b=some b∧TAt w A E nx t b o:=by
 cases np with
 | none =>
   cases ho:E id with
   | none=>rw [ho] at hv; simp [Mid.look] at hv
   | some ob =>
     rw [ho] at hv;cases ob <;> simp only [Mid.look,reduceCtorEq] at hv;rename_i a t0;split at hv
     · rename_i u o' hl;simp only [aa,ae] at hv;obtain ⟨rfl,rfl,rfl⟩:=hv
       have:=m.at_ id _ ho
       simp only [OAt] at this;obtain ⟨b,hb,_,k⟩:=this;exact ⟨b,hb,L0 _ _ _ _ _ _ hl k⟩
     · cases hv
 | some p =>
   simp only [Mid.look] at hv;split at hv
   · rename_i a z l i r iC;split at hv
     · rename_i t0 Ar;split at hv
       · rename_i u o' hl;simp only [aa,ae] at hv;obtain ⟨rfl,rfl,rfl⟩:=hv;have k:=m.tR iC;simp only [VB] at k;cases hb:a.b with
         | none=>simp only [hb] at k; rw [k.1] at Ar; simp at Ar
         | some b =>
           simp only [hb] at k;exact ⟨b,rfl,L0 _ _ _ _ _ _ hl (k.2.2.2.elem k.2.2.1 Ar)⟩
       · cases hv
     · cases hv
   · cases hv
theorem Bl:∀ (p:List Nat) (t u:T An),cU t p=some u→t.st nx→u.st nx
 | [],t,u,h,k=>by simp only [cU,aa] at h; subst h; exact k
 | i::r,.p v,u,h,k=>by
   cases v <;> simp only [cU,reduceCtorEq] at h;split at h
   · rename_i v hv; exact Bl r (.p v) u h trivial
   · cases h
 | i::r,.m v,u,h,_=>by simp [cU] at h
 | i::r,.agg l,u,h,k=>by
   simp only [cU] at h;split at h
   · rename_i t ht;simp only [T.st] at k;have key:∀ {l:List (T An)} {i:Nat},T.j7 nx l→l[i]?=some t→t.st nx:=by
      intro l
      induction l with
      | nil=>intro i _ h; simp at h
      | cons x q ih =>
        intro i k h;simp only [T.j7] at k;cases i with
        | zero=>simp at h; subst h; exact k.1
        | succ i=>simp at h; exact ih k.2 h
     exact Bl r t u h (key k ht)
   · cases h
 | i::r,.vec a z l n,u,h,k=>by
   simp only [cU] at h;split at h
   · rename_i t ht;simp only [T.st] at k;have key:∀ {l:List (T An)} {i:Nat},T.j7 nx l→l[i]?=some t→t.st nx:=by
      intro l
      induction l with
      | nil=>intro i _ h; simp at h
      | cons x q ih =>
        intro i k h;simp only [T.j7] at k;cases i with
        | zero=>simp at h; subst h; exact k.1
        | succ i=>simp at h; exact ih k.2 h
     exact Bl r t u h (key k.2 ht)
   · cases h
 | i::r,.mp a ks l,u,h,k=>by
   simp only [cU] at h;split at h
   · rename_i t ht;simp only [T.st] at k;have key:∀ {l:List (T An)} {i:Nat},T.j7 nx l→l[i]?=some t→t.st nx:=by
      intro l
      induction l with
      | nil=>intro i _ h; simp at h
      | cons x q ih =>
        intro i k h;simp only [T.j7] at k;cases i with
        | zero=>simp at h; subst h; exact k.1
        | succ i=>simp at h; exact ih k.2 h
     exact Bl r t u h (key k.2 ht)
   · cases h
 | i::r,.hole n,u,h,_=>by simp [cU] at h
theorem T.pC {l:List (T An)} {i:Nat} {t:T An} (k:T.j7 nx l) (h:l[i]?=some t):t.st nx:=by
 induction l generalizing i with
 | nil=>simp at h
 | cons x q ih =>
   simp only [T.j7] at k;cases i with
   | zero=>simp at h; subst h; exact k.1
   | succ i=>simp at h; exact ih k.2 h
theorem MR.tT (m:MR w A E h nx) {id:Nat} {p:List Nat} {t:T An} (hs:ef (E id) p=some t):t.st nx:=by
 cases ho:E id with
 | none=>rw [ho] at hs; cases p <;> simp [ef] at hs
 | some o =>
   rw [ho] at hs
   have:=m.st id o ho
   cases o with
   | cell a t0=>simp only [ef] at hs; simp only [Obj.st] at this; exact Bl _ _ _ hs this.2
   | vec a z l =>
     cases p with
     | nil=>simp [ef] at hs
     | cons i r =>
       simp only [ef] at hs;simp only [Obj.st] at this;split at hs
       · rename_i t0 Ar; exact Bl _ _ _ hs (T.pC this.2 Ar)
       · cases hs
   | mp a ks l =>
     cases p with
     | nil=>simp [ef] at hs
     | cons i r =>
       simp only [ef] at hs;simp only [Obj.st] at this;split at hs
       · rename_i t0 Ar; exact Bl _ _ _ hs (T.pC this.2 Ar)
       · cases hs
   | gone=>cases p <;> simp [ef] at hs
theorem Wn {c:Array Value} (h:(oF c).cells=#[oF c]):False:=by
 simp only [db] at h;have hm:oF c ∈ c:=by
  have:oF c ∈ #[oF c]:=by simp
  rw [← h] at this; exact this
 have:=Array.sizeOf_lt_of_mem hm
 simp at this;omega
theorem PN {b o:Nat}:∀ (n:Nat),(∀ j,j < n→∃ v,w.cell? ⟨b,o + j,none⟩=some v)→∃ cs:List Value,cs.length=n∧Row w b o cs
 | 0,_=>⟨[],rfl,Row.nil⟩
 | n + 1,k=>by
   obtain ⟨cs,h1,h2⟩:=PN n (fun j hj=>k j (by omega))
   obtain ⟨v,hv⟩:=k n (by omega)
   refine ⟨cs++[v],by simp [h1],Row.append.2 ⟨h2,?_⟩⟩
   rw [h1]; exact Row.one.2 hv
def yI (w:World) (A:Nat→Prop) (E:dL An) (nx:di) (x:MV) (cs:List Value):Prop :=
 cs.length=x.cs∧((∃ n,x=.dead n)∨bQ w A E nx x (pk x.isAgg cs)∧(x.isAgg=false→∃ v,cs=[v]∧v.cells=#[v]))
theorem yI.val {x:MV} {cs:List Value} (k:yI w A E nx x cs):bQ w A E nx x (pk x.isAgg cs):=by
 rcases k.2 with ⟨n,rfl⟩ | h
 · simp only [bQ]
 · exact h.1
theorem yI.comp {x:MV} {cs:List Value} (k:yI w A E nx x cs):∃ v,v.cells.toList=cs∧v.cells.size=x.cs∧(∀ c,v=.agg c→x.isAgg=true∨∃ n,x=.dead n)∧bQ w A E nx x v:=by
 rcases k.2 with ⟨n,rfl⟩ | ⟨h1,h2⟩
 · exact ⟨.agg cs.toArray,by simp [db],by simpa [db,MV.cs] using k.1,fun c _=>.inr ⟨n,rfl⟩,by simp only [bQ]⟩
 · cases hx:x.isAgg with
   | true =>
     refine ⟨.agg cs.toArray,by simp [db],by simpa [db] using k.1,fun c _=>.inl rfl,?_⟩
     simpa [hx,pk] using h1
   | false =>
     obtain ⟨v,rfl,hv⟩:=h2 hx;refine ⟨v,by simp [hv],by simpa [hv] using k.1,?_,?_⟩
     · rintro c rfl;exact (Wn hv).elim
     · simpa [hx,pk] using h1
theorem CH:∀ {l:List MV} {vs:List PV},pq l=some vs→l=vs.map .p
 | [],vs,h=>by simp only [pq] at h; cases h; rfl
 | x::r,vs,h=>by
   cases x <;> simp only [pq,reduceCtorEq] at h;split at h
   · rename_i l hl;cases h;simp [CH hl]
   · cases h
theorem PO:∀ {vs:List PV} {cs:List Value},dV w A E nx (vs.map .p) cs→cK w A vs cs
 | [],cs,h=>by simpa only [cl,dV,cK] using h
 | x::r,cs,h=>by
   simp only [aD,dV] at h;obtain ⟨v,d,rfl,h1,h2,h3,h4⟩:=h;simp only [cK];simp only [bQ,oZ] at h3;obtain ⟨c,h5,rfl⟩:=h3;refine ⟨c,d,?_,h5,PO h4⟩;rw [h5.mU]
theorem yJ:∀ {vs:List PV} {l:List Value},c8 w A E nx (vs.map .p) l↔kK w A vs l
 | [],l=>by simp only [cl,c8,kK]
 | x::r,l=>by
   simp only [aD,c8,kK,bQ,oZ];constructor
   · rintro ⟨v,d,rfl,⟨c,h1,rfl⟩,h2⟩; exact ⟨c,d,rfl,h1,yJ.1 h2⟩
   · rintro ⟨c,d,rfl,h1,h2⟩; exact ⟨_,d,rfl,⟨c,h1,rfl⟩,yJ.2 h2⟩
theorem L1 {l:List MV} {cs:List Value} (h:dV w A E nx l cs):bQ w A E nx (uB l) (.agg cs.toArray):=by
 unfold uB;cases ha:pq l with
 | none=>simp only [bQ]; exact ⟨cs,rfl,h⟩
 | some vs =>
   rw [CH ha] at h;exact LR.2 ⟨cs,rfl,PO h⟩
theorem PQ (l:List MV):(uB l).cs=MV.da l∧(uB l).isAgg=true:=by
 unfold uB;cases ha:pq l with
 | none=>exact ⟨rfl,rfl⟩
 | some vs =>
   rw [CH ha];refine ⟨?_,rfl⟩;simp only [MV.cs,PV.cs];clear ha
   induction vs with
   | nil=>rfl
   | cons x r ih=>simp [PV.da,MV.da,MV.cs,ih]
mutual
theorem PR (m:MR w A E h nx) {id:Nat}:∀ (t:T An) (path:List Nat) (b o:Nat),ef (E id) path=some t→TAt w A E nx t b o →
 ∃ cs,Row w b o cs∧yI w A E nx (u0 id path (t.mapA An.g)) cs∧cs.length=t.cs
 | .p v,path,b,o,_,k=>by
   simp only [TAt] at k;obtain ⟨cs,h1,h2⟩:=k;refine ⟨cs,h2,⟨by simpa [T.mapA,u0,MV.cs] using h1.len,.inr ⟨?_,?_⟩⟩,by simpa [T.cs] using h1.len⟩
   · simp only [T.mapA,u0,MV.isAgg,bQ,oZ]; exact ⟨cs,h1,rfl⟩
   · intro hx;obtain ⟨x,rfl,H6⟩:=h1.one hx;exact ⟨x,rfl,H6⟩
 | .m v,path,b,o,_,k=>by
   simp only [TAt] at k;obtain ⟨h0,h1,val,h2,h3⟩:=k;refine ⟨[val],h3,⟨by simpa [T.mapA,u0] using h0.symm,?_⟩,by simpa [T.cs] using h0.symm⟩
   simp only [T.mapA,u0];by_cases hd:∃ n,v=.dead n
   · exact .inl hd
   · refine .inr ⟨by simpa [h1,pk] using h2,fun _=>⟨val,rfl,h2.vh h1 (fun n e=>hd ⟨n,e⟩)⟩⟩
 | .agg l,path,b,o,hs,k=>by
   simp only [TAt] at k;obtain ⟨cs,h1,h2,h3⟩:=Wo m l [] path b o (by simpa using hs) k
   simp only [T.mapA,u0];refine ⟨cs,h1,⟨?_,.inr ⟨?_,?_⟩⟩,by simpa [T.cs] using h3⟩
   · rw [(PQ _).1]
     have:∀ {l:List MV} {cs:List Value},dV w A E nx l cs→cs.length=MV.da l:=by
      intro l
      induction l with
      | nil=>intro cs h; simp only [dV] at h; subst h; rfl
      | cons x r ih =>
        intro cs h;simp only [dV] at h;obtain ⟨v,d,rfl,h1,_,_,h4⟩:=h;rw [aQ,dW,h1,ih h4,MV.da]
     exact this h2
   · rw [(PQ _).2]; simpa [pk] using L1 h2
   · rw [(PQ _).2]; intro h; cases h
 | .vec an z l n,path,b,o,hs,k=>by
   have hst:=m.tT hs;simp only [T.st] at hst;simp only [TAt] at k;obtain ⟨a,cap,h1,h2,h3,h4⟩:=k;refine ⟨[.slice a n cap],h1,⟨rfl,.inr ⟨?_,fun _=>⟨_,rfl,rfl⟩⟩⟩,rfl⟩
   simp only [T.mapA,u0,MV.isAgg,pk,bQ,aI,if_false,lE];refine ⟨hst.1,a,cap,rfl,?_,fun qF z' hn hg=>?_⟩
   · unfold kR at h3;cases hb:an.b with
     | none=>simp only [hb] at h3; omega
     | some b' =>
       simp only [hb] at h3 h4
       have:=h4.2.1
       have:=h3.1
       omega
   · have:fg (E id) (some path)=some (an,some z):=by
      refine sL (l:=l) ?_;unfold jo;split
      · rename_i he; rw [he] at hs; simp [ef] at hs
      · rw [hs]
     rw [this] at hn;cases hn;exact h3
 | .mp ..,_,_,_,_,k=>by simp only [TAt] at k
 | .hole n,path,b,o,_,k=>by
   simp only [TAt] at k
   have:=PN n k
   obtain ⟨cs,h1,h2⟩:=this;exact ⟨cs,h2,⟨by simpa [T.mapA,u0,MV.cs] using h1,.inl ⟨n,rfl⟩⟩,by simpa [T.cs] using h1⟩
theorem Wo (m:MR w A E h nx) {id:Nat}:∀ (l pre:List (T An)) (path:List Nat) (b o:Nat),ef (E id) path=some (.agg (pre++l))→cD w A E nx l b o →
 ∃ cs,Row w b o cs∧dV w A E nx (wT id path pre.length (T.cI An.g l)) cs∧cs.length=T.da l
 | [],pre,path,b,o,_,_=>⟨[],Row.nil,by simp only [T.cI,wT,dV],rfl⟩
 | t::r,pre,path,b,o,hs,k=>by
   simp only [cD] at k;have ht:ef (E id) (path++[pre.length])=some t:=by
    rw [Wm _ _ _ hs]; simp [cU]
   obtain ⟨c,h1,h2,h3⟩:=PR m t (path++[pre.length]) b o ht k.1;obtain ⟨d,h4,h5,h6⟩:=Wo m r (pre++[t]) path b (o + t.cs) (by simpa using hs) k.2
   obtain ⟨v,As,vk,hv3,hv4⟩:=h2.comp;refine ⟨c++d,Row.append.2 ⟨h1,by rw [h3]; exact h4⟩,?_,by rw [aQ,h3,h6,T.da]⟩
   simp only [T.cI,wT,dV];refine ⟨v,d,by rw [As],vk,hv3,hv4,?_⟩
   simpa using h5
end
end
end Go.Mid
namespace Go.Mid
open Go.RowKit
theorem tU (b o n:Nat):(⟨b,o,none⟩:Addr).add n=⟨b,o + n,none⟩:=by
 unfold Addr.add;split
 · rename_i h; subst h; rfl
 · rfl
section
variable {w:World} {A:Nat→Prop} {E:dL An} {nx:di}
theorem fE.get:∀ {l:List PV} {b o z i:Nat} {x:PV},fE w A l b o z→l[i]?=some x→∃ c,dR w A x c∧c.length=z∧Row w b (o + i * z) c
 | [],_,_,_,i,x,_,h=>by simp at h
 | y::r,b,o,z,0,x,k,h=>by
   simp only [fE] at k;obtain ⟨⟨c,h1,h2,h3⟩,_⟩:=k;simp at h; subst h;exact ⟨c,h1,h2,by simpa using h3⟩
 | y::r,b,o,z,i + 1,x,k,h=>by
   simp only [fE] at k;simp only [bJ] at h;obtain ⟨c,h1,h2,h3⟩:=fE.get k.2 h;refine ⟨c,h1,h2,?_⟩
   rwa [bU,hJ z,← dv] at h3
theorem H7 {x:MV} {val:Value} {i:Int} (h:vX x=some i) (hv:bQ w A E nx x val):∃ k,val=.int k i:=by
 unfold vX at h;split at h
 · cases h; exact ⟨_,A1X.1 hv⟩
 · cases h
theorem H8 {x:MV} {val:Value} {n k:Nat} (h:xH n x=some k) (hv:bQ w A E nx x val):∃ kd,val=.int kd k∧k < n:=by
 unfold xH at h;split at h
 · rename_i i hi;split at h
   · rename_i hb;cases h;obtain ⟨kd,rfl⟩:=H7 hi hv;exact ⟨kd,by rw [Int.toNat_of_nonneg hb.1],by omega⟩
   · cases h
 · cases h
theorem F6 {x:MV} {val:Value} {n k:Nat} (h:wV n x=some k) (hv:bQ w A E nx x val):∃ kd,val=.int kd k∧k ≤ n:=by
 unfold wV at h;split at h
 · rename_i i hi;split at h
   · rename_i hb;cases h;obtain ⟨kd,rfl⟩:=H7 hi hv;exact ⟨kd,by rw [Int.toNat_of_nonneg hb.1],by omega⟩
   · cases h
 · cases h
end
section
variable {P:Program} {o:Oper} {a:Act} {w:World} {A:Nat→Prop} {E:dL An} {nx:di} {γ:Nat} {v:MV} {h h':cj} {s:gD} {K:jl} {d:Option Nat}
 (hs:pZ P w A E nx s a) (hm:MR w A E h nx)
theorem L2 (w:World) {t:TypeId} (hU:qD P t=true) {b o:Nat} {cs:List Value} (hc:cs.length=P.cellsOf t) (hr:Row w b o cs) (h1:mO P t=false→cs.length=1) :
 (loadVar t ⟨b,o,none⟩).run P w=.ok (pk (mO P t) cs) w:=by
 have hrow:∀ j v,cs[j]?=some v→w.cell? ((⟨b,o,none⟩:Addr).add j)=some v:=fun j v hj=>by rw [tU]; exact hr j v hj
 simp only [loadVar,bn,V9 w hU,aV];cases hg:mO P t with
 | true =>
   simp only [if_true,bn,DS w hU,aV];rw [← hc,run_loadCells_list w _ cs hrow];simp [pk]
 | false =>
   obtain ⟨x,rfl⟩:=List.length_eq_one_iff.1 (h1 hg)
   have:=Row.one.1 hr
   simp [pk,this]
include hs hm
theorem C9B {t:TypeId} {x:Operand} {x':dI} {t0:TypeId} (ho:o.op=.load t x) (hx:fx P t0 x=some x') (hU:qD P t=true)
 (he:b7 K γ d s h (.load (mO P t) (P.cellsOf t) x')=some (v,h')):cC P o a w A E nx γ v h':=by
 have dH:=jM hs hx;simp only [b7] at he;split at he
 · rename_i u hu;simp only [aa,ae] at he;obtain ⟨rfl,rfl⟩:=he;unfold tG at hu;split at hu
   · rename_i pv hp;split at hu
     · rename_i hc;cases hu;rw [hp] at dH;obtain ⟨b,o',cE,hA,cv,h1,h2⟩:=Ao.1 dH;refine cC.idle (val:=pk (mO P t) cv) ?_ ?_ hm
       · simp only [execOp,ho,cE,Instr.loadAt,iW,bn,bL,aV];rw [L2 w hU (by rw [h1.len,hc.1]) h2 (fun hg=>by rw [← hc.2] at hg; obtain ⟨_,rfl,_⟩:=h1.one hg; rfl)]
         rfl
       · simp only [bQ,oZ]; exact ⟨cv,h1,by rw [hc.2]⟩
     · cases hu
   · rename_i id np rp g o' hp;split at hu
     · rename_i t' s' oo hl;simp only at hu;split at hu
       · rename_i hc;obtain ⟨rfl,rfl,eY⟩:=hc;split at hu
         · rename_i hagg;obtain ⟨hagg,qW⟩:=hagg;cases hu;obtain ⟨an,tA,nW,hg,rfl⟩:=hm.look hl;obtain ⟨b,hb,kS⟩:=hm.sM nW;rw [hp] at dH;simp only [bQ] at dH;obtain ⟨_,ad,cE,qX⟩:=dH;obtain ⟨z,hn⟩:=F5 nW;obtain ⟨b',jr,rfl⟩:=qX an z hn hg;rw [hb] at jr; cases jr;obtain ⟨cs,hrow,H9,hlen⟩:=PR hm tA (ru np rp) b oo (LY nW) kS;rw [T.j9] at eY;refine cC.idle (val:=pk (mO P t) cs) ?_ ?_ hm
           · simp only [execOp,ho,cE,Instr.loadAt,iW,bn,bL,aV];rw [L2 w hU (by rw [hlen,eY]) hrow ?_]
             · rfl
             · intro rE;rw [← hagg] at rE;rcases H9.2 with ⟨n,hn⟩ | ⟨_,h2⟩
               · rw [hn] at qW; cases qW
               · obtain ⟨x,rfl,_⟩:=h2 rE; rfl
           · rw [← hagg]; exact H9.val
         · cases hu
       · cases hu
     · cases hu
   · cases hu
 · cases he
omit hs hm in
theorem Bm {c:Call} {b:Builtin} (ho:o.op=.call c) (hc:c.callee=.builtin b) :
 (execOp a.eval o).run P w=(builtin b c.argTypes o.type (c.args.map fun | .const _=>true | _=>false) (c.args.map a.eval)).run P w:=by
 simp only [execOp,ho,resolve,hc,bn,bL,aV,invoke];rfl
theorem D1z {x:Operand} {x':dI} {t t0 e:TypeId} {c:Call} (ho:o.op=.call c) (pB:c.callee=.builtin .len) (oP:c.args=#[x]) (sr:c.argTypes=#[t]) (hx:fx P t0 x=some x')
 (hu:P.underlying t=some (.slice e))
 (he:b7 K γ d s h (.len x')=some (v,h')):cC P o a w A E nx γ v h':=by
 have dH:=jM hs hx;simp only [b7] at he;split at he
 · rename_i n hn;simp only [aa,ae,vW] at he;obtain ⟨rfl,rfl⟩:=he;have main:∀ p cap,a.eval x=.slice p n cap→cC P o a w A E nx γ (.p (.int .i64 n)) h:=by
    intro p cap cE;refine cC.idle (val:=.int .i64 n) ?_ (A1X.2 rfl) hm;rw [Bm ho pB];simp [builtin,oP,sr,cE,Builtin.len_,aZ hu,goInt]
   unfold yA at hn;split at hn
   · rename_i l hl;cases hn;rw [hl] at dH;obtain ⟨p,cap,cE,_⟩:=vg.1 dH;exact main p cap cE
   · rename_i z hl;cases hn;rw [hl] at dH;simp only [bQ] at dH;obtain ⟨p,cE⟩:=dH;exact main p 0 cE
   · rename_i id path off len g hl;cases hn;rw [hl] at dH;simp only [bQ] at dH;obtain ⟨_,p,cap,cE,_⟩:=dH;exact main p cap cE
   · cases hn
 · cases he
theorem C9C {x:Operand} {x':dI} {t t0 e:TypeId} {c:Call} (ho:o.op=.call c) (pB:c.callee=.builtin .cap) (oP:c.args=#[x]) (sr:c.argTypes=#[t]) (hx:fx P t0 x=some x')
 (hu:P.underlying t=some (.slice e))
 (he:b7 K γ d s h (.capn x')=some (v,h')):cC P o a w A E nx γ v h':=by
 have dH:=jM hs hx;simp only [b7] at he;split at he
 · rename_i z hb;simp only [aa,ae,vW] at he;obtain ⟨rfl,rfl⟩:=he;rw [hb] at dH;simp only [bQ] at dH;obtain ⟨p,cE⟩:=dH;refine cC.idle (val:=.int .i64 (0:Nat)) ?_ (A1X.2 rfl) hm;rw [Bm ho pB];simp [builtin,oP,sr,cE,Builtin.cap_,aZ hu,goInt]
 · cases he
theorem C9D {x:Operand} {x':dI} {t t0:TypeId} {c:Call} (ho:o.op=.call c) (pB:c.callee=.builtin .len) (oP:c.args=#[x]) (sr:c.argTypes=#[t]) (hx:fx P t0 x=some x')
 (hu:P.underlying t=some .string)
 (he:b7 K γ d s h (.lenS x')=some (v,h')):cC P o a w A E nx γ v h':=by
 have dH:=jM hs hx;simp only [b7] at he;split at he
 · rename_i b hb;simp only [aa,ae,vW] at he;obtain ⟨rfl,rfl⟩:=he;rw [hb,Am] at dH;refine cC.idle (val:=.int .i64 b.size) ?_ (A1X.2 rfl) hm;rw [Bm ho pB];simp [builtin,oP,sr,dH,Builtin.len_,aZ hu,goInt]
 · cases he
theorem C7Q {x ix:Operand} {x' gY:dI} {t t0 t1 e:TypeId} (ho:o.op=.indexAddr t x ix) (hx:fx P t0 x=some x') (Au:fx P t1 ix=some gY)
 (hu:P.underlying t=some (.slice e)) (hz:P.cellsOf e ≠ 0)
 (he:b7 K γ d s h (.iaddr (P.cellsOf e) x' gY)=some (v,h')):cC P o a w A E nx γ v h':=by
 have dH:=jM hs hx;have yK:=jM hs Au;simp only [b7] at he;split at he
 · rename_i u nD;simp only [aa,ae] at he;obtain ⟨rfl,rfl⟩:=he;have main:∀ b o' len cap kd (k:Nat),a.eval x=.slice (some ⟨b,o',none⟩) len cap→a.eval ix=.int kd k→k < len→bQ w A E nx u (.pointer (some ⟨b,o' + k * P.cellsOf e,none⟩)) →
    cC P o a w A E nx γ u h:=by
    intro b o' len cap kd k h1 h2 h3 h4;refine cC.idle ?_ h4 hm;have h5:(k:Int) < (len:Int):=by omega
    simp [execOp,ho,h1,h2,Instr.indexAt,asIntOf,aZ hu,h3,Bk w hz,tU]
   unfold Ai at nD;split at nD
   · rename_i l hl;split at nD
     · rename_i k hk;split at nD
       · rename_i pv xL;split at nD
         · rename_i eY;cases nD;obtain ⟨kd,pD,eF⟩:=H8 hk yK;rw [hl] at dH;obtain ⟨p,cap,cE,_,gZ⟩:=vg.1 dH;rcases gZ with rfl | ⟨b,o',z,rfl,hA,gZ⟩
           · simp at xL
           · obtain ⟨c,h1,h2,h3⟩:=gZ.get xL
             have:z=P.cellsOf e:=by rw [← h2,h1.len,eY]
             subst this;exact main b o' l.length cap kd k cE pD eF (Ao.2 ⟨b,_,rfl,hA,c,h1,h3⟩)
         · cases nD
       · cases nD
     · cases nD
   · rename_i id path off len g hl;split at nD
     · rename_i k hk;split at nD
       · rename_i g' z' l' iC;split at nD
         · rename_i hc;obtain ⟨rfl,rfl⟩:=hc;cases nD;obtain ⟨kd,pD,eF⟩:=H8 hk yK;rw [hl] at dH;simp only [bQ] at dH;obtain ⟨hg,p,cap,cE,nF,iL⟩:=dH;obtain ⟨an,lA,nm,DV,rfl⟩:=hm.vec iC;have hn:=sL nm;have hh:=iL an _ hn DV;unfold kR at hh;cases hb:an.b with
           | none=>simp only [hb] at hh; omega
           | some b =>
             simp only [hb] at hh;rcases hh with ⟨nX,hh | rfl⟩
             · omega
             · refine main b _ len cap kd k cE pD eF ?_;simp only [bQ];refine ⟨by omega,_,rfl,fun qF z rT rE=>?_⟩
               rw [hn] at rT; cases rT;exact ⟨b,hb,by rw [gX]⟩
         · cases nD
       · cases nD
     · cases nD
   · cases nD
 · cases he
omit hs hm in
theorem Ia (hs:pZ P w A E nx s a) {n:Nat} {lo hi:Option Operand} {j2 eN:Option dI} (vZ:ve P lo=some j2) (xM:ve P hi=some eN) {i j:Nat} (he:Be n (j2.map (cJ s)) (eN.map (cJ s))=some (i,j)) :
 i ≤ j∧j ≤ n∧∀ Wp cap,n ≤ cap→(dY Wp n cap (lo.map a.eval) (hi.map a.eval) none).run P w=.ok (i,j,cap) w:=by
 have opt:∀ {x:Option Operand} {x':Option dI},ve P x=some x'→(x=none∧x'=none)∨∃ y y' t,x=some y∧x'=some y'∧fx P t y=some y':=by
  intro x x' hx;unfold ve at hx;cases x with
  | none=>simp at hx; exact .inl ⟨rfl,hx.symm⟩
  | some y =>
    simp only at hx;split at hx
    · rename_i y' hy;cases hx;exact .inr ⟨y,y',0,rfl,rfl,hy⟩
    · cases hx
 unfold Be at he;have bd:∀ {x:Option Operand} {x':Option dI} {n m:Nat} {r:Nat},ve P x=some x'→Cu n m (x'.map (cJ s))=some r→(x=none∧r=m)∨∃ y kd,x=some y∧a.eval y=.int kd r∧r ≤ n:=by
  intro x x' n m r hx hb;rcases opt hx with ⟨rfl,rfl⟩ | ⟨y,y',t,rfl,rfl,hy⟩
  · simp only [dx,Cu,aa] at hb;exact .inl ⟨rfl,hb.symm⟩
  · simp only [ak,Cu] at hb;obtain ⟨kd,cE,hle⟩:=F6 hb (jM hs hy);exact .inr ⟨y,kd,rfl,cE,hle⟩
 split at he
 · rename_i jj h1;split at he
   · rename_i ii h4;simp only [aa,ae] at he;obtain ⟨rfl,rfl⟩:=he;have h3:=bd xM h1;have h6:=bd vZ h4;have h2:jj ≤ n:=by
      rcases h3 with ⟨_,rfl⟩ | ⟨_,_,_,_,h⟩
      · exact ar _
      · exact h
     have h5:ii ≤ jj:=by
      rcases h6 with ⟨_,rfl⟩ | ⟨_,_,_,_,h⟩
      · exact Nat.zero_le _
      · exact h
     refine ⟨h5,h2,fun Wp cap nX=>?_⟩
     have e1:∀ (kd:IntKind) (m y:Nat) (cd:BoundsCode),m ≤ y→(fW (.int kd m) y cd).run P w=.ok m w:=by
      intro kd m y cd hle
      have:(m:Int) ≤ (y:Int):=by omega
      simp [fW,asIntOf,this]
     rcases h3 with ⟨rfl,rfl⟩ | ⟨y,kd,rfl,hy,_⟩ <;> rcases h6 with ⟨rfl,rfl⟩ | ⟨y2,Wq,rfl,hy2,_⟩
     · simp [dY]
     · simp [dY,hy2,e1 Wq ii _ _ h5]
     · simp [dY,hy,e1 kd jj cap _ (by omega)]
     · simp [dY,hy,hy2,e1 kd jj cap _ (by omega),e1 Wq ii _ _ h5]
   · cases he
 · cases he
theorem C52 {x:Operand} {x':dI} {lo hi:Option Operand} {j2 eN:Option dI} {t t0:TypeId} (ho:o.op=.slice t x lo hi none) (hx:fx P t0 x=some x')
 (vZ:ve P lo=some j2) (xM:ve P hi=some eN) (hu:P.underlying t=some .string)
 (he:b7 K γ d s h (.nj x' j2 eN)=some (v,h')):cC P o a w A E nx γ v h':=by
 have dH:=jM hs hx;simp only [b7] at he;split at he
 · rename_i b hb;split at he
   · rename_i i j gL;simp only [aa,ae] at he;obtain ⟨rfl,rfl⟩:=he;rw [hb,Am] at dH;obtain ⟨_,_,hr⟩:=Ia hs vZ xM gL;refine cC.idle (val:=.string (b.extract i j)) ?_ (Am.2 rfl) hm;simp [execOp,ho,dH,jF,mE,aZ hu,hr false b.size (ar _)]
   · cases he
 · cases he
omit hs hm in
theorem C7R {u:MV} {val:Value} {n:Nat} (hv:bQ w A E nx u val) (h:yA u=some n):∃ p cap,val=.slice p n cap∧n ≤ cap:=by
 unfold yA at h;split at h
 · cases h;obtain ⟨p,cap,cE,hc,_⟩:=vg.1 hv;exact ⟨p,cap,cE,hc⟩
 · cases h;simp only [bQ] at hv;obtain ⟨p,cE⟩:=hv;exact ⟨p,0,cE,ar _⟩
 · cases h;simp only [bQ] at hv;obtain ⟨_,p,cap,cE,hc,_⟩:=hv;exact ⟨p,cap,cE,hc⟩
 · cases h
theorem C53 {x lo hi mx:Operand} {x' j2 eN PS:dI} {t t0 t1 t2 t3 e:TypeId} (ho:o.op=.slice t x (some lo) (some hi) (some mx)) (hx:fx P t0 x=some x')
 (vZ:fx P t1 lo=some j2) (xM:fx P t2 hi=some eN) (PT:fx P t3 mx=some PS) (hu:P.underlying t=some (.slice e)) (hz:P.cellsOf e ≠ 0)
 (he:b7 K γ d s h (.slice3 x' j2 eN PS)=some (v,h')):cC P o a w A E nx γ v h':=by
 have dH:=jM hs hx;simp only [b7] at he;split at he
 · rename_i n hn;split at he
   · rename_i m DW;split at he
     · rename_i b nY;split at he
       · rename_i c pB;simp only [aa,ae] at he;obtain ⟨rfl,rfl⟩:=he;obtain ⟨p,cap,cE,nX⟩:=C7R dH hn;obtain ⟨k1,v1,l1⟩:=F6 DW (jM hs PT);obtain ⟨k2,v2,l2⟩:=F6 nY (jM hs xM);obtain ⟨k3,v3,l3⟩:=F6 pB (jM hs vZ);have e1:∀ (kd:IntKind) (m y:Nat) (cd:BoundsCode),m ≤ y→(fW (.int kd m) y cd).run P w=.ok m w:=by
          intro kd m y cd hle
          have:(m:Int) ≤ (y:Int):=by omega
          simp [fW,asIntOf,this]
         refine cC.idle (val:=.slice (if m=c then p else p.map (·.add (c * P.cellsOf e))) (b - c) (m - c)) ?_ (by simp only [bQ]) hm
         simp [execOp,ho,cE,jF,mE,aZ hu,dY,v1,v2,v3,e1 k1 m cap _ (by omega),e1 k2 b m _ l2,e1 k3 c b _ l3,Bk w hz]
       · cases he
     · cases he
   · cases he
 · cases he
omit hs hm in
theorem cK.el:∀ {l:List PV} {cs:List Value} {b o z:Nat},cK w A l cs→Row w b o cs→l.all (fun v=>v.cs == z)=true→fE w A l b o z
 | [],_,_,_,_,_,_,_=>by simp only [fE]
 | x::r,cs,b,o,z,h,hr,hz=>by
   simp only [cK] at h;obtain ⟨c,d,rfl,h1,h2⟩:=h;simp only [dC,aj,beq_iff_eq] at hz;obtain ⟨r1,r2⟩:=Row.append.1 hr;simp only [fE];have hc:c.length=z:=by rw [h1.len,hz.1]
   exact ⟨⟨c,h1,hc,r1⟩,cK.el h2 (hc ▸ r2) hz.2⟩
omit hs hm in
theorem fE.drop:∀ {l:List PV} {b o' z:Nat} (k:Nat),fE w A l b o' z→fE w A (l.drop k) b (o' + k * z) z
 | l,b,o',z,0,h=>by simpa using h
 | [],b,o',z,k + 1,_=>by simp only [List.drop_nil,fE]
 | x::r,b,o',z,k + 1,h=>by
   simp only [fE] at h
   have:=fE.drop k h.2
   rw [List.drop_succ_cons,dv,hJ (k * z),← bU];exact this
omit hs hm in
theorem fE.take:∀ {l:List PV} {b o' z:Nat} (k:Nat),fE w A l b o' z→fE w A (l.take k) b o' z
 | l,b,o',z,0,h=>by simp only [List.take_zero,fE]
 | [],b,o',z,k + 1,_=>by simp only [List.take_nil,fE]
 | x::r,b,o',z,k + 1,h=>by
   simp only [fE] at h;rw [bS];simp only [fE];exact ⟨h.1,fE.take k h.2⟩
omit hs hm in
theorem fE.z {l:List PV} {b o' z:Nat} (k:fE w A l b o' z) (eA:l ≠ []) {n:Nat} (hz:l.all (fun v=>v.cs == n)=true):z=n:=by
 cases l with
 | nil=>exact absurd rfl eA
 | cons x r =>
   simp only [fE] at k;obtain ⟨⟨c,h1,h2,_⟩,_⟩:=k;simp only [dC,aj,beq_iff_eq] at hz;rw [← h2,h1.len,hz.1]
theorem C7S {x:Operand} {x':dI} {lo hi:Option Operand} {j2 eN:Option dI} {t t0 e:TypeId} (ho:o.op=.slice t x lo hi none) (hx:fx P t0 x=some x')
 (vZ:ve P lo=some j2) (xM:ve P hi=some eN) (hu:P.underlying t=some (.slice e)) (hz:P.cellsOf e ≠ 0)
 (he:b7 K γ d s h (.slice (P.cellsOf e) x' j2 eN)=some (v,h')):cC P o a w A E nx γ v h':=by
 have dH:=jM hs hx;simp only [b7] at he;split at he
 · rename_i u nD;simp only [aa,ae] at he;obtain ⟨rfl,rfl⟩:=he;have main:∀ p len cap i j,a.eval x=.slice p len cap→Be len (j2.map (cJ s)) (eN.map (cJ s))=some (i,j)→len ≤ cap →
    bQ w A E nx u (.slice (if cap=i then p else p.map (·.add (i * P.cellsOf e))) (j - i) (cap - i))→cC P o a w A E nx γ u h:=by
    intro p len cap i j h1 h2 h3 h4;obtain ⟨_,_,hr⟩:=Ia hs vZ xM h2;refine cC.idle ?_ h4 hm;simp [execOp,ho,h1,jF,mE,aZ hu,hr true cap h3,Bk w hz]
   unfold Ah at nD;split at nD
   · rename_i l hl;split at nD
     · rename_i i j gL;split at nD
       · rename_i kD;cases nD;rw [hl] at dH;obtain ⟨p,cap,cE,nF,gZ⟩:=vg.1 dH;obtain ⟨yL,Bn,_⟩:=Ia hs vZ xM gL;refine main p l.length cap i j cE gL nF ?_;have hlen:((l.take j).drop i).length=j - i:=by rw [List.length_drop,List.length_take,Nat.min_eq_left Bn]
         refine vg.2 ⟨_,_,by rw [hlen],by rw [hlen]; omega,?_⟩
         by_cases eA:j=i
         · left;exact List.eq_nil_of_length_eq_zero (by rw [hlen]; omega)
         · right;rcases gZ with rfl | ⟨b,o',z,rfl,hA,gZ⟩
           · simp at Bn; omega
           · have Ib:=gZ.z (by rintro rfl; simp at Bn; omega) kD
             subst Ib;refine ⟨b,o' + i * P.cellsOf e,P.cellsOf e,?_,hA,fE.drop i (fE.take j gZ)⟩;rw [if_neg (by omega)]
             simp [tU]
       · cases nD
     · cases nD
   · rename_i z hl;split at nD
     · rename_i ij gL;cases nD;rw [hl] at dH;simp only [bQ] at dH;obtain ⟨p,cE⟩:=dH;obtain ⟨i,j⟩:=ij;obtain ⟨yL,Bn,_⟩:=Ia hs vZ xM gL;refine main p 0 0 i j cE gL (ar _) ?_
       have:i=0:=by omega
       have:j=0:=by omega
       subst i; subst j;simp only [bQ];exact ⟨_,rfl⟩
     · cases nD
   · rename_i id path off len g hl;split at nD
     · rename_i i j g' z' l' gL iC;split at nD
       · rename_i hc;obtain ⟨rfl,rfl⟩:=hc;cases nD;rw [hl] at dH;simp only [bQ] at dH;obtain ⟨hg,p,cap,cE,nF,iL⟩:=dH;obtain ⟨yL,Bn,_⟩:=Ia hs vZ xM gL;refine main p len cap i j cE gL nF ?_;simp only [bQ];refine ⟨hg,_,_,rfl,by omega,fun an z hn Ic=>?_⟩
         obtain ⟨qF,lA,nm,DV,rfl⟩:=hm.vec iC;have rT:=sL nm;rw [rT] at hn; cases hn;have hh:=iL _ _ rT DV;unfold kR at hh ⊢;cases hb:an.b with
         | none=>simp only [hb] at hh ⊢; omega
         | some b =>
           simp only [hb] at hh ⊢;refine ⟨by omega,?_⟩
           by_cases F7:cap=i
           · left; omega
           · rcases hh with ⟨nX,hh | rfl⟩
             · left; omega
             · right;rw [if_neg F7];simp [tU,gX]
       · cases nD
     · cases nD
   · cases nD
 · cases he
theorem C54 {x lo hi:Operand} {x' j2 eN:dI} {t t0 t1 t2 e:TypeId} (ho:o.op=.slice t x (some lo) (some hi) none) (hx:fx P t0 x=some x')
 (vZ:fx P t1 lo=some j2) (xM:fx P t2 hi=some eN) (hu:P.underlying t=some (.slice e)) (hz:P.cellsOf e ≠ 0)
 (he:b7 K γ d s h (.sliceK (P.cellsOf e) x' j2 eN)=some (v,h')):cC P o a w A E nx γ v h':=by
 have dH:=jM hs hx;simp only [b7] at he;split at he
 · rename_i id path off len g hl;split at he
   · rename_i g' z' l' iC;split at he
     · rename_i hc;obtain ⟨rfl,rfl,lz⟩:=hc;split at he
       · rename_i j Bn;split at he
         · rename_i i yL;simp only [aa,ae] at he;obtain ⟨rfl,rfl⟩:=he;rw [hl] at dH;simp only [bQ] at dH;obtain ⟨hg,p,cap,cE,nF,iL⟩:=dH;obtain ⟨k2,v2,l2⟩:=F6 Bn (jM hs xM);obtain ⟨k3,v3,l3⟩:=F6 yL (jM hs vZ);obtain ⟨an,lA,nm,DV,rfl⟩:=hm.vec iC;have rT:=sL nm;have hh:=iL _ _ rT DV;have hB:=hm.tR nm;have hjc:j ≤ cap:=by
            rw [List.length_map] at l2 lz;unfold kR at hh;unfold VB at hB;cases hb:an.b with
            | none =>
              simp only [hb] at hh hB;obtain ⟨rfl,_⟩:=hB;simp at l2; omega
            | some b =>
              simp only [hb] at hh hB;omega
           have e1:∀ (kd:IntKind) (m y:Nat) (cd:BoundsCode),m ≤ y→(fW (.int kd m) y cd).run P w=.ok m w:=by
            intro kd m y cd hle
            have:(m:Int) ≤ (y:Int):=by omega
            simp [fW,asIntOf,this]
           refine cC.idle (val:=.slice (if cap=i then p else p.map (·.add (i * P.cellsOf e))) (j - i) (cap - i)) ?_ ?_ hm
           · simp [execOp,ho,cE,jF,mE,aZ hu,dY,v2,v3,e1 k2 j cap _ hjc,e1 k3 i j _ l3,Bk w hz]
           · simp only [bQ];refine ⟨hg,_,_,rfl,by omega,fun Ws z hn Ic=>?_⟩
             rw [rT] at hn; cases hn;unfold kR at hh ⊢;cases hb:an.b with
             | none=>simp only [hb] at hh ⊢; omega
             | some b =>
               simp only [hb] at hh ⊢;refine ⟨by omega,?_⟩
               by_cases F7:cap=i
               · left; omega
               · rcases hh with ⟨nX,hh | rfl⟩
                 · left; omega
                 · right;rw [if_neg F7];simp [tU,gX]
         · cases he
       · cases he
     · cases he
   · cases he
 · cases he
theorem D1A {x:Operand} {x':dI} {t t0 e:TypeId} {n:Nat} (ho:o.op=.slice t x none none none) (hx:fx P t0 x=some x')
 (hu:P.underlying t=some (.array n e)) (hz:P.cellsOf e ≠ 0)
 (he:b7 K γ d s h (.Bb n (P.cellsOf e) x')=some (v,h')):cC P o a w A E nx γ v h':=by
 have dH:=jM hs hx;simp only [b7] at he;split at he
 · rename_i l hl;split at he
   · rename_i hc;simp only [aa,ae] at he;obtain ⟨rfl,rfl⟩:=he;rw [hl] at dH;obtain ⟨b,o',cE,hA,cv,Ap,hrow⟩:=Ao.1 dH;simp only [dR] at Ap;refine cC.idle (val:=.slice (some (if n=0 then (⟨b,o',none⟩:Addr) else (⟨b,o',none⟩:Addr).add (0 * P.cellsOf e))) (n - 0) (n - 0)) ?_ ?_ hm
     · simp [execOp,ho,cE,jF,aZ hu,dY,iW,Bk w hz]
     · refine vg.2 ⟨_,_,by rw [hc.1,Nat.sub_zero],by rw [hc.1]; omega,?_⟩
       right;refine ⟨b,o',P.cellsOf e,?_,hA,cK.el Ap hrow hc.2⟩;split <;> simp [tU]
   · cases he
 · cases he
theorem C9E {x:Operand} {x':dI} {t t0 e:TypeId} (ho:o.op=.slice t x none (some (.const (.int .i64 0))) (some (.const (.int .i64 0)))) (hx:fx P t0 x=some x')
 (hu:P.underlying t=some (.slice e)) (hz:P.cellsOf e ≠ 0)
 (he:b7 K γ d s h (.cut0 (P.cellsOf e) x')=some (v,h')):cC P o a w A E nx γ v h':=by
 have dH:=jM hs hx;have main:∀ p len cap,a.eval x=.slice p len cap→cC P o a w A E nx γ (.nil (P.cellsOf e)) h:=by
  intro p len cap cE;refine cC.idle (val:=.slice (if (0:Nat)=0 then p else p) 0 0) ?_ (by simp only [bQ]; exact ⟨_,rfl⟩) hm
  simp [execOp,ho,cE,jF,mE,aZ hu,Bk w hz,dY,fW,asIntOf,DU]
 simp only [b7] at he;split at he <;> simp only [aa,ae,reduceCtorEq] at he <;> try contradiction
 · obtain ⟨rfl,rfl⟩:=he;rename_i l hl;rw [hl] at dH;obtain ⟨p,cap,cE,_⟩:=vg.1 dH;exact main p _ cap cE
 · obtain ⟨rfl,rfl⟩:=he;rename_i hl;rw [hl] at dH;simp only [bQ] at dH;obtain ⟨_,p,cap,cE,_⟩:=dH;exact main p _ cap cE
 · obtain ⟨rfl,rfl⟩:=he;rename_i hl;rw [hl] at dH;simp only [bQ] at dH;obtain ⟨p,cE⟩:=dH;exact main p _ 0 cE
theorem C7T {x:Operand} {x':dI} {t t0:TypeId} {i:Nat} {fs:Array Field} {fd:Field} (ho:o.op=.fieldAddr t x i) (hx:fx P t0 x=some x')
 (hu:P.underlying t=some (.struct fs)) (hf:fs[i]?=some fd) (hz:P.cellsOf fd.type ≠ 0)
 (he:b7 K γ d s h (.faddr x' i fd.offset)=some (v,h')):cC P o a w A E nx γ v h':=by
 have dH:=jM hs hx;have main:∀ p u,a.eval x=.pointer (some p)→bQ w A E nx u (.pointer (some (p.add fd.offset)))→cC P o a w A E nx γ u h:=by
  intro p u cE hk;refine cC.idle ?_ hk hm;simp [execOp,ho,cE,Instr.fieldAt,aZ hu,hf,iW,fieldPlace,Bk w hz,hz]
 simp only [b7] at he;split at he
 · rename_i l hl;split at he
   · rename_i pv xL;split at he
     · rename_i lz;simp only [aa,ae] at he;obtain ⟨rfl,rfl⟩:=he;rw [hl] at dH;obtain ⟨b,o',cE,hA,cv,h1,h2⟩:=Ao.1 dH;simp only [dR] at h1;obtain ⟨p,c,q,rfl,hp,hc⟩:=h1.get xL;refine main _ _ cE (Ao.2 ⟨b,o' + fd.offset,by rw [tU],hA,c,hc,?_⟩)
       rw [← lz,← hp];exact (Row.append.1 (Row.append.1 h2).1).2
     · cases he
   · cases he
 · rename_i id np rp g o0 hl;simp only [aa,ae] at he;obtain ⟨rfl,rfl⟩:=he;rw [hl] at dH;simp only [bQ] at dH;obtain ⟨hg,p,cE,qX⟩:=dH;refine main p _ cE ?_;simp only [bQ];refine ⟨hg,_,rfl,fun an z hn Ic=>?_⟩
   obtain ⟨b,hb,rfl⟩:=qX an z hn Ic;exact ⟨b,hb,by rw [tU]⟩
 · cases he
theorem C55 {x ix:Operand} {x' gY:dI} {t t0 t1 e:TypeId} {n:Nat} (ho:o.op=.indexAddr t x ix) (hx:fx P t0 x=some x') (Au:fx P t1 ix=some gY)
 (hu:P.underlying t=some (.array n e)) (hz:P.cellsOf e ≠ 0)
 (he:b7 K γ d s h (.nk n (P.cellsOf e) x' gY)=some (v,h')):cC P o a w A E nx γ v h':=by
 have dH:=jM hs hx;have yK:=jM hs Au;simp only [b7] at he;split at he
 · rename_i k hk;obtain ⟨kd,pD,eF⟩:=H8 hk yK;have main:∀ p u,a.eval x=.pointer (some p)→bQ w A E nx u (.pointer (some (p.add (k * P.cellsOf e))))→cC P o a w A E nx γ u h:=by
    intro p u cE hk;refine cC.idle ?_ hk hm;have h5:(k:Int) < (n:Int):=by omega
    simp [execOp,ho,cE,pD,Instr.indexAt,asIntOf,aZ hu,iW,Bk w hz,eF]
   split at he
   · rename_i l hl;split at he
     · rename_i pv xL;split at he
       · rename_i lz;simp only [aa,ae] at he;obtain ⟨rfl,rfl⟩:=he;rw [hl] at dH;obtain ⟨b,o',cE,hA,cv,h1,h2⟩:=Ao.1 dH;simp only [dR] at h1;obtain ⟨p,c,q,rfl,hp,hc⟩:=h1.get xL;refine main _ _ cE (Ao.2 ⟨b,o' + k * P.cellsOf e,by rw [tU],hA,c,hc,?_⟩)
         rw [← lz,← hp];exact (Row.append.1 (Row.append.1 h2).1).2
       · cases he
     · cases he
   · rename_i id np rp g o0 hl;simp only [aa,ae] at he;obtain ⟨rfl,rfl⟩:=he;rw [hl] at dH;simp only [bQ] at dH;obtain ⟨hg,p,cE,qX⟩:=dH;refine main p _ cE ?_;simp only [bQ];refine ⟨hg,_,rfl,fun an z hn Ic=>?_⟩
     obtain ⟨b,hb,rfl⟩:=qX an z hn Ic;exact ⟨b,hb,by rw [tU]⟩
   · cases he
 · cases he
end
end Go.Mid
namespace Go.Mid
open Go.RowKit
section
variable {P:Program} {o:Oper} {a:Act} {w:World} {A:Nat→Prop} {E:dL An} {nx:di} {γ:Nat} {v:MV} {h h':cj} {s:gD} {K:jl} {d:Option Nat}
 (hs:pZ P w A E nx s a) (hm:MR w A E h nx)
include hs hm
theorem D1B {x:Operand} {x':dI} {t t0:TypeId} {i:Nat} {fs:Array Field} {fd:Field} (ho:o.op=.field t x i) (hx:fx P t0 x=some x')
 (hu:P.underlying t=some (.struct fs)) (hf:fs[i]?=some fd) (hU:qD P fd.type=true)
 (he:b7 K γ d s h (.fld (mO P fd.type) (P.cellsOf fd.type) fd.offset x' i)=some (v,h')):cC P o a w A E nx γ v h':=by
 have dH:=jM hs hx;have main:∀ (p c q:List Value) u,a.eval x=.agg (p++c++q).toArray→p.length=fd.offset→c.length=P.cellsOf fd.type→(mO P fd.type=false→c.length=1) →
  bQ w A E nx u (pk (mO P fd.type) c)→cC P o a w A E nx γ u h:=by
  intro p c q u cE hp hc h1 hk;refine cC.idle ?_ hk hm
  have:=F4 (P:=P) w hU p c q hc h1
  rw [hp] at this;simp only [execOp,ho,cE,Instr.field,bn,aZ hu,aV,hf,asAgg,bL,this]
 simp only [b7] at he;split at he
 · rename_i l hl;split at he
   · rename_i pv xL;split at he
     · rename_i hc;obtain ⟨h1,h2,h3⟩:=hc;simp only [aa,ae] at he;obtain ⟨rfl,rfl⟩:=he;rw [hl] at dH;obtain ⟨cs,cE,eY⟩:=LR.1 dH;obtain ⟨p,c,q,rfl,hp,hc⟩:=eY.get xL;refine main p c q _ cE (by rw [hp,h1]) (by rw [hc.len,h2]) (fun hg=>?_) ?_
       · rw [← h3] at hg; obtain ⟨_,rfl,_⟩:=hc.one hg; rfl
       · simp only [bQ,oZ]; exact ⟨c,hc,by rw [h3]⟩
     · cases he
   · cases he
 · rename_i l hl;split at he
   · rename_i mv hmv;split at he
     · rename_i hc;obtain ⟨h1,h2,h3,qW⟩:=hc;simp only [aa,ae] at he;obtain ⟨rfl,rfl⟩:=he;rw [hl] at dH;simp only [bQ] at dH;obtain ⟨cs,cE,eY⟩:=dH;obtain ⟨p,u,q,rfl,hp,hsz,DX,hk⟩:=eY.get hmv;have L3:∀ n,mv ≠ .dead n:=by rintro n rfl; cases qW
       refine main p u.cells.toList q _ cE (by rw [hp,h1]) (by rw [dW,hsz,h2]) (fun hg=>?_) ?_
       · rw [← h3] at hg;rw [hk.vh hg L3]; rfl
       · rw [← h3,hk.H4 L3]; exact hk
     · cases he
   · cases he
 · cases he
theorem D1C {x ix:Operand} {x' gY:dI} {t t0 t1 e:TypeId} {n:Nat} (ho:o.op=.index t x ix) (hx:fx P t0 x=some x') (Au:fx P t1 ix=some gY)
 (hu:P.underlying t=some (.array n e)) (hU:qD P e=true)
 (he:b7 K γ d s h (.idx (mO P e) (P.cellsOf e) n x' gY)=some (v,h')):cC P o a w A E nx γ v h':=by
 have dH:=jM hs hx;have yK:=jM hs Au;simp only [b7] at he;split at he
 · rename_i l hl;split at he
   · rename_i k hk;obtain ⟨kd,pD,eF⟩:=H8 hk yK;split at he
     · rename_i pv xL;split at he
       · rename_i hc;obtain ⟨h1,h2,h3⟩:=hc;simp only [aa,ae] at he;obtain ⟨rfl,rfl⟩:=he;rw [hl] at dH;obtain ⟨cs,cE,eY⟩:=LR.1 dH;obtain ⟨p,c,q,rfl,hp,hc⟩:=eY.get xL;have hr:=F4 (P:=P) w hU p c q (by rw [hc.len,h2]) (fun hg=>by rw [← h3] at hg; obtain ⟨_,rfl,_⟩:=hc.one hg; rfl)
         rw [hp,h1] at hr;refine cC.idle (val:=pk (mO P e) c) ?_ (by simp only [bQ,oZ]; exact ⟨c,hc,by rw [h3]⟩) hm
         have h5:(k:Int) < (n:Int):=by omega
         simp [execOp,ho,cE,pD,Instr.index,asIntOf,aZ hu,eF,DS w hU];simp at hr;rw [hr]; rfl
       · cases he
     · cases he
   · cases he
 · cases he
theorem C9F {x ix:Operand} {x' gY:dI} {t t0 t1:TypeId} (ho:o.op=.index t x ix) (hx:fx P t0 x=some x') (Au:fx P t1 ix=some gY)
 (hu:P.underlying t=some .string)
 (he:b7 K γ d s h (.sK x' gY)=some (v,h')):cC P o a w A E nx γ v h':=by
 have dH:=jM hs hx;have yK:=jM hs Au;simp only [b7] at he;split at he
 · rename_i b hb;split at he
   · rename_i k hk;obtain ⟨kd,pD,eF⟩:=H8 hk yK;split at he
     · rename_i c hc;simp only [aa,ae] at he;obtain ⟨rfl,rfl⟩:=he;rw [hb,Am] at dH;refine cC.idle (val:=.int .u8 c.toNat) ?_ (A1X.2 rfl) hm;have hg:b[k]?=some c:=by
        have nR:k < b.data.size:=eF;rw [Array.getElem?_eq_getElem nR] at hc;rw [getElem?_pos b k eF];exact hc
       simp [execOp,ho,dH,pD,Instr.index,asIntOf,aZ hu,hg]
     · cases he
   · cases he
 · cases he
theorem Wt {f k:Nat} {first iR xs:Array Operand} {l:List dI} {ts:List TypeId} (ho:o.op=.makeFunc (.func f) first iR) (hk:(k=f∧f < vV∧first=#[]∧xs=iR)∨(k=vV + f∧iR=#[]∧xs=first)) (hl:qE P ts xs.toList=some l)
 (he:b7 K γ d s h (.sH k l)=some (v,h')):cC P o a w A E nx γ v h':=by
 have hv:=F3 hs hl;have gr:(execOp a.eval o).run P w=.ok (.value (vf k (xs.toList.map a.eval).toArray)) w:=by
  rcases hk with ⟨rfl,h1,rfl,rfl⟩ | ⟨rfl,rfl,rfl⟩
  · rw [PF h1];simp [execOp,ho,Instr.makeFunc];apply gI;simp
  · rw [V0 (Nat.le_add_right _ _),Nat.add_sub_cancel_left];simp [execOp,ho,Instr.makeFunc];apply gI;simp
 simp only [b7] at he;split at he
 · rename_i vs fR;simp only [aa,ae] at he;obtain ⟨rfl,rfl⟩:=he;rw [CH fR] at hv;exact cC.idle gr (LS.2 ⟨_,rfl,yJ.1 hv⟩) hm
 · simp only [aa,ae] at he;obtain ⟨rfl,rfl⟩:=he;exact cC.idle gr (by simp only [bQ]; exact ⟨_,rfl,hv⟩) hm
omit hs hm in
theorem PU (f:Int→Int→Int) (g:Value→Value→Sem Value) (hg:∀ k x k' y,(g (.int k x) (.int k' y)).run P w=.ok (.int k (f x y)) w) :
 ∀ (vs:List PV) (x r:PV) (gP:List Value),Bf f x vs=some r→kK w A vs gP→∀ val,bQ w A E nx (.p x) val→∃ res,(gP.foldlM g val).run P w=.ok res w∧bQ w A E nx (.p r) res
 | [],x,r,gP,h,hv,val,hx=>by
   simp only [Bf,aa] at h;subst h;simp only [kK] at hv;subst hv;exact ⟨val,by simp,hx⟩
 | y::vs,x,r,gP,h,hv,val,hx=>by
   cases x <;> cases y <;> simp only [Bf,reduceCtorEq] at h;simp only [kK] at hv;obtain ⟨c,dd,rfl,h1,h2⟩:=hv;simp only [dR] at h1;subst h1;rw [A1X] at hx;subst hx;obtain ⟨res,h3,h4⟩:=PU f g hg vs _ r dd h h2 _ (A1X.2 rfl);refine ⟨res,?_,h4⟩;simp only [List.foldlM_cons,bn,PV.isAgg,pk,aI,if_false,lE,hg,aV];exact h3
theorem D23 {l:List dI} {c:Call} {ts:List TypeId} (ho:o.op=.call c) (pB:c.callee=.builtin .max) (hl:qE P ts c.args.toList=some l)
 (he:b7 K γ d s h (.mx l)=some (v,h')):cC P o a w A E nx γ v h':=by
 have hv:=F3 hs hl;simp only [b7] at he;split at he
 · rename_i x r PW;split at he
   · rename_i vs fR;split at he
     · rename_i res nN;simp only [aa,ae] at he;obtain ⟨rfl,rfl⟩:=he;rw [PW,CH fR] at hv;simp only [c8] at hv;obtain ⟨val,gP,yM,hx,hr⟩:=hv;obtain ⟨rv,h1,h2⟩:=PU (P:=P) (fun x y=>if y > x then y else x) Builtin.max2 (fun _ _ _ _=>rfl) vs x res gP nN (yJ.1 hr) val hx
       refine cC.idle (val:=rv) ?_ h2 hm;rw [Bm ho pB]
       have:(c.args.map a.eval).toList=val::gP:=by rw [jg,yM]
       simp only [builtin,Builtin.max_,this,bn,h1,aV,bL]
     · cases he
   · cases he
 · cases he
theorem D24 {l:List dI} {c:Call} {ts:List TypeId} (ho:o.op=.call c) (pB:c.callee=.builtin .min) (hl:qE P ts c.args.toList=some l)
 (he:b7 K γ d s h (.mn l)=some (v,h')):cC P o a w A E nx γ v h':=by
 have hv:=F3 hs hl;simp only [b7] at he;split at he
 · rename_i x r PW;split at he
   · rename_i vs fR;split at he
     · rename_i res nN;simp only [aa,ae] at he;obtain ⟨rfl,rfl⟩:=he;rw [PW,CH fR] at hv;simp only [c8] at hv;obtain ⟨val,gP,yM,hx,hr⟩:=hv;obtain ⟨rv,h1,h2⟩:=PU (P:=P) (fun x y=>if y < x then y else x) Builtin.min2 (fun _ _ _ _=>rfl) vs x res gP nN (yJ.1 hr) val hx
       refine cC.idle (val:=rv) ?_ h2 hm;rw [Bm ho pB]
       have:(c.args.map a.eval).toList=val::gP:=by rw [jg,yM]
       simp only [builtin,Builtin.min_,this,bn,h1,aV,bL]
     · cases he
   · cases he
 · cases he
end
end Go.Mid
