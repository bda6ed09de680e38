/- The middle semantics: values, owned memory, instructions and their execution (definitions only). -/
import Derived.Orders
import Derived.Below
import Derived.Lib.FrozenHead
import Derived.Laws.StructEq
set_option linter.unusedSimpArgs false
set_option linter.unusedVariables false
set_option maxHeartbeats 1000000
open BitVec renaming ofInt->b8
open Bool renaming false_eq_true->aI,and_eq_true->aj,not_true->bO,true_and->dm
open Go renaming run_underlying->aZ,run_eqGuard_agg->aBV
open Go.Op renaming bytesLess->lP,intBits->yj,equal->ln,equalIn->gF,intArith->wE,stringOp->wF,eqFields->rR,unary->wJ
open Go.Result renaming andThen_ok->aU
open Go.Sem renaming run_bind->bn,run_pure->bL,run_ite->wH
open List renaming range->bA,replicate->au,getElem?_append_left->cN,getElem?_append_right->bG,length_append->aR,cons_append->aS,nil_append->a7,mem_cons->aG,map_nil->bt,map_cons->aF,getElem?_cons_zero->bQ,getElem?_cons_succ->bK,append_assoc->bg,take_succ_cons->bU,replicate_succ->cB
open Nat renaming add_assoc->bV,le_refl->ay,le_trans->dF,lt_of_lt_of_le->br,succ_mul->du
open Option renaming toList->cg,isSome_iff_exists->eX
open Option.some renaming injEq->aa
open Prod.mk renaming injEq->ae
namespace Go.Mid
inductive PV where
 | int (k:IntKind) (n:Int)
 | bool (b:Bool)
 | str (s:ByteArray)
 | agg (l:List PV)
 | sl (l:List PV)
 | ref (v:PV)
 | fn (f:Nat) (iR:List PV)
 | mp (ks vs:List PV)
 | eM
 | fa
 deriving Inhabited
inductive MV where
 | p (v:PV)
 | nil (z:Nat)
 | own (id:Nat) (path:List Nat) (off len g:Nat)
 | ptr (id:Nat) (np:Option (List Nat)) (rp:List Nat) (g o:Nat)
 | auG (id:Nat) (path:List Nat) (g:Nat)
 | agg (l:List MV)
 | fn (f:Nat) (iR:List MV)
 | eI (l:List MV)
 | dead (n:Nat)
instance:Inhabited MV:=⟨.dead 0⟩
inductive T (α:Type) where
 | p (v:PV)
 | m (v:MV)
 | agg (l:List (T α))
 | vec (a:α) (z:Nat) (l:List (T α)) (n:Nat)
 | mp (a:α) (ks:List PV) (vs:List (T α))
 | hole (n:Nat)
instance{α:Type}:Inhabited (T α):=⟨.hole 0⟩
inductive Obj (α:Type) where
 | cell (a:α) (t:T α)
 | vec (a:α) (z:Nat) (l:List (T α))
 | mp (a:α) (ks:List PV) (vs:List (T α))
 | gone
instance{α:Type}:Inhabited (Obj α):=⟨.gone⟩
abbrev gB:=Nat->MV
abbrev dP(α:Type):=Nat->Option (Obj α)
abbrev cj:=dP Nat
def cq{α:Type}(f:Nat->α)(k:Nat)(v:α):Nat->α:=λi=>if i=k then v else f i
def aST(f:gB)(k:Option Nat)(v:MV):gB:=match k with|some d=>cq f d v|none=>f
structure St where
 s:gB
 h:cj
 nx:Nat
mutual
def PV.cs:PV->Nat|.agg l=>PV.b5 l|_=>1
def PV.b5:List PV->Nat|[]=>0|x::xs=>x.cs+PV.b5 xs
end
mutual
def MV.cs:MV->Nat|.p v=>v.cs|.agg l=>MV.b5 l|.eI _=>0|.dead n=>n|_=>1
def MV.b5:List MV->Nat|[]=>0|x::xs=>x.cs+MV.b5 xs
end
section
variable{α:Type}
mutual
def T.cs:T α->Nat|.p v=>v.cs|.m v=>v.cs|.agg l=>T.b5 l|.vec ..|.mp ..=>1|.hole n=>n
def T.b5:List (T α)->Nat|[]=>0|x::xs=>x.cs+T.b5 xs
end
def PV.isAgg:PV->Bool|.agg _=>true|_=>false
def MV.isAgg:MV->Bool|.agg _=>true|.p v=>v.isAgg|_=>false
def qb:List MV->Option (List PV)|[]=>some []|.p v::r=>(match qb r with|some l=>some (v::l)|none=>none)|_::_=>none
def wU(l:List MV):MV:=match qb l with|some vs=>.p (.agg vs)|none=>.agg l
def ml:List (T α)->Option (List PV)|[]=>some []|.p v::r=>(match ml r with|some l=>some (v::l)|none=>none)|_::_=>none
def A0z(l:List (T α)):T α:=match ml l with|some vs=>.p (.agg vs)|none=>.agg l
def cR:T α->List Nat->Option (T α)|t,[]=>some t|.p (.agg l),i::r=>(match l[i]? with|some v=>cR (.p v) r|none=>none)|.agg l,i::r=>(match l[i]? with|some t=>cR t r|none=>none)|.vec _ _ l _,i::r=>(match l[i]? with|some t=>cR t r|none=>none)|_,_::_=>none
def iE(ob:Option (Obj α))(path:List Nat):Option (T α):=match ob,path with|some (.cell _ t),p=>cR t p|some (.vec _ _ l),i::r=>(match l[i]? with|some t=>cR t r|none=>none)|_,_=>none
def jq(ob:Option (Obj α))(path:List Nat):Option (α×Nat×List (T α)):=match ob,path with|some (.vec a z l),[]=>some (a,z,l)|ob,p=>match iE ob p with|some (.vec a z l _)=>some (a,z,l)|_=>none
def avR(ob:Option (Obj α))(path:List Nat):Option (α×List PV×List (T α)):=match ob,path with|some (.mp a ks vs),[]=>some (a,ks,vs)|_,_=>none
def GI:T α->List Nat->Nat->Option (T α×Nat)|t,[],o=>some (t,o)|.p (.agg l),i::r,o=>(match l[i]? with|some v=>GI (.p v) r (o+PV.b5 (l.take i))|none=>none)|.agg l,i::r,o=>(match l[i]? with|some t=>GI t r (o+T.b5 (l.take i))|none=>none)|_,_::_,_=>none
def look(ob:Option (Obj α))(np:Option (List Nat))(rp:List Nat):Option (T α×α×Nat):=match np with|none=>(match ob with|some (.cell a t)=>(match GI t rp 0 with|some (u,o)=>some (u,a,o)|none=>none)|_=>none)|some p=>match jq ob p,rp with|some (a,z,l),i::r=>(match l[i]? with|some t=>(match GI t r (i*z)with|some (u,o)=>some (u,a,o)|none=>none)|none=>none)|_,_=>none
def sZ(np:Option (List Nat))(rp:List Nat):List Nat:=np.getD []++rp
def fc(ob:Option (Obj α))(np:Option (List Nat)):Option (α×Option Nat):=match np with|none=>(match ob with|some (.cell a _)=>some (a,none)|_=>none)|some p=>match ob,p with|some (.vec a z _),[]=>some (a,some z)|some (.mp a _ _),[]=>some (a,none)|ob,p=>match iE ob p with|some (.vec a z _ _)=>some (a,some z)|some (.mp a _ _)=>some (a,none)|_=>none
def c8:T α->List Nat->T α->Option (T α)|_,[],u=>some u|.p (.agg l),i::r,u=>(match l[i]? with|some v=>(match c8 (.p v) r u with|some w=>some (A0z ((l.map T.p).set i w))|none=>none)|none=>none)|.agg l,i::r,u=>(match l[i]? with|some t=>(match c8 t r u with|some w=>some (A0z (l.set i w))|none=>none)|none=>none)|.vec g z l n,i::r,u=>(match l[i]? with|some t=>(match c8 t r u with|some w=>some (.vec g z (l.set i w) n)|none=>none)|none=>none)|_,_::_,_=>none
def put(ob:Option (Obj α))(path:List Nat)(u:T α):Option (Obj α):=match ob,path with|some (.cell a t),p=>(match c8 t p u with|some w=>some (.cell a w)|none=>none)|some (.vec g z l),i::r=>(match l[i]? with|some t=>(match c8 t r u with|some w=>some (.vec g z (l.set i w))|none=>none)|none=>none)|_,_=>none
end
mutual
def xt(id:Nat)(path:List Nat):T Nat->MV|.p v=>.p v|.m v=>v|.agg l=>wU (zb id path 0 l)|.vec g _ _ n=>.own id path 0 n g|.mp g _ _=>.auG id path g|.hole n=>.dead n
def zb(id:Nat)(path:List Nat)(i:Nat):List (T Nat)->List MV|[]=>[]|t::r=>xt id (path++[i]) t::zb id path (i+1) r
end
mutual
def uD:T Nat->Option PV|.p v=>some v|.m _=>none|.agg l=>(match lf l with|some vs=>some (.agg vs)|none=>none)|.vec _ _ l n=>(match lf l with|some vs=>some (.sl (vs.take n))|none=>none)|.mp _ ks vs=>(match lf vs with|some ws=>some (.mp ks ws)|none=>none)|.hole _=>none
def lf:List (T Nat)->Option (List PV)|[]=>some []|t::r=>match uD t,lf r with|some v,some vs=>some (v::vs)|_,_=>none
end
mutual
def mE(h:cj):MV->Option PV|.p v=>some v|.nil _=>some (.sl [])|.own id path off len g=>(match jq (h id) path with|some (g',_,l)=>if g'=g/\off+len<=l.length then match lf l with|some vs=>some (.sl ((vs.drop off).take len))|none=>none else none|none=>none)|.ptr id np rp g o=>(match look (h id) np rp with|some (t,s,o')=>if s=g/\o'=o then match uD t with|some v=>some (.ref v)|none=>none else none|none=>none)|.auG id path g=>(match avR (h id) path with|some (g',ks,vs)=>if g'=g then match ml vs with|some ws=>some (.mp ks ws)|none=>none else none|none=>none)|.agg l=>(match A2C h l with|some vs=>some (.agg vs)|none=>none)|.fn f iR=>(match A2C h iR with|some vs=>some (.fn f vs)|none=>none)|.eI _=>none|.dead _=>none
def A2C(h:cj):List MV->Option (List PV)|[]=>some []|x::r=>match mE h x,A2C h r with|some v,some vs=>some (v::vs)|_,_=>none
end
end Go.Mid
namespace Go.Mid
inductive dJ where
 | t (n:Nat)
 | c (v:MV)
 | f (id:Nat)
 deriving Inhabited
inductive TD where
 | int (k:IntKind)
 | bool
 | str
 | agg (l:List TD)
 deriving Inhabited
mutual
def TD.cs:TD->Nat|.agg l=>TD.b5 l|_=>1
def TD.b5:List TD->Nat|[]=>0|x::r=>x.cs+TD.b5 r
end
mutual
def qd:TD->PV->Bool|.int k,.int k' _=>k==k'|.bool,.bool _=>true|.str,.str _=>true|.agg l,.agg m=>uh l m|_,_=>false
def uh:List TD->List PV->Bool|[],[]=>true|t::r,x::q=>qd t x&&uh r q|_,_=>false
end
mutual
def xu:PV->PV->Bool|.int _ a,.int _ b=>a==b|.bool a,.bool b=>a==b|.str a,.str b=>a.toList==b.toList|.agg l,.agg m=>zd l m|_,_=>false
def zd:List PV->List PV->Bool|[],[]=>true|x::r,y::q=>xu x y&&zd r q|_,_=>false
end
inductive ui where
 | move (x:dJ)
 | nilv (z:Nat)
 | pick (c a b:dJ)
 | box (x:dJ)
 | build (zs:List Nat) (parts:List dJ)
 | bsl (mt:Bool) (z:Nat) (parts:List dJ)
 | bslp (z:Nat) (parts:List dJ)
 | load (agg:Bool) (n:Nat) (x:dJ)
 | store (n:Nat) (a x:dJ)
 | nilc (x:dJ)
 | bin (bl:Bool) (op:BinOp) (x y:dJ)
 | eqs (neg:Bool) (td:TD) (x y:dJ)
 | isnil (fk neg:Bool) (x:dJ)
 | not (x:dJ)
 | neg (x:dJ)
 | inv (x:dJ)
 | convI (k:IntKind) (x:dJ)
 | convS (x:dJ)
 | convR (x:dJ)
 | convB (x:dJ)
 | uE (f:Nat) (iR:List dJ)
 | mksl (z bytes:Nat) (zero:MV) (len cap:dJ)
 | slice (z:Nat) (x:dJ) (lo hi:Option dJ)
 | nz (x:dJ) (lo hi:Option dJ)
 | cut0 (z:Nat) (x:dJ)
 | clr (z:Nat) (zero:PV) (x:dJ)
 | faddr (x:dJ) (i o:Nat)
 | fld (agg:Bool) (n o:Nat) (x:dJ) (i:Nat)
 | iaddr (z:Nat) (x i:dJ)
 | nA (n z:Nat) (x i:dJ)
 | idx (agg:Bool) (z n:Nat) (x i:dJ)
 | uF (x i:dJ)
 | ext (x:dJ) (i:Nat)
 | call (md:Nat) (f:dJ) (args:List dJ)
 | len (x:dJ)
 | lenS (x:dJ)
 | capn (x:dJ)
 | slice3 (x lo hi mx:dJ)
 | appn (z bytes:Nat) (zero:MV) (x n:dJ)
 | appk (z:Nat) (x y:dJ)
 | sliceK (z:Nat) (x lo hi:dJ)
 | C2 (n z:Nat) (x:dJ)
 | app (pz:Bool) (z bytes:Nat) (x y:dJ)
 | cpy (z:Nat) (x y:dJ)
 | mx (l:List dJ)
 | mn (l:List dJ)
 | mkmap (k v:TD)
 | mlook (td:TD) (zero:MV) (ok:Bool) (m k:dJ)
 | mset (td:TD) (m k v:dJ)
 | AD (m k:dJ)
 | bnew (ty e:Nat)
 | n7 (sub:Bool) (x y c:dJ)
 | bad
 deriving Inhabited
structure hH where
 dst:Option Nat
 guard:Option (Nat×Bool):=none
 op:ui
 deriving Inhabited
inductive Gh where
 | freeze (s:Nat)
 | aSO (ks ids:List Nat)
 deriving Inhabited
inductive MC where
 | skip
 | AE (loose:List (Nat×Nat)) (ops:List hH)
 | seq (a b:MC)
 | cond (c:dJ) (a b:MC)
 | block (id:Nat) (c:MC)
 | loop (ks ids:List Nat) (c:MC)
 | aBh (src:dJ) (x:Nat) (ks ids k2 i2:List Nat) (b0:Nat) (c c2:MC)
 | exit (id:Nat)
 | ret
 | gh (g:Gh)
 | bad
 deriving Inhabited
inductive RV where
 | tmp (t:Nat)
 | cell (a:Nat) (agg:Bool) (n:Nat)
 deriving Inhabited
structure qR where
 body:MC
 res:List RV
 FM:Bool
 deriving Inhabited
inductive Ex where
 | normal | exit (id:Nat) | ret
 deriving DecidableEq,Inhabited
def JS(op:BinOp)(k:IntKind)(x y:Int):Option Int:=match op with|.and=>some (k.wrap (b8 k.bits x&&&b8 k.bits y).toNat)|.or=>some (k.wrap (b8 k.bits x|||b8 k.bits y).toNat)|.xor=>some (k.wrap (b8 k.bits x^^^b8 k.bits y).toNat)|.andNot=>some (k.wrap (b8 k.bits x&&&~~~b8 k.bits y).toNat)|_=>none
def jB(op:BinOp):PV->PV->Option PV|.int k a,.int k' b=>(match op with|.shl=>if b<0 then none else some (.int k (k.wrap (a*2^min b.toNat k.bits)))|.shr=>if b<0 then none else some (.int k (a.fdiv (2^min b.toNat k.bits)))|op=>if k≠k' then none else match op with|.add=>some (.int k (k.wrap (a+b)))|.sub=>some (.int k (k.wrap (a-b)))|.mul=>some (.int k (k.wrap (a*b)))|.quo=>if b=0 then none else some (.int k (k.wrap (a.tdiv b)))|.rem=>if b=0 then none else some (.int k (a.tmod b))|.eql=>some (.bool (a==b))|.neq=>some (.bool (a !=b))|.lss=>some (.bool (a<b))|.leq=>some (.bool (a<=b))|.gtr=>some (.bool (a>b))|.geq=>some (.bool (a>=b))|op=>match JS op k a b with|some n=>some (.int k n)|none=>none)|.str a,.str b=>(match op with|.add=>if a.size+b.size<=9223372036854775807 then some (.str (a++b))else none|.eql=>some (.bool (a.toList==b.toList))|.neq=>some (.bool !(a.toList==b.toList))|.lss=>some (.bool (lP a.toList b.toList))|.leq=>some (.bool (lP a.toList b.toList||a.toList==b.toList))|.gtr=>some (.bool !(lP a.toList b.toList||a.toList==b.toList))|.geq=>some (.bool !(lP a.toList b.toList))|_=>none)|.bool a,.bool b=>(match op with|.eql=>some (.bool (a==b))|.neq=>some (.bool !(a==b))|_=>none)|_,_=>none
mutual
def va:MV->List Nat|.own id ..|.ptr id ..|.auG id ..=>[id]|.agg l|.fn _ l|.eI l=>mF l|_=>[]
def mF:List MV->List Nat|[]=>[]|x::r=>va x++mF r
end
section
variable{α:Type}
mutual
def vk:T α->List Nat|.m v=>va v|.agg l=>A1G l|.vec _ _ l _=>A1G l|.mp _ _ l=>A1G l|_=>[]
def A1G:List (T α)->List Nat|[]=>[]|x::r=>vk x++A1G r
end
def AF:Option (Obj α)->List Nat|some (.cell _ t)=>vk t|some (.vec _ _ l)=>A1G l|some (.mp _ _ l)=>A1G l|_=>[]
end
def wV(h:cj)(id:Nat)(path:List Nat)(g:Nat):Bool:=match jq (h id) path with|some (g',_,_)=>g'==g|none=>false
def j3(ob:Option (Obj Nat))(np:Option (List Nat))(rp:List Nat)(g o:Nat):Bool:=match np,rp,ob with|some [],[],some (.mp g' _ _)=>g'==g&&o==0|_,_,_=>false
def zU(h:cj)(id:Nat)(np:Option (List Nat))(rp:List Nat)(g o:Nat):Bool:=match look (h id) np rp with|some (_,s,o')=>s==g&&o'==o|none=>j3 (h id) np rp g o
def FN(h:cj)(id:Nat)(path:List Nat)(g:Nat):Bool:=match avR (h id) path with|some (g',_,_)=>g'==g|none=>false
mutual
def jW(h:cj)(ρ:Nat->Option Nat)(ζ:Nat->Nat):MV->MV|.own id path off len g=>(match ρ id with|some j=>if wV h id path g then .own j path off len (ζ g)else .dead 1|none=>.dead 1)|.ptr id np rp g o=>(match ρ id with|some j=>if zU h id np rp g o then .ptr j np rp (ζ g) o else .dead 1|none=>.dead 1)|.auG id path g=>(match ρ id with|some j=>if FN h id path g then .auG j path (ζ g)else .dead 1|none=>.dead 1)|.agg l=>.agg (uk h ρ ζ l)|.fn f l=>.fn f (uk h ρ ζ l)|.eI l=>.eI (uk h ρ ζ l)|v=>v
def uk(h:cj)(ρ:Nat->Option Nat)(ζ:Nat->Nat):List MV->List MV|[]=>[]|x::r=>jW h ρ ζ x::uk h ρ ζ r
end
section
variable{α:Type}(φ:MV->MV)(ζ:α->α)
mutual
def iS:T α->T α|.m v=>.m (φ v)|.agg l=>.agg (jy l)|.vec g s l n=>.vec (ζ g) s (jy l) n|.mp g ks l=>.mp (ζ g) ks (jy l)|.p v=>.p v|.hole n=>.hole n
def jy:List (T α)->List (T α)|[]=>[]|x::r=>iS x::jy r
end
def kH:Obj α->Obj α|.cell a t=>.cell (ζ a) (iS φ ζ t)|.vec g s l=>.vec (ζ g) s (jy φ ζ l)|.mp g ks l=>.mp (ζ g) ks (jy φ ζ l)|.gone=>.gone
end
def jz(g:Nat):Nat:=if g=0 then 0 else 1
def yp(ids:List Nat)(i:Nat):Bool:=1000000<=i||ids.contains (i%1000)
def vl(ids:List Nat)(i:Nat):Option Nat:=if yp ids i then some i else none
def A2D(ks ids:List Nat)(σ:St):St:={s:=λk=>if ks.contains k then jW σ.h (vl ids) jz (σ.s k)else .dead 0,h:=λi=>if yp ids i then(σ.h i).map (kH (jW σ.h (vl ids) jz) jz)else none,nx:=2}
def A0N(g:Nat)(l:List (T Nat)):List (T Nat):=jy (λv=>v) (λ_=>g) l
def Cc(g:Nat)(t:T Nat):T Nat:=iS (λv=>v) (λ_=>g) t
mutual
def pA(g:Nat)(h:cj):MV->Option (T Nat×cj)|.p v=>some (.p v,h)|.own id path off len g'=>(match h id,path with|some (.vec wW z l),[]=>if g'=wW/\off=0/\len<=l.length then some (.vec g z (A0N g l) len,cq h id (some .gone))else none|ob,path=>match iE ob path with|some (.vec wW z l _)=>if g'=wW/\off=0/\len<=l.length then match put ob path (.hole 1)with|some o=>some (.vec g z (A0N g l) len,cq h id (some o))|none=>none else none|_=>none)|.agg l=>(match vB g h l with|some (ts,h')=>some (A0z ts,h')|none=>none)|.nil z=>some (.vec g z [] 0,h)|.eI _|.dead _=>none|v=>some (.m v,h)
def vB(g:Nat)(h:cj):List MV->Option (List (T Nat)×cj)|[]=>some ([],h)|x::r=>match pA g h x with|some (t,h')=>(match vB g h' r with|some (ts,JT)=>some (t::ts,JT)|none=>none)|none=>none
end
section
variable{α:Type}(ck:Nat->α->α)(rs:α->α)
mutual
def mY:T Nat->T α->T α|.agg l,.agg m=>.agg (oO l m)|.vec g0 _ _ _,.vec a z l n=>.vec (ck g0 a) z (jy (λv=>v) rs l) n|.mp g0 _ _,.mp a ks l=>.mp (ck g0 a) ks (jy (λv=>v) rs l)|_,t=>iS (λv=>v) rs t
def oO:List (T Nat)->List (T α)->List (T α)|x::r,y::q=>mY x y::oO r q|_,q=>jy (λv=>v) rs q
end
def sq:Option (Obj Nat)->Obj α->Obj α|some (.cell g0 t),.cell b u=>.cell (ck g0 b) (mY ck rs t u)|some (.vec g0 _ _),.vec a z l=>.vec (ck g0 a) z (jy (λv=>v) rs l)|some (.mp g0 _ _),.mp a ks l=>.mp (ck g0 a) ks (jy (λv=>v) rs l)|_,o=>kH (λv=>v) rs o
end
def wX(g g0 a:Nat):Nat:=if a=0 then g0 else g
def zV(g _:Nat):Nat:=g
section
variable(hr h:cj)(ρ:Nat->Nat)
mutual
def A1a:MV->MV|.own id path off len g=>if wV hr id path g then(match fc (h (ρ id)) (some path)with|some (g',_)=>.own (ρ id) path off len g'|none=>.dead 1)else .dead 1|.ptr id np rp g o=>if zU hr id np rp g o then(match fc (h (ρ id)) np with|some (g',_)=>.ptr (ρ id) np rp g' o|none=>.dead 1)else .dead 1|.auG id path g=>if FN hr id path g then(match fc (h (ρ id)) (some path)with|some (g',_)=>.auG (ρ id) path g'|none=>.dead 1)else .dead 1|.agg l=>.agg (vC l)|.fn f l=>.fn f (vC l)|.eI l=>.eI (vC l)|v=>v
def vC:List MV->List MV|[]=>[]|x::r=>A1a x::vC r
end
end
def A8D:List Nat->List Nat|[]=>[]|x::r=>if(A8D r).contains x then A8D r else x::A8D r
def jd(h:cj)(l:List Nat):List Nat:=A8D (l++l.flatMap λi=>AF (h i))
def pB(l:List Nat)(x:Nat):Option Nat:=l.findIdx? (·==x)
def ep:Nat:=1000000
def kI:Nat:=2000000
mutual
def xx:PV->Bool|.int ..|.bool _|.str _|.eM|.fa=>true|.agg l=>FO l|_=>false
def FO:List PV->Bool|[]=>true|x::r=>xx x&&FO r
end
def D5d:MV->Bool|.p v=>xx v|_=>false
abbrev Es:=MV×List (Obj Nat)×List (Obj Nat)
abbrev jm:=Nat->List MV->List (Obj Nat)->Option Es
def cJ(s:gB):dJ->MV|.t n=>s n|.c v=>v|.f id=>.p (.fn id [])
def callee:MV->Option (Nat×List MV)|.p (.fn f cs)=>some (f,cs.map .p)|.fn f cs=>some (f,cs)|_=>none
def yq:Nat:=1000000
def FP(m:MV)(args:List MV):Option (Nat×List MV):=match callee m with|some (f,cs)=>if f<yq then some (f,args++cs)else some (f-yq,cs++args)|none=>none
def FQ(dH:List (Obj Nat)):cj:=λi=>if kI<=i then dH[i-kI]? else none
section
variable{α:Type}
mutual
def AH:T α->Bool|.p v=>xx v|.m _=>false|.agg l=>wY l|.vec _ _ l _=>wY l|.mp _ _ l=>wY l|.hole _=>true
def wY:List (T α)->Bool|[]=>true|x::r=>AH x&&wY r
end
def vD:Obj α->Bool|.cell _ t=>AH t|.vec _ _ l=>wY l|.mp ..=>false|.gone=>true
end
mutual
def wZ:MV->Bool|.p v=>xx v|.own ..|.ptr ..|.auG ..|.nil _|.dead _=>true|.agg l|.eI l|.fn _ l=>C3 l
def C3:List MV->Bool|[]=>true|x::r=>wZ x&&C3 r
end
def zW:Option Es->Option (MV×Bool)|some (r,[],dH)=>(match r with|.eI l=>(match A2C (FQ dH) l with|some vs=>some (.eI (vs.map .p),wZ r&&dH.all vD)|none=>none)|r=>match mE (FQ dH) r with|some v=>some (.p v,wZ r&&dH.all vD)|none=>none)|_=>none
def AJ(K:jm)(h:cj)(f:Nat)(args:List MV):Option (MV×cj):=match A2C h args with|some vs=>(match zW (K f (vs.map .p) [])with|some (v,fr)=>if fr||(qb args).isSome then some (v,h)else none|none=>none)|none=>none
def zX(d k:Nat):Nat:=d+1000*(k+1)
def qK(dn:Nat)(ids:List Nat)(i:Nat):Nat:=if kI<=i then zX dn (i-kI)else ids.getD (i-ep) 0
def vE(ids:List Nat)(i:Nat):Option Nat:=(pB ids i).map (ep+·)
def um(h:cj):List Nat->Option (List (Obj Nat))|[]=>some []|i::r=>match h i,um h r with|some o,some os=>some (o::os)|_,_=>none
def j8(d:Option Nat)(n:Nat):List Nat:=(bA n).map (zX (d.getD 0))
def j4(ext dH:List (Obj Nat)):cj:=λi=>if kI<=i then dH[i-kI]? else if ep<=i then ext[i-ep]? else none
def mZ(es ids:List Nat)(i:Nat):Option Nat:=match pB es i with|some k=>some (kI+k)|none=>match pB ids i with|some k=>some (ep+k)|none=>none
def sf(g:Nat)(h:cj)(i j:Nat):Obj Nat->Obj Nat:=sq (wX g) (zV g) (if kI<=j then none else h i)
def AK(g:Nat)(d:Option Nat)(h:cj)(ids:List Nat)(r:MV)(ext dH:List (Obj Nat)):Option (MV×cj):=let es:=j8 d dH.length;if ext.length≠ids.length\/(dH≠[]/\d=none)\/es.any ids.contains=true\/1000000<ids.length\/ep<zX (d.getD 0) dH.length then none else let h1:cj:=λi=>match mZ es ids i with|some j=>(j4 ext dH j).map (sf g h i j)|none=>h i;let φ:=A1a (j4 ext dH) h1 (qK (d.getD 0) ids);some (φ r,λi=>match mZ es ids i with|some j=>(j4 ext dH j).map (λo=>kH φ (λa=>a) (sf g h i j o))|none=>h i)
def C4(K:jm)(g:Nat)(d:Option Nat)(h:cj)(f:Nat)(args:List MV):Option (MV×cj):=let ids:=jd h (jd h (mF args));match um h ids with|none=>none|some qS=>match K f (uk h (vE ids) (λ_=>0) args) (qS.map (kH (jW h (vE ids) (λ_=>0)) (λ_=>0)))with|none=>none|some (r,ext,dH)=>AK g d h ids r ext dH
def Cd(K:jm)(g:Nat)(d:Option Nat)(h:cj)(f:Nat)(args:List MV):Option (MV×cj):=match A2C h args with|some vs=>(match K f (vs.map .p) []with|some (r,[],dH)=>if(qb args).isSome||(wZ r&&dH.all vD)then AK g d h [] r [] dH else none|_=>none)|none=>none
def yr(n:Int):MV:=.p (.int .i64 n)
def Ce(b:Bool):MV:=.p (.bool b)
def yu:MV->Option Int|.p (.int _ n)=>some n|_=>none
def zY(n:Nat)(v:MV):Option Nat:=match yu v with|some i=>if 0<=i/\i<n then some i.toNat else none|none=>none
def ze(n:Nat)(v:MV):Option Nat:=match yu v with|some i=>if 0<=i/\i<=n then some i.toNat else none|none=>none
def E5C:Nat:=140737488355328
def A0O(d:Option Nat)(h:cj)(o:Obj Nat):Option cj:=match d with|some d=>some (cq h d (some o))|none=>none
def elems(h:cj):MV->Option (List (T Nat))|.p (.sl l)=>some (l.map .p)|.nil _=>some []|.own id path off len g=>(match jq (h id) path with|some (g',_,l)=>if g'=g/\off+len<=l.length then some ((l.drop off).take len)else none|none=>none)|_=>none
def vm:T Nat->Bool|.p _=>true|_=>false
mutual
def Et:T Nat->Bool|.p _|.vec ..|.mp ..=>true|.m v=>(match v with|.own ..|.ptr ..|.auG ..|.fn ..=>true|_=>false)|.agg l=>Cf l|.hole _=>false
def Cf:List (T Nat)->Bool|[]=>true|t::r=>Et t&&Cf r
end
def tu(h:cj)(y:MV):Option (List (T Nat)×cj):=match elems h y with|none=>none|some ts=>if ts.all vm then some (ts,h)else match y with|.own id [] 0 len _=>(match h id with|some (.vec _ _ l)=>if len=l.length/\Cf ts then some (ts,cq h id (some .gone))else none|_=>none)|_=>none
def qe(z:Nat)(l:List (T Nat)):Bool:=l.all λt=>t.cs==z
def FR(g:Nat)(h:cj)(id z bytes len g0:Nat)(ts:List (T Nat))(g1 z1:Nat)(l:List (T Nat)):Option (MV×cj):=if g1=g0/\z1=z/\len<=l.length/\(len+ts.length)*bytes<=E5C then some (.own id [] 0 (len+ts.length) g,cq h id (some (.vec g z (l.take len++A0N g ts))))else none
def Cg(g:Nat)(d:Option Nat)(h:cj)(id:Nat)(path:List Nat)(z bytes len g0:Nat)(ts:List (T Nat)):Option (MV×cj):=match iE (h id) path with|some (.vec g1 z1 l n)=>if g1=g0/\z1=z/\len=n/\n<=l.length/\(len+ts.length)*bytes<=E5C then match put (h id) path (.hole 1)with|some o'=>(match A0O d (cq h id (some o')) (.vec g z (A0N g (l.take len++ts)))with|some h2=>some (.own (d.getD 0) [] 0 (len+ts.length) g,h2)|none=>none)|none=>none else none|_=>none
def A3y(g:Nat)(d:Option Nat)(h:cj)(z bytes:Nat)(x y:MV):Option (MV×cj):=match tu h y with|none=>none|some (ts,h1)=>if !qe z ts then none else match x with|.nil _=>if ts.length*bytes<=E5C then match A0O d h1 (.vec g z (A0N g ts))with|some h2=>some (.own (d.getD 0) [] 0 ts.length g,h2)|none=>none else none|.own id path off len g0=>if off=0 then match h1 id,path with|some (.vec g1 z1 l),[]=>FR g h1 id z bytes len g0 ts g1 z1 l|_,path=>Cg g d h1 id path z bytes len g0 ts else none|_=>none
def oa{α:Type}(l:List (T α))(off:Nat)(vs:List PV):List (T α):=l.take off++vs.map .p++l.drop (off+vs.length)
def qT(h:cj)(id:Nat)(path:List Nat)(g z off:Nat)(vs:List PV):Option cj:=if vs.all (λv=>v.cs==z)then match h id,path with|some (.vec a z' l),[]=>if a=g/\z'=z/\off+vs.length<=l.length then some (cq h id (some (.vec a z (oa l off vs))))else none|ob,path=>match iE ob path with|some (.vec a z' l n)=>if a=g/\z'=z/\off+vs.length<=l.length then match put ob path (.vec a z (oa l off vs) n)with|some o'=>some (cq h id (some o'))|none=>none else none|_=>none else none
def HV(h:cj)(z:Nat)(x y:MV):Option (MV×cj):=match elems h y with|none=>none|some ts=>match ml ts with|none=>none|some vs=>if qe z ts then match x with|.nil _=>some (yr 0,h)|.own id path off len g=>(match qT h id path g z off (vs.take len)with|some h'=>some (yr (min vs.length len:Nat),h')|none=>none)|_=>none else none
def u8s:List PV->Option (List Int)|[]=>some []|.int .u8 n::r=>(match u8s r with|some l=>some (n::l)|none=>none)|_=>none
def G1F(l:List Int):ByteArray:=l.foldl (λr n=>r.push (UInt8.ofNat n.toNat)) ByteArray.empty
def G1q(h:cj)(x:MV):Option MV:=match elems h x with|some ts=>(match ml ts with|some vs=>(match u8s vs with|some ns=>some (.p (.str (G1F ns)))|none=>none)|none=>none)|none=>none
def G1u(sub:Bool)(x y c:Int):Option (Int×Int):=if 0<=x/\0<=y/\y<18446744073709551616/\0<=c/\c<=1 then(if sub then some ((x+18446744073709551616-y-c)%18446744073709551616,if x<y+c then 1 else 0)else some ((x+y+c)%18446744073709551616,(x+y+c)/18446744073709551616))else none
def AL(g:Nat)(h:cj)(n id:Nat)(path:List Nat)(x:MV):Option (MV×cj):=match pA g h x with|some (t,h1)=>if t.cs=n then match put (h1 id) path t with|some o=>some (.dead 0,cq h1 id (some o))|none=>none else none|none=>none
def HW(g:Nat)(h:cj)(n:Nat)(a x:MV):Option (MV×cj):=match a with|.ptr id np rp g0 o0=>(match look (h id) np rp with|some (old,s,o)=>if s=g0/\o=o0/\old.cs=n then match x,old with|.own id' sr off len g',.vec a z l n'=>if id'=id/\sr=sZ np rp/\off=0/\g'=a/\len<=n' then match put (h id) (sZ np rp) (.vec a z (l.take len) len)with|some o=>some (.dead 0,cq h id (some o))|none=>none else AL g h n id (sZ np rp) x|x,_=>AL g h n id (sZ np rp) x else none|none=>none)|_=>none
def NP:MV->Bool|.dead _=>true|_=>false
def vF(h:cj)(agg:Bool)(n:Nat)(a:MV):Option MV:=match a with|.p (.ref v)=>if v.cs=n/\v.isAgg=agg then some (.p v)else none|.ptr id np rp g o=>(match look (h id) np rp with|some (t,s,o')=>if s=g/\o'=o/\t.cs=n then let v:=xt id (sZ np rp) t;if v.isAgg=agg/\NP v=false then some v else none else none|none=>none)|_=>none
def Eu(n m:Nat):Option MV->Option Nat|some v=>ze n v|none=>some m
def C5(n:Nat)(lo hi:Option MV):Option (Nat×Nat):=match Eu n n hi with|some b=>(match Eu b 0 lo with|some a=>some (a,b)|none=>none)|none=>none
def Ch(h:cj)(z:Nat)(x:MV)(lo hi:Option MV):Option MV:=match x with|.p (.sl l)=>(match C5 l.length lo hi with|some (a,b)=>if l.all (λv=>v.cs==z)then some (.p (.sl ((l.take b).drop a)))else none|none=>none)|.nil z=>(match C5 0 lo hi with|some _=>some (.nil z)|none=>none)|.own id path off len g=>(match C5 len lo hi,jq (h id) path with|some (a,b),some (g',z',_)=>if g'=g/\z'=z then some (.own id path (off+a) (b-a) g)else none|_,_=>none)|_=>none
def AM:MV->Option Nat|.p (.sl l)=>some l.length|.nil _=>some 0|.own _ _ _ len _=>some len|_=>none
def Ci(h:cj)(z:Nat)(x i:MV):Option MV:=match x with|.p (.sl l)=>(match zY l.length i with|some k=>(match l[k]? with|some v=>if v.cs=z then some (.p (.ref v))else none|none=>none)|none=>none)|.own id path off len g=>(match zY len i with|some k=>(match jq (h id) path with|some (g',z',_)=>if g'=g/\z'=z then some (.ptr id (some path) [off+k] g ((off+k)*z))else none|none=>none)|none=>none)|_=>none
def D7U(k:PV):List PV->Nat->Option Nat|[],_=>none|x::r,i=>if xu k x then some i else D7U k r (i+1)
def D8E(h:cj)(td:TD)(m:MV):Option (Nat×Nat×List PV×List PV):=match m with|.auG id [] g=>(match h id with|some (.mp g' ks vs)=>if g'=g/\ks.all (qd td)=true then match ml vs with|some ws=>some (id,g,ks,ws)|none=>none else none|_=>none)|_=>none
def E8f(h:cj)(td:TD)(m:MV):Option (List PV×List PV):=match m with|.p (.mp ks ws)=>if ks.all (qd td)=true then some (ks,ws)else none|m=>match D8E h td m with|some (_,_,ks,ws)=>some (ks,ws)|none=>none
def F2m:PV->PV->Bool|.int _ a,.int _ b=>decide (a<b)|.str a,.str b=>lP a.toList b.toList|_,_=>false
def E9b(k:PV):List PV->Nat|[]=>0|x::r=>if F2m x k then E9b k r+1 else 0
def E5n{α:Type}(i:Nat)(x:α)(l:List α):List α:=l.take i++x::l.drop i
def D8X(ok:Bool)(v:MV)(b:Bool):MV:=if ok then .eI [v,.p (.bool b)]else v
def D8G(h:cj)(td:TD)(zero:MV)(ok:Bool)(m k:MV):Option MV:=match k with|.p kv=>if qd td kv then match E8f h td m with|some (ks,ws)=>(match D7U kv ks 0 with|some i=>(match ws[i]? with|some v=>some (D8X ok (.p v) true)|none=>none)|none=>some (D8X ok zero false))|none=>none else none|_=>none
def D8F(h:cj)(td:TD)(m k v:MV):Option cj:=match k,v with|.p kv,.p x=>if qd td kv then match D8E h td m with|some (id,g,ks,ws)=>(match D7U kv ks 0 with|some i=>some (cq h id (some (.mp g (ks.set i kv) ((ws.set i x).map .p))))|none=>some (cq h id (some (.mp g (E5n (E9b kv ks) kv ks) ((E5n (E9b kv ks) x ws).map .p)))))|none=>none else none|_,_=>none
def tw:MV->Bool|.dead _|.eI _=>false|_=>true
def okB:List Nat->List MV->Bool|[],[]=>true|z::zs,v::vs=>v.cs==z&&tw v&&okB zs vs|_,_=>false
def zT (g:Nat):MV->Option (T Nat)
 | .p v=>some (.p v)
 | .nil z=>some (.vec g z [] 0)
 | .agg l=>match Ev l with | some ts=>some (A0z ts) | none=>none
 | _=>none
where Ev:List MV->Option (List (T Nat))
 | []=>some []
 | x::r=>match zT g x,Ev r with | some t,some ts=>some (t::ts) | _,_=>none
def C6(f:Int->Int->Int):PV->List PV->Option PV|v,[]=>some v|.int k x,.int _ y::r=>C6 f (.int k (f x y)) r|_,_=>none
mutual
def F0l:MV->Bool|.auG ..=>true|.agg l=>E69 l|_=>false
def E69:List MV->Bool|[]=>false|x::r=>F0l x||E69 r
end
def E7k(h:cj):List Nat->cj|[]=>h|i::r=>E7k (cq h i (some .gone)) r
def FT:PV->Bool|.bool _=>true|_=>false
def cb(K:jm)(g:Nat)(d:Option Nat)(s:gB)(h:cj):ui->Option (MV×cj)|.move x=>some (cJ s x,h)|.nilv z=>(match A0O d h (.vec g z [])with|some h'=>some (.own (d.getD 0) [] 0 0 g,h')|none=>none)|.pick c a b=>(match cJ s c with|.p (.bool t)=>some (if t then cJ s a else cJ s b,h)|_=>none)|.box x=>(match pA g h (cJ s x)with|some (t,h1)=>(match A0O d h1 (.cell g t)with|some h'=>some (.ptr (d.getD 0) none [] g 0,h')|none=>none)|none=>none)|.build zs parts=>if okB zs (parts.map (cJ s))then some (wU (parts.map (cJ s)),h)else none|.bsl mt z parts=>if okB (au parts.length z) (parts.map (cJ s))then match(if mt then none else qb (parts.map (cJ s)))with|some vs=>some (.p (.sl vs),h)|none=>match vB g h (parts.map (cJ s))with|some (ts,h1)=>if qe z ts then match A0O d h1 (.vec g z ts)with|some h'=>some (.own (d.getD 0) [] 0 ts.length g,h')|none=>none else none|none=>none else none|.bslp z parts=>if okB (au parts.length z) (parts.map (cJ s))then if E69 (parts.map (cJ s))then(match A2C h (parts.map (cJ s))with|some vs=>some (.p (.sl vs),E7k h (mF (parts.map (cJ s))))|none=>none)else match vB g h (parts.map (cJ s))with|some (ts,h1)=>if qe z ts then match A0O d h1 (.vec g z ts)with|some h2=>(match mE h2 (.own (d.getD 0) [] 0 ts.length g)with|some v=>some (.p v,cq h2 (d.getD 0) (some .gone))|none=>none)|none=>none else none|none=>none else none|.load agg n x=>(match vF h agg n (cJ s x)with|some v=>some (v,h)|none=>none)|.store n a x=>HW g h n (cJ s a) (cJ s x)|.nilc x=>(match cJ s x with|.p (.ref v)=>some (.p (.ref v),h)|.ptr id np rp g o=>some (.ptr id np rp g o,h)|_=>none)|.bin bl op x y=>(match cJ s x,cJ s y with|.p a,.p b=>if FT a=bl then(match jB op a b with|some v=>some (.p v,h)|none=>none)else none|_,_=>none)|.eqs neg td x y=>(match cJ s x,cJ s y with|.p a,.p b=>if qd td a&&qd td b then some (Ce (xu a b !=neg),h)else none|_,_=>none)|.isnil fk neg x=>(match fk,cJ s x with|false,.p .eM|true,.p .fa=>some (Ce (true !=neg),h)|false,.p (.ref _)|false,.ptr ..|true,.p (.fn ..)|true,.fn ..=>some (Ce (false !=neg),h)|_,_=>none)|.not x=>(match cJ s x with|.p (.bool t)=>some (Ce !t,h)|_=>none)|.neg x=>(match cJ s x with|.p (.int k n)=>some (.p (.int k (k.wrap (0-n))),h)|_=>none)|.inv x=>(match cJ s x with|.p (.int k n)=>(match JS .xor k (if k.signed then-1 else k.max) n with|some m=>some (.p (.int k m),h)|none=>none)|_=>none)|.convI k x=>(match cJ s x with|.p (.int _ n)=>some (.p (.int k (k.wrap n)),h)|_=>none)|.convS x=>(match cJ s x with|.p (.str b)=>some (.p (.str b),h)|_=>none)|.convB x=>(match G1q h (cJ s x)with|some v=>some (v,h)|none=>none)|.convR x=>(match cJ s x with|.p (.int _ n)=>some (.p (.str (Utf8.encode n)),h)|_=>none)|.uE f iR=>(match qb (iR.map (cJ s))with|some vs=>some (.p (.fn f vs),h)|none=>some (.fn f (iR.map (cJ s)),h))|.mksl z bytes zero l c=>(match yu (cJ s l),yu (cJ s c)with|some l,some c=>(match zT g zero with|some t=>if 0<=l/\l<=c/\c.toNat*bytes<=E5C/\t.cs=z then match A0O d h (.vec g z (au l.toNat t))with|some h'=>some (.own (d.getD 0) [] 0 l.toNat g,h')|none=>none else none|none=>none)|_,_=>none)|.nz x lo hi=>(match cJ s x with|.p (.str b)=>(match C5 b.size (lo.map (cJ s)) (hi.map (cJ s))with|some (i,j)=>some (.p (.str (b.extract i j)),h)|none=>none)|_=>none)|.slice z x lo hi=>(match Ch h z (cJ s x) (lo.map (cJ s)) (hi.map (cJ s))with|some v=>some (v,h)|none=>none)|.cut0 z x=>(match cJ s x with|.p (.sl _)|.own ..|.nil _=>some (.nil z,h)|_=>none)|.clr z zero x=>(match cJ s x with|.p (.sl [])|.nil _=>some (.eI [],h)|.own id path off len g0=>(match qT h id path g0 z off (au len zero)with|some h'=>if zero.cs=z then some (.eI [],h')else none|none=>none)|_=>none)|.faddr x i o=>(match cJ s x with|.p (.ref (.agg l))=>(match l[i]? with|some v=>if PV.b5 (l.take i)=o then some (.p (.ref v),h)else none|none=>none)|.ptr id np rp g o0=>some (.ptr id np (rp++[i]) g (o0+o),h)|_=>none)|.fld agg n o x i=>(match cJ s x with|.p (.agg l)=>(match l[i]? with|some v=>if PV.b5 (l.take i)=o/\v.cs=n/\v.isAgg=agg then some (.p v,h)else none|none=>none)|.agg l=>(match l[i]? with|some v=>if MV.b5 (l.take i)=o/\v.cs=n/\v.isAgg=agg/\NP v=false then some (v,h)else none|none=>none)|_=>none)|.iaddr z x i=>(match Ci h z (cJ s x) (cJ s i)with|some v=>some (v,h)|none=>none)|.nA n z x i=>(match zY n (cJ s i)with|some k=>(match cJ s x with|.p (.ref (.agg l))=>(match l[k]? with|some v=>if PV.b5 (l.take k)=k*z then some (.p (.ref v),h)else none|none=>none)|.ptr id np rp g o0=>some (.ptr id np (rp++[k]) g (o0+k*z),h)|_=>none)|none=>none)|.idx agg z n x i=>(match cJ s x with|.p (.agg l)=>(match zY n (cJ s i)with|some k=>(match l[k]? with|some v=>if PV.b5 (l.take k)=k*z/\v.cs=z/\v.isAgg=agg then some (.p v,h)else none|none=>none)|none=>none)|_=>none)|.uF x i=>(match cJ s x with|.p (.str b)=>(match zY b.size (cJ s i)with|some k=>(match b.data[k]? with|some c=>some (.p (.int .u8 c.toNat),h)|none=>none)|none=>none)|_=>none)|.ext x i=>(match cJ s x with|.eI l=>(match l[i]? with|some v=>some (v,h)|none=>none)|_=>none)|.call md f args=>(match FP (cJ s f) (args.map (cJ s))with|some (f,al)=>(match md with|0=>AJ K h f al|1=>C4 K g d h f al|_=>Cd K g d h f al)|none=>none)|.lenS x=>(match cJ s x with|.p (.str b)=>some (yr b.size,h)|_=>none)|.appn z bytes zero x n=>(match cJ s x,yu (cJ s n)with|.nil _,some k=>(match zT g zero with|some t=>if 0<k/\k.toNat*bytes<=E5C/\t.cs=z then match A0O d h (.vec g z (au k.toNat t))with|some h'=>some (.own (d.getD 0) [] 0 k.toNat g,h')|none=>none else none|none=>none)|_,_=>none)|.appk z x y=>(match elems h (cJ s y)with|none=>none|some ts=>match ml ts with|none=>none|some vs=>if qe z ts then match cJ s x with|.own id path off len g0=>(match qT h id path g0 z (off+len) vs with|some h1=>some (.own id path off (len+vs.length) g0,h1)|none=>none)|_=>none else none)|.sliceK z x lo hi=>(match cJ s x with|.own id path off _ g0=>(match jq (h id) path with|some (g',z',l)=>if g'=g0/\z'=z/\off<=l.length then match ze (l.length-off) (cJ s hi)with|some b=>(match ze b (cJ s lo)with|some a=>some (.own id path (off+a) (b-a) g0,h)|none=>none)|none=>none else none|none=>none)|_=>none)|.C2 n z x=>(match cJ s x with|.p (.ref (.agg l))=>if l.length=n/\l.all (λv=>v.cs==z)=true then some (.p (.sl l),h)else none|_=>none)|.slice3 x lo hi mx=>(match AM (cJ s x)with|some n=>(match ze n (cJ s mx)with|some m=>(match ze m (cJ s hi)with|some b=>(match ze b (cJ s lo)with|some _=>some (.dead 1,h)|none=>none)|none=>none)|none=>none)|none=>none)|.capn x=>(match cJ s x with|.nil _=>some (yr (0:Nat),h)|_=>none)|.len x=>(match AM (cJ s x)with|some n=>some (yr n,h)|none=>none)|.app pz z bytes x y=>(match A3y g d h z bytes (cJ s x) (cJ s y)with|some (.own id [] off len g1,h1)=>if pz then match mE h1 (.own id [] off len g1)with|some v=>some (.p v,cq h1 id (some .gone))|none=>none else some (.own id [] off len g1,h1)|_=>none)|.cpy z x y=>HV h z (cJ s x) (cJ s y)|.mx l=>(match l.map (cJ s)with|.p v::r=>(match qb r with|some vs=>(match C6 (λx y=>if y>x then y else x) v vs with|some w=>some (.p w,h)|none=>none)|none=>none)|_=>none)|.mn l=>(match l.map (cJ s)with|.p v::r=>(match qb r with|some vs=>(match C6 (λx y=>if y<x then y else x) v vs with|some w=>some (.p w,h)|none=>none)|none=>none)|_=>none)|.n7 sub x y c=>(match cJ s x,cJ s y,cJ s c with|.p (.int .u64 x),.p (.int .u64 y),.p (.int .u64 c)=>(match G1u sub x y c with|some (r,q)=>some (.eI [.p (.int .u64 r),.p (.int .u64 q)],h)|none=>none)|_,_,_=>none)|.bnew ty e=>(match A0O d h (.mp g [.fa,.int .i64 ty,.int .i64 e] [.p (.str ByteArray.empty),.vec g 1 [] 0])with|some h'=>some (.ptr (d.getD 0) (some []) [] g 0,h')|none=>none)|.mkmap _ _=>(match A0O d h (.mp g [] [])with|some h'=>some (.auG (d.getD 0) [] g,h')|none=>none)|.mlook td zero ok m k=>(match D8G h td zero ok (cJ s m) (cJ s k)with|some v=>some (v,h)|none=>none)|.mset td m k v=>(match D8F h td (cJ s m) (cJ s k) (cJ s v)with|some h'=>some (.dead 0,h')|none=>none)|.AD ..=>none|.bad=>none
def vG(s:gB):Option (Nat×Bool)->Option Bool|none=>some true|some (t,b)=>match s t with|.p (.bool c)=>some (c==b)|.eI []=>some false|_=>none
def oP(K:jm)(g:Nat)(i:hH)(s:gB)(h:cj):Option (gB×cj):=match vG s i.guard with|some true=>(match cb K g i.dst s h i.op with|some (v,h')=>some (aST s i.dst v,h')|none=>none)|some false=>some (aST s i.dst (.eI []),h)|none=>none
def vH(K:jm):Nat->List hH->gB->cj->Option (gB×cj)|_,[],s,h=>some (s,h)|g,i::r,s,h=>match oP K g i s h with|some (s',h')=>vH K (g+1) r s' h'|none=>none
def ft:ui->List dJ|.move x|.box x|.load _ _ x|.nilc x|.isnil _ _ x|.not x|.neg x|.inv x|.convI _ x|.convS x|.convR x|.convB x|.faddr x _ _|.fld _ _ _ x _|.ext x _|.len x|.lenS x|.capn x|.cut0 _ x|.clr _ _ x|.C2 _ _ x=>[x]|.pick a b c=>[a,b,c]|.build _ l|.bsl _ _ l|.bslp _ l|.uE _ l|.mx l|.mn l=>l|.store _ a x|.bin _ _ a x|.eqs _ _ a x|.mksl _ _ _ a x|.iaddr _ a x|.nA _ _ a x|.idx _ _ _ a x|.uF a x|.app _ _ _ a x|.cpy _ a x|.mlook _ _ _ a x|.AD a x=>[a,x]|.slice _ x lo hi|.nz x lo hi=>x::lo.toList++hi.toList|.call _ f args=>f::args|.n7 _ x y c=>[x,y,c]|.mset _ m k v=>[m,k,v]|.slice3 x lo hi mx=>[x,lo,hi,mx]|.appn _ _ _ x n=>[x,n]|.appk _ x y=>[x,y]|.sliceK _ x lo hi=>[x,lo,hi]|.nilv _|.mkmap ..|.bnew ..|.bad=>[]
def vI:ui->Bool|.load ..|.iaddr ..|.mlook ..|.slice ..|.sliceK ..|.call 0 ..=>true|_=>false
def idle:ui->Bool|.move _|.pick ..|.n7 ..|.build ..|.nilc _|.bin ..|.eqs ..|.isnil ..|.not _|.neg _|.inv _|.convI ..|.convS _|.convR _|.uE ..|.cut0 ..|.faddr ..|.fld ..|.nA ..|.idx ..|.uF ..|.lenS _|.capn _|.slice3 ..|.C2 ..|.len _|.nz ..|.ext ..|.mx _|.mn _=>true|_=>false
def mG(i:Nat):Nat:=if i<ep then i%1000 else i
def lC(s:gB)(h:cj)(i:hH):List Nat:=match vG s i.guard with|some true=>(i.dst.toList++jd h (jd h (mF ((ft i.op).map (cJ s))))).map mG|_=>[]
abbrev Plc:=Bool×Nat×Nat×Nat×Bool
def Ew(s:gB)(d:Option Nat):ui->Option Plc|.load a _ x=>(match cJ s x with|.ptr id none [i] _ _=>some (true,id,i,0,!a)|_=>none)|.app false _ _ x y=>(match cJ s x with|.own id (i::r) _ _ _=>(match cJ s y,d with|.p (.sl _),some d=>some (false,id,i,d,!r.isEmpty)|_,_=>none)|_=>none)|_=>none
def OK(s:gB)(i:hH):Option Plc:=match i.guard with|none=>Ew s i.dst i.op|some _=>none
def Ey(x:List Nat):Option Plc->Option Plc->Bool|some (true,id,i,_,a),some (false,id',j,d,b)=>id==id'&&(i !=j||(a&&b))&&!x.contains (mG d)|_,_=>false
abbrev C7:=List (List Nat×Bool×Option Plc)
def C7S(a b:List Nat):Bool:=a.all λx=>!b.contains x
def Yc:dJ->List Nat|.t n=>[n]|_=>[]
def vJ(i:hH):List Nat:=(ft i.op).flatMap Yc++(match i.guard with|some (t,_)=>[t]|none=>[])
def HX(x y:hH):Bool:=(match x.dst with|some d=>!(vJ y).contains d&&y.dst !=some d|none=>true)&&(match y.dst with|some d=>!(vJ x).contains d|none=>true)
def vK(K:jm):Nat->List hH->gB->cj->C7|_,[],_,_=>[]|g,i::r,s,h=>(lC s h i,idle i.op||vI i.op,OK s i)::(match oP K g i s h with|some (s',h')=>vK K (g+1) r s' h'|none=>[])
def HY(F:C7)(l:List (Nat×Nat)):Bool:=l.all λ(a,b)=>match F[a]?,F[b]? with|some (x,rx,px),some (y,ry,py)=>(rx&&ry)||C7S x y||Ey x px py|_,_=>false
def tx(K:jm)(loose:List (Nat×Nat))(ops:List hH)(σ:St):Option St:=match vH K σ.nx ops σ.s σ.h with|some (s,h)=>if loose.isEmpty||HY (vK K σ.nx ops σ.s σ.h) loose then some ⟨s,h,σ.nx+ops.length⟩else none|none=>none
def FU(h:cj)(γ:Nat):MV->Option cj|.ptr id none [] _ _=>(match h id with|some (.cell a t)=>some (cq h id (some (.cell a (Cc γ t))))|_=>none)|.own id (i::p) _ _ _=>(match iE (h id) (i::p)with|some (.vec g z l n)=>(match put (h id) (i::p) (.vec g z (A0N γ l) n)with|some o=>some (cq h id (some o))|none=>none)|_=>none)|_=>none
def AN(g:Gh)(σ:St):Option St:=match g with|.aSO ks ids=>some (A2D ks ids σ)|.freeze t=>if 5000000<=t then(match σ.s (t-5000000)with|.own id [] off len g0=>(match σ.h id with|some (.vec g1 z l)=>if g0=g1 then some ⟨cq σ.s (t-5000000) (.own id [] off len σ.nx),cq σ.h id (some (.vec σ.nx z l)),σ.nx+1⟩else none|_=>none)|_=>none)else if 3000000<=t then(match FU σ.h σ.nx (.ptr (t-3000000) none [] 0 0)with|some h=>some ⟨σ.s,h,σ.nx+1⟩|none=>none)else if 2000000<=t then(match σ.s (t%1000),σ.h (t/1000%1000)with|.nil z,none=>some ⟨cq σ.s (t%1000) (.own (t/1000%1000) [] 0 0 σ.nx),cq σ.h (t/1000%1000) (some (.vec σ.nx z [])),σ.nx+1⟩|.nil _,some _=>none|_,_=>some ⟨σ.s,σ.h,σ.nx+1⟩)else if 1000000<=t then(match FU σ.h σ.nx (σ.s (t-1000000))with|some h=>some ⟨σ.s,h,σ.nx+1⟩|none=>none)else match σ.s t with|.own id [] 0 len g0=>(match σ.h id with|some (.vec g1 _ l)=>if g0=g1/\len<=l.length then match lf l with|some vs=>some ⟨cq σ.s t (.p (.sl (vs.take len))),cq σ.h id (some .gone),σ.nx⟩|none=>none else none|_=>none)|.own id (i::p) _ _ _=>(match iE (σ.h id) (i::p)with|some (.vec g1 z l n)=>(match lf l with|some vs=>(match put (σ.h id) (i::p) (.vec g1 z (vs.map .p) n)with|some o'=>some ⟨σ.s,cq σ.h id (some o'),σ.nx⟩|none=>none)|none=>none)|_=>none)|.ptr id none [] g0 0=>(match σ.h id with|some (.cell g1 u)=>if g0=g1 then match uD u with|some v=>some ⟨cq σ.s t (.p (.ref v)),cq σ.h id (some .gone),σ.nx⟩|none=>none else none|_=>none)|.p v=>some ⟨cq σ.s t (.p v),σ.h,σ.nx⟩|.nil _=>some ⟨cq σ.s t (.p (.sl [])),σ.h,σ.nx⟩|_=>none
def Ez(s:gB)(h:cj):RV->Option MV|.tmp t=>some (s t)|.cell a agg n=>vF h agg n (s a)
def zZ(s:gB)(h:cj):List RV->Option (List MV)|[]=>some []|x::r=>match Ez s h x,zZ s h r with|some v,some vs=>some (v::vs)|_,_=>none
def EA:List MV->MV|[v]=>v|l=>.eI l
def A2G(args:List MV):gB:=λi=>args.getD i (.dead 0)
def nn(ext:List (Obj Nat)):cj:=λi=>if ep<=i then ext[i-ep]? else none
def A0P(i:Nat):Bool:=i<ep
def qL(n:Nat)(dH:List Nat)(i:Nat):Option Nat:=if ep<=i then(if i<ep+n then some i else none)else(pB dH i).map (kI+·)
mutual
def sfM(h:cj):MV->Option MV|.p v=>some (.p v)|.agg l=>(match AO h l with|some vs=>some (wU vs)|none=>none)|.eI l=>(match AO h l with|some vs=>some (.eI vs)|none=>none)|v=>if(va v).all (λi=>!A0P i)&&!(va v).isEmpty then some v else match mE h v with|some w=>if(va v).all A0P then some (.p w)else none|none=>none
def AO(h:cj):List MV->Option (List MV)|[]=>some []|x::r=>match sfM h x,AO h r with|some v,some vs=>some (v::vs)|_,_=>none
end
def z6(F:qR)(n:Nat)(σ:St):Option Es:=if 1000000<n then none else match zZ σ.s σ.h F.res with|none=>none|some vs=>let r:=EA vs;let pC:=(bA n).map (ep+·);if F.FM then match sfM σ.h r,um σ.h pC with|some v,some ext=>let φ:=jW σ.h (qL n []) jz;some (φ v,ext.map (kH φ jz),[])|_,_=>none else let dH:=(jd σ.h (jd σ.h (va r++pC))).filter A0P;let φ:=jW σ.h (qL n dH) jz;match um σ.h pC,um σ.h dH with|some ext,some es=>some (φ r,ext.map (kH φ jz),es.map (kH φ (λ_=>1)))|_,_=>none
inductive Prim where
 | clone (z bytes:Nat)
 | sort
 | insert
 | au9 (gf z:Nat) (key:PV->Option (List Int))
 | aC8
 | sbw (ty e:Nat)
 | sbs (ty e:Nat)
 deriving Inhabited
def Cj:List PV->Option (List Int)|[]=>some []|.int .i64 n::r=>(match Cj r with|some l=>some (n::l)|none=>none)|_::_=>none
def FV(x:Int):List Int->List Int|[]=>[x]|y::r=>if x<=y then x::y::r else y::FV x r
def A0K:List Int->List Int|[]=>[]|x::r=>FV x (A0K r)
def NQ(path:List Nat)(off len g:Nat)(o:Obj Nat):Option Es:=match elems (nn [o]) (.own ep path off len g)with|some ts=>(match ml ts with|some vs=>(match Cj vs with|some zs=>if zs.length<4611686018427387904 then match qT (nn [o]) ep path g 1 off ((A0K zs).map (.int .i64))with|some h'=>(match h' ep with|some o'=>some (.eI [],[o'],[])|none=>none)|none=>none else none|none=>none)|none=>none)|none=>none
def F24:List PV->Option (List ByteArray)|[]=>some []|.str n::r=>(match F24 r with|some l=>some (n::l)|none=>none)|_::_=>none
def F4Z(x:ByteArray):List ByteArray->List ByteArray|[]=>[x]|y::r=>if lP y.toList x.toList then y::F4Z x r else x::y::r
def F10:List ByteArray->List ByteArray|[]=>[]|x::r=>F4Z x (F10 r)
def F3G(path:List Nat)(off len g:Nat)(o:Obj Nat):Option Es:=match elems (nn [o]) (.own ep path off len g)with|some ts=>(match ml ts with|some vs=>(match F24 vs with|some zs=>if zs.length<4611686018427387904 then match qT (nn [o]) ep path g 1 off ((F10 zs).map .str)with|some h'=>(match h' ep with|some o'=>some (.eI [],[o'],[])|none=>none)|none=>none else none|none=>none)|none=>none)|none=>none
def JU(len i g:Nat)(v:Int)(o o2:Obj Nat):Option Es:=match o with|.vec g' z l=>(match ml l with|some vs=>(match Cj vs with|some zs=>if g'=g/\z=1/\zs.length=len/\i<=len/\len<1000000000000 then some (.own ep [] 0 (len+1) 1,[.vec 1 1 ((zs.take i++v::zs.drop i).map λn=>.p (.int .i64 n)),o2],[])else none|none=>none)|none=>none)|_=>none
def ltL:List Int->List Int->Bool|[],[]=>false|[],_::_=>true|_::_,[]=>false|x::r,y::q=>if x<y then true else if y<x then false else ltL r q
mutual
def E2S:PV->PV->Bool|.int k a,.int l b=>k==l&&a==b|.agg l,.agg m=>E2Y l m|.sl l,.sl m=>E2Y l m|_,_=>false
def E2Y:List PV->List PV->Bool|[],[]=>true|x::r,y::q=>E2S x y&&E2Y r q|_,_=>false
end
def E25{α:Type}(k:List Int)(v:α):List (List Int×α)->List (List Int×α)|[]=>[(k,v)]|y::r=>if ltL y.1 k then y::E25 k v r else(k,v)::y::r
def E2W{α:Type}:List (List Int×α)->List (List Int×α)|[]=>[]|x::r=>E25 x.1 x.2 (E2W r)
def E2T{α:Type}(key:α->Option (List Int)):List α->Option (List (List Int×α))|[]=>some []|v::r=>match key v,E2T key r with|some k,some l=>some ((k,v)::l)|_,_=>none
def E2X{α:Type}(same:α->α->Bool)(l:List (List Int×α)):Bool:=l.all λx=>l.all λy=>!(x.1==y.1)||same x.2 y.2
def E21(key:PV->Option (List Int))(z:Nat)(path:List Nat)(off len g:Nat)(o:Obj Nat):Option Es:=match elems (nn [o]) (.own ep path off len g)with|some ts=>(match ml ts with|some vs=>(match E2T key vs with|some kvs=>if E2X E2S kvs&&decide (vs.length<4611686018427387904)then match qT (nn [o]) ep path g z off ((E2W kvs).map (·.2))with|some h'=>(match h' ep with|some o'=>some (.eI [],[o'],[])|none=>none)|none=>none else none|none=>none)|none=>none)|none=>none
def G10(ty e:Nat):Obj Nat->Option (Nat×ByteArray)|.mp g [.fa,.int .i64 t,.int .i64 u] [.p (.str c),.vec _ 1 [] 0]=>if t=ty/\u=e then some (g,c)else none|_=>none
def G3C(ty e g:Nat)(c:ByteArray):Obj Nat:=.mp g [.fa,.int .i64 ty,.int .i64 e] [.p (.str c),.vec 1 1 [] 0]
def G22(ty e:Nat):List MV->List (Obj Nat)->Option Es|[.ptr id (some []) [] g 0,.p (.str s)],[o]=>(match G10 ty e o with|some (g',c)=>if id=ep/\g'=g/\c.size+s.size<=140737488355328 then some (.eI [.p (.int .i64 s.size),.dead 0],[G3C ty e g (c++s)],[])else none|none=>none)|_,_=>none
def G23(ty e:Nat):List MV->List (Obj Nat)->Option Es|[.ptr id (some []) [] g 0],[o]=>(match G10 ty e o with|some (g',c)=>if id=ep/\g'=g then some (.p (.str c),[G3C ty e g c],[])else none|none=>none)|_,_=>none
def G1G:Prim->List MV->List (Obj Nat)->Option Es|.sbw ty e=>G22 ty e|.sbs ty e=>G23 ty e|_=>λ_ _=>none
def xy:Prim->List MV->List (Obj Nat)->Option Es|.clone z bytes,[.p (.sl l)],[]=>if l.all (λv=>v.cs==z)&&decide (l.length*bytes<=E5C)then some (.own kI [] 0 l.length 1,[],[.vec 1 z (l.map .p)])else none|.sort,[.own id path off len g],[o]=>if id=ep then NQ path off len g o else none|.sort,[.nil _],[]=>some (.eI [],[],[])|.sort,[.p (.sl [])],[]=>some (.eI [],[],[])|.aC8,[.own id path off len g],[o]=>if id=ep then F3G path off len g o else none|.aC8,[.nil _],[]=>some (.eI [],[],[])|.aC8,[.p (.sl [])],[]=>some (.eI [],[],[])|.au9 gf z key,[.own id path off len g,.p (.fn gf' [])],[o]=>if id=ep/\gf'=gf/\gf<yq then E21 key z path off len g o else none|.au9 gf _ _,[.nil _,.p (.fn gf' [])],[]=>if gf'=gf then some (.eI [],[],[])else none|.insert,[.own id [] 0 len g,.p (.int .i64 i),.own JV [] 0 1 g2],[o,.vec g3 1 [.p (.int .i64 v)]]=>if id=ep/\JV=ep+1/\g3=g2/\0<=i then JU len i.toNat g v o (.vec g2 1 [.p (.int .i64 v)])else none|p,args,ext=>G1G p args ext
inductive AP where
 | code (F:qR)
 | qU (p:Prim)
 deriving Inhabited
abbrev lW:=Nat->Option AP
def og(Φ:lW)(R:MC->St->Option (Ex×St)):jm:=λf args ext=>match Φ f with|none=>none|some (.qU p)=>xy p args ext|some (.code F)=>match R F.body ⟨A2G args,nn ext,1⟩with|some (.normal,σ)=>z6 F ext.length σ|some (.ret,σ)=>z6 F ext.length σ|_=>none
mutual
def E6C:PV->PV->Bool|.int k a,.int l b=>decide (k=l)&&decide (a=b)|.bool a,.bool b=>a==b|.str a,.str b=>decide (a=b)|.agg l,.agg m=>E7C l m|.sl l,.sl m=>E7C l m|.ref v,.ref w=>E6C v w|.fn f l,.fn g m=>decide (f=g)&&E7C l m|.mp k l,.mp k' l'=>E7C k k'&&E7C l l'|.eM,.eM=>true|.fa,.fa=>true|_,_=>false
def E7C:List PV->List PV->Bool|[],[]=>true|x::r,y::q=>E6C x y&&E7C r q|_,_=>false
end
mutual
def E7a:MV->MV->Bool|.p v,.p w=>E6C v w|.nil z,.nil z'=>decide (z=z')|.own i p o l g,.own i' p' o' l' g'=>decide (i=i')&&decide (p=p')&&decide (o=o')&&decide (l=l')&&decide (g=g')|.ptr i n r g o,.ptr i' n' r' g' o'=>decide (i=i')&&decide (n=n')&&decide (r=r')&&decide (g=g')&&decide (o=o')|.auG i p g,.auG i' p' g'=>decide (i=i')&&decide (p=p')&&decide (g=g')|.agg l,.agg m=>E8t l m|.fn f l,.fn g m=>decide (f=g)&&E8t l m|.eI l,.eI m=>E8t l m|.dead n,.dead m=>decide (n=m)|_,_=>false
def E8t:List MV->List MV->Bool|[],[]=>true|x::r,y::q=>E7a x y&&E8t r q|_,_=>false
end
mutual
def eqT:T Nat->T Nat->Bool|.p v,.p w=>E6C v w|.m v,.m w=>E7a v w|.agg l,.agg m=>E8D l m|.vec a z l n,.vec a' z' l' n'=>decide (a=a')&&decide (z=z')&&decide (n=n')&&E8D l l'|.mp a ks l,.mp a' JH l'=>decide (a=a')&&E7C ks JH&&E8D l l'|.hole n,.hole m=>decide (n=m)|_,_=>false
def E8D:List (T Nat)->List (T Nat)->Bool|[],[]=>true|x::r,y::q=>eqT x y&&E8D r q|_,_=>false
end
def eqO:Option (Obj Nat)->Option (Obj Nat)->Bool|none,none=>true|some (.cell a t),some (.cell a' t')=>decide (a=a')&&eqT t t'|some (.vec a z l),some (.vec a' z' l')=>decide (a=a')&&decide (z=z')&&E8D l l'|some (.mp a ks l),some (.mp a' JH l')=>decide (a=a')&&E7C ks JH&&E8D l l'|some .gone,some .gone=>true|_,_=>false
def E7l(ids:List Nat):List Nat:=ids++ids.map (1000+·)++ids.map (2000+·)++ids.map (3000+·)++[1000000,1000001,1000002,1000003,1000004,1000005,1000006,1000007]
def E6E(ks ids:List Nat)(σ:St):St:=let τ:=A2D ks ids σ;{s:=τ.s,h:=λi=>if(E7l ids).contains i then τ.h i else none,nx:=2}
def F0Z(ks ids:List Nat)(σ τ:St):Bool:=ks.all (λk=>E7a (σ.s k) (τ.s k))&&(E7l ids).all λi=>eqO (σ.h i) (τ.h i)
def E7O{α:Type}(x:α):List α->List (List α)|[]=>[[x]]|y::r=>(x::y::r)::(E7O x r).map (y::·)
def E8g{α:Type}:List α->List (List α)|[]=>[[]]|x::r=>(E8g r).flatMap (E7O x)
def E4M(R:St->Option (Ex×St))(x:Nat)(ks ids:List Nat):List (PV×PV)->St->Option (Ex×St)|[],σ=>some (.normal,A2D ks ids σ)|y::r,σ=>match R ⟨cq (A2D ks ids σ).s x (.eI [.p y.1,.p y.2]),(A2D ks ids σ).h,(A2D ks ids σ).nx⟩with|some (.normal,σ')=>E4M R x ks ids r σ'|q=>q
def E41(R:St->Option (Ex×St))(b0:Nat):Option (Ex×St)->Option (Ex×St)|some (.normal,σ)=>R σ|some (.exit j,σ)=>if j=b0 then R σ else some (.exit j,σ)|q=>q
def E4U(k2 i2:List Nat):Option (Ex×St)->Option (Ex×St)|some (e,σ)=>some (e,E6E k2 i2 σ)|none=>none
def E9c(k2 i2:List Nat)(e:Ex)(σ:St):Option (Ex×St)->Bool|some (e',σ')=>decide (e'=e)&&F0Z k2 i2 σ' σ|none=>false
def E7m(k2 i2:List Nat):List (Option (Ex×St))->Option (Ex×St)|some (e,σ)::r=>if r.all (E9c k2 i2 e σ)then some (e,σ)else none|_=>none
def run(Φ:lW):Nat->MC->St->Option (Ex×St)|0,_,_=>none|n+1,c,σ=>match c with|.skip=>some (.normal,σ)|.ret=>some (.ret,σ)|.bad=>none|.exit id=>some (.exit id,σ)|.gh g=>(match AN g σ with|some σ'=>some (.normal,σ')|none=>none)|.AE loose ops=>(match tx (og Φ (run Φ n)) loose ops σ with|some σ'=>some (.normal,σ')|none=>none)|.seq a b=>(match run Φ n a σ with|some (.normal,σ')=>run Φ n b σ'|r=>r)|.cond c a b=>(match cJ σ.s c with|.p (.bool true)=>run Φ n a σ|.p (.bool false)=>run Φ n b σ|_=>none)|.block id c=>(match run Φ n c σ with|some (.exit j,σ')=>if j=id then some (.normal,σ')else some (.exit j,σ')|r=>r)|.loop ks ids c=>(match run Φ n c (A2D ks ids σ)with|some (.normal,σ')=>run Φ n (.loop ks ids c) σ'|r=>r)|.aBh src x ks ids k2 i2 b0 c c2=>match cJ σ.s src with|.p (.mp keys gR)=>E7m k2 i2 ((E8g (keys.zip gR)).map λl=>E4U k2 i2 (E41 (run Φ n c2) b0 (E4M (run Φ n c) x ks ids l σ)))|_=>none
end Go.Mid
namespace Go.Mid
structure tC where
 aSO:List (List Nat×List Nat):=[]
 fz:List (Nat×List Nat):=[]
 sh:List Nat:=[]
 tk:List Nat:=[]
 mt:List Nat:=[]
 pz:List Nat:=[]
 FM:Bool:=false
 mc:List Nat:=[]
 deriving Inhabited
section
variable(P:Program)
def rS(t:TypeId):Bool:=(P.underlying t).isSome
def mW(t:TypeId):Bool:=match P.underlying t with|some (.struct _)|some (.array _ _)=>true|_=>false
def xz{α:Type}:List (Option α)->Option (List α)|[]=>some []|x::r=>match x,xz r with|some v,some vs=>some (v::vs)|_,_=>none
def JW:Nat->TypeId->Option MV|0,_=>none|n+1,t=>match P.underlying t with|some .bool=>some (.p (.bool false))|some (.int k)=>some (.p (.int k 0))|some .string=>some (.p (.str ⟨#[]⟩))|some (.pointer _)=>some (.p .eM)|some (.func ..)=>some (.p .fa)|some (.map ..)=>some (.p (.mp [] []))|some (.slice e)=>some (.nil (P.cellsOf e))|some (.struct fs)=>(match xz (fs.toList.map λf=>JW n f.type)with|some l=>some (wU l)|none=>none)|some (.array k e)=>(match JW n e with|some v=>some (wU (au k v))|none=>none)|_=>none
mutual
def zf:PV->List Value->Option (List Value)|.int k n,cs=>(match cs with|.int k' n'::r=>if k=k'/\n=n' then some r else none|_=>none)|.bool b,cs=>(match cs with|.bool b'::r=>if b=b' then some r else none|_=>none)|.str s,cs=>(match cs with|.string s'::r=>if s.size=0/\s'.size=0 then some r else none|_=>none)|.eM,cs=>(match cs with|.pointer none::r=>some r|_=>none)|.fa,cs=>(match cs with|.nilFunc::r=>some r|_=>none)|.mp ks vs,cs=>(match cs with|.map none::r=>if ks.isEmpty&&vs.isEmpty then some r else none|_=>none)|.agg l,cs=>JX l cs|_,_=>none
def JX:List PV->List Value->Option (List Value)|[],cs=>some cs|x::r,cs=>match zf x cs with|some d=>JX r d|none=>none
end
mutual
def uo:MV->List Value->Option (List Value)|.p v,cs=>zf v cs|.nil _,cs=>(match cs with|.slice _ 0 0::r=>some r|_=>none)|.agg l,cs=>EB l cs|_,_=>none
def EB:List MV->List Value->Option (List Value)|[],cs=>some cs|x::r,cs=>match uo x cs with|some d=>EB r d|none=>none
end
def xA(t:TypeId):Option (List Value):=match P.info? t with|some i=>(match i.zero with|some z=>some z.cells.toList|none=>none)|none=>none
def C8(t:TypeId):Option MV:=match JW P 20 t,xA P t with|some v,some cs=>(match uo v cs with|some []=>some v|_=>none)|_,_=>none
def NR(t:TypeId):Option PV:=match C8 P t with|some (.p v)=>some v|some (.nil _)=>some (.sl [])|_=>none
def RF(t:TypeId):Value->Option MV|.bool b=>some (.p (.bool b))|.int k n=>some (.p (.int k n))|.string s=>some (.p (.str s))|.pointer none=>some (.p .eM)|.nilFunc=>some (.p .fa)|.map none=>some (.p (.mp [] []))|.slice none 0 0=>(match P.underlying t with|some (.slice e)=>some (.nil (P.cellsOf e))|_=>some (.nil 0))|_=>none
def RG(l:List Int):PV:=.agg (l.map (.int .u8 ·))
def HZ(g:Nat):Option PV:=match P.globals[g]? with|some x=>if x.name== "math/bits.deBruijn32tab"then some (RG [0,1,28,2,29,14,24,3,30,22,20,15,25,17,4,8,31,27,13,23,21,19,16,7,26,12,18,6,11,5,10,9])else none|none=>none
def fu(t:TypeId):Operand->Option dJ|.tmp n=>some (.t n)|.const v=>(match RF P t v with|some m=>some (.c m)|none=>none)|.func f=>if f<yq then some (.f f)else none|.global g=>match HZ P g with|some v=>some (.c (.p (.ref v)))|none=>none
def rT:List TypeId->List Operand->Option (List dJ)|t::ts,x::r=>(match fu P t x,rT ts r with|some o,some os=>some (o::os)|_,_=>none)|[],[]=>some []|[],x::r=>(match fu P 0 x,rT [] r with|some o,some os=>some (o::os)|_,_=>none)|_,[]=>some []
def xB:Option Operand->Option (Option dJ)|none=>some none|some x=>match fu P 0 x with|some o=>some (some o)|none=>none
def z7(parts:List (Nat×Operand)):List TypeId->Nat->List Value->Option (List dJ)|[],_,rest=>if rest.isEmpty then some []else none|t::r,i,rest=>if(rest.take (P.cellsOf t)).length=P.cellsOf t then match(match parts.find? (·.1==i)with|some (_,x)=>fu P t x|none=>match JW P 20 t with|some v=>(match uo v (rest.take (P.cellsOf t))with|some []=>some (.c v)|_=>none)|none=>none),z7 parts r (i+1) (rest.drop (P.cellsOf t))with|some o,some os=>some (o::os)|_,_=>none else none
def NS:List Nat->Bool|[]=>true|x::r=>!r.contains x&&NS r
def Ck(n:Nat)(parts:List (Nat×Operand)):Bool:=parts.all (λp=>decide (p.1<n))&&(NS (parts.map (·.1))&&decide (n<=9223372036854775807))
def C9:List Field->Nat->Bool|[],_=>true|f::r,o=>f.offset==o&&rS P f.type&&C9 r (o+P.cellsOf f.type)
def JY:List (Field×Option TD)->Nat->Option (List TD)|[],_=>some []|(f,d)::r,off=>match d,JY r (off+P.cellsOf f.type)with|some d,some ds=>if f.name≠ "_"/\f.offset=off/\d.cs=P.cellsOf f.type then some (d::ds)else none|_,_=>none
def AQ:Nat->TypeId->Option TD|0,_=>none|n+1,t=>match P.underlying t with|some (.int k)=>some (.int k)|some .bool=>some .bool|some .string=>some .str|some (.struct fs)=>(if P.stoodInHeld t then none else match JY P (fs.toList.map λf=>(f,AQ n f.type)) 0 with|some l=>some (.agg l)|none=>none)|some (.array k e)=>(match AQ n e with|some d=>if d.cs=P.cellsOf e then some (.agg (au k d))else none|none=>none)|_=>none
def C2i(t:TypeId):Option TD:=if P.eqGuardType P.depth t then none else AQ P 20 t
def D8u:TD->Bool|.agg _=>false|_=>true
def D8M(t:TypeId):Option TD:=match P.underlying t with|some (.int k)=>some (.int k)|some .bool=>some .bool|some .string=>some .str|some (.struct _)=>(match AQ P 20 t with|some (.agg l)=>if l.all D8u then some (.agg l)else none|_=>none)|_=>none
def E0j:Value->Bool|.agg _=>true|_=>false
def D9k(t:TypeId):Option PV:=match P.info? t with|some i=>(match i.zero,NR P t with|some z,some v=>if E0j z=v.isAgg then some v else none|_,_=>none)|none=>none
def NT:Option Operand->Bool|some (.const (.int k n))=>k==.i64&&n==0|_=>false
def G1Y:Operand->Option Bool|.func f=>(match P.funcs[f]? with|some fn=>if fn.body.isNone&&fn.origin== ""then(if fn.name== "math/bits.Add64"then some false else if fn.name== "math/bits.Sub64"then some true else none)else none|none=>none)|_=>none
def G3D(t:TypeId):Option ui:=match P.underlying t,xA P t with|some (.struct fs),some [.pointer none,.slice none 0 0]=>(match fs[1]? with|some fd=>(match P.underlying fd.type with|some (.slice e)=>some (.bnew t e)|_=>none)|none=>none)|_,_=>none
def qf(sh:Nat)(mt pz:Bool)(rt:TypeId):Op->Option ui|.move x=>(match fu P rt x with|some o=>some (.move o)|none=>none)|.assign x=>(match x,P.underlying rt with|.const (.slice none 0 0),some (.slice e)=>some (.nilv (P.cellsOf e))|x,_=>match fu P rt x with|some o=>some (.move o)|none=>none)|.pick c a b=>(match fu P 0 c,fu P rt a,fu P rt b with|some c,some a,some b=>some (.pick c a b)|_,_,_=>none)|.alloc t=>(if mt then G3D P t else match C8 P t with|some z=>some (.box (.c z))|none=>none)|.box t x=>(match fu P t x with|some o=>some (.box o)|none=>none)|.build t parts=>(match xA P t,P.underlying t with|some zc,some (.struct fs)=>if Ck fs.size parts.toList&&C9 P fs.toList 0 then match z7 P parts.toList (fs.toList.map (·.type)) 0 zc with|some l=>some (.build (fs.toList.map λf=>P.cellsOf f.type) l)|none=>none else none|some zc,some (.array n e)=>if Ck n parts.toList&&rS P e then match z7 P parts.toList (au n e) 0 zc with|some l=>some (.build (au n (P.cellsOf e)) l)|none=>none else none|_,_=>none)|.buildSlice t n parts=>(match P.underlying t with|some (.slice e)=>(if P.cellsOf e=0\/n*P.cellsOf e>16777216 then none else match xA P e with|some zc=>if zc.length=P.cellsOf e/\Ck n parts.toList then match z7 P parts.toList (au n e) 0 (au n zc).flatten with|some l=>some (if pz then .bslp (P.cellsOf e) l else .bsl (mt||n==0) (P.cellsOf e) l)|none=>none else none|none=>none)|_=>none)|.load t x=>(match fu P 0 x with|some o=>if rS P t then some (.load (mW P t) (P.cellsOf t) o)else none|none=>none)|.store t a x=>(match fu P 0 a,fu P t x with|some a,some x=>if rS P t then some (.store (P.cellsOf t) a x)else none|_,_=>none)|.nilCheck x=>(match fu P 0 x with|some o=>some (.nilc o)|none=>none)|.binOp op t x y yt=>(match fu P t x,fu P yt y with|some a,some b=>(match P.underlying t with|some (.int _)|some .string=>some (.bin false op a b)|some .bool=>some (.bin true op a b)|some (.struct _)|some (.array ..)=>(match op,C2i P t with|.eql,some d=>some (.eqs false d a b)|.neq,some d=>some (.eqs true d a b)|_,_=>none)|some (.pointer _)=>(match op,y with|.eql,.const (.pointer none)=>some (.isnil false false a)|.neq,.const (.pointer none)=>some (.isnil false true a)|_,_=>none)|some (.func ..)=>(match op,y with|.eql,.const .nilFunc=>some (.isnil true false a)|.neq,.const .nilFunc=>some (.isnil true true a)|_,_=>none)|_=>none)|_,_=>none)|.unOp op t x=>(match fu P t x with|some a=>(match op with|.not=>some (.not a)|.neg=>some (.neg a)|.xor=>some (.inv a)|_=>none)|none=>none)|.convert src dst x=>(match fu P src x with|some a=>(match P.underlying src,P.underlying dst with|some (.int _),some (.int k)=>some (.convI k a)|some .string,some .string=>some (.convS a)|some (.int _),some .string=>some (.convR a)|some (.slice e),some .string=>(match P.underlying e with|some (.int .u8)=>some (.convB a)|_=>none)|_,_=>none)|none=>none)|.makeFunc (.func f) first iR=>if yq<=f then none else if first.size=0 then(match rT P [] iR.toList with|some l=>some (.uE f l)|none=>none)else if iR.size=0 then(match rT P [] first.toList with|some l=>some (.uE (yq+f) l)|none=>none)else none|.makeSlice t l c=>(match P.underlying t with|some (.slice e)=>(if P.cellsOf e=0\/P.bytesOf e=0 then none else match C8 P e,fu P 0 l,fu P 0 c with|some z,some l,some c=>some (.mksl (P.cellsOf e) (P.bytesOf e) z l c)|_,_,_=>none)|_=>none)|.slice t x lo hi mx=>(if mx.isNone then match fu P t x,xB P lo,xB P hi with|some x,some lo,some hi=>(match P.underlying t with|some (.slice e)=>if P.cellsOf e=0 then none else if mt then(match lo,hi with|some lo,some hi=>some (.sliceK (P.cellsOf e) x lo hi)|_,_=>none)else some (.slice (P.cellsOf e) x lo hi)|some .string=>some (.nz x lo hi)|some (.array n e)=>if P.cellsOf e=0 then none else(match lo,hi with|none,none=>some (.C2 n (P.cellsOf e) x)|_,_=>none)|_=>none)|_,_,_=>none else if lo.isNone&&NT hi&&NT mx then match fu P t x,P.underlying t with|some x,some (.slice e)=>if P.cellsOf e=0 then none else some (.cut0 (P.cellsOf e) x)|_,_=>none else match fu P t x,lo.bind (fu P 0),hi.bind (fu P 0),mx.bind (fu P 0)with|some x,some lo,some hi,some mx=>(match P.underlying t with|some (.slice e)=>if P.cellsOf e=0 then none else some (.slice3 x lo hi mx)|_=>none)|_,_,_,_=>none)|.fieldAddr t x f=>(match fu P 0 x,P.underlying t with|some x,some (.struct fs)=>(match fs[f]? with|some fd=>if P.cellsOf fd.type=0 then none else some (.faddr x f fd.offset)|none=>none)|_,_=>none)|.field t x f=>(match fu P t x,P.underlying t with|some x,some (.struct fs)=>(match fs[f]? with|some fd=>if rS P fd.type then some (.fld (mW P fd.type) (P.cellsOf fd.type) fd.offset x f)else none|none=>none)|_,_=>none)|.indexAddr t x i=>(match fu P 0 x,fu P 0 i,P.underlying t with|some x,some i,some (.slice e)=>if P.cellsOf e=0 then none else some (.iaddr (P.cellsOf e) x i)|some x,some i,some (.array n e)=>if P.cellsOf e=0 then none else some (.nA n (P.cellsOf e) x i)|_,_,_=>none)|.index t x i=>(match fu P t x,fu P 0 i,P.underlying t with|some x,some i,some (.array n e)=>if rS P e then some (.idx (mW P e) (P.cellsOf e) n x i)else none|some x,some i,some .string=>some (.uF x i)|_,_,_=>none)|.extract x i=>(match fu P 0 x with|some o=>some (.ext o i)|none=>none)|.makeMap t r=>(match r,P.underlying t with|none,some (.map kt et)=>some (.mkmap ((D8M P kt).getD .bool) ((AQ P 20 et).getD .bool))|_,_=>none)|.lookup t m k ok=>(match P.underlying t with|some (.map kt et)=>(match fu P t m,fu P kt k,D9k P et,D8M P kt with|some m,some k,some z,some td=>some (.mlook td (.p z) ok m k)|_,_,_,_=>none)|_=>none)|.mapUpdate t m k v=>(match P.underlying t with|some (.map kt et)=>(match fu P t m,fu P kt k,fu P et v,D8M P kt with|some m,some k,some v,some td=>some (.mset td m k v)|_,_,_,_=>none)|_=>none)|.call c=>(match c.callee with|.value f=>(match fu P 0 f,rT P c.argTypes.toList c.args.toList with|some f',some l=>(match G1Y P f,l with|some sub,[x,y,z]=>some (.n7 sub x y z)|_,_=>some (.call sh f' l))|_,_=>none)|.invoke ..=>none|.builtin b=>match rT P c.argTypes.toList c.args.toList with|none=>none|some l=>match b,l,c.argTypes.toList with|.len,[x],[t]=>(match P.underlying t with|some .string=>some (.lenS x)|some (.slice _)=>some (.len x)|_=>none)|.cap,[x],[t]=>(match P.underlying t with|some (.slice _)=>some (.capn x)|_=>none)|.append,[x,y],[t,ty]=>(match P.underlying t,P.underlying ty with|some (.slice e),some (.int _)=>(if P.cellsOf e=0\/P.bytesOf e=0 then none else match C8 P e with|some z=>some (.appn (P.cellsOf e) (P.bytesOf e) z x y)|none=>none)|some (.slice e),_=>if mt then(if t=ty/\P.cellsOf e≠0/\P.bytesOf e≠0 then some (.appk (P.cellsOf e) x y)else none)else if t=ty/\P.cellsOf e≠0/\P.bytesOf e≠0/\(xA P e).map List.length=some (P.cellsOf e)then some (.app pz (P.cellsOf e) (P.bytesOf e) x y)else none|_,_=>none)|.copy,[x,y],[t,_]=>(match P.underlying t with|some (.slice e)=>if P.cellsOf e=0 then none else some (.cpy (P.cellsOf e) x y)|_=>none)|.clear,[x],[t]=>(match P.underlying t with|some (.slice e)=>(match NR P e with|some v=>if P.cellsOf e=0 then none else some (.clr (P.cellsOf e) v x)|_=>none)|_=>none)|.min,l,_=>some (.mn l)|.max,l,_=>some (.mx l)|.delete,[m,k],[t,_]=>(match P.underlying t with|some (.map ..)=>some (.AD m k)|_=>none)|_,_,_=>none)|_=>none
def Yd(ops:Array Oper):Option (Nat×Bool)->Option (Option (Nat×Bool))|none=>some none|some (j,b)=>match(ops[j]?).bind (·.dst)with|some t=>some (some (t,b))|none=>none
def Ye(nt:Nat)(o:Oper):Bool:=match o.dst with|some d=>decide (d<nt)|none=>true
def Yf(A:tC)(o:Oper):Nat:=match o.dst with|some d=>if A.sh.contains d then 1 else if A.tk.contains d then 2 else 0|none=>0
def NU(l:List Nat)(o:Oper):Bool:=match o.dst with|some d=>l.contains d|none=>false
def F2n(A:tC)(nt:Nat)(ops:Array Oper)(o:Oper):Option hH:=if Ye nt o then match Yd ops o.guard with|some g=>some ⟨o.dst,g,(qf P (Yf A o) (NU A.mt o) (NU A.pz o) o.type o.op).getD .bad⟩|none=>none else none
def EC(A:tC)(nt:Nat)(ops:Array Oper):List Oper->Option (List hH)|[]=>some []|o::r=>match F2n P A nt ops o,EC A nt ops r with|some i,some is=>some (i::is)|_,_=>none
def Da(ops:Array Oper)(is:List hH):List (Nat×Nat):=let b:=Region.before ops;(bA is.length).flatMap λj=>(bA j).filterMap λi=>match is[i]?,is[j]? with|some x,some y=>if idle x.op||idle y.op||(vI x.op&&vI y.op)||(b.getD j 0).testBit i then none else some (i,j)|_,_=>none
def NV(ops:Array Oper)(is:List hH):Bool:=let b:=Region.before ops;(bA is.length).all λj=>(match ops[j]? with|some o=>o.after.toList.all λe=>!Region.binds .any e||decide (e.on<j)|none=>false)&&(bA j).all λi=>(b.getD j 0).testBit i||match is[i]?,is[j]? with|some x,some y=>HX x y|_,_=>false
def NW(l:List Nat)(c:MC):MC:=l.foldr (λs c=>.seq (.gh (.freeze s)) c) c
def E7x:Code->Option (TypeId×Nat×Nat)|.region _ ops false=>(match ops.toList.getLast? with|some ⟨some it,.range td (.tmp src),_,_,_,none⟩=>some (td,src,it)|_=>none)|_=>none
structure RH where
 it:Nat
 pr:Nat
 nx:Nat
 pe:Nat
 b0:Nat
 ds:List Nat
def E4W:Code->List Nat|.region _ ops _=>ops.toList.filterMap (·.dst)|.seq a b=>E4W a++E4W b|.cond _ a b=>E4W a++E4W b|.block _ c=>E4W c|.loop c=>E4W c|_=>[]
def E8Q:Code->Option RH|.block b0 (.loop (.seq (.region _ aBf false) (.seq (.cond (.tmp nx) .skip (.exit b1)) (.block _ (.seq (.region i2 AB false) body)))))=>(match aBf.toList,AB.toList with|[⟨some pr,.next (.tmp it) false,_,_,_,none⟩,⟨some nx1,.extract (.tmp pr1) 0,_,_,_,none⟩],⟨some pe,.entry (.tmp it1),_,_,_,none⟩::rest=>if it1=it/\pr1=pr/\nx1=nx/\b1=b0/\(E7x (.region i2 AB false)).isNone then some ⟨it,pr,nx,pe,b0,rest.filterMap (·.dst)++E4W body⟩else none|_,_=>none)|_=>none
def E9d:MC->Option (List Nat×List Nat×Nat×List hH×MC)|.block _ (.loop ks ids (.seq _ (.seq _ (.block b1 (.seq (.AE [] (_::Pa)) c)))))=>some (ks,ids,b1,Pa,c)|_=>none
def E8u:MC->MC|.AE l is=>.AE l is.dropLast|.seq a b=>.seq a (E8u b)|m=>m
def E6k:MC->List Nat×List Nat|.gh (.aSO ks ids)=>(ks,ids)|.seq a b=>((E6k a).1++(E6k b).1,(E6k a).2++(E6k b).2)|.cond _ a b=>((E6k a).1++(E6k b).1,(E6k a).2++(E6k b).2)|.block _ c=>E6k c|.loop _ _ c=>E6k c|.aBh _ _ _ _ k2 i2 _ _ _=>(k2,i2)|_=>([],[])
def F0V(t:TypeId):Bool:=match P.underlying t with|some (.map _ _)=>true|_=>false
def okR(nt it:Nat)(ks:List Nat)(r:RH):Bool:=decide (r.it=it)&&decide (it<nt)&&decide (r.pr<nt)&&decide (r.nx<nt)&&decide (r.pe<nt)&&!ks.contains it&&!ks.contains r.pr&&!ks.contains r.nx&&!ks.contains r.pe&&!r.ds.contains it&&decide (it≠r.pr)&&decide (it≠r.nx)&&decide (it≠r.pe)&&decide (r.pr≠r.nx)
def E9C(nt:Nat)(a b:Code)(x y:MC)(k i:List Nat)(c2:MC):Option MC:=match E7x a,E8Q b,E9d y with|some (td,src,it),some r,some (ks,ids,b1,Pa,c)=>if F0V P td&&okR nt it ks r&&decide (it≠src)then some (.seq (E8u x) (.aBh (.t src) r.pe ks ids (k++(E6k y).1).eraseDups (i++(E6k y).2).eraseDups r.b0 (.block b1 (.seq (.AE [] Pa) c)) c2))else none|_,_,_=>none
def F2o(A:tC)(x y:MC):Option MC:=match x with|.seq p (.aBh src pe ks ids k2 i2 b0 c .skip)=>if A.mc.contains pe then some (.seq p (.aBh src pe ks ids (k2++(E6k y).1).eraseDups (i2++(E6k y).2).eraseDups b0 c y))else none|_=>none
def E8R(A:tC)(nt:Nat)(a b:Code)(x y:MC):MC:=match E9C P nt a b x y [] [] .skip with|some m=>m|none=>match a with|.seq a1 a2=>(match E7x a1,E8Q a2,F2o A x y with|some _,some _,some m=>m|_,_,_=>.seq x y)|_=>.seq x y
def uq(A:tC)(nt:Nat):Code->Nat->Option (MC×Nat)|.skip,n=>some (.skip,n)|.ret,n=>some (.seq (.gh (.aSO (A.aSO.getD n ([],[])).1 (A.aSO.getD n ([],[])).2)) .ret,n+1)|.exit id,n=>some (.seq (.gh (.aSO (A.aSO.getD n ([],[])).1 (A.aSO.getD n ([],[])).2)) (.exit id),n+1)|.region id ops draw,n=>(match EC P A nt ops ops.toList with|some is=>if !draw||NV ops is then some (NW ((A.fz.find? (·.1==id)).elim [] (·.2)) (.AE (if draw then Da ops is else[]) is),n)else some (.bad,n)|none=>none)|.seq a b,n=>(match uq A nt a n with|some (x,n1)=>(match uq A nt b n1 with|some (y,n2)=>some (E8R P A nt a b x y,n2)|none=>none)|none=>none)|.cond c a b,n=>(match fu P 0 c,uq A nt a n with|some c,some (x,n1)=>(match uq A nt b n1 with|some (y,n2)=>some (.cond c x y,n2)|none=>none)|_,_=>none)|.block id c,n=>(match uq A nt c n with|some (x,n1)=>some (.block id x,n1)|none=>none)|.loop c,n=>(match uq A nt c (n+1)with|some (x,n1)=>some (.loop (A.aSO.getD n ([],[])).1 (A.aSO.getD n ([],[])).2 x,n1)|none=>none)|_,n=>some (.bad,n)
def RI(tmps:Nat):ResultVar->Option RV|.tmp t=>if t<tmps then some (.tmp t)else none|.cell a t=>if a<tmps/\rS P t=true then some (.cell a (mW P t) (P.cellsOf t))else none
def ED(tmps:Nat):List ResultVar->Option (List RV)|[]=>some []|x::r=>match RI P tmps x,ED tmps r with|some v,some vs=>some (v::vs)|_,_=>none
def RJ(A:tC)(fn:Func):Option qR:=match fn.body with|some c=>(match uq P A fn.ntmps c 0,ED P fn.ntmps fn.results.toList with|some (b,_),some rs=>some ⟨b,rs,A.FM⟩|_,_=>none)|none=>none
end
end Go.Mid
namespace Go.Mid
open Go.RowKit
def xC(f:Nat)(vs:Array Value):Value:=if f<yq then .func (.func f) #[] vs else .func (.func (f-yq)) vs #[]
theorem RK{f:Nat}{vs:Array Value}(h:f<yq):xC f vs=.func (.func f) #[] vs:=if_pos h
theorem Yg{f:Nat}{vs:Array Value}(h:yq<=f):xC f vs=.func (.func (f-yq)) vs #[]:=if_neg (Nat.not_lt.2 h)
theorem RL(f:Nat)(vs:Array Value):∃g i c,xC f vs=.func g i c:=by unfold xC;split<;>exact⟨_,_,_,rfl⟩
theorem NX(f:Nat)(vs:Array Value):(xC f vs).cells=#[xC f vs]:=by unfold xC;split<;>rfl
structure An where
 g:Nat
 b:Option Nat
 cap:Nat
section
variable{α β:Type}(f:α->β)
mutual
def T.mapA:T α->T β|.p v=>.p v|.m v=>.m v|.agg l=>.agg (T.cI l)|.vec a z l n=>.vec (f a) z (T.cI l) n|.mp a ks l=>.mp (f a) ks (T.cI l)|.hole n=>.hole n
def T.cI:List (T α)->List (T β)|[]=>[]|x::r=>T.mapA x::T.cI r
end
def Obj.mapA:Obj α->Obj β|.cell a t=>.cell (f a) (t.mapA f)|.vec a z l=>.vec (f a) z (T.cI f l)|.mp a ks l=>.mp (f a) ks (T.cI f l)|.gone=>.gone
theorem T.mapAs_eq(l:List (T α)):T.cI f l=l.map (T.mapA f):=by induction l with|nil=>rfl|cons x r ih=>simp[T.cI,ih]
end
def Row(w:World)(b o:Nat)(cs:List Value):Prop:=∀j v,cs[j]?=some v->w.cell? ⟨b,o+j,none⟩=some v
def lX(w:World)(b n:Nat):Prop:=∃c ty,w.heap[b]?=some (.cells c ty (0,0))/\c.size=n
theorem Row.nil{w:World}{b o:Nat}:Row w b o []:=λj v h=>by simp at h
theorem Row.append{w:World}{b o:Nat}{c d:List Value}:Row w b o (c++d)↔Row w b o c/\Row w b (o+c.length) d:=by constructor;intro h;refine⟨λj v hj=>h j v ?_,λj v hj=>?_⟩;rw[cN (by exact(List.getElem?_eq_some_iff.1 hj).1)];exact hj;have:=h (c.length+j) v (by rw[bG (by omega)];simpa using hj);rwa[<-bV]at this;rintro⟨h1,h2⟩j v hj;by_cases eC:j<c.length;rw[cN eC]at hj;exact h1 j v hj;rw[bG (by omega)]at hj;have:=h2 (j-c.length) v hj;rwa[bV,Nat.add_sub_cancel' (by omega)]at this
theorem Row.one{w:World}{b o:Nat}{v:Value}:Row w b o [v]↔w.cell? ⟨b,o,none⟩=some v:=by constructor;intro h;exact h 0 v rfl;intro h j u hj;cases j with|zero=>simp at hj;subst hj;exact h|succ j=>simp at hj
theorem cell_of_heap{w w':World}{b:Nat}(h:w'.heap[b]?=w.heap[b]?)(o:Nat):w'.cell? ⟨b,o,none⟩=w.cell? ⟨b,o,none⟩:=World.cell?_of_block (w:=w) h
theorem Row.frame{w w':World}{b o:Nat}{cs:List Value}(h:w'.heap[b]?=w.heap[b]?)(r:Row w b o cs):Row w' b o cs:=λj v hj=>by rw[cell_of_heap h];exact r j v hj
theorem lX.frame{w w':World}{b n:Nat}(h:w'.heap[b]?=w.heap[b]?)(r:lX w b n):lX w' b n:=by obtain⟨c,ty,e,hs⟩:=r;exact⟨c,ty,by rw[h,e],hs⟩
def F0W(es:Array MapEntry)(clock:Nat):Prop:=(∀e∈es.toList,e.born<clock)/\(es.toList.map (·.born)).Nodup/\(es.toList.map (·.key)).Nodup
def pk(agg:Bool)(cs:List Value):Value:=if agg then .agg cs.toArray else cs.headD undef
section
variable(w:World)(A:Nat->Prop)
mutual
def dU:PV->List Value->Prop|.int k n,cs=>cs=[.int k n]|.bool b,cs=>cs=[.bool b]|.str s,cs=>cs=[.string s]|.agg l,cs=>cK l cs|.sl l,cs=>∃a cap,cs=[.slice a l.length cap]/\l.length<=cap/\(l=[]\/∃b o z,a=some ⟨b,o,none⟩/\A b/\fB l b o z)|.ref v,cs=>∃b o,cs=[.pointer (some ⟨b,o,none⟩)]/\A b/\∃cv,dU v cv/\Row w b o cv|.fn f iR,cs=>∃vs,cs=[xC f vs.toArray]/\kM iR vs|.mp ks vs,cs=>(cs=[.map none]/\ks=[]/\vs=[])\/∃b es clock,cs=[.map (some b)]/\A b/\w.heap[b]?=some (.map es clock)/\F0W es clock/\∃VL:List MapEntry,VL.Perm es.toList/\kM ks (VL.map (·.key))/\kM vs (VL.map (·.val))|.eM,cs=>cs=[.pointer none]|.fa,cs=>cs=[.nilFunc]
def cK:List PV->List Value->Prop|[],cs=>cs=[]|x::r,cs=>∃c d,cs=c++d/\dU x c/\cK r d
def fB:List PV->Nat->Nat->Nat->Prop|[],_,_,_=>True|x::r,b,o,z=>(∃c,dU x c/\c.length=z/\Row w b o c)/\fB r b (o+z) z
def kM:List PV->List Value->Prop|[],vs=>vs=[]|x::r,vs=>∃c d,vs=pk x.isAgg c::d/\dU x c/\kM r d
end
def pD(v:PV)(val:Value):Prop:=∃c,dU w A v c/\val=pk v.isAgg c
end
section
variable{w:World}{A:Nat->Prop}
mutual
theorem dU.len:∀{v:PV}{cs:List Value},dU w A v cs->cs.length=v.cs|.int ..,cs,h=>by simp only[dU]at h;subst h;rfl|.bool _,cs,h=>by simp only[dU]at h;subst h;rfl|.str _,cs,h=>by simp only[dU]at h;subst h;rfl|.agg l,cs,h=>by simp only[dU]at h;simp only[PV.cs];exact cK.len h|.sl _,cs,h=>by simp only[dU]at h;obtain⟨a,cap,rfl,_⟩:=h;rfl|.ref _,cs,h=>by simp only[dU]at h;obtain⟨a,cap,rfl,_⟩:=h;rfl|.fn ..,cs,h=>by simp only[dU]at h;obtain⟨a,rfl,_⟩:=h;rfl|.mp ..,cs,h=>by simp only[dU]at h;rcases h with⟨rfl,_⟩|⟨_,_,_,rfl,_⟩<;>rfl|.eM,cs,h=>by simp only[dU]at h;subst h;rfl|.fa,cs,h=>by simp only[dU]at h;subst h;rfl
theorem cK.len:∀{l:List PV}{cs:List Value},cK w A l cs->cs.length=PV.b5 l|[],cs,h=>by simp only[cK]at h;subst h;rfl|x::r,cs,h=>by simp only[cK]at h;obtain⟨c,d,rfl,h1,h2⟩:=h;rw[aR,dU.len h1,cK.len h2,PV.b5]
end
variable{w':World}{A':Nat->Prop}
mutual
theorem dU.frame(hA:∀b,A b->A' b)(hw:∀b,A b->w'.heap[b]?=w.heap[b]?):∀{v:PV}{cs:List Value},dU w A v cs->dU w' A' v cs|.int ..,cs,h=>by simpa only[dU]using h|.bool _,cs,h=>by simpa only[dU]using h|.str _,cs,h=>by simpa only[dU]using h|.agg l,cs,h=>by simp only[dU]at h|-;exact cK.frame hA hw h|.sl l,cs,h=>by simp only[dU]at h|-;obtain⟨a,cap,rfl,hc,h⟩:=h;refine⟨a,cap,rfl,hc,?_⟩;rcases h with h|⟨b,o,z,rfl,hb,h⟩;exact .inl h;exact .inr ⟨b,o,z,rfl,hA b hb,fB.frame hA hw hb h⟩|.ref v,cs,h=>by simp only[dU]at h|-;obtain⟨b,o,rfl,hb,cv,h1,h2⟩:=h;exact⟨b,o,rfl,hA b hb,cv,dU.frame hA hw h1,h2.frame (hw b hb)⟩|.fn f l,cs,h=>by simp only[dU]at h|-;obtain⟨vs,rfl,h⟩:=h;exact⟨vs,rfl,kM.frame hA hw h⟩|.mp ks vs,cs,h=>by simp only[dU]at h|-;rcases h with h|⟨b,es,clock,rfl,hb,he,hwf,VL,hp,h1,h2⟩;exact .inl h;exact .inr ⟨b,es,clock,rfl,hA b hb,by rw[hw b hb,he],hwf,VL,hp,kM.frame hA hw h1,kM.frame hA hw h2⟩|.eM,cs,h=>by simpa only[dU]using h|.fa,cs,h=>by simpa only[dU]using h
theorem cK.frame(hA:∀b,A b->A' b)(hw:∀b,A b->w'.heap[b]?=w.heap[b]?):∀{l:List PV}{cs:List Value},cK w A l cs->cK w' A' l cs|[],cs,h=>by simpa only[cK]using h|x::r,cs,h=>by simp only[cK]at h|-;obtain⟨c,d,rfl,h1,h2⟩:=h;exact⟨c,d,rfl,dU.frame hA hw h1,cK.frame hA hw h2⟩
theorem fB.frame(hA:∀b,A b->A' b)(hw:∀b,A b->w'.heap[b]?=w.heap[b]?):∀{l:List PV}{b o z:Nat},A b->fB w A l b o z->fB w' A' l b o z|[],b,o,z,_,h=>by simp only[fB]|x::r,b,o,z,hb,h=>by simp only[fB]at h|-;obtain⟨⟨c,h1,h2,h3⟩,h4⟩:=h;exact⟨⟨c,dU.frame hA hw h1,h2,h3.frame (hw b hb)⟩,fB.frame hA hw hb h4⟩
theorem kM.frame(hA:∀b,A b->A' b)(hw:∀b,A b->w'.heap[b]?=w.heap[b]?):∀{l:List PV}{vs:List Value},kM w A l vs->kM w' A' l vs|[],vs,h=>by simpa only[kM]using h|x::r,vs,h=>by simp only[kM]at h|-;obtain⟨c,d,rfl,h1,h2⟩:=h;exact⟨c,d,rfl,dU.frame hA hw h1,kM.frame hA hw h2⟩
end
theorem pD.frame(hA:∀b,A b->A' b)(hw:∀b,A b->w'.heap[b]?=w.heap[b]?){v:PV}{val:Value}(h:pD w A v val):pD w' A' v val:=by obtain⟨c,h1,h2⟩:=h;exact⟨c,h1.frame hA hw,h2⟩
end
end Go.Mid
namespace Go.Mid
open Go.RowKit
def di:=Nat->Prop
def di.le(a b:di):Prop:=∀g,a g->b g
def di.add(a:di)(g:Nat):di:=λi=>a i\/i=g
theorem di.le_refl(a:di):a.le a:=λ_ h=>h
theorem di.le_trans{a b c:di}(h:a.le b)(k:b.le c):a.le c:=λg hg=>k g (h g hg)
theorem di.eF(a:di)(g:Nat):a.le (a.add g):=λ_ h=>.inl h
theorem di.iG(a:di)(g:Nat):(a.add g) g:=.inr rfl
def Sz(T e:TypeId)(b:Nat)(g:Option Nat)(bs:List Value)(w:World):Prop:=∃p v,(p=.pointer none\/p=.pointer (some ⟨b,0,none⟩))/\w.heap[b]?=some (.cells #[p,v] T (0,0))/\w.ownsRowF 0 e 1 v bs.length bs/\v.ownBlock=g/\g≠some b/\(bs=[]->v=.slice none 0 0)
theorem Sz.frame{T e:TypeId}{b:Nat}{g:Option Nat}{bs:List Value}{w w':World}(h:Sz T e b g bs w)(hb:w'.heap[b]?=w.heap[b]?)(hg:∀k,g=some k->w'.heap[k]?=w.heap[k]?):Sz T e b g bs w':=by obtain⟨p,v,h1,h2,h3,rfl,h5,h6⟩:=h;refine⟨p,v,h1,hb.trans h2,⟨h3.1,?_⟩,rfl,h5,h6⟩;rcases h3.2 with h|⟨g,cap,cur,fz,rfl,k1,k2,k3⟩;exact .inl h;exact .inr ⟨g,cap,cur,fz,rfl,k1,(hg g rfl).trans k2,k3⟩
def kU(an:An)(z off len:Nat)(a:Option Addr)(cap:Nat):Prop:=match an.b with|none=>len=0/\cap=0|some b=>(cap+off=an.cap/\an.cap<=9223372036854775807)/\((len=0/\cap=0)\/a=some ⟨b,off*z,none⟩)
section
variable(w:World)(A:Nat->Prop)(E:dP An)(nx:di)
mutual
def bR:MV->Value->Prop|.p v,val=>pD w A v val|.nil _,val=>∃a,val=.slice a 0 0|.own id path off len g,val=>nx g/\∃a cap,val=.slice a len cap/\len<=cap/\∀an z,fc (E id) (some path)=some (an,some z)->an.g=g->kU an z off len a cap|.ptr id np _ g o,val=>nx g/\∃a,val=.pointer (some a)/\∀an z,fc (E id) np=some (an,z)->an.g=g->∃b,an.b=some b/\a=⟨b,o,none⟩|.auG id path g,val=>nx g/\∃b,val=.map (some b)/\∀an z,fc (E id) (some path)=some (an,z)->an.g=g->an.b=some b|.agg l,val=>∃cs,val=.agg cs.toArray/\dW l cs|.fn f iR,val=>∃vs,val=xC f vs.toArray/\c9 iR vs|.eI l,val=>∃vs,val=.tuple vs.toArray/\c9 l vs|.dead _,_=>True
def dW:List MV->List Value->Prop|[],cs=>cs=[]|x::r,cs=>∃v d,cs=v.cells.toList++d/\v.cells.size=x.cs/\(∀c,v=.agg c->x.isAgg=true\/∃n,x=.dead n)/\bR x v/\dW r d
def c9:List MV->List Value->Prop|[],vs=>vs=[]|x::r,vs=>∃v d,vs=v::d/\bR x v/\c9 r d
end
mutual
def TAt:T An->Nat->Nat->Prop|.p v,b,o=>∃cs,dU w A v cs/\Row w b o cs|.m v,b,o=>v.cs=1/\v.isAgg=false/\∃val,bR w A E nx v val/\Row w b o [val]|.agg l,b,o=>cD l b o|.vec an z l n,b,o=>(∃a cap,Row w b o [.slice a n cap]/\n<=l.length/\kU an z 0 n a cap/\match an.b with|none=>l=[]/\an.cap=0|some b'=>lX w b' (an.cap*z)/\l.length<=an.cap/\(∀t∈l,t.cs=z)/\cD l b' 0)|.mp ..,_,_=>False|.hole n,b,o=>∀j,j<n->∃v,w.cell? ⟨b,o+j,none⟩=some v
def cD:List (T An)->Nat->Nat->Prop|[],_,_=>True|t::r,b,o=>TAt t b o/\cD r b (o+t.cs)
end
def VB(an:An)(z:Nat)(l:List (T An)):Prop:=match an.b with|none=>l=[]/\an.cap=0|some b=>lX w b (an.cap*z)/\l.length<=an.cap/\(∀t∈l,t.cs=z)/\cD w A E nx l b 0
def W1(es:Array MapEntry)(clock:Nat)(ks ws:List PV):Prop:=F0W es clock/\∃VL:List MapEntry,VL.Perm es.toList/\kM w A ks (VL.map (·.key))/\kM w A ws (VL.map (·.val))
def awP(an:An)(ks:List PV)(vs:List (T An)):Prop:=(∃b es clock ws,an.b=some b/\w.heap[b]?=some (.map es clock)/\vs=ws.map T.p/\W1 w A es clock ks ws)\/∃b ty e s OG,an.b=some b/\ks=[.fa,.int .i64 (ty:Nat),.int .i64 (e:Nat)]/\vs=[.p (.str s),.vec OG 1 [] 0]/\Sz ty e b OG.b (Lib.strCells s) w
def OAt:Obj An->Prop|.cell an t=>∃b,an.b=some b/\lX w b t.cs/\TAt w A E nx t b 0|.vec an z l=>VB w A E nx an z l|.mp an ks vs=>awP w A an ks vs|.gone=>True
end
mutual
def T.blk:T An->List Nat|.agg l=>T.dc l|.vec an _ l _=>an.b.toList++T.dc l|.mp an _ l=>an.b.toList++T.dc l|_=>[]
def T.dc:List (T An)->List Nat|[]=>[]|t::r=>t.blk++T.dc r
end
def Obj.blk:Obj An->List Nat|.cell an t=>an.b.toList++t.blk|.vec an _ l=>an.b.toList++T.dc l|.mp an _ l=>an.b.toList++T.dc l|.gone=>[]
mutual
def T.st(nx:di):T An->Prop|.agg l=>T.j9 nx l|.vec an _ l _=>nx an.g/\T.j9 nx l|.mp an _ _=>nx an.g|_=>True
def T.j9(nx:di):List (T An)->Prop|[]=>True|t::r=>t.st nx/\T.j9 nx r
end
def Obj.st(nx:di):Obj An->Prop|.cell an t=>nx an.g/\t.st nx|.vec an _ l=>nx an.g/\T.j9 nx l|.mp an _ _=>nx an.g|.gone=>True
def pf(nx:di)(E E':dP An):Prop:=∀id np an z,fc (E' id) np=some (an,z)->nx an.g->fc (E id) np=some (an,z)
theorem pf.refl(nx:di)(E:dP An):pf nx E E:=λ_ _ _ _ h _=>h
theorem pf.trans{nx nx':di}{E E' AR:dP An}(h:pf nx E E')(h':pf nx' E' AR)(hn:nx.le nx'):pf nx E AR:=λid np an z hh hg=>h id np an z (h' id np an z hh (hn _ hg)) hg
structure Fr (w w':World)(A A':Nat->Prop)(E E':dP An)(nx nx':di):Prop where
 hA:∀ b,A b->A' b
 hw:∀ b,A b->w'.heap[b]?=w.heap[b]?
 hE:pf nx E E'
 hn:nx.le nx'
section
variable{w w':World}{A A':Nat->Prop}{E E':dP An}{nx nx':di}
mutual
theorem bR.frame(f:Fr w w' A A' E E' nx nx'):∀{v:MV}{val:Value},bR w A E nx v val->bR w' A' E' nx' v val|.p v,val,h=>by simp only[bR]at h|-;exact h.frame f.hA f.hw|.nil _,val,h=>by simpa only[bR]using h|.own ..,val,h=>by simp only[bR]at h|-;obtain⟨hg,a,cap,rfl,hc,h⟩:=h;exact⟨f.hn _ hg,a,cap,rfl,hc,λan z hh ta=>h an z (f.hE _ _ _ _ hh (ta▸hg)) ta⟩|.ptr ..,val,h=>by simp only[bR]at h|-;obtain⟨hg,a,rfl,h⟩:=h;exact⟨f.hn _ hg,a,rfl,λan z hh ta=>h an z (f.hE _ _ _ _ hh (ta▸hg)) ta⟩|.auG ..,val,h=>by simp only[bR]at h|-;obtain⟨hg,a,rfl,h⟩:=h;exact⟨f.hn _ hg,a,rfl,λan z hh ta=>h an z (f.hE _ _ _ _ hh (ta▸hg)) ta⟩|.agg l,val,h=>by simp only[bR]at h|-;obtain⟨cs,rfl,h⟩:=h;exact⟨cs,rfl,dW.frame f h⟩|.fn _ l,val,h=>by simp only[bR]at h|-;obtain⟨vs,rfl,h⟩:=h;exact⟨vs,rfl,c9.frame f h⟩|.eI l,val,h=>by simp only[bR]at h|-;obtain⟨vs,rfl,h⟩:=h;exact⟨vs,rfl,c9.frame f h⟩|.dead _,val,h=>by simp only[bR]
theorem dW.frame(f:Fr w w' A A' E E' nx nx'):∀{l:List MV}{cs:List Value},dW w A E nx l cs->dW w' A' E' nx' l cs|[],cs,h=>by simpa only[dW]using h|x::r,cs,h=>by simp only[dW]at h|-;obtain⟨v,d,rfl,h1,h2,h3,h4⟩:=h;exact⟨v,d,rfl,h1,h2,bR.frame f h3,dW.frame f h4⟩
theorem c9.frame(f:Fr w w' A A' E E' nx nx'):∀{l:List MV}{vs:List Value},c9 w A E nx l vs->c9 w' A' E' nx' l vs|[],vs,h=>by simpa only[c9]using h|x::r,vs,h=>by simp only[c9]at h|-;obtain⟨v,d,rfl,h1,h2⟩:=h;exact⟨v,d,rfl,bR.frame f h1,c9.frame f h2⟩
end
mutual
theorem TAt.frame(f:Fr w w' A A' E E' nx nx'):∀{t:T An}{b o:Nat},(w'.heap[b]?=w.heap[b]?)->(∀x∈t.blk,w'.heap[x]?=w.heap[x]?)->TAt w A E nx t b o->TAt w' A' E' nx' t b o|.p v,b,o,hb,_,h=>by simp only[TAt]at h|-;obtain⟨cs,h1,h2⟩:=h;exact⟨cs,h1.frame f.hA f.hw,h2.frame hb⟩|.m v,b,o,hb,_,h=>by simp only[TAt]at h|-;obtain⟨h0,Db,val,h1,h2⟩:=h;exact⟨h0,Db,val,h1.frame f,h2.frame hb⟩|.agg l,b,o,hb,hk,h=>by simp only[TAt]at h|-;exact cD.frame f hb (by simpa only[T.blk]using hk) h|.vec an z l n,b,o,hb,hk,h=>(by simp only[TAt]at h|-;obtain⟨a,cap,h1,h2,h3,h4⟩:=h;refine⟨a,cap,h1.frame hb,h2,h3,?_⟩;cases kE:an.b with|none=>simpa only[kE]using h4|some b'=>simp only[kE]at h4|-;simp only[T.blk,kE,cg,aS,a7,aG]at hk;exact⟨h4.1.frame (hk b' (.inl rfl)),h4.2.1,h4.2.2.1,cD.frame f (hk b' (.inl rfl)) (λx hx=>hk x (.inr hx)) h4.2.2.2⟩)|.mp ..,_,_,_,_,h=>by simp only[TAt]at h|.hole n,b,o,hb,_,h=>by simp only[TAt]at h|-;intro j hj;rw[cell_of_heap hb];exact h j hj
theorem cD.frame(f:Fr w w' A A' E E' nx nx'):∀{l:List (T An)}{b o:Nat},(w'.heap[b]?=w.heap[b]?)->(∀x∈T.dc l,w'.heap[x]?=w.heap[x]?)->cD w A E nx l b o->cD w' A' E' nx' l b o|[],b,o,_,_,h=>by simp only[cD]|t::r,b,o,hb,hk,h=>by simp only[cD]at h|-;simp only[T.dc,List.mem_append]at hk;exact⟨TAt.frame f hb (λx hx=>hk x (.inl hx)) h.1,cD.frame f hb (λx hx=>hk x (.inr hx)) h.2⟩
end
theorem awP.frame{w w':World}{A A':Nat->Prop}{an:An}{ks:List PV}{vs:List (T An)}(hA:∀b,A b->A' b)(hw:∀b,A b->w'.heap[b]?=w.heap[b]?)(hb:∀b∈an.b.toList++T.dc vs,w'.heap[b]?=w.heap[b]?)(h:awP w A an ks vs):awP w' A' an ks vs:=by rcases h with⟨b,es,clock,ws,h1,h2,h3,hwf,VL,hp,h4,h5⟩|⟨b,ty,e,s,OG,h1,h2,h3,h4⟩;exact .inl ⟨b,es,clock,ws,h1,(hb b (by simp[h1])).trans h2,h3,hwf,VL,hp,h4.frame hA hw,h5.frame hA hw⟩;exact .inr ⟨b,ty,e,s,OG,h1,h2,h3,h4.frame (hb b (by simp[h1])) λk hk=>hb k (by simp[h3,T.dc,T.blk,hk])⟩
theorem OAt.frame(f:Fr w w' A A' E E' nx nx'){o:Obj An}(hk:∀x∈o.blk,w'.heap[x]?=w.heap[x]?)(h:OAt w A E nx o):OAt w' A' E' nx' o:=by cases o with|cell an t=>simp only[OAt]at h|-;obtain⟨b,hb,h1,h2⟩:=h;simp only[Obj.blk,hb,cg,aS,a7,aG]at hk;exact⟨b,hb,h1.frame (hk b (.inl rfl)),TAt.frame f (hk b (.inl rfl)) (λx hx=>hk x (.inr hx)) h2⟩|vec an z l=>(simp only[OAt,VB]at h|-;cases kE:an.b with|none=>simpa only[kE]using h|some b'=>simp only[kE]at h|-;simp only[Obj.blk,kE,cg,aS,a7,aG]at hk;exact⟨h.1.frame (hk b' (.inl rfl)),h.2.1,h.2.2.1,cD.frame f (hk b' (.inl rfl)) (λx hx=>hk x (.inr hx)) h.2.2.2⟩)|mp an ks vs=>simp only[OAt]at h|-;exact h.frame f.hA f.hw (λb hb=>hk b hb)|gone=>simp only[OAt]
end
def jr(E:dP An)(b:Nat):Prop:=∃i o,E i=some o/\b∈o.blk
structure MR (w:World)(A:Nat->Prop)(E:dP An)(h:cj)(nx:di):Prop where
 er:∀ i,h i=(E i).map (Obj.mapA An.g)
 at_:∀ i o,E i=some o->OAt w A E nx o
 lt:∀ b,jr E b->b<w.heap.size∧¬ A b
 nd:∀ i o,E i=some o->o.blk.Nodup
 dj:∀ i j o o',i≠j->E i=some o->E j=some o'->∀ b∈o.blk,b∉o'.blk
 im:∀ b,A b->b<w.heap.size
 st:∀ i o,E i=some o->o.st nx
structure gC (w:World)(A:Nat->Prop)(E:dP An)(nx:di)(w':World)(A':Nat->Prop)(E':dP An):Prop where
 os:w'.os=w.os
 tape:w'.tape=w.tape
 output:w'.output=w.output∧w.drawn<=w'.drawn
 size:w.heap.size<=w'.heap.size
 aSO:∀ b,b<w.heap.size->¬ jr E b->w'.heap[b]?=w.heap[b]?
 sub:∀ b,A b->A' b
 imm:∀ b,b<w.heap.size->A' b->A b∨jr E b
 own:∀ b,b<w.heap.size->jr E' b->jr E b
 ns:pf nx E E'
theorem gC.vL{w w':World}{A A':Nat->Prop}{E E':dP An}{nx:di}{h:cj}(m:MR w A E h nx)(g:gC w A E nx w' A' E')(b:Nat)(hb:A b):w'.heap[b]?=w.heap[b]?:=g.aSO b (m.im b hb) λho=>(m.lt b ho).2 hb
theorem gC.refl(w:World)(A:Nat->Prop)(E:dP An)(nx:di):gC w A E nx w A E:=⟨rfl,rfl,⟨rfl,ay _⟩,ay _,λ_ _ _=>rfl,λ_ h=>h,λ_ _ h=>.inl h,λ_ _ h=>h,pf.refl _ _⟩
theorem gC.trans{w w' Yh:World}{A A' Yi:Nat->Prop}{E E' AR:dP An}{nx nx':di}(h:gC w A E nx w' A' E')(k:gC w' A' E' nx' Yh Yi AR)(hn:nx.le nx'):gC w A E nx Yh Yi AR where
 os:=k.os.trans h.os
 tape:=k.tape.trans h.tape
 output:=⟨k.output.1.trans h.output.1,dF h.output.2 k.output.2⟩
 size:=dF h.size k.size
 aSO:=λb hb ho=>(k.aSO b (br hb h.size) λoZ=>ho (h.own b hb oZ)).trans (h.aSO b hb ho)
 sub:=λb hb=>k.sub b (h.sub b hb)
 imm:=λb hb hA=>(k.imm b (br hb h.size) hA).elim (h.imm b hb) λho=>.inr (h.own b hb ho)
 own:=λb hb ho=>h.own b hb (k.own b (br hb h.size) ho)
 ns:=h.ns.trans k.ns hn
theorem bR.go{w w':World}{A A':Nat->Prop}{E E':dP An}{nx nx':di}{h:cj}(m:MR w A E h nx)(g:gC w A E nx w' A' E')(hn:nx.le nx'){v:MV}{val:Value}(hv:bR w A E nx v val):bR w' A' E' nx' v val:=hv.frame ⟨g.sub,g.vL m,g.ns,hn⟩
end Go.Mid
namespace Go.Mid
open Go.RowKit
theorem RM{P:Program}{o:Oper}{a:Act}{w w':World}{next:Act->World->Prop}{Q:Exit->Act->World->Prop}{val:Value}(h:(execOp a.eval o).run P w=.ok (.value val) w')(hn:next (a.put o.dst val) w'):o.wp P a w next Q:=by unfold Oper.wp;rw[h];exact hn
theorem C57{P:Program}{o:Oper}{a:Act}{w w':World}{next:Act->World->Prop}{Q:Exit->Act->World->Prop}(h:(execOp a.eval o).run P w=.ok .skip w')(hn:next (a.put o.dst undef) w'):o.wp P a w next Q:=by unfold Oper.wp;rw[h];exact hn
def cC(P:Program)(o:Oper)(a:Act)(w:World)(A:Nat->Prop)(E:dP An)(nx:di)(γ:Nat)(v:MV)(h':cj):Prop:=∃val w' A' E',((execOp a.eval o).run P w=.ok (.value val) w'\/((execOp a.eval o).run P w=.ok .skip w'/\val=undef))/\bR w' A' E' (nx.add γ) v val/\MR w' A' E' h' (nx.add γ)/\gC w A E nx w' A' E'
mutual
theorem T.ka{n m:di}(h:n.le m):∀{t:T An},t.st n->t.st m|.p _,_=>trivial|.m _,_=>trivial|.agg l,k=>by simp only[T.st]at k|-;exact T.lY h k|.vec ..,k=>by simp only[T.st]at k|-;exact⟨h _ k.1,T.lY h k.2⟩|.mp ..,k=>by simp only[T.st]at k|-;exact h _ k|.hole _,_=>trivial
theorem T.lY{n m:di}(h:n.le m):∀{l:List (T An)},T.j9 n l->T.j9 m l|[],_=>trivial|_::_,k=>by simp only[T.j9]at k|-;exact⟨T.ka h k.1,T.lY h k.2⟩
end
theorem Obj.ka{n m:di}(h:n.le m){o:Obj An}(k:o.st n):o.st m:=by cases o<;>simp only[Obj.st]at k|-;exact⟨h _ k.1,T.ka h k.2⟩;exact⟨h _ k.1,T.lY h k.2⟩;exact h _ k
theorem Fr.same(w:World)(A:Nat->Prop)(E:dP An){n m:di}(h:n.le m):Fr w w A A E E n m:=⟨λ_ h=>h,λ_ _=>rfl,pf.refl _ _,h⟩
theorem MR.mono{w:World}{A:Nat->Prop}{E:dP An}{h:cj}{n m:di}(k:MR w A E h n)(hn:n.le m):MR w A E h m:=⟨k.er,λi o ho=>OAt.frame (Fr.same w A E hn) (λ_ _=>rfl) (k.at_ i o ho),k.lt,k.nd,k.dj,k.im,λi o ho=>Obj.ka hn (k.st i o ho)⟩
section
variable{P:Program}{o:Oper}{a:Act}{w:World}{A:Nat->Prop}{E:dP An}{nx:di}{γ:Nat}{v:MV}{h:cj}
theorem cC.idle{val:Value}(hr:(execOp a.eval o).run P w=.ok (.value val) w)(hv:bR w A E nx v val)(hm:MR w A E h nx):cC P o a w A E nx γ v h:=⟨val,w,A,E,.inl hr,hv.frame (Fr.same w A E (nx.eF γ)),hm.mono (nx.eF γ),gC.refl w A E nx⟩
end
section
variable{w:World}{A:Nat->Prop}{E:dP An}{nx:di}{val:Value}
theorem A1W{k:IntKind}{n:Int}:bR w A E nx (.p (.int k n)) val↔val=.int k n:=by simp only[bR,pD,dU,PV.isAgg,pk];constructor;rintro⟨c,rfl,rfl⟩;rfl;rintro rfl;exact⟨_,rfl,rfl⟩
theorem vM{b:Bool}:bR w A E nx (.p (.bool b)) val↔val=.bool b:=by simp only[bR,pD,dU,PV.isAgg,pk];constructor;rintro⟨c,rfl,rfl⟩;rfl;rintro rfl;exact⟨_,rfl,rfl⟩
theorem Cm{s:ByteArray}:bR w A E nx (.p (.str s)) val↔val=.string s:=by simp only[bR,pD,dU,PV.isAgg,pk];constructor;rintro⟨c,rfl,rfl⟩;rfl;rintro rfl;exact⟨_,rfl,rfl⟩
theorem Yj:bR w A E nx (.p .eM) val↔val=.pointer none:=by simp only[bR,pD,dU,PV.isAgg,pk];constructor;rintro⟨c,rfl,rfl⟩;rfl;rintro rfl;exact⟨_,rfl,rfl⟩
theorem Yk:bR w A E nx (.p .fa) val↔val=.nilFunc:=by simp only[bR,pD,dU,PV.isAgg,pk];constructor;rintro⟨c,rfl,rfl⟩;rfl;rintro rfl;exact⟨_,rfl,rfl⟩
theorem NZ{l:List PV}:bR w A E nx (.p (.agg l)) val↔∃cs,val=.agg cs.toArray/\cK w A l cs:=by simp only[bR,pD,dU,PV.isAgg,pk];constructor;rintro⟨c,h,rfl⟩;exact⟨c,rfl,h⟩;rintro⟨c,rfl,h⟩;exact⟨c,h,rfl⟩
theorem xD{l:List PV}:bR w A E nx (.p (.sl l)) val↔∃p cap,val=.slice p l.length cap/\l.length<=cap/\(l=[]\/∃b o z,p=some ⟨b,o,none⟩/\A b/\fB w A l b o z):=by simp only[bR,pD,dU,PV.isAgg,pk];constructor;rintro⟨c,⟨p,cap,rfl,h⟩,rfl⟩;exact⟨p,cap,rfl,h⟩;rintro⟨p,cap,rfl,h⟩;exact⟨_,⟨p,cap,rfl,h⟩,rfl⟩
theorem Cn{u:PV}:bR w A E nx (.p (.ref u)) val↔∃b o,val=.pointer (some ⟨b,o,none⟩)/\A b/\∃cv,dU w A u cv/\Row w b o cv:=by simp only[bR,pD,dU,PV.isAgg,pk];constructor;rintro⟨c,⟨b,o,rfl,h⟩,rfl⟩;exact⟨b,o,rfl,h⟩;rintro⟨b,o,rfl,h⟩;exact⟨_,⟨b,o,rfl,h⟩,rfl⟩
theorem N0{f:Nat}{l:List PV}:bR w A E nx (.p (.fn f l)) val↔∃vs,val=xC f vs.toArray/\kM w A l vs:=by simp only[bR,pD,dU,PV.isAgg,pk];constructor;rintro⟨c,⟨vs,rfl,h⟩,rfl⟩;exact⟨vs,rfl,h⟩;rintro⟨vs,rfl,h⟩;exact⟨_,⟨vs,rfl,h⟩,rfl⟩
end
def GL(P:Program)(w:World)(A:Nat->Prop):Prop:=∀g v,HZ P g=some v->pD w A (.ref v) (.pointer (some ⟨g,0,none⟩))
theorem GL.frame{P:Program}{w w':World}{A A':Nat->Prop}(h:GL P w A)(hA:∀b,A b->A' b)(hw:∀b,A b->w'.heap[b]?=w.heap[b]?):GL P w' A':=λg v hg=>(h g v hg).frame hA hw
structure qM (P:Program)(w:World)(A:Nat->Prop)(E:dP An)(nx:di)(s:gB)(a:Act):Prop where
 sl:∀ k,bR w A E nx (s k) (a.tmps.getD k undef)
 gl:GL P w A
section
variable{P:Program}{w:World}{A:Nat->Prop}{E:dP An}{nx:di}{s:gB}{a:Act}
theorem C58{t:TypeId}{v:Value}{m:MV}(h:RF P t v=some m):bR w A E nx m v:=by unfold RF at h;(split at h<;>try cases h);exact vM.2 rfl;exact A1W.2 rfl;exact Cm.2 rfl;exact Yj.2 rfl;exact Yk.2 rfl;simp only[bR,pD,dU];exact⟨_,.inl ⟨rfl,trivial,trivial⟩,rfl⟩;split at h<;>cases h<;>(simp only[bR];exact⟨none,rfl⟩)
theorem jP(hs:qM P w A E nx s a){t:TypeId}{x:Operand}{o:dJ}(h:fu P t x=some o):bR w A E nx (cJ s o) (a.eval x):=by unfold fu at h;cases x with|tmp n=>simp only[aa]at h;subst h;exact hs.sl n|const v=>simp only at h;split at h;rename_i m hm;cases h;exact C58 hm;cases h|global g=>simp only at h;split at h;rename_i v hv;cases h;simp only[cJ,bR];exact hs.gl g v hv;cases h|func f=>simp only at h;split at h;rename_i hf;cases h;exact N0.2 ⟨[],(RK hf).symm,by simp only[kM]⟩;cases h
theorem H0(hs:qM P w A E nx s a):∀{ts:List TypeId}{xs:List Operand}{os:List dJ},rT P ts xs=some os->c9 w A E nx (os.map (cJ s)) (xs.map a.eval)|[],[],os,h=>by simp only[rT]at h;cases h;simp only[bt,c9]|t::ts,[],os,h=>by simp only[rT]at h;cases h;simp only[bt,c9]|[],x::r,os,h=>by simp only[rT]at h;split at h;rename_i o Yl h1 h2;cases h;simp only[aF,c9];exact⟨_,_,rfl,jP hs h1,H0 hs h2⟩;cases h|t::ts,x::r,os,h=>by simp only[rT]at h;split at h;rename_i o Yl h1 h2;cases h;simp only[aF,c9];exact⟨_,_,rfl,jP hs h1,H0 hs h2⟩;cases h
end
section
variable{P:Program}(w:World)
theorem Ym(op:BinOp)(k:IntKind)(x y n:Int)(h:JS op k x y=some n):(yj op k x y).run P w=.ok (.int k n) w:=by cases op<;>simp[JS]at h<;>subst h<;>simp[yj]
theorem Yn{t:TypeId}(ht:P.underlying t=some .bool)(m n:Bool):(ln t (.bool m) (.bool n)).run P w=.ok (m==n) w:=by(have h:∀d,(gF (d+1) t (.bool m) (.bool n)).run P w=.ok (m==n) w:=by intro d;simp[gF,aZ ht w]);exact h 9999
theorem C7V (op:BinOp)(t:TypeId){x y z:PV}(h:jB op x y=some z){A:Nat->Prop}{E:dP An}{nx:di}{a b:Value}
 (ha:bR w A E nx (.p x) a) (hb:bR w A E nx (.p y) b) (auv:(∃ p,x=.bool p)->P.underlying t=some .bool) :
 ∃ c,(binOp op t a b).run P w=.ok c w∧bR w A E nx (.p z) c∧∀ X Y,(eqGuard op t X Y a b).run P w=.ok () w:=by
 cases x<;>cases y<;>simp only [jB] at h<;>try cases h
 . rename_i k m k' n
   rw [A1W] at ha hb
   subst ha;subst hb
   have hg:∀ X Y,(eqGuard op t X Y (.int k m) (.int k' n)).run P w=.ok () w:=by
    intro X Y;unfold eqGuard;cases op<;>simp
   cases op<;>simp only at h
   all_goals first
    | (split at h
       . cases h
       . rename_i hk
         simp only [ne_eq,Decidable.not_not] at hk
         subst hk
         first
          | (simp only [aa] at h;subst h
             refine ⟨_,?_,A1W.2 rfl,hg⟩
             simp [binOp,wE];done)
          | (simp only [aa] at h;subst h
             refine ⟨_,?_,vM.2 rfl,hg⟩
             simp [binOp,Op.intCmp];done)
          | (split at h
             . cases h
             . rename_i hz
               simp only [aa] at h;subst h
               refine ⟨_,?_,A1W.2 rfl,hg⟩
               simp [binOp,Op.intDiv,hz];done)
          | (split at h
             . rename_i r hr
               simp only [aa] at h;subst h
               refine ⟨_,?_,A1W.2 rfl,hg⟩
               have:=Ym (P:=P) w _ k m n r hr
               simpa [binOp] using this
             . cases h))
    | (split at h
       . cases h
       . rename_i hz
         simp only [aa] at h;subst h
         refine ⟨_,?_,A1W.2 rfl,hg⟩
         simp [binOp,Op.shift,hz];done)
 . rename_i m n
   rw [vM] at ha hb
   subst ha;subst hb
   have ht:=auv ⟨_,rfl⟩
   have hg:∀ X Y,(eqGuard op t X Y (.bool m) (.bool n)).run P w=.ok () w:=by
    intro X Y;unfold eqGuard;cases op<;>simp
   cases op<;>simp only at h<;>cases h
   . refine ⟨_,?_,vM.2 rfl,hg⟩
     have e:binOp .eql t (.bool m) (.bool n)=(do pure (.bool (← ln t (.bool m) (.bool n)))):=rfl
     rw [e]
     simp only [bn,Yn w ht,aU,bL]
   . refine ⟨_,?_,vM.2 rfl,hg⟩
     have e:binOp .neq t (.bool m) (.bool n)=(do pure (.bool (!(← ln t (.bool m) (.bool n))))):=rfl
     rw [e]
     simp only [bn,Yn w ht,aU,bL]
 . rename_i m n
   rw [Cm] at ha hb
   subst ha;subst hb
   have hg:∀ X Y,(eqGuard op t X Y (.string m) (.string n)).run P w=.ok () w:=by
    intro X Y;unfold eqGuard;cases op<;>simp
   cases op<;>simp only at h
   all_goals first
    | cases h;done
    | (simp only [aa] at h;subst h
       refine ⟨_,?_,vM.2 rfl,hg⟩
       simp [binOp,wF];done)
    | (split at h
       . rename_i hz
         simp only [aa] at h;subst h
         refine ⟨_,?_,Cm.2 rfl,hg⟩
         have Co:¬ (((m.size+n.size:Nat):Int)>IntKind.i64.max):=by
          simp only [IntKind.max,IntKind.signed,IntKind.bits];simp;omega
         simp [binOp,wF]
         omega
       . cases h)
end
end Go.Mid
namespace Go.Mid
open Go.RowKit
section
variable{w:World}{A:Nat->Prop}{E:dP An}{nx:di}
theorem cK.get:∀{l:List PV}{cs:List Value}{i:Nat}{x:PV},cK w A l cs->l[i]?=some x->∃p c q,cs=p++c++q/\p.length=PV.b5 (l.take i)/\dU w A x c|[],_,i,x,_,hi=>by simp at hi|y::r,cs,0,x,h,hi=>by simp only[cK]at h;obtain⟨c,d,rfl,h1,h2⟩:=h;simp only[bQ,aa]at hi;subst hi;exact⟨[],c,d,rfl,rfl,h1⟩|y::r,cs,i+1,x,h,hi=>by simp only[cK]at h;obtain⟨c,d,rfl,h1,h2⟩:=h;simp only[bK]at hi;obtain⟨p,c',q,rfl,hp,hc⟩:=cK.get h2 hi;refine⟨c++p,c',q,by simp only[bg],?_,hc⟩;rw[aR,hp,h1.len,bU,PV.b5]
theorem dW.get:∀{l:List MV}{cs:List Value}{i:Nat}{x:MV},dW w A E nx l cs->l[i]?=some x->∃p v q,cs=p++v.cells.toList++q/\p.length=MV.b5 (l.take i)/\v.cells.size=x.cs/\(∀c,v=.agg c->x.isAgg=true\/∃n,x=.dead n)/\bR w A E nx x v|[],_,i,x,_,hi=>by simp at hi|y::r,cs,0,x,h,hi=>by simp only[dW]at h;obtain⟨v,d,rfl,h1,h2,h3,h4⟩:=h;simp only[bQ,aa]at hi;subst hi;exact⟨[],v,d,rfl,rfl,h1,h2,h3⟩|y::r,cs,i+1,x,h,hi=>by simp only[dW]at h;obtain⟨v,d,rfl,h1,h2,h3,h4⟩:=h;simp only[bK]at hi;obtain⟨p,v',q,rfl,hp,hc⟩:=dW.get h4 hi;refine⟨v.cells.toList++p,v',q,by simp only[bg],?_,hc⟩;rw[aR,hp,Array.length_toList,h1,bU,MV.b5]
theorem dU.one{v:PV}{c:List Value}(h:dU w A v c)(hv:v.isAgg=false):∃x,c=[x]/\x.cells=#[x]:=by(cases v<;>simp only[dU]at h<;>try(subst h;exact⟨_,rfl,rfl⟩));simp[PV.isAgg]at hv;obtain⟨a,cap,rfl,_⟩:=h;exact⟨_,rfl,rfl⟩;obtain⟨a,cap,rfl,_⟩:=h;exact⟨_,rfl,rfl⟩;obtain⟨a,rfl,_⟩:=h;exact⟨_,rfl,NX _ _⟩;rcases h with⟨rfl,_⟩|⟨_,_,_,rfl,_⟩<;>exact⟨_,rfl,rfl⟩
theorem dU.avn{v:PV}{c:List Value}(h:dU w A v c):(pk v.isAgg c).cells=c.toArray:=by cases hv:v.isAgg with|true=>simp[pk,Value.cells]|false=>obtain⟨x,rfl,hx⟩:=h.one hv;simp[pk,hx]
theorem bR.xE{x:MV}{v:Value}(h:bR w A E nx x v)(hx:x.isAgg=false)(hd:∀n,x≠.dead n):v.cells=#[v]:=by cases x with|p u=>simp only[bR,pD]at h;obtain⟨c,h1,rfl⟩:=h;simp only[MV.isAgg]at hx;obtain⟨y,rfl,hy⟩:=h1.one hx;simp[pk,hx,hy]|nil=>simp only[bR]at h;obtain⟨a,rfl⟩:=h;rfl|own=>simp only[bR]at h;obtain⟨_,a,cap,rfl,_⟩:=h;rfl|ptr=>simp only[bR]at h;obtain⟨_,a,rfl,_⟩:=h;rfl|auG=>simp only[bR]at h;obtain⟨_,a,rfl,_⟩:=h;rfl|agg=>simp[MV.isAgg]at hx|fn=>simp only[bR]at h;obtain⟨_,rfl,_⟩:=h;exact NX _ _|eI=>simp only[bR]at h;obtain⟨_,rfl,_⟩:=h;rfl|dead n=>exact absurd rfl (hd n)
theorem bR.FW{x:MV}{v:Value}(h:bR w A E nx x v)(hx:x.isAgg=true):∃c,v=.agg c:=by cases x<;>simp only[MV.isAgg,aI]at hx;rename_i u;cases u<;>simp only[PV.isAgg,aI]at hx;obtain⟨cs,rfl,_⟩:=NZ.1 h;exact⟨_,rfl⟩;simp only[bR]at h;obtain⟨cs,rfl,_⟩:=h;exact⟨_,rfl⟩
theorem bR.JZ{x:MV}{v:Value}(h:bR w A E nx x v)(hd:∀n,x≠.dead n):pk x.isAgg v.cells.toList=v:=by cases hx:x.isAgg with|true=>obtain⟨c,rfl⟩:=h.FW hx;simp[pk,Value.cells]|false=>have:=h.xE hx hd;simp[pk,this]
end
section
variable{P:Program}(w:World)
theorem RN{t:TypeId}(h:P.cellsOf t≠0):∃i,P.info? t=some i/\i.size=P.cellsOf t:=by unfold Program.cellsOf at h|-;cases hi:P.info? t with|none=>simp[hi]at h|some i=>exact⟨i,rfl,by simp⟩
theorem B4K{t:TypeId}{d:TypeDesc}(h:P.underlying t=some d):∃i,P.info? t=some i/\i.size=P.cellsOf t:=by unfold Program.underlying at h;unfold Program.cellsOf;cases hi:P.info? t with|none=>simp[hi]at h|some i=>exact⟨i,rfl,by simp⟩
theorem Yo{t:TypeId}{i:TypeInfo}(h:P.info? t=some i):(sizeOf t).run P w=.ok i.size w:=by simp[sizeOf,typeInfo,h]
theorem FX{t:TypeId}(h:rS P t=true):(sizeOf t).run P w=.ok (P.cellsOf t) w:=by unfold rS at h;obtain⟨d,hd⟩:=eX.1 h;obtain⟨i,hi,hs⟩:=B4K hd;rw[Yo w hi,hs]
theorem Dc{t:TypeId}(h:P.cellsOf t≠0):(sizeOf t).run P w=.ok (P.cellsOf t) w:=by obtain⟨i,hi,hs⟩:=RN h;rw[Yo w hi,hs]
theorem Yp{t:TypeId}(h:rS P t=true):(isAgg t).run P w=.ok (mW P t) w:=by unfold rS at h;obtain⟨d,hd⟩:=eX.1 h;simp only[isAgg,bn,aZ hd,aU,mW,hd];cases d<;>rfl
theorem H3{t:TypeId}(h:rS P t=true)(p c q:List Value)(hc:c.length=P.cellsOf t)(h1:mW P t=false->c.length=1):(part t (p++c++q).toArray p.length).run P w=.ok (pk (mW P t) c) w:=by simp only[part,bn,Yp w h,aU];cases hg:mW P t with|true=>simp only[if_true,bn,FX w h,aU,bL,pk];congr 2;rw[<-hc];apply Array.ext';simp[List.drop_left',List.take_left']|false=>have hl:=h1 hg;obtain⟨x,rfl⟩:=List.length_eq_one_iff.1 hl;simp[pk]
end
section
variable{P:Program}{w:World}{A:Nat->Prop}
def TD.isAgg:TD->Bool|.agg _=>true|_=>false
mutual
theorem FY:∀{d:TD}{x:PV},qd d x=true->x.cs=d.cs/\x.isAgg=d.isAgg|.int _,.int ..,_=>⟨rfl,rfl⟩|.bool,.bool _,_=>⟨rfl,rfl⟩|.str,.str _,_=>⟨rfl,rfl⟩|.agg l,.agg m,h=>by simp only[qd]at h;simp only[PV.cs,TD.cs,PV.isAgg,TD.isAgg,and_true];exact Yq h|.int _,.bool _,h|.int _,.str _,h|.int _,.agg _,h|.int _,.sl _,h|.int _,.ref _,h|.int _,.fn ..,h|.int _,.mp ..,h|.int _,.eM,h|.int _,.fa,h=>by simp[qd]at h|.bool,.int ..,h|.bool,.str _,h|.bool,.agg _,h|.bool,.sl _,h|.bool,.ref _,h|.bool,.fn ..,h|.bool,.mp ..,h|.bool,.eM,h|.bool,.fa,h=>by simp[qd]at h|.str,.int ..,h|.str,.bool _,h|.str,.agg _,h|.str,.sl _,h|.str,.ref _,h|.str,.fn ..,h|.str,.mp ..,h|.str,.eM,h|.str,.fa,h=>by simp[qd]at h|.agg _,.int ..,h|.agg _,.bool _,h|.agg _,.str _,h|.agg _,.sl _,h|.agg _,.ref _,h|.agg _,.fn ..,h|.agg _,.mp ..,h|.agg _,.eM,h|.agg _,.fa,h=>by simp[qd]at h
theorem Yq:∀{l:List TD}{m:List PV},uh l m=true->PV.b5 m=TD.b5 l|[],[],_=>rfl|d::l,x::m,h=>by simp only[uh,aj]at h;simp only[PV.b5,TD.b5,(FY h.1).1,Yq h.2]|[],_::_,h|_::_,[],h=>by simp[uh]at h
end
theorem RO{n:Nat}{t:TypeId}{d:TD}(h:AQ P n t=some d):rS P t=true/\mW P t=d.isAgg:=by cases n with|zero=>simp[AQ]at h|succ n=>unfold AQ at h;unfold rS mW;cases hu:P.underlying t with|none=>rw[hu]at h;cases h|some dd=>rw[hu]at h;cases dd<;>simp only at h<;>first|(cases h;exact⟨rfl,rfl⟩)|(cases h;done)|(split at h;cases h;split at h;cases h;exact⟨rfl,rfl⟩;cases h)|(split at h;split at h;cases h;exact⟨rfl,rfl⟩;cases h;cases h)
theorem Yr {n:Nat}{e:TypeId}{d:TD}{z:Nat}(f:Nat)(hz:P.cellsOf e=z)(hu:rS P e=true)(hagg:mW P e=d.isAgg)(hd:d.cs=z)
 (ih:∀ (x y:PV) (cx cy:List Value),qd d x=true->qd d y=true->dU w A x cx->dU w A y cy->(gF (f+n) e (pk x.isAgg cx) (pk y.isAgg cy)).run P w=.ok (xu x y) w) :
 ∀ (k i:Nat) (xs ys:List PV) (px cx py cy:List Value),uh (au k d) xs=true->uh (au k d) ys=true->cK w A xs cx->cK w A ys cy->
  px.length=i*z->py.length=i*z->
  ((forIn (List.range' i k) ((none,()):Option Bool×Unit) λj r=>do
    let a ← part e (px++cx).toArray (j*z)
    let b ← part e (py++cy).toArray (j*z)
    let c ← gF (f+n) e a b
    if (!c)=true then pure (ForInStep.done (some false,())) else pure (ForInStep.yield (none,())):Sem (Option Bool×Unit))).run P w =
    .ok (if zd xs ys then (none,()) else (some false,())) w
 | 0,i,xs,ys,px,cx,py,cy,hx,hy,_,_,_,_=>by
   cases xs with
   | nil=>cases ys with
     | nil=>simp [zd]
     | cons=>simp [uh] at hy
   | cons=>simp [uh] at hx
 | k+1,i,xs,ys,px,cx,py,cy,hx,hy,rx,ry,lx,ly=>by
   cases xs with
   | nil=>simp [cB,uh] at hx
   | cons x xs =>
     cases ys with
     | nil=>simp [cB,uh] at hy
     | cons y ys =>
       simp only [cB,uh,aj] at hx hy
       simp only [cK] at rx ry
       obtain ⟨c1,d1,rfl,r1,r2⟩:=rx
       obtain ⟨c2,d2,rfl,s1,s2⟩:=ry
       obtain ⟨w7,hx2⟩:=FY hx.1
       obtain ⟨EE,hy2⟩:=FY hy.1
       have e1:=H3 (P:=P) w hu px c1 d1 (by rw [r1.len,w7,hd,hz]) (λh=>by rw [hagg] at h;rw [← hx2] at h;obtain ⟨_,rfl,_⟩:=r1.one h;rfl)
       have e2:=H3 (P:=P) w hu py c2 d2 (by rw [s1.len,EE,hd,hz]) (λh=>by rw [hagg] at h;rw [← hy2] at h;obtain ⟨_,rfl,_⟩:=s1.one h;rfl)
       rw [hagg,← hx2] at e1
       rw [hagg,← hy2] at e2
       rw [lx] at e1;rw [ly] at e2
       rw [List.range'_succ,List.forIn_cons]
       simp only [← bg] at e1 e2 ⊢
       simp only [bn,e1,e2,aU,ih x y c1 c2 hx.1 hy.1 r1 s1,wH]
       cases he:xu x y with
       | false=>simp [zd,he]
       | true =>
         simp only [bO,aI,if_false,bL,aU]
         have:=Yr f hz hu hagg hd ih k (i+1) xs ys (px++c1) d1 (py++c2) d2 hx.2 hy.2 r2 s2
          (by rw [aR,lx,r1.len,w7,hd,du]) (by rw [aR,ly,s1.len,EE,hd,du])
         simp only [zd,he,dm]
         exact this
end
end Go.Mid
namespace Go.Mid
open Go.RowKit
section
variable{P:Program}{w:World}{A:Nat->Prop}
theorem Ys{n f:Nat}(ih:∀(t:TypeId)(d:TD),AQ P n t=some d->∀(x y:PV)(cx cy:List Value),qd d x=true->qd d y=true->dU w A x cx->dU w A y cy->(gF (f+n) t (pk x.isAgg cx) (pk y.isAgg cy)).run P w=.ok (xu x y) w):∀(fs:List Field)(off:Nat)(ds:List TD)(xs ys:List PV)(px cx py cy:List Value),JY P (fs.map λf=>(f,AQ P n f.type)) off=some ds->uh ds xs=true->uh ds ys=true->cK w A xs cx->cK w A ys cy->px.length=off->py.length=off->(rR (f+n) (px++cx).toArray (py++cy).toArray fs).run P w=.ok (zd xs ys) w|[],off,ds,xs,ys,px,cx,py,cy,h,hx,hy,_,_,_,_=>by simp only[aF,bt,JY]at h;cases h;cases xs<;>cases ys<;>simp[uh]at hx hy;simp[rR,zd]|fd::fs,off,ds,xs,ys,px,cx,py,cy,h,hx,hy,rx,ry,lx,ly=>by simp only[aF,bt,JY]at h;split at h;rename_i d ds' h1 h2;split at h;rename_i hc;obtain⟨vN,lD,eV⟩:=hc;cases h;(cases xs with|nil=>simp[uh]at hx|cons x xs=>cases ys with|nil=>simp[uh]at hy|cons y ys=>simp only[uh,aj]at hx hy;simp only[cK]at rx ry;obtain⟨c1,d1,rfl,r1,r2⟩:=rx;obtain⟨c2,d2,rfl,s1,s2⟩:=ry;obtain⟨w7,hx2⟩:=FY hx.1;obtain⟨EE,hy2⟩:=FY hy.1;obtain⟨hu,hagg⟩:=RO h1;have e1:=H3 (P:=P) w hu px c1 d1 (by rw[r1.len,w7,eV]) (λh=>by rw[hagg]at h;rw[<-hx2]at h;obtain⟨_,rfl,_⟩:=r1.one h;rfl);have e2:=H3 (P:=P) w hu py c2 d2 (by rw[s1.len,EE,eV]) (λh=>by rw[hagg]at h;rw[<-hy2]at h;obtain⟨_,rfl,_⟩:=s1.one h;rfl);rw[hagg,<-hx2]at e1;rw[hagg,<-hy2]at e2;rw[lx,<-lD]at e1;rw[ly,<-lD]at e2;have RP:=Ys ih fs (off+P.cellsOf fd.type) ds' xs ys (px++c1) d1 (py++c2) d2 h2 hx.2 hy.2 r2 s2 (by rw[aR,lx,r1.len,w7,eV]) (by rw[aR,ly,s1.len,EE,eV]);simp only[<-bg]at e1 e2|-;simp only[rR,if_pos vN,bn,e1,e2,aU,ih fd.type d h1 x y c1 c2 hx.1 hy.1 r1 s1,wH];cases he:xu x y with|false=>simp[zd,he]|true=>simp only[bO,aI,if_false,zd,he,dm];exact RP);cases h;cases h
theorem Yt:∀(n:Nat)(f:Nat)(t:TypeId)(d:TD),AQ P n t=some d->∀(x y:PV)(cx cy:List Value),qd d x=true->qd d y=true->dU w A x cx->dU w A y cy->(gF (f+n) t (pk x.isAgg cx) (pk y.isAgg cy)).run P w=.ok (xu x y) w|0,_,_,_,h=>by simp[AQ]at h|n+1,f,t,d,h=>by intro x y cx cy hx hy rx ry;have ih:=Yt n;unfold AQ at h;cases hu:P.underlying t with|none=>rw[hu]at h;cases h|some dd=>rw[hu]at h;(cases dd<;>simp only at h<;>try(cases h;done));cases h;cases x<;>simp[qd]at hx;cases y<;>simp[qd]at hy;simp only[dU]at rx ry;subst rx;subst ry;exact run_equalIn_bool' w (f+n) t _ _ hu;cases h;cases x<;>simp[qd]at hx;cases y<;>simp[qd]at hy;simp only[dU]at rx ry;subst rx;subst ry;subst hx;subst hy;exact run_equalIn_int w (f+n) t _ _ _ _ hu;cases h;cases x<;>simp[qd]at hx;cases y<;>simp[qd]at hy;simp only[dU]at rx ry;subst rx;subst ry;exact run_equalIn_string w (f+n) t _ _ hu;rename_i len e;split at h;rename_i d' h1;split at h;rename_i eV;cases h;cases x<;>simp only[qd,aI]at hx;cases y<;>simp only[qd,aI]at hy;simp only[dU]at rx ry;obtain⟨Yu,hagg⟩:=RO h1;have:=Yr (P:=P) (w:=w) (A:=A) (n:=n) (e:=e) (d:=d') (z:=P.cellsOf e) f rfl Yu hagg eV (ih f e d' h1) len 0 _ _ [] cx [] cy hx hy rx ry (by simp) (by simp);simp only[a7]at this;rw[show f+(n+1)=(f+n)+1 from rfl];simp only[pk,PV.isAgg,if_true,gF,bn,aZ hu,aU,FX w Yu];(have hs:([:len]:Std.Legacy.Range).size=len:=by simp[Std.Legacy.Range.size]);rw[Std.Legacy.Range.forIn_eq_forIn_range',hs];simp only at this|-;rw[this];simp only[xu];cases zd _ _<;>rfl;cases h;cases h;rename_i fs;split at h;cases h;rename_i hst;split at h;rename_i ds h1;cases h;cases x<;>simp only[qd,aI]at hx;cases y<;>simp only[qd,aI]at hy;simp only[dU]at rx ry;(have Yv:P.fieldsOf t=fs:=by simp[Program.fieldsOf,hu]);have:=run_equalIn_struct (P:=P) w (f+n) t cx.toArray cy.toArray (by rw[Yv];exact hu) (by simpa using hst);rw[show f+(n+1)=(f+n)+1 from rfl];simp only[pk,PV.isAgg,if_true];rw[this,Yv];have:=Ys (ih f) fs.toList 0 ds _ _ [] cx [] cy h1 hx hy rx ry rfl rfl;simpa[xu]using this;cases h
end
end Go.Mid
namespace Go.Mid
open Go.RowKit
theorem FZ(a:Act)(v:Value):a.eval (.const v)=v:=rfl
section
variable{P:Program}{o:Oper}{a:Act}{w:World}{A:Nat->Prop}{E:dP An}{nx:di}{γ:Nat}{v:MV}{h h':cj}{s:gB}{K:jm}{d:Option Nat}(hs:qM P w A E nx s a)(hm:MR w A E h nx)
include hs hm
theorem Yw{x:Operand}{y:dJ}(ho:o.op=.move x\/o.op=.assign x)(hx:fu P o.type x=some y)(he:cb K γ d s h (.move y)=some (v,h')):cC P o a w A E nx γ v h':=by simp only[cb,aa,ae]at he;obtain⟨rfl,rfl⟩:=he;refine cC.idle ?_ (jP hs hx) hm;rcases ho with ho|ho<;>simp[execOp,ho]
theorem C9H{c x y:Operand}{c' x' y':dJ}(ho:o.op=.pick c x y){t0:TypeId}(hc:fu P t0 c=some c'){t1 t2:TypeId}(hx:fu P t1 x=some x')(hy:fu P t2 y=some y')(he:cb K γ d s h (.pick c' x' y')=some (v,h')):cC P o a w A E nx γ v h':=by simp only[cb]at he;split at he;rename_i b hb;simp only[aa,ae]at he;obtain⟨rfl,rfl⟩:=he;have Cp:=jP hs hc;rw[hb,vM]at Cp;refine cC.idle (val:=if b then a.eval x else a.eval y) ?_ ?_ hm;simp[execOp,ho,Cp,asBool];cases b;exact jP hs hy;exact jP hs hx;cases he
theorem C9I{x:Operand}{y:dJ}(ho:o.op=.nilCheck x){t:TypeId}(hx:fu P t x=some y)(he:cb K γ d s h (.nilc y)=some (v,h')):cC P o a w A E nx γ v h':=by have hv:=jP hs hx;simp only[cb]at he;split at he;rename_i u hu;simp only[aa,ae]at he;obtain⟨rfl,rfl⟩:=he;rw[hu]at hv;obtain⟨b,o',cE,_⟩:=Cn.1 hv;refine cC.idle (val:=a.eval x) ?_ hv hm;simp[execOp,ho,cE];rename_i id np rp g o' hu;simp only[aa,ae]at he;obtain⟨rfl,rfl⟩:=he;rw[hu]at hv;refine cC.idle (val:=a.eval x) ?_ hv hm;simp only[bR]at hv;obtain⟨_,p,cE,_⟩:=hv;simp[execOp,ho,cE];cases he
theorem RQ{bl:Bool}{op:BinOp}{t yt:TypeId}{x y:Operand}{x' y':dJ}(ho:o.op=.binOp op t x y yt)(hx:fu P t x=some x')(hy:fu P yt y=some y')(hb:P.underlying t=some .bool\/(∃k,P.underlying t=some (.int k))\/P.underlying t=some .string)(auv:bl=true->P.underlying t=some .bool)(he:cb K γ d s h (.bin bl op x' y')=some (v,h')):cC P o a w A E nx γ v h':=by have dI:=jP hs hx;have w8:=jP hs hy;simp only[cb]at he;split at he;rename_i p q hp hq;split at he;rename_i vn;split at he;rename_i r hr;simp only[aa,ae]at he;obtain⟨rfl,rfl⟩:=he;rw[hp]at dI;rw[hq]at w8;obtain⟨c,qg,pg,ur⟩:=C7V (P:=P) w op t hr dI w8 (by rintro⟨b,rfl⟩;exact auv vn.symm);refine cC.idle (val:=c) ?_ pg hm;simp[execOp,ho,ur,qg];cases he;cases he;cases he
theorem N1{op:BinOp}{t yt:TypeId}{x y:Operand}{x' y':dJ}{neg:Bool}{td:TD}(ho:o.op=.binOp op t x y yt)(eW:op=if neg then .neq else .eql)(hx:fu P t x=some x')(hy:fu P yt y=some y')(zh:C2i P t=some td)(hagg:mW P t=true)(he:cb K γ d s h (.eqs neg td x' y')=some (v,h')):cC P o a w A E nx γ v h':=by have dI:=jP hs hx;have w8:=jP hs hy;simp only[cb]at he;split at he;rename_i p q hp hq;split at he;rename_i su;simp only[aj]at su;simp only[aa,ae,Ce]at he;obtain⟨rfl,rfl⟩:=he;rw[hp]at dI;rw[hq]at w8;unfold C2i at zh;split at zh;cases zh;rename_i hg;(have ta:P.eqGuardType P.depth t=false:=by simpa using hg);simp only[bR,pD]at dI w8;obtain⟨cx,rx,ex⟩:=dI;obtain⟨cy,ry,ey⟩:=w8;have hu:=RO zh;(have sg:p.isAgg=true:=by rw[(FY su.1).2,<-hu.2,hagg]);(have Yx:q.isAgg=true:=by rw[(FY su.2).2,<-hu.2,hagg]);have hr:=Yt (P:=P) (w:=w) (A:=A) 20 9980 t td zh p q cx cy su.1 su.2 rx ry;rw[sg,Yx]at hr;rw[sg]at ex;rw[Yx]at ey;simp only[pk,if_true]at hr ex ey;refine cC.idle (val:=.bool (xu p q !=neg)) ?_ (vM.2 rfl) hm;(cases neg with|false=>simp only[aI,if_false]at eW;subst eW;simp only[execOp,ho,ex,ey,bn,aBV w _ _ _ _ _ _ ta,aU,run_eql_struct,hr,bL,Bool.bne_false]|true=>simp only[if_true]at eW;subst eW;simp only[execOp,ho,ex,ey,bn,aBV w _ _ _ _ _ _ ta,aU,run_neq_struct,hr,bL,Bool.bne_true]);cases he;cases he
theorem D1E{t:TypeId}{x:Operand}{x':dJ}(ho:o.op=.unOp .not t x)(hx:fu P t x=some x')(he:cb K γ d s h (.not x')=some (v,h')):cC P o a w A E nx γ v h':=by have dI:=jP hs hx;simp only[cb]at he;split at he;rename_i b hb;simp only[aa,ae,Ce]at he;obtain⟨rfl,rfl⟩:=he;rw[hb,vM]at dI;refine cC.idle (val:=.bool !b) ?_ (vM.2 rfl) hm;simp[execOp,ho,dI,wJ];cases he
theorem D1F{t:TypeId}{x:Operand}{x':dJ}(ho:o.op=.unOp .neg t x)(hx:fu P t x=some x')(he:cb K γ d s h (.neg x')=some (v,h')):cC P o a w A E nx γ v h':=by have dI:=jP hs hx;simp only[cb]at he;split at he;rename_i k n hb;simp only[aa,ae]at he;obtain⟨rfl,rfl⟩:=he;rw[hb,A1W]at dI;refine cC.idle (val:=.int k (k.wrap (0-n))) ?_ (A1W.2 rfl) hm;simp[execOp,ho,dI,wJ,wE];cases he
theorem D1G{t:TypeId}{x:Operand}{x':dJ}(ho:o.op=.unOp .xor t x)(hx:fu P t x=some x')(he:cb K γ d s h (.inv x')=some (v,h')):cC P o a w A E nx γ v h':=by have dI:=jP hs hx;simp only[cb]at he;split at he;rename_i k n hb;split at he;rename_i m RR;simp only[aa,ae]at he;obtain⟨rfl,rfl⟩:=he;rw[hb,A1W]at dI;refine cC.idle (val:=.int k m) ?_ (A1W.2 rfl) hm;have:=Ym (P:=P) w .xor k (if k.signed then-1 else k.max) n m RR;simp[execOp,ho,dI,wJ,this];cases he;cases he
theorem C7W{src dst:TypeId}{k0 k:IntKind}{x:Operand}{x':dJ}(ho:o.op=.convert src dst x)(hx:fu P src x=some x')(h0:P.underlying src=some (.int k0))(h1:P.underlying dst=some (.int k))(he:cb K γ d s h (.convI k x')=some (v,h')):cC P o a w A E nx γ v h':=by have dI:=jP hs hx;simp only[cb]at he;split at he;rename_i k1 n hb;simp only[aa,ae]at he;obtain⟨rfl,rfl⟩:=he;rw[hb,A1W]at dI;refine cC.idle (val:=.int k (k.wrap n)) ?_ (A1W.2 rfl) hm;simp[execOp,ho,dI,convert,aZ h0,aZ h1,Conv.intToInt];cases he
theorem C7X{src dst:TypeId}{x:Operand}{x':dJ}(ho:o.op=.convert src dst x)(hx:fu P src x=some x')(h0:P.underlying src=some .string)(h1:P.underlying dst=some .string)(he:cb K γ d s h (.convS x')=some (v,h')):cC P o a w A E nx γ v h':=by have dI:=jP hs hx;simp only[cb]at he;split at he;rename_i b hb;simp only[aa,ae]at he;obtain⟨rfl,rfl⟩:=he;rw[hb,Cm]at dI;refine cC.idle (val:=.string b) ?_ (Cm.2 rfl) hm;simp[execOp,ho,dI,convert,aZ h0,aZ h1];cases he
theorem C7Y{src dst:TypeId}{k0:IntKind}{x:Operand}{x':dJ}(ho:o.op=.convert src dst x)(hx:fu P src x=some x')(h0:P.underlying src=some (.int k0))(h1:P.underlying dst=some .string)(he:cb K γ d s h (.convR x')=some (v,h')):cC P o a w A E nx γ v h':=by have dI:=jP hs hx;simp only[cb]at he;split at he;rename_i k1 n hb;simp only[aa,ae]at he;obtain⟨rfl,rfl⟩:=he;rw[hb,A1W]at dI;refine cC.idle (val:=.string (Utf8.encode n)) ?_ (Cm.2 rfl) hm;simp[execOp,ho,dI,convert,aZ h0,aZ h1,Conv.intToString];cases he
theorem Yy {op:BinOp}{t yt e:TypeId}{x:Operand}{x':dJ}{neg:Bool}(ho:o.op=.binOp op t x (.const (.pointer none)) yt)(eW:op=if neg then .neq else .eql)
 (hx:fu P t x=some x') (hu:P.underlying t=some (.pointer e))
 (he:cb K γ d s h (.isnil false neg x')=some (v,h')):cC P o a w A E nx γ v h':=by
 have dI:=jP hs hx
 have main:∀ (b:Bool) (p:Option Addr),a.eval x=.pointer p->b=p.isNone->cC P o a w A E nx γ (Ce (b != neg)) h:=by
  intro b p hp hb
  refine cC.idle (val:=.bool (b != neg)) ?_ (vM.2 rfl) hm
  have h0:∀ f,(gF (f+1) t (.pointer p) (.pointer none)).run P w=.ok b w:=by
   intro f
   subst hb
   cases p<;>simp [gF,aZ hu]
  have h1:(ln t (.pointer p) (.pointer none)).run P w=.ok b w:=h0 9999
  have h2:(eqGuard op t x (.const (.pointer none)) (.pointer p) (.pointer none)).run P w=.ok () w:=by
   unfold eqGuard;cases op<;>simp
  cases neg with
  | false =>
    simp only [aI,if_false] at eW
    subst eW
    have e1:binOp .eql t (.pointer p) (.pointer none)=(do pure (.bool (← ln t (.pointer p) (.pointer none)))):=by cases p<;>rfl
    simp [execOp,ho,hp,FZ,h2,e1,h1]
  | true =>
    simp only [if_true] at eW
    subst eW
    have e1:binOp .neq t (.pointer p) (.pointer none)=(do pure (.bool (!(← ln t (.pointer p) (.pointer none))))):=by cases p<;>rfl
    simp [execOp,ho,hp,FZ,h2,e1,h1]
 simp only [cb] at he
 split at he<;>simp only [aa,ae,reduceCtorEq] at he<;>try contradiction
 . obtain ⟨rfl,rfl⟩:=he
   rename_i hb
   rw [hb,Yj] at dI
   exact main true none dI rfl
 . obtain ⟨rfl,rfl⟩:=he
   rename_i hb
   rw [hb] at dI
   obtain ⟨b,o',cE,_⟩:=Cn.1 dI
   exact main false _ cE rfl
 . obtain ⟨rfl,rfl⟩:=he
   rename_i hb
   rw [hb] at dI
   simp only [bR] at dI
   obtain ⟨_,p,cE,_⟩:=dI
   exact main false _ cE rfl
theorem Yz {op:BinOp}{t yt:TypeId}{ps rs:Array TypeId}{vr:Bool}{x:Operand}{x':dJ}{neg:Bool}(ho:o.op=.binOp op t x (.const .nilFunc) yt)(eW:op=if neg then .neq else .eql)
 (hx:fu P t x=some x') (hu:P.underlying t=some (.func ps rs vr))
 (he:cb K γ d s h (.isnil true neg x')=some (v,h')):cC P o a w A E nx γ v h':=by
 have dI:=jP hs hx
 have main:∀ (b:Bool) (p:Value),a.eval x=p->(p=.nilFunc∧b=true∨(∃ f i c,p=.func f i c)∧b=false)->cC P o a w A E nx γ (Ce (b != neg)) h:=by
  intro b p hp hb
  refine cC.idle (val:=.bool (b != neg)) ?_ (vM.2 rfl) hm
  have h0:∀ f,(gF (f+1) t p .nilFunc).run P w=.ok b w:=by
   intro f
   rcases hb with ⟨rfl,rfl⟩ | ⟨⟨f,i,c,rfl⟩,rfl⟩<;>simp [gF,aZ hu]
  have h1:(ln t p .nilFunc).run P w=.ok b w:=h0 9999
  have h2:(eqGuard op t x (.const .nilFunc) p .nilFunc).run P w=.ok () w:=by
   rcases hb with ⟨rfl,rfl⟩ | ⟨⟨f,i,c,rfl⟩,rfl⟩<;>(unfold eqGuard;cases op<;>simp)
  cases neg with
  | false =>
    simp only [aI,if_false] at eW
    subst eW
    have e1:binOp .eql t p .nilFunc=(do pure (.bool (← ln t p .nilFunc))):=by
     rcases hb with ⟨rfl,rfl⟩ | ⟨⟨f,i,c,rfl⟩,rfl⟩<;>rfl
    simp [execOp,ho,hp,FZ,h2,e1,h1]
  | true =>
    simp only [if_true] at eW
    subst eW
    have e1:binOp .neq t p .nilFunc=(do pure (.bool (!(← ln t p .nilFunc)))):=by
     rcases hb with ⟨rfl,rfl⟩ | ⟨⟨f,i,c,rfl⟩,rfl⟩<;>rfl
    simp [execOp,ho,hp,FZ,h2,e1,h1]
 simp only [cb] at he
 split at he<;>simp only [aa,ae,reduceCtorEq] at he<;>try contradiction
 . obtain ⟨rfl,rfl⟩:=he
   rename_i hb
   rw [hb,Yk] at dI
   exact main true _ dI (.inl ⟨rfl,rfl⟩)
 . obtain ⟨rfl,rfl⟩:=he
   rename_i hb
   rw [hb] at dI
   obtain ⟨vs,cE,_⟩:=N0.1 dI
   exact main false _ cE (.inr ⟨RL _ _,rfl⟩)
 . obtain ⟨rfl,rfl⟩:=he
   rename_i hb
   rw [hb] at dI
   simp only [bR] at dI
   obtain ⟨vs,cE,_⟩:=dI
   exact main false _ cE (.inr ⟨RL _ _,rfl⟩)
theorem D1H{x:Operand}{i:Nat}{x':dJ}{t:TypeId}(ho:o.op=.extract x i)(hx:fu P t x=some x')(he:cb K γ d s h (.ext x' i)=some (v,h')):cC P o a w A E nx γ v h':=by have dI:=jP hs hx;simp only[cb]at he;split at he;rename_i l hb;split at he;rename_i u hi;simp only[aa,ae]at he;obtain⟨rfl,rfl⟩:=he;rw[hb]at dI;simp only[bR]at dI;obtain⟨vs,cE,hl⟩:=dI;(have key:∀{l:List MV}{vs:List Value}{i:Nat},c9 w A E nx l vs->l[i]?=some u->∃x,vs[i]?=some x/\bR w A E nx u x:=by intro l;induction l with|nil=>intro vs i _ hi;simp at hi|cons y r ih=>intro vs i hl hi;simp only[c9]at hl;obtain⟨x,d,rfl,h1,h2⟩:=hl;cases i with|zero=>simp at hi;subst hi;exact⟨x,rfl,h1⟩|succ i=>simp at hi;simpa using ih h2 hi);obtain⟨x,w7,hx2⟩:=key hl hi;refine cC.idle (val:=x) ?_ hx2 hm;simp[execOp,ho,cE,Instr.extract,w7];cases he;cases he
end
end Go.Mid
