/- The middle semantics: values, owned memory, instructions and their execution (definitions only). -/
import Derived.Orders
import Derived.Below
import Derived.Laws.StructEq
namespace Go.Mid
set_option linter.unusedSimpArgs false
set_option linter.unusedVariables false
inductive PV where
 |int (k:IntKind) (n:Int)
 |bool (b:Bool)
 |str (s:ByteArray)
 |agg (l:List PV)
 |sl (l:List PV)
 |ref (v:PV)
 |fn (f:Nat) (caps:List PV)
 |mp (ks vs:List PV)
 |nilp
 |nilf
 deriving Inhabited
inductive MV where
 |p (v:PV)
 |nil (z:Nat)
 |own (id:Nat) (path:List Nat) (off len g:Nat)
 |ptr (id:Nat) (np:Option (List Nat)) (rp:List Nat) (g o:Nat)
 |mref (id:Nat) (path:List Nat) (g:Nat)
 |agg (l:List MV)
 |fn (f:Nat) (caps:List MV)
 |tup (l:List MV)
 |dead (n:Nat)
instance:Inhabited MV:=⟨.dead 0⟩
inductive T (α:Type) where
 |p (v:PV)
 |m (v:MV)
 |agg (l:List (T α))
 |vec (a:α) (z:Nat) (l:List (T α)) (n:Nat)
 |mp (a:α) (ks:List PV) (vs:List (T α))
 |hole (n:Nat)
instance {α:Type}:Inhabited (T α):=⟨.hole 0⟩
inductive Obj (α:Type) where
 |cell (a:α) (t:T α)
 |vec (a:α) (z:Nat) (l:List (T α))
 |mp (a:α) (ks:List PV) (vs:List (T α))
 |gone
instance {α:Type}:Inhabited (Obj α):=⟨.gone⟩
abbrev A0o:=Nat->MV
abbrev A0f (α:Type):=Nat->Option (Obj α)
abbrev A0b:=A0f Nat
def upd {α:Type}(f:Nat->α)(k:Nat)(v:α):Nat->α:=λi=>if i=k then v else f i
def updo (f:A0o)(k:Option Nat)(v:MV):A0o:=match k with | some d=>upd f d v | none=>f
structure St where
 s:A0o
 h:A0b
 nx:Nat
mutual
def PV.cs:PV->Nat
 |.agg l=>PV.css l
 |_=>1
def PV.css:List PV->Nat
 | []=>0
 |x::xs=>x.cs+PV.css xs
end
mutual
def MV.cs:MV->Nat
 |.p v=>v.cs
 |.agg l=>MV.css l
 |.tup _=>0
 |.dead n=>n
 |_=>1
def MV.css:List MV->Nat
 | []=>0
 |x::xs=>x.cs+MV.css xs
end
section
variable {α:Type}
mutual
def T.cs:T α->Nat
 |.p v=>v.cs
 |.m v=>v.cs
 |.agg l=>T.css l
 |.vec .. | .mp ..=>1
 |.hole n=>n
def T.css:List (T α)->Nat
 | []=>0
 |x::xs=>x.cs+T.css xs
end
def PV.isAgg:PV->Bool | .agg _=>true | _=>false
def MV.isAgg:MV->Bool | .agg _=>true | .p v=>v.isAgg | _=>false
def A3h:List MV->Option (List PV)
 | []=>some []
 |.p v::r=>match A3h r with | some l=>some (v::l) | none=>none
 |_::_=>none
def A50 (l:List MV):MV:=match A3h l with | some vs=>.p (.agg vs) | none=>.agg l
def A1h:List (T α)->Option (List PV)
 | []=>some []
 |.p v::r=>match A1h r with | some l=>some (v::l) | none=>none
 |_::_=>none
def A0z (l:List (T α)):T α:=match A1h l with | some vs=>.p (.agg vs) | none=>.agg l
def A0e:T α->List Nat->Option (T α)
 |t,[]=>some t
 |.p (.agg l),i::r=>match l[i]? with | some v=>A0e (.p v) r | none=>none
 |.agg l,i::r=>match l[i]? with | some t=>A0e t r | none=>none
 |.vec _ _ l _,i::r=>match l[i]? with | some t=>A0e t r | none=>none
 |_,_::_=>none
def A0j (ob:Option (Obj α))(path:List Nat):Option (T α) :=
 match ob,path with
 |some (.cell _ t),p=>A0e t p
 |some (.vec _ _ l),i::r=>match l[i]? with | some t=>A0e t r | none=>none
 |_,_=>none
def A0D (ob:Option (Obj α))(path:List Nat):Option (α×Nat×List (T α)) :=
 match ob,path with
 |some (.vec a z l),[]=>some (a,z,l)
 | ob,p=>match A0j ob p with
   |some (.vec a z l _)=>some (a,z,l)
   |_=>none
def mapAt (ob:Option (Obj α))(path:List Nat):Option (α×List PV×List (T α)) :=
 match ob,path with
 |some (.mp a ks vs),[]=>some (a,ks,vs)
 |_,_=>none
def A1b:T α->List Nat->Nat->Option (T α×Nat)
 |t,[],o=>some (t,o)
 |.p (.agg l),i::r,o=>match l[i]? with | some v=>A1b (.p v) r (o+PV.css (l.take i)) | none=>none
 |.agg l,i::r,o=>match l[i]? with | some t=>A1b t r (o+T.css (l.take i)) | none=>none
 |_,_::_,_=>none
def look (ob:Option (Obj α))(np:Option (List Nat))(rp:List Nat):Option (T α×α×Nat) :=
 match np with
 | none=>match ob with
   |some (.cell a t)=>match A1b t rp 0 with | some (u,o)=>some (u,a,o) | none=>none
   |_=>none
 | some p=>match A0D ob p,rp with
   | some (a,z,l),i::r=>match l[i]? with
     |some t=>match A1b t r (i*z) with | some (u,o)=>some (u,a,o) | none=>none
     |none=>none
   |_,_=>none
def A5q (np:Option (List Nat))(rp:List Nat):List Nat:=np.getD []++rp
def A0h (ob:Option (Obj α))(np:Option (List Nat)):Option (α×Option Nat) :=
 match np with
 | none=>match ob with
   |some (.cell a _)=>some (a,none)
   |_=>none
 | some p=>match ob,p with
   |some (.vec a z _),[]=>some (a,some z)
   |some (.mp a _ _),[]=>some (a,none)
   | ob,p=>match A0j ob p with
     |some (.vec a z _ _)=>some (a,some z)
     |some (.mp a _ _)=>some (a,none)
     |_=>none
def putT:T α->List Nat->T α->Option (T α)
 |_,[],u=>some u
 | .p (.agg l),i::r,u=>match l[i]? with
   | some v=>match putT (.p v) r u with
     |some w=>some (A0z ((l.map T.p).set i w))
     |none=>none
   |none=>none
 | .agg l,i::r,u=>match l[i]? with
   | some t=>match putT t r u with
     |some w=>some (A0z (l.set i w))
     |none=>none
   |none=>none
 | .vec g z l n,i::r,u=>match l[i]? with
   | some t=>match putT t r u with
     |some w=>some (.vec g z (l.set i w) n)
     |none=>none
   |none=>none
 |_,_::_,_=>none
def put (ob:Option (Obj α))(path:List Nat)(u:T α):Option (Obj α) :=
 match ob,path with
 |some (.cell a t),p=>match putT t p u with | some w=>some (.cell a w) | none=>none
 | some (.vec g z l),i::r=>match l[i]? with
   |some t=>match putT t r u with | some w=>some (.vec g z (l.set i w)) | none=>none
   |none=>none
 |_,_=>none
end
mutual
def A76 (id:Nat)(path:List Nat):T Nat->MV
 |.p v=>.p v
 |.m v=>v
 |.agg l=>A50 (A7v id path 0 l)
 |.vec g _ _ n=>.own id path 0 n g
 |.mp g _ _=>.mref id path g
 |.hole n=>.dead n
def A7v (id:Nat)(path:List Nat)(i:Nat):List (T Nat)->List MV
 | []=>[]
 |t::r=>A76 id (path++[i]) t::A7v id path (i+1) r
end
mutual
def A4B:T Nat->Option PV
 |.p v=>some v
 |.m _=>none
 |.agg l=>match A0J l with | some vs=>some (.agg vs) | none=>none
 |.vec _ _ l n=>match A0J l with | some vs=>some (.sl (vs.take n)) | none=>none
 |.mp _ ks vs=>match A0J vs with | some ws=>some (.mp ks ws) | none=>none
 |.hole _=>none
def A0J:List (T Nat)->Option (List PV)
 | []=>some []
 |t::r=>match A4B t,A0J r with | some v,some vs=>some (v::vs) | _,_=>none
end
mutual
def A1k (h:A0b):MV->Option PV
 |.p v=>some v
 |.nil _=>some (.sl [])
 | .own id path off len g=>match A0D (h id) path with
   | some (g',_,l)=>if g'=g∧off+len<=l.length then
      match A0J l with | some vs=>some (.sl ((vs.drop off).take len)) | none=>none
     else none
   |none=>none
 | .ptr id np rp g o=>match look (h id) np rp with
   |some (t,s,o')=>if s=g∧o'=o then match A4B t with | some v=>some (.ref v) | none=>none else none
   |none=>none
 |.mref ..=>none
 |.agg l=>match A2C h l with | some vs=>some (.agg vs) | none=>none
 |.fn f caps=>match A2C h caps with | some vs=>some (.fn f vs) | none=>none
 |.tup _=>none
 |.dead _=>none
def A2C (h:A0b):List MV->Option (List PV)
 | []=>some []
 |x::r=>match A1k h x,A2C h r with | some v,some vs=>some (v::vs) | _,_=>none
end
end Go.Mid
/- The middle semantics: instructions and their execution (definitions only). -/
namespace Go.Mid
set_option linter.unusedSimpArgs false
set_option linter.unusedVariables false
inductive Opd where
 |t (n:Nat)
 |c (v:MV)
 |f (id:Nat)
 deriving Inhabited
inductive TD where
 |int (k:IntKind)
 |bool
 |str
 |agg (l:List TD)
 deriving Inhabited
mutual
def TD.cs:TD->Nat
 |.agg l=>TD.css l
 |_=>1
def TD.css:List TD->Nat
 | []=>0
 |x::r=>x.cs+TD.css r
end
mutual
def A2V:TD->PV->Bool
 |.int k,.int k' _=>k==k'
 |.bool,.bool _=>true
 |.str,.str _=>true
 |.agg l,.agg m=>A4d l m
 |_,_=>false
def A4d:List TD->List PV->Bool
 | [],[]=>true
 |t::r,x::q=>A2V t x&&A4d r q
 |_,_=>false
end
mutual
def eqV:PV->PV->Bool
 |.int _ a,.int _ b=>a==b
 |.bool a,.bool b=>a==b
 |.str a,.str b=>a.toList==b.toList
 |.agg l,.agg m=>A9k l m
 |_,_=>false
def A9k:List PV->List PV->Bool
 | [],[]=>true
 |x::r,y::q=>eqV x y&&A9k r q
 |_,_=>false
end
inductive MOp where
 |move (x:Opd)
 |nilv (z:Nat)
 |pick (c a b:Opd)
 |box (x:Opd)
 |build (zs:List Nat) (parts:List Opd)
 |bsl (mt:Bool) (z:Nat) (parts:List Opd)
 |bslp (z:Nat) (parts:List Opd)
 |load (agg:Bool) (n:Nat) (x:Opd)
 |store (n:Nat) (a x:Opd)
 |nilc (x:Opd)
 |bin (bl:Bool) (op:BinOp) (x y:Opd)
 |eqs (neg:Bool) (td:TD) (x y:Opd)
 |isnil (fk neg:Bool) (x:Opd)
 |not (x:Opd)
 |neg (x:Opd)
 |inv (x:Opd)
 |convI (k:IntKind) (x:Opd)
 |convS (x:Opd)
 |convR (x:Opd)
 |mkfn (f:Nat) (caps:List Opd)
 |mksl (z bytes:Nat) (zero:MV) (len cap:Opd)
 |slice (z:Nat) (x:Opd) (lo hi:Option Opd)
 |sliceS (x:Opd) (lo hi:Option Opd)
 |cut0 (z:Nat) (x:Opd)
 |clr (z:Nat) (zero:PV) (x:Opd)
 |faddr (x:Opd) (i o:Nat)
 |fld (agg:Bool) (n o:Nat) (x:Opd) (i:Nat)
 |iaddr (z:Nat) (x i:Opd)
 |iaddrA (n z:Nat) (x i:Opd)
 |idx (agg:Bool) (z n:Nat) (x i:Opd)
 |idxS (x i:Opd)
 |ext (x:Opd) (i:Nat)
 |call (md:Nat) (f:Opd) (args:List Opd)
 |len (x:Opd)
 |lenS (x:Opd)
 |capn (x:Opd)
 |slice3 (x lo hi mx:Opd)
 |appn (z bytes:Nat) (zero:MV) (x n:Opd)
 |appk (z:Nat) (x y:Opd)
 |sliceK (z:Nat) (x lo hi:Opd)
 |slA (n z:Nat) (x:Opd)
 |app (pz:Bool) (z bytes:Nat) (x y:Opd)
 |cpy (z:Nat) (x y:Opd)
 |mx (l:List Opd)
 |mn (l:List Opd)
 |mkmap (k v:TD)
 |mlook (td:TD) (zero:MV) (ok:Bool) (m k:Opd)
 |mset (td:TD) (m k v:Opd)
 |mdel (m k:Opd)
 |bad
 deriving Inhabited
structure Ins where
 dst:Option Nat
 guard:Option (Nat×Bool):=none
 op:MOp
 deriving Inhabited
inductive Gh where
 |freeze (s:Nat)
 |keep (ks ids:List Nat)
 deriving Inhabited
inductive MC where
 |skip
 |reg (loose:List (Nat×Nat)) (ops:List Ins)
 |seq (a b:MC)
 |cond (c:Opd) (a b:MC)
 |block (id:Nat) (c:MC)
 |loop (ks ids:List Nat) (c:MC)
 |exit (id:Nat)
 |ret
 |gh (g:Gh)
 |bad
 deriving Inhabited
inductive RV where
 |tmp (t:Nat)
 |cell (a:Nat) (agg:Bool) (n:Nat)
 deriving Inhabited
structure MFun where
 body:MC
 res:List RV
 frz:Bool
 deriving Inhabited
inductive Ex where
 |normal | exit (id:Nat) | ret
 deriving DecidableEq,Inhabited
def B7V (op:BinOp)(k:IntKind)(x y:Int):Option Int :=
 match op with
 |.and=>some (k.wrap (BitVec.ofInt k.bits x &&& BitVec.ofInt k.bits y).toNat)
 |.or=>some (k.wrap (BitVec.ofInt k.bits x ||| BitVec.ofInt k.bits y).toNat)
 |.xor=>some (k.wrap (BitVec.ofInt k.bits x ^^^ BitVec.ofInt k.bits y).toNat)
 |.andNot=>some (k.wrap (BitVec.ofInt k.bits x &&& ~~~ BitVec.ofInt k.bits y).toNat)
 |_=>none
def A0Z (op:BinOp):PV->PV->Option PV
 |.int k a,.int k' b =>
   match op with
   |.shl=>if b<0 then none else some (.int k (k.wrap (a*2 ^ min b.toNat k.bits)))
   |.shr=>if b<0 then none else some (.int k (a.fdiv (2 ^ min b.toNat k.bits)))
   |op=>if k≠k' then none else
     match op with
     |.add=>some (.int k (k.wrap (a+b)))
     |.sub=>some (.int k (k.wrap (a-b)))
     |.mul=>some (.int k (k.wrap (a*b)))
     |.quo=>if b=0 then none else some (.int k (k.wrap (a.tdiv b)))
     |.rem=>if b=0 then none else some (.int k (a.tmod b))
     |.eql=>some (.bool (a==b))
     |.neq=>some (.bool (a != b))
     |.lss=>some (.bool (a<b))
     |.leq=>some (.bool (a<=b))
     |.gtr=>some (.bool (a>b))
     |.geq=>some (.bool (a ≥ b))
     |op=>match B7V op k a b with | some n=>some (.int k n) | none=>none
 |.str a,.str b =>
   match op with
   |.add=>if a.size+b.size<=9223372036854775807 then some (.str (a++b)) else none
   |.eql=>some (.bool (a.toList==b.toList))
   |.neq=>some (.bool !(a.toList==b.toList))
   |.lss=>some (.bool (Op.bytesLess a.toList b.toList))
   |.leq=>some (.bool (Op.bytesLess a.toList b.toList || a.toList==b.toList))
   |.gtr=>some (.bool !(Op.bytesLess a.toList b.toList || a.toList==b.toList))
   |.geq=>some (.bool !(Op.bytesLess a.toList b.toList))
   |_=>none
 |.bool a,.bool b =>
   match op with
   |.eql=>some (.bool (a==b))
   |.neq=>some (.bool !(a==b))
   |_=>none
 |_,_=>none
mutual
def A0M:MV->List Nat
 |.own id .. | .ptr id .. | .mref id ..=>[id]
 |.agg l | .fn _ l | .tup l=>A0W l
 |_=>[]
def A0W:List MV->List Nat
 | []=>[]
 |x::r=>A0M x++A0W r
end
section
variable {α:Type}
mutual
def A5k:T α->List Nat
 |.m v=>A0M v
 |.agg l=>A1G l
 |.vec _ _ l _=>A1G l
 |.mp _ _ l=>A1G l
 |_=>[]
def A1G:List (T α)->List Nat
 | []=>[]
 |x::r=>A5k x++A1G r
end
def A8C:Option (Obj α)->List Nat
 |some (.cell _ t)=>A5k t
 |some (.vec _ _ l)=>A1G l
 |some (.mp _ _ l)=>A1G l
 |_=>[]
end
def A51 (h:A0b)(id:Nat)(path:List Nat)(g:Nat):Bool :=
 match A0D (h id) path with | some (g',_,_)=>g'==g | none=>false
def A7Z (h:A0b)(id:Nat)(np:Option (List Nat))(rp:List Nat)(g o:Nat):Bool :=
 match look (h id) np rp with | some (_,s,o')=>s==g&&o'==o | none=>false
def B0P (h:A0b)(id:Nat)(path:List Nat)(g:Nat):Bool :=
 match mapAt (h id) path with | some (g',_,_)=>g'==g | none=>false
mutual
def A0y (h:A0b)(ρ:Nat->Option Nat)(ζ:Nat->Nat):MV->MV
 | .own id path off len g=>match ρ id with
   |some j=>if A51 h id path g then .own j path off len (ζ g) else .dead 1
   |none=>.dead 1
 | .ptr id np rp g o=>match ρ id with
   |some j=>if A7Z h id np rp g o then .ptr j np rp (ζ g) o else .dead 1
   |none=>.dead 1
 | .mref id path g=>match ρ id with
   |some j=>if B0P h id path g then .mref j path (ζ g) else .dead 1
   |none=>.dead 1
 |.agg l=>.agg (A2m h ρ ζ l)
 |.fn f l=>.fn f (A2m h ρ ζ l)
 |.tup l=>.tup (A2m h ρ ζ l)
 |v=>v
def A2m (h:A0b)(ρ:Nat->Option Nat)(ζ:Nat->Nat):List MV->List MV
 | []=>[]
 |x::r=>A0y h ρ ζ x::A2m h ρ ζ r
end
section
variable {α:Type}(φ:MV->MV)(ζ:α->α)
mutual
def A0R:T α->T α
 |.m v=>.m (φ v)
 |.agg l=>.agg (A0H l)
 |.vec g s l n=>.vec (ζ g) s (A0H l) n
 |.mp g ks l=>.mp (ζ g) ks (A0H l)
 |.p v=>.p v
 |.hole n=>.hole n
def A0H:List (T α)->List (T α)
 | []=>[]
 |x::r=>A0R x::A0H r
end
def A1j:Obj α->Obj α
 |.cell a t=>.cell (ζ a) (A0R φ ζ t)
 |.vec g s l=>.vec (ζ g) s (A0H φ ζ l)
 |.mp g ks l=>.mp (ζ g) ks (A0H φ ζ l)
 |.gone=>.gone
end
def A0n (g:Nat):Nat:=if g=0 then 0 else 1
def A64 (ids:List Nat)(i:Nat):Bool:=1000000<=i || ids.contains (i%1000)
def A2N (ids:List Nat)(i:Nat):Option Nat:=if A64 ids i then some i else none
def A2D (ks ids:List Nat)(σ:St):St :=
 { s:=λk=>if ks.contains k then A0y σ.h (A2N ids) A0n (σ.s k) else .dead 0
   h:=λi=>if A64 ids i then(σ.h i).map (A1j (A0y σ.h (A2N ids) A0n) A0n) else none
   nx:=2 }
def A0N (g:Nat)(l:List (T Nat)):List (T Nat):=A0H (λv=>v) (λ_=>g) l
def A7L (g:Nat)(t:T Nat):T Nat:=A0R (λv=>v) (λ_=>g) t
mutual
def A2b (g:Nat)(h:A0b):MV->Option (T Nat×A0b)
 |.p v=>some (.p v,h)
 | .own id path off len g'=>match h id,path with
   |some (.vec g'' z l),[]=>if g'=g''∧off=0∧len<=l.length then some (.vec g z (A0N g l) len,upd h id (some .gone)) else none
   | ob,path=>match A0j ob path with
     | some (.vec g'' z l _)=>if g'=g''∧off=0∧len<=l.length then
        match put ob path (.hole 1) with | some o=>some (.vec g z (A0N g l) len,upd h id (some o)) | none=>none
       else none
     |_=>none
 |.agg l=>match A36 g h l with | some (ts,h')=>some (A0z ts,h') | none=>none
 |.nil z=>some (.vec g z [] 0,h)
 |.tup _ | .dead _=>none
 |v=>some (.m v,h)
def A36 (g:Nat)(h:A0b):List MV->Option (List (T Nat)×A0b)
 | []=>some ([],h)
 | x::r=>match A2b g h x with
   | some (t,h')=>match A36 g h' r with
     |some (ts,h'')=>some (t::ts,h'')
     |none=>none
   |none=>none
end
section
variable {α:Type}(ck:Nat->α->α)(rs:α->α)
mutual
def A07:T Nat->T α->T α
 |.agg l,.agg m=>.agg (A1c l m)
 |.vec g0 _ _ _,.vec a z l n=>.vec (ck g0 a) z (A0H (λv=>v) rs l) n
 |.mp g0 _ _,.mp a ks l=>.mp (ck g0 a) ks (A0H (λv=>v) rs l)
 |_,t=>A0R (λv=>v) rs t
def A1c:List (T Nat)->List (T α)->List (T α)
 |x::r,y::q=>A07 x y::A1c r q
 |_,q=>A0H (λv=>v) rs q
end
def A2q:Option (Obj Nat)->Obj α->Obj α
 |some (.cell g0 t),.cell b u=>.cell (ck g0 b) (A07 ck rs t u)
 |some (.vec g0 _ _),.vec a z l=>.vec (ck g0 a) z (A0H (λv=>v) rs l)
 |some (.mp g0 _ _),.mp a ks l=>.mp (ck g0 a) ks (A0H (λv=>v) rs l)
 |_,o=>A1j (λv=>v) rs o
end
def ckN (g g0 a:Nat):Nat:=if a=0 then g0 else g
def rsN (g _:Nat):Nat:=g
section
variable (hr h:A0b)(ρ:Nat->Nat)
mutual
def A1a:MV->MV
 |.own id path off len g=>if A51 hr id path g then(match A0h (h (ρ id)) (some path) with | some (g',_)=>.own (ρ id) path off len g' | none=>.dead 1) else .dead 1
 |.ptr id np rp g o=>if A7Z hr id np rp g o then(match A0h (h (ρ id)) np with | some (g',_)=>.ptr (ρ id) np rp g' o | none=>.dead 1) else .dead 1
 |.mref id path g=>if B0P hr id path g then(match A0h (h (ρ id)) (some path) with | some (g',_)=>.mref (ρ id) path g' | none=>.dead 1) else .dead 1
 |.agg l=>.agg (A23 l)
 |.fn f l=>.fn f (A23 l)
 |.tup l=>.tup (A23 l)
 |v=>v
def A23:List MV->List MV
 | []=>[]
 |x::r=>A1a x::A23 r
end
end
def A8D:List Nat->List Nat
 | []=>[]
 |x::r=>if(A8D r).contains x then A8D r else x::A8D r
def A0s (h:A0b)(l:List Nat):List Nat:=A8D (l++l.flatMap λi=>A8C (h i))
def A1l (l:List Nat)(x:Nat):Option Nat:=l.findIdx? (· == x)
def A0c:Nat:=1000000
def A0x:Nat:=2000000
mutual
def A6m:PV->Bool
 |.int .. | .bool _ | .str _ | .nilp | .nilf=>true
 |.agg l=>B0Q l
 |_=>false
def B0Q:List PV->Bool
 | []=>true
 |x::r=>A6m x&&B0Q r
end
def D5d:MV->Bool
 |.p v=>A6m v
 |_=>false
abbrev Ret:=MV×List (Obj Nat)×List (Obj Nat)
abbrev A0w:=Nat->List MV->List (Obj Nat)->Option Ret
def evO (s:A0o):Opd->MV
 |.t n=>s n
 |.c v=>v
 |.f id=>.p (.fn id [])
def callee:MV->Option (Nat×List MV)
 |.p (.fn f cs)=>some (f,cs.map .p)
 |.fn f cs=>some (f,cs)
 |_=>none
def A8E:Nat:=1000000
def A9l (m:MV)(args:List MV):Option (Nat×List MV):=match callee m with
 |some (f,cs)=>if f<A8E then some (f,args++cs) else some (f-A8E,cs++args)
 |none=>none
def A9m (esc:List (Obj Nat)):A0b:=λi=>if A0x<=i then esc[i-A0x]? else none
section
variable {α:Type}
mutual
def A8F:T α->Bool
 |.p v=>A6m v
 |.m _=>false
 |.agg l=>A4r l
 |.vec _ _ l _=>A4r l
 |.mp _ _ l=>A4r l
 |.hole _=>true
def A4r:List (T α)->Bool
 | []=>true
 |x::r=>A8F x&&A4r r
end
def A5w:Obj α->Bool
 |.cell _ t=>A8F t
 |.vec _ _ l=>A4r l
 |.mp ..=>false
 |.gone=>true
end
mutual
def A3q:MV->Bool
 |.p v=>A6m v
 |.own .. | .ptr .. | .mref .. | .nil _ | .dead _=>true
 |.agg l | .tup l | .fn _ l=>A6n l
def A6n:List MV->Bool
 | []=>true
 |x::r=>A3q x&&A6n r
end
def A6I:Option Ret->Option (MV×Bool)
 | some (r,[],esc)=>match r with
   | .tup l=>match A2C (A9m esc) l with
     |some vs=>some (.tup (vs.map .p),A3q r&&esc.all A5w)
     |none=>none
   | r=>match A1k (A9m esc) r with
     |some v=>some (.p v,A3q r&&esc.all A5w)
     |none=>none
 |_=>none
def A4Z (K:A0w)(h:A0b)(f:Nat)(args:List MV):Option (MV×A0b) :=
 match A2C h args with
 | some vs=>match A6I (K f (vs.map .p) []) with
   |some (v,fr)=>if fr || (A3h args).isSome then some (v,h) else none
   |none=>none
 |none=>none
def eid (d k:Nat):Nat:=d+1000*(k+1)
def A1Y (dn:Nat)(ids:List Nat)(i:Nat):Nat:=if A0x<=i then eid dn (i-A0x) else ids.getD (i-A0c) 0
def A5x (ids:List Nat)(i:Nat):Option Nat:=(A1l ids i).map (A0c + ·)
def A24 (h:A0b):List Nat->Option (List (Obj Nat))
 | []=>some []
 |i::r=>match h i,A24 h r with | some o,some os=>some (o::os) | _,_=>none
def A1e (d:Option Nat)(n:Nat):List Nat:=(List.range n).map (eid (d.getD 0))
def A0p (ext esc:List (Obj Nat)):A0b:=λi=>if A0x<=i then esc[i-A0x]? else if A0c<=i then ext[i-A0c]? else none
def A1w (es ids:List Nat)(i:Nat):Option Nat:=match A1l es i with
 |some k=>some (A0x+k)
 | none=>match A1l ids i with
   |some k=>some (A0c+k)
   |none=>none
def A1V (g:Nat)(h:A0b)(i j:Nat):Obj Nat->Obj Nat:=A2q (ckN g) (rsN g) (if A0x<=j then none else h i)
def A40 (g:Nat)(d:Option Nat)(h:A0b)(ids:List Nat)(r:MV)(ext esc:List (Obj Nat)):Option (MV×A0b) :=
 let es:=A1e d esc.length
 if ext.length≠ids.length∨(esc ≠ []∧d=none)∨es.any ids.contains=true∨1000000<ids.length∨A0c<eid (d.getD 0) esc.length then none else
 let h1:A0b:=λi=>match A1w es ids i with
  |some j=>(A0p ext esc j).map (A1V g h i j)
  |none=>h i
 let φ:=A1a (A0p ext esc) h1 (A1Y (d.getD 0) ids)
 some (φ r,λi=>match A1w es ids i with
  |some j=>(A0p ext esc j).map (λo=>A1j φ (λa=>a) (A1V g h i j o))
  |none=>h i)
def A4C (K:A0w)(g:Nat)(d:Option Nat)(h:A0b)(f:Nat)(args:List MV):Option (MV×A0b) :=
 let ids:=A0s h (A0s h (A0W args))
 match A24 h ids with
 |none=>none
 |some objs =>
   match K f (A2m h (A5x ids) (λ_=>0) args) (objs.map (A1j (A0y h (A5x ids) (λ_=>0)) (λ_=>0))) with
   |none=>none
   |some (r,ext,esc)=>A40 g d h ids r ext esc
def A5S (K:A0w)(g:Nat)(d:Option Nat)(h:A0b)(f:Nat)(args:List MV):Option (MV×A0b) :=
 match A2C h args with
 | some vs=>match K f (vs.map .p) [] with
   |some (r,[],esc)=>if(A3h args).isSome || (A3q r&&esc.all A5w) then A40 g d h [] r [] esc else none
   |_=>none
 |none=>none
def A8G (n:Int):MV:=.p (.int .i64 n)
def A9H (b:Bool):MV:=.p (.bool b)
def asI:MV->Option Int | .p (.int _ n)=>some n | _=>none
def B0d (n:Nat)(v:MV):Option Nat:=match asI v with | some i=>if 0<=i∧i<n then some i.toNat else none | none=>none
def A9n (n:Nat)(v:MV):Option Nat:=match asI v with | some i=>if 0<=i∧i<=n then some i.toNat else none | none=>none
def D8a:Nat:=140737488355328
def A0O (d:Option Nat)(h:A0b)(o:Obj Nat):Option A0b :=
 match d with
 |some d=>some (upd h d (some o))
 |none=>none
def elems (h:A0b):MV->Option (List (T Nat))
 |.p (.sl l)=>some (l.map .p)
 |.nil _=>some []
 | .own id path off len g=>match A0D (h id) path with
   |some (g',_,l)=>if g'=g∧off+len<=l.length then some ((l.drop off).take len) else none
   |none=>none
 |_=>none
def A3C:T Nat->Bool | .p _=>true | _=>false
mutual
def A9V:T Nat->Bool
 |.p _ | .vec .. | .mp ..=>true
 |.m v=>match v with | .own .. | .ptr .. | .mref .. | .fn ..=>true | _=>false
 |.agg l=>A6Q l
 |.hole _=>false
def A6Q:List (T Nat)->Bool
 | []=>true
 |t::r=>A9V t&&A6Q r
end
def A1H (h:A0b)(y:MV):Option (List (T Nat)×A0b) :=
 match elems h y with
 |none=>none
 |some ts=>if ts.all A3C then some (ts,h) else
   match y with
   | .own id [] 0 len _=>match h id with
     |some (.vec _ _ l)=>if len=l.length∧A6Q ts then some (ts,upd h id (some .gone)) else none
     |_=>none
   |_=>none
def A2j (z:Nat)(l:List (T Nat)):Bool:=l.all λt=>t.cs==z
def A9o (g:Nat)(h:A0b)(id z bytes len g0:Nat)(ts:List (T Nat))(g1 z1:Nat)(l:List (T Nat)):Option (MV×A0b) :=
 if g1=g0∧z1=z∧len<=l.length∧(len+ts.length)*bytes<=D8a then
  some (.own id [] 0 (len+ts.length) g,upd h id (some (.vec g z (l.take len++A0N g ts))))
 else none
def A5T (g:Nat)(d:Option Nat)(h:A0b)(id:Nat)(path:List Nat)(z bytes len g0:Nat)(ts:List (T Nat)):Option (MV×A0b) :=
 match A0j (h id) path with
 | some (.vec g1 z1 l n)=>if g1=g0∧z1=z∧len=n∧n<=l.length∧(len+ts.length)*bytes<=D8a then
    match put (h id) path (.hole 1) with
    | some o'=>match A0O d (upd h id (some o')) (.vec g z (A0N g (l.take len++ts))) with
      |some h2=>some (.own (d.getD 0) [] 0 (len+ts.length) g,h2)
      |none=>none
    |none=>none
   else none
 |_=>none
def A3y (g:Nat)(d:Option Nat)(h:A0b)(z bytes:Nat)(x y:MV):Option (MV×A0b) :=
 match A1H h y with
 |none=>none
 |some (ts,h1)=>if !A2j z ts then none else
   match x with
   | .nil _=>if ts.length*bytes<=D8a then
      match A0O d h1 (.vec g z (A0N g ts)) with | some h2=>some (.own (d.getD 0) [] 0 ts.length g,h2) | none=>none
     else none
   | .own id path off len g0=>if off=0 then
      match h1 id,path with
      |some (.vec g1 z1 l),[]=>A9o g h1 id z bytes len g0 ts g1 z1 l
      |_,path=>A5T g d h1 id path z bytes len g0 ts
     else none
   |_=>none
def A1m {α:Type}(l:List (T α))(off:Nat)(vs:List PV):List (T α):=l.take off++vs.map .p++l.drop (off+vs.length)
def A08 (h:A0b)(id:Nat)(path:List Nat)(g z off:Nat)(vs:List PV):Option A0b :=
 if vs.all (λv=>v.cs==z) then
  match h id,path with
  |some (.vec a z' l),[]=>if a=g∧z'=z∧off+vs.length<=l.length then some (upd h id (some (.vec a z (A1m l off vs)))) else none
  | ob,path=>match A0j ob path with
    | some (.vec a z' l n)=>if a=g∧z'=z∧off+vs.length<=l.length then
       match put ob path (.vec a z (A1m l off vs) n) with
       |some o'=>some (upd h id (some o'))
       |none=>none
      else none
    |_=>none
 else none
def B5Y (h:A0b)(z:Nat)(x y:MV):Option (MV×A0b) :=
 match elems h y with
 |none=>none
 | some ts=>match A1h ts with
   |none=>none
   | some vs=>if A2j z ts then
      match x with
      |.nil _=>some (A8G 0,h)
      |.own id path off len g =>
        match A08 h id path g z off (vs.take len) with
        |some h'=>some (A8G (min vs.length len:Nat),h')
        |none=>none
      |_=>none
     else none
def A41 (g:Nat)(h:A0b)(n id:Nat)(path:List Nat)(x:MV):Option (MV×A0b) :=
 match A2b g h x with
 |some (t,h1)=>if t.cs=n then match put (h1 id) path t with | some o=>some (.dead 0,upd h1 id (some o)) | none=>none else none
 |none=>none
def B0H (g:Nat)(h:A0b)(n:Nat)(a x:MV):Option (MV×A0b) :=
 match a with
 | .ptr id np rp g0 o0=>match look (h id) np rp with
   | some (old,s,o)=>if s=g0∧o=o0∧old.cs=n then
      match x,old with
      |.own id' path' off len g',.vec a z l n' =>
        if id'=id∧path'=A5q np rp∧off=0∧g'=a∧len<=n' then
         match put (h id) (A5q np rp) (.vec a z (l.take len) len) with | some o=>some (.dead 0,upd h id (some o)) | none=>none
        else A41 g h n id (A5q np rp) x
      |x,_=>A41 g h n id (A5q np rp) x
     else none
   |none=>none
 |_=>none
def B7W:MV->Bool | .dead _=>true | _=>false
def A37 (h:A0b)(agg:Bool)(n:Nat)(a:MV):Option MV :=
 match a with
 |.p (.ref v)=>if v.cs=n∧v.isAgg=agg then some (.p v) else none
 | .ptr id np rp g o=>match look (h id) np rp with
   | some (t,s,o')=>if s=g∧o'=o∧t.cs=n then
      let v:=A76 id (A5q np rp) t
      if v.isAgg=agg∧B7W v=false then some v else none
     else none
   |none=>none
 |_=>none
def B4I (n m:Nat):Option MV->Option Nat
 |some v=>A9n n v
 |none=>some m
def B3m (n:Nat)(lo hi:Option MV):Option (Nat×Nat) :=
 match B4I n n hi with
 | some b=>match B4I b 0 lo with
   |some a=>some (a,b)
   |none=>none
 |none=>none
def A6R (h:A0b)(z:Nat)(x:MV)(lo hi:Option MV):Option MV :=
 match x with
 |.p (.sl l)=>match B3m l.length lo hi with | some (a,b)=>if l.all (λv=>v.cs==z) then some (.p (.sl ((l.take b).drop a))) else none | none=>none
 |.nil z=>match B3m 0 lo hi with | some _=>some (.nil z) | none=>none
 | .own id path off len g=>match B3m len lo hi,A0D (h id) path with
   |some (a,b),some (g',z',_)=>if g'=g∧z'=z then some (.own id path (off+a) (b-a) g) else none
   |_,_=>none
 |_=>none
def A8H:MV->Option Nat
 |.p (.sl l)=>some l.length
 |.nil _=>some 0
 |.own _ _ _ len _=>some len
 |_=>none
def A6S (h:A0b)(z:Nat)(x i:MV):Option MV :=
 match x with
 | .p (.sl l)=>match B0d l.length i with
   |some k=>match l[k]? with | some v=>if v.cs=z then some (.p (.ref v)) else none | none=>none
   |none=>none
 | .own id path off len g=>match B0d len i with
   | some k=>match A0D (h id) path with
     |some (g',z',_)=>if g'=g∧z'=z then some (.ptr id (some path) [off+k] g ((off+k)*z)) else none
     |none=>none
   |none=>none
 |_=>none
def D7H (k:PV):List PV->Nat->Option Nat
 | [],_=>none
 |x::r,i=>if eqV k x then some i else D7H k r (i+1)
def D8Z (h:A0b)(td:TD)(m:MV):Option (Nat×Nat×List PV×List PV) :=
 match m with
 | .mref id [] g=>match h id with
   | some (.mp g' ks vs)=>if g'=g∧ks.all (A2V td)=true then
      match A1h vs with
      |some ws=>some (id,g,ks,ws)
      |none=>none
     else none
   |_=>none
 |_=>none
def D9P (ok:Bool)(v:MV)(b:Bool):MV:=if ok then .tup [v,.p (.bool b)] else v
def D85 (h:A0b)(td:TD)(zero:MV)(ok:Bool)(m k:MV):Option MV :=
 match k with
 | .p kv=>if A2V td kv then
    match D8Z h td m with
    | some (_,_,ks,ws)=>match D7H kv ks 0 with
      |some i=>match ws[i]? with | some v=>some (D9P ok (.p v) true) | none=>none
      |none=>some (D9P ok zero false)
    |none=>none
   else none
 |_=>none
def D80 (h:A0b)(td:TD)(m k v:MV):Option A0b :=
 match k,v with
 | .p kv,.p x=>if A2V td kv then
    match D8Z h td m with
    | some (id,g,ks,ws)=>match D7H kv ks 0 with
      |some i=>some (upd h id (some (.mp g (ks.set i kv) ((ws.set i x).map .p))))
      |none=>some (upd h id (some (.mp g (ks++[kv]) ((ws++[x]).map .p))))
    |none=>none
   else none
 |_,_=>none
def A3Z:MV->Bool
 |.dead _ | .tup _=>false
 |_=>true
def okB:List Nat->List MV->Bool
 | [],[]=>true
 |z::zs,v::vs=>v.cs==z&&A3Z v&&okB zs vs
 |_,_=>false
def zT (g:Nat):MV->Option (T Nat)
 |.p v=>some (.p v)
 |.nil z=>some (.vec g z [] 0)
 |.agg l=>match zTs l with | some ts=>some (A0z ts) | none=>none
 |_=>none
where zTs:List MV->Option (List (T Nat))
 | []=>some []
 |x::r=>match zT g x,zTs r with | some t,some ts=>some (t::ts) | _,_=>none
def A8I (f:Int->Int->Int):PV->List PV->Option PV
 |v,[]=>some v
 |.int k x,.int _ y::r=>A8I f (.int k (f x y)) r
 |_,_=>none
def isB:PV->Bool | .bool _=>true | _=>false
def A0a (K:A0w)(g:Nat)(d:Option Nat)(s:A0o)(h:A0b):MOp->Option (MV×A0b)
 |.move x=>some (evO s x,h)
 |.nilv z=>match A0O d h (.vec g z []) with | some h'=>some (.own (d.getD 0) [] 0 0 g,h') | none=>none
 |.pick c a b=>match evO s c with | .p (.bool t)=>some (if t then evO s a else evO s b,h) | _=>none
 | .box x=>match A2b g h (evO s x) with
   |some (t,h1)=>match A0O d h1 (.cell g t) with | some h'=>some (.ptr (d.getD 0) none [] g 0,h') | none=>none
   |none=>none
 |.build zs parts=>if okB zs (parts.map (evO s)) then some (A50 (parts.map (evO s)),h) else none
 | .bsl mt z parts=>if okB (List.replicate parts.length z) (parts.map (evO s)) then
    match (if mt then none else A3h (parts.map (evO s))) with
    |some vs=>some (.p (.sl vs),h)
    | none=>match A36 g h (parts.map (evO s)) with
      | some (ts,h1)=>if A2j z ts then
         match A0O d h1 (.vec g z ts) with | some h'=>some (.own (d.getD 0) [] 0 ts.length g,h') | none=>none
        else none
      |none=>none
   else none
 | .bslp z parts=>if okB (List.replicate parts.length z) (parts.map (evO s)) then
    match A36 g h (parts.map (evO s)) with
    | some (ts,h1)=>if A2j z ts then
       match A0O d h1 (.vec g z ts) with
       |some h2=>match A1k h2 (.own (d.getD 0) [] 0 ts.length g) with | some v=>some (.p v,upd h2 (d.getD 0) (some .gone)) | none=>none
       |none=>none
      else none
    |none=>none
   else none
 |.load agg n x=>match A37 h agg n (evO s x) with | some v=>some (v,h) | none=>none
 |.store n a x=>B0H g h n (evO s a) (evO s x)
 | .nilc x=>match evO s x with
   |.p (.ref v)=>some (.p (.ref v),h)
   |.ptr id np rp g o=>some (.ptr id np rp g o,h)
   |_=>none
 | .bin bl op x y=>match evO s x,evO s y with
   |.p a,.p b=>if isB a=bl then(match A0Z op a b with | some v=>some (.p v,h) | none=>none) else none
   |_,_=>none
 | .eqs neg td x y=>match evO s x,evO s y with
   |.p a,.p b=>if A2V td a&&A2V td b then some (A9H (eqV a b != neg),h) else none
   |_,_=>none
 | .isnil fk neg x=>match fk,evO s x with
   |false,.p .nilp | true,.p .nilf=>some (A9H (true != neg),h)
   |false,.p (.ref _) | false,.ptr .. | true,.p (.fn ..) | true,.fn ..=>some (A9H (false != neg),h)
   |_,_=>none
 |.not x=>match evO s x with | .p (.bool t)=>some (A9H !t,h) | _=>none
 |.neg x=>match evO s x with | .p (.int k n)=>some (.p (.int k (k.wrap (0-n))),h) | _=>none
 | .inv x=>match evO s x with
   |.p (.int k n)=>match B7V .xor k (if k.signed then -1 else k.max) n with | some m=>some (.p (.int k m),h) | none=>none
   |_=>none
 |.convI k x=>match evO s x with | .p (.int _ n)=>some (.p (.int k (k.wrap n)),h) | _=>none
 |.convS x=>match evO s x with | .p (.str b)=>some (.p (.str b),h) | _=>none
 |.convR x=>match evO s x with | .p (.int _ n)=>some (.p (.str (Utf8.encode n)),h) | _=>none
 | .mkfn f caps=>match A3h (caps.map (evO s)) with
   |some vs=>some (.p (.fn f vs),h)
   |none=>some (.fn f (caps.map (evO s)),h)
 | .mksl z bytes zero l c=>match asI (evO s l),asI (evO s c) with
   | some l,some c=>match zT g zero with
     | some t=>if 0<=l∧l<=c∧c.toNat * bytes<=D8a∧t.cs=z then
        match A0O d h (.vec g z (List.replicate l.toNat t)) with
        |some h'=>some (.own (d.getD 0) [] 0 l.toNat g,h')
        |none=>none
       else none
     |none=>none
   |_,_=>none
 | .sliceS x lo hi=>match evO s x with
   |.p (.str b)=>match B3m b.size (lo.map (evO s)) (hi.map (evO s)) with | some (i,j)=>some (.p (.str (b.extract i j)),h) | none=>none
   |_=>none
 |.slice z x lo hi=>match A6R h z (evO s x) (lo.map (evO s)) (hi.map (evO s)) with | some v=>some (v,h) | none=>none
 | .cut0 z x=>match evO s x with
   |.p (.sl _) | .own .. | .nil _=>some (.nil z,h)
   |_=>none
 | .clr z zero x=>match evO s x with
   |.p (.sl []) | .nil _=>some (.tup [],h)
   | .own id path off len g0=>match A08 h id path g0 z off (List.replicate len zero) with
     |some h'=>if zero.cs=z then some (.tup [],h') else none
     |none=>none
   |_=>none
 | .faddr x i o=>match evO s x with
   |.p (.ref (.agg l))=>match l[i]? with | some v=>if PV.css (l.take i)=o then some (.p (.ref v),h) else none | none=>none
   |.ptr id np rp g o0=>some (.ptr id np (rp++[i]) g (o0+o),h)
   |_=>none
 | .fld agg n o x i=>match evO s x with
   |.p (.agg l)=>match l[i]? with | some v=>if PV.css (l.take i)=o∧v.cs=n∧v.isAgg=agg then some (.p v,h) else none | none=>none
   |.agg l=>match l[i]? with | some v=>if MV.css (l.take i)=o∧v.cs=n∧v.isAgg=agg∧B7W v=false then some (v,h) else none | none=>none
   |_=>none
 |.iaddr z x i=>match A6S h z (evO s x) (evO s i) with | some v=>some (v,h) | none=>none
 | .iaddrA n z x i=>match B0d n (evO s i) with
   | some k=>match evO s x with
     |.p (.ref (.agg l))=>match l[k]? with | some v=>if PV.css (l.take k)=k*z then some (.p (.ref v),h) else none | none=>none
     |.ptr id np rp g o0=>some (.ptr id np (rp++[k]) g (o0+k*z),h)
     |_=>none
   |none=>none
 | .idx agg z n x i=>match evO s x with
   | .p (.agg l)=>match B0d n (evO s i) with
     |some k=>match l[k]? with | some v=>if PV.css (l.take k)=k*z∧v.cs=z∧v.isAgg=agg then some (.p v,h) else none | none=>none
     |none=>none
   |_=>none
 | .idxS x i=>match evO s x with
   | .p (.str b)=>match B0d b.size (evO s i) with
     |some k=>match b.data[k]? with | some c=>some (.p (.int .u8 c.toNat),h) | none=>none
     |none=>none
   |_=>none
 | .ext x i=>match evO s x with
   |.tup l=>match l[i]? with | some v=>some (v,h) | none=>none
   |_=>none
 | .call md f args=>match A9l (evO s f) (args.map (evO s)) with
   | some (f,al)=>match md with
     |0=>A4Z K h f al
     |1=>A4C K g d h f al
     |_=>A5S K g d h f al
   |none=>none
 |.lenS x=>match evO s x with | .p (.str b)=>some (A8G b.size,h) | _=>none
 | .appn z bytes zero x n=>match evO s x,asI (evO s n) with
   | .nil _,some k=>match zT g zero with
     | some t=>if 0<k∧k.toNat * bytes<=D8a∧t.cs=z then
        match A0O d h (.vec g z (List.replicate k.toNat t)) with
        |some h'=>some (.own (d.getD 0) [] 0 k.toNat g,h')
        |none=>none
       else none
     |none=>none
   |_,_=>none
 | .appk z x y=>match elems h (evO s y) with
   |none=>none
   | some ts=>match A1h ts with
     |none=>none
     | some vs=>if A2j z ts then
        match evO s x with
        | .own id path off len g0=>match A08 h id path g0 z (off+len) vs with
          |some h1=>some (.own id path off (len+vs.length) g0,h1)
          |none=>none
        |_=>none
       else none
 | .sliceK z x lo hi=>match evO s x with
   | .own id path off _ g0=>match A0D (h id) path with
     | some (g',z',l)=>if g'=g0∧z'=z∧off<=l.length then
        match A9n (l.length-off) (evO s hi) with
        |some b=>match A9n b (evO s lo) with | some a=>some (.own id path (off+a) (b-a) g0,h) | none=>none
        |none=>none
       else none
     |none=>none
   |_=>none
 | .slA n z x=>match evO s x with
   |.p (.ref (.agg l))=>if l.length=n∧l.all (λv=>v.cs==z)=true then some (.p (.sl l),h) else none
   |_=>none
 | .slice3 x lo hi mx=>match A8H (evO s x) with
   | some n=>match A9n n (evO s mx) with
     | some m=>match A9n m (evO s hi) with
       |some b=>match A9n b (evO s lo) with | some _=>some (.dead 1,h) | none=>none
       |none=>none
     |none=>none
   |none=>none
 |.capn x=>match evO s x with | .nil _=>some (A8G (0:Nat),h) | _=>none
 |.len x=>match A8H (evO s x) with | some n=>some (A8G n,h) | none=>none
 | .app pz z bytes x y=>match A3y g d h z bytes (evO s x) (evO s y) with
   | some (.own id [] off len g1,h1)=>if pz then
      match A1k h1 (.own id [] off len g1) with | some v=>some (.p v,upd h1 id (some .gone)) | none=>none
     else some (.own id [] off len g1,h1)
   |_=>none
 |.cpy z x y=>B5Y h z (evO s x) (evO s y)
 | .mx l=>match l.map (evO s) with
   | .p v::r=>match A3h r with
     |some vs=>match A8I (λx y=>if y>x then y else x) v vs with | some w=>some (.p w,h) | none=>none
     |none=>none
   |_=>none
 | .mn l=>match l.map (evO s) with
   | .p v::r=>match A3h r with
     |some vs=>match A8I (λx y=>if y<x then y else x) v vs with | some w=>some (.p w,h) | none=>none
     |none=>none
   |_=>none
 |.mkmap _ _=>match A0O d h (.mp g [] []) with | some h'=>some (.mref (d.getD 0) [] g,h') | none=>none
 |.mlook td zero ok m k=>match D85 h td zero ok (evO s m) (evO s k) with | some v=>some (v,h) | none=>none
 |.mset td m k v=>match D80 h td (evO s m) (evO s k) (evO s v) with | some h'=>some (.dead 0,h') | none=>none
 |.mdel ..=>none
 |.bad=>none
def A25 (s:A0o):Option (Nat×Bool)->Option Bool
 |none=>some true
 | some (t,b)=>match s t with
   |.p (.bool c)=>some (c==b)
   |.tup []=>some false
   |_=>none
def A1d (K:A0w)(g:Nat)(i:Ins)(s:A0o)(h:A0b):Option (A0o×A0b) :=
 match A25 s i.guard with
 | some true=>match A0a K g i.dst s h i.op with
   |some (v,h')=>some (updo s i.dst v,h')
   |none=>none
 |some false=>some (updo s i.dst (.tup []),h)
 |none=>none
def A26 (K:A0w):Nat->List Ins->A0o->A0b->Option (A0o×A0b)
 |_,[],s,h=>some (s,h)
 | g,i::r,s,h=>match A1d K g i s h with
   |some (s',h')=>A26 K (g+1) r s' h'
   |none=>none
def A0q:MOp->List Opd
 |.move x | .box x | .load _ _ x | .nilc x | .isnil _ _ x | .not x | .neg x | .inv x | .convI _ x | .convS x | .convR x | .faddr x _ _ | .fld _ _ _ x _ | .ext x _ | .len x | .lenS x | .capn x | .cut0 _ x | .clr _ _ x | .slA _ _ x=>[x]
 |.pick a b c=>[a,b,c]
 |.build _ l | .bsl _ _ l | .bslp _ l | .mkfn _ l | .mx l | .mn l=>l
 |.store _ a x | .bin _ _ a x | .eqs _ _ a x | .mksl _ _ _ a x | .iaddr _ a x | .iaddrA _ _ a x | .idx _ _ _ a x | .idxS a x | .app _ _ _ a x | .cpy _ a x | .mlook _ _ _ a x | .mdel a x=>[a,x]
 |.slice _ x lo hi | .sliceS x lo hi=>x::lo.toList++hi.toList
 |.call _ f args=>f::args
 |.mset _ m k v=>[m,k,v]
 |.slice3 x lo hi mx=>[x,lo,hi,mx]
 |.appn _ _ _ x n=>[x,n]
 |.appk _ x y=>[x,y]
 |.sliceK _ x lo hi=>[x,lo,hi]
 |.nilv _ | .mkmap .. | .bad=>[]
def A5l:MOp->Bool
 |.load .. | .iaddr .. | .mlook .. | .slice .. | .sliceK .. | .call 0 ..=>true
 |_=>false
def idle:MOp->Bool
 |.move _ | .pick .. | .build .. | .nilc _ | .bin .. | .eqs .. | .isnil .. | .not _ | .neg _ | .inv _ | .convI .. | .convS _ | .convR _ | .mkfn .. | .cut0 .. | .faddr .. | .fld .. | .iaddrA .. | .idx .. | .idxS .. | .lenS _ | .capn _ | .slice3 .. | .slA .. | .len _ | .sliceS .. | .ext .. | .mx _ | .mn _=>true
 |_=>false
def fam (i:Nat):Nat:=if i<A0c then i%1000 else i
def A1z (s:A0o)(h:A0b)(i:Ins):List Nat :=
 match A25 s i.guard with
 |some true=>(i.dst.toList++A0s h (A0s h (A0W ((A0q i.op).map (evO s))))).map fam
 |_=>[]
abbrev Plc:=Bool×Nat×Nat×Nat
def A9W (s:A0o)(d:Option Nat):MOp->Option Plc
 |.load _ _ x=>match evO s x with | .ptr id none [i] _ _=>some (true,id,i,0) | _=>none
 | .app false _ _ x y=>match evO s x with
   |.own id [i] _ _ _=>match evO s y,d with | .p (.sl _),some d=>some (false,id,i,d) | _,_=>none
   |_=>none
 |_=>none
def A5y (s:A0o)(i:Ins):Option Plc:=match i.guard with | none=>A9W s i.dst i.op | some _=>none
def B4J (x:List Nat):Option Plc->Option Plc->Bool
 |some (true,id,i,_),some (false,id',j,d)=>id==id'&&i != j && !x.contains (fam d)
 |_,_=>false
abbrev B3n:=List (List Nat×Bool×Option Plc)
def C7S (a b:List Nat):Bool:=a.all λx=>!b.contains x
def D3c:Opd->List Nat | .t n=>[n] | _=>[]
def A5z (i:Ins):List Nat:=(A0q i.op).flatMap D3c++(match i.guard with | some (t,_)=>[t] | none=>[])
def B2C (x y:Ins):Bool :=
 (match x.dst with | some d=>!(A5z y).contains d&&y.dst != some d | none=>true)&&(match y.dst with | some d=>!(A5z x).contains d | none=>true)
def A7e (K:A0w):Nat->List Ins->A0o->A0b->B3n
 |_,[],_,_=>[]
 | g,i::r,s,h=>(A1z s h i,idle i.op || A5l i.op,A5y s i)::(match A1d K g i s h with
   |some (s',h')=>A7e K (g+1) r s' h'
   |none=>[])
def B0I (F:B3n)(l:List (Nat×Nat)):Bool :=
 l.all λ(a,b)=>match F[a]?,F[b]? with
  |some (x,rx,px),some (y,ry,py)=>(rx&&ry) || C7S x y || B4J x px py
  |_,_=>false
def A2Q (K:A0w)(loose:List (Nat×Nat))(ops:List Ins)(σ:St):Option St :=
 match A26 K σ.nx ops σ.s σ.h with
 |some (s,h)=>if loose.isEmpty || B0I (A7e K σ.nx ops σ.s σ.h) loose then some ⟨s,h,σ.nx+ops.length⟩ else none
 |none=>none
def B0R (h:A0b)(γ:Nat):MV->Option A0b
 | .ptr id none [] _ _=>match h id with
   |some (.cell a t)=>some (upd h id (some (.cell a (A7L γ t))))
   |_=>none
 | .own id (i::p) _ _ _=>match A0j (h id) (i::p) with
   | some (.vec g z l n)=>match put (h id) (i::p) (.vec g z (A0N γ l) n) with
     |some o=>some (upd h id (some o))
     |none=>none
   |_=>none
 |_=>none
def A8J (g:Gh)(σ:St):Option St :=
 match g with
 |.keep ks ids=>some (A2D ks ids σ)
 | .freeze t=>if 3000000<=t then (match B0R σ.h σ.nx (.ptr (t-3000000) none [] 0 0) with
   |some h=>some ⟨σ.s,h,σ.nx+1⟩
   |none=>none) else if 2000000<=t then(match σ.s (t%1000),σ.h (t / 1000%1000) with
   |.nil z,none=>some ⟨upd σ.s (t%1000) (.own (t / 1000%1000) [] 0 0 σ.nx),upd σ.h (t / 1000%1000) (some (.vec σ.nx z [])),σ.nx+1⟩
   |.nil _,some _=>none
   |_,_=>some ⟨σ.s,σ.h,σ.nx+1⟩) else if 1000000<=t then(match B0R σ.h σ.nx (σ.s (t-1000000)) with
   |some h=>some ⟨σ.s,h,σ.nx+1⟩
   |none=>none) else match σ.s t with
   | .own id [] 0 len g0=>match σ.h id with
     | some (.vec g1 _ l)=>if g0=g1∧len<=l.length then
        match A0J l with
        |some vs=>some ⟨upd σ.s t (.p (.sl (vs.take len))),upd σ.h id (some .gone),σ.nx⟩
        |none=>none
       else none
     |_=>none
   | .own id (i::p) _ _ _=>match A0j (σ.h id) (i::p) with
     | some (.vec g1 z l n)=>match A0J l with
       | some vs=>match put (σ.h id) (i::p) (.vec g1 z (vs.map .p) n) with
         |some o'=>some ⟨σ.s,upd σ.h id (some o'),σ.nx⟩
         |none=>none
       |none=>none
     |_=>none
   | .ptr id none [] g0 0=>match σ.h id with
     | some (.cell g1 u)=>if g0=g1 then
        match A4B u with
        |some v=>some ⟨upd σ.s t (.p (.ref v)),upd σ.h id (some .gone),σ.nx⟩
        |none=>none
       else none
     |_=>none
   |.p v=>some ⟨upd σ.s t (.p v),σ.h,σ.nx⟩
   |.nil _=>some ⟨upd σ.s t (.p (.sl [])),σ.h,σ.nx⟩
   |_=>none
def A8n (s:A0o)(h:A0b):RV->Option MV
 |.tmp t=>some (s t)
 |.cell a agg n=>A37 h agg n (s a)
def A5u (s:A0o)(h:A0b):List RV->Option (List MV)
 | []=>some []
 |x::r=>match A8n s h x,A5u s h r with | some v,some vs=>some (v::vs) | _,_=>none
def A8o:List MV->MV
 | [v]=>v
 |l=>.tup l
def A2G (args:List MV):A0o:=λi=>args.getD i (.dead 0)
def A0T (ext:List (Obj Nat)):A0b:=λi=>if A0c<=i then ext[i-A0c]? else none
def A0P (i:Nat):Bool:=i<A0c
def A2n (n:Nat)(esc:List Nat)(i:Nat):Option Nat:=if A0c<=i then(if i<A0c+n then some i else none) else(A1l esc i).map (A0x + ·)
mutual
def sfM (h:A0b):MV->Option MV
 |.p v=>some (.p v)
 |.agg l=>match B0S h l with | some vs=>some (A50 vs) | none=>none
 |.tup l=>match B0S h l with | some vs=>some (.tup vs) | none=>none
 |v=>if(A0M v).all (λi=>!A0P i) && !(A0M v).isEmpty then some v else match A1k h v with | some w=>if(A0M v).all A0P then some (.p w) else none | none=>none
def B0S (h:A0b):List MV->Option (List MV)
 | []=>some []
 |x::r=>match sfM h x,B0S h r with | some v,some vs=>some (v::vs) | _,_=>none
end
def A6J (F:MFun)(n:Nat)(σ:St):Option Ret :=
 if 1000000<n then none else
 match A5u σ.s σ.h F.res with
 |none=>none
 |some vs =>
   let r:=A8o vs
   let extIds:=(List.range n).map (A0c + ·)
   if F.frz then
    match sfM σ.h r,A24 σ.h extIds with
    |some v,some ext =>
      let φ:=A0y σ.h (A2n n []) A0n
      some (φ v,ext.map (A1j φ A0n),[])
    |_,_=>none
   else
    let esc:=(A0s σ.h (A0s σ.h (A0M r++extIds))).filter A0P
    let φ:=A0y σ.h (A2n n esc) A0n
    match A24 σ.h extIds,A24 σ.h esc with
    |some ext,some es=>some (φ r,ext.map (A1j φ A0n),es.map (A1j φ (λ_=>1)))
    |_,_=>none
inductive Prim where
 |clone (z bytes:Nat)
 |sort
 |insert
 deriving Inhabited
def A7M:List PV->Option (List Int)
 | []=>some []
 |.int .i64 n::r=>match A7M r with | some l=>some (n::l) | none=>none
 |_::_=>none
def B66 (x:Int):List Int->List Int
 | []=>[x]
 |y::r=>if x<=y then x::y::r else y::B66 x r
def A0K:List Int->List Int
 | []=>[]
 |x::r=>B66 x (A0K r)
def B5Z (path:List Nat)(off len g:Nat)(o:Obj Nat):Option Ret :=
 match elems (A0T [o]) (.own A0c path off len g) with
 | some ts=>match A1h ts with
   | some vs=>match A7M vs with
     | some zs=>if zs.length<4611686018427387904 then
        match A08 (A0T [o]) A0c path g 1 off ((A0K zs).map (.int .i64)) with
        |some h'=>match h' A0c with | some o'=>some (.tup [],[o'],[]) | none=>none
        |none=>none
       else none
     |none=>none
   |none=>none
 |none=>none
def A9X (len i g:Nat)(v:Int)(o o2:Obj Nat):Option Ret :=
 match o with
 | .vec g' z l=>match A1h l with
   | some vs=>match A7M vs with
     | some zs=>if g'=g∧z=1∧zs.length=len∧i<=len∧len<1000000000000 then
        some (.own A0c [] 0 (len+1) 1,[.vec 1 1 ((zs.take i++v::zs.drop i).map λn=>.p (.int .i64 n)),o2],[])
       else none
     |none=>none
   |none=>none
 |_=>none
def A6o:Prim->List MV->List (Obj Nat)->Option Ret
 |.clone z bytes,[.p (.sl l)],[]=>if l.all (λv=>v.cs==z)&&decide (l.length*bytes<=D8a) then
    some (.own A0x [] 0 l.length 1,[],[.vec 1 z (l.map .p)])
    else none
 |.sort,[.own id path off len g],[o]=>if id=A0c then B5Z path off len g o else none
 |.sort,[.nil _],[]=>some (.tup [],[],[])
 |.sort,[.p (.sl [])],[]=>some (.tup [],[],[])
 |.insert,[.own id [] 0 len g,.p (.int .i64 i),.own id2 [] 0 1 g2],[o,.vec g3 1 [.p (.int .i64 v)]]=>if id=A0c∧id2=A0c+1∧g3=g2∧0<=i then A9X len i.toNat g v o (.vec g2 1 [.p (.int .i64 v)]) else none
 |_,_,_=>none
inductive FnDef where
 |code (F:MFun)
 |prim (p:Prim)
 deriving Inhabited
abbrev Tbl:=Nat->Option FnDef
def A1R (Φ:Tbl)(R:MC->St->Option (Ex×St)):A0w:=λf args ext =>
 match Φ f with
 |none=>none
 |some (.prim p)=>A6o p args ext
 | some (.code F)=>match R F.body ⟨A2G args,A0T ext,1⟩ with
   |some (.normal,σ)=>A6J F ext.length σ
   |some (.ret,σ)=>A6J F ext.length σ
   |_=>none
def run (Φ:Tbl):Nat->MC->St->Option (Ex×St)
 |0,_,_=>none
 | n+1,c,σ=>match c with
   |.skip=>some (.normal,σ)
   |.ret=>some (.ret,σ)
   |.bad=>none
   |.exit id=>some (.exit id,σ)
   |.gh g=>match A8J g σ with | some σ'=>some (.normal,σ') | none=>none
   |.reg loose ops=>match A2Q (A1R Φ (run Φ n)) loose ops σ with | some σ'=>some (.normal,σ') | none=>none
   | .seq a b=>match run Φ n a σ with
     |some (.normal,σ')=>run Φ n b σ'
     |r=>r
   | .cond c a b=>match evO σ.s c with
     |.p (.bool true)=>run Φ n a σ
     |.p (.bool false)=>run Φ n b σ
     |_=>none
   | .block id c=>match run Φ n c σ with
     |some (.exit j,σ')=>if j=id then some (.normal,σ') else some (.exit j,σ')
     |r=>r
   | .loop ks ids c=>match run Φ n c (A2D ks ids σ) with
     |some (.normal,σ')=>run Φ n (.loop ks ids c) σ'
     |r=>r
end Go.Mid
/- From the model's code to the middle semantics' code: a function,so that nothing has to be believed. -/
namespace Go.Mid
set_option linter.unusedSimpArgs false
set_option linter.unusedVariables false
structure Ann where
 keep:List (List Nat×List Nat):=[]
 fz:List (Nat×List Nat):=[]
 sh:List Nat:=[]
 tk:List Nat:=[]
 mt:List Nat:=[]
 pz:List Nat:=[]
 frz:Bool:=false
 deriving Inhabited
section
variable (P:Program)
def A4l (t:TypeId):Bool:=(P.underlying t).isSome
def A04 (t:TypeId):Bool:=match P.underlying t with | some (.struct _) | some (.array _ _)=>true | _=>false
def A77 {α:Type}:List (Option α)->Option (List α)
 | []=>some []
 |x::r=>match x,A77 r with | some v,some vs=>some (v::vs) | _,_=>none
def B7X:Nat->TypeId->Option MV
 |0,_=>none
 | n+1,t=>match P.underlying t with
   |some .bool=>some (.p (.bool false))
   |some (.int k)=>some (.p (.int k 0))
   |some .string=>some (.p (.str ⟨#[]⟩))
   |some (.pointer _)=>some (.p .nilp)
   |some (.func ..)=>some (.p .nilf)
   |some (.map ..)=>some (.p (.mp [] []))
   |some (.slice e)=>some (.nil (P.cellsOf e))
   |some (.struct fs)=>match A77 (fs.toList.map λf=>B7X n f.type) with | some l=>some (A50 l) | none=>none
   |some (.array k e)=>match B7X n e with | some v=>some (A50 (List.replicate k v)) | none=>none
   |_=>none
mutual
def A9p:PV->List Value->Option (List Value)
 |.int k n,cs=>match cs with | .int k' n'::r=>if k=k'∧n=n' then some r else none | _=>none
 |.bool b,cs=>match cs with | .bool b'::r=>if b=b' then some r else none | _=>none
 |.str s,cs=>match cs with | .string s'::r=>if s.size=0∧s'.size=0 then some r else none | _=>none
 |.nilp,cs=>match cs with | .pointer none::r=>some r | _=>none
 |.nilf,cs=>match cs with | .nilFunc::r=>some r | _=>none
 |.mp ks vs,cs=>match cs with | .map none::r=>if ks.isEmpty&&vs.isEmpty then some r else none | _=>none
 |.agg l,cs=>B7Y l cs
 |_,_=>none
def B7Y:List PV->List Value->Option (List Value)
 | [],cs=>some cs
 |x::r,cs=>match A9p x cs with | some d=>B7Y r d | none=>none
end
mutual
def A56:MV->List Value->Option (List Value)
 |.p v,cs=>A9p v cs
 |.nil _,cs=>match cs with | .slice _ 0 0::r=>some r | _=>none
 |.agg l,cs=>B1B l cs
 |_,_=>none
def B1B:List MV->List Value->Option (List Value)
 | [],cs=>some cs
 |x::r,cs=>match A56 x cs with | some d=>B1B r d | none=>none
end
def A42 (t:TypeId):Option (List Value):=match P.info? t with
 |some i=>match i.zero with | some z=>some z.cells.toList | none=>none
 |none=>none
def B0n (t:TypeId):Option MV:=match B7X P 20 t,A42 P t with
 |some v,some cs=>match A56 v cs with | some []=>some v | _=>none
 |_,_=>none
def C1Z (t:TypeId):Option PV:=match B0n P t with
 |some (.p v)=>some v
 |some (.nil _)=>some (.sl [])
 |_=>none
def C2h (t:TypeId):Value->Option MV
 |.bool b=>some (.p (.bool b))
 |.int k n=>some (.p (.int k n))
 |.string s=>some (.p (.str s))
 |.pointer none=>some (.p .nilp)
 |.nilFunc=>some (.p .nilf)
 |.map none=>some (.p (.mp [] []))
 |.slice none 0 0=>match P.underlying t with | some (.slice e)=>some (.nil (P.cellsOf e)) | _=>some (.nil 0)
 |_=>none
def C56 (l:List Int):PV:=.agg (l.map (.int .u8 ·))
def B9y (g:Nat):Option PV:=match P.globals[g]? with
 |some x=>if x.name == "math/bits.deBruijn32tab" then some (C56 [0,1,28,2,29,14,24,3,30,22,20,15,25,17,4,8,31,27,13,23,21,19,16,7,26,12,18,6,11,5,10,9]) else none
 |none=>none
def A0r (t:TypeId):Operand->Option Opd
 |.tmp n=>some (.t n)
 |.const v=>match C2h P t v with | some m=>some (.c m) | none=>none
 |.func f=>if f<A8E then some (.f f) else none
 |.global g=>match B9y P g with | some v=>some (.c (.p (.ref v))) | none=>none
def A2T:List TypeId->List Operand->Option (List Opd)
 |t::ts,x::r=>match A0r P t x,A2T ts r with | some o,some os=>some (o::os) | _,_=>none
 | [],[]=>some []
 | [],x::r=>match A0r P 0 x,A2T [] r with | some o,some os=>some (o::os) | _,_=>none
 |_,[]=>some []
def A78:Option Operand->Option (Option Opd)
 |none=>some none
 |some x=>match A0r P 0 x with | some o=>some (some o) | none=>none
def A6K (parts:List (Nat×Operand)):List TypeId->Nat->List Value->Option (List Opd)
 | [],_,rest=>if rest.isEmpty then some [] else none
 | t::r,i,rest=>if (rest.take (P.cellsOf t)).length=P.cellsOf t then
    match (match parts.find? (·.1==i) with
     |some (_,x)=>A0r P t x
     |none=>match B7X P 20 t with | some v=>(match A56 v (rest.take (P.cellsOf t)) with | some []=>some (.c v) | _=>none) | none=>none),A6K parts r (i+1) (rest.drop (P.cellsOf t)) with
    |some o,some os=>some (o::os)
    |_,_=>none
   else none
def B7Z:List Nat->Bool
 | []=>true
 |x::r=>!r.contains x&&B7Z r
def A6T (n:Nat)(parts:List (Nat×Operand)):Bool:=parts.all (λp=>decide (p.1<n))&&(B7Z (parts.map (·.1))&&decide (n<=9223372036854775807))
def A8K:List Field->Nat->Bool
 | [],_=>true
 |f::r,o=>f.offset==o&&A4l P f.type&&A8K r (o+P.cellsOf f.type)
def B70:List (Field×Option TD)->Nat->Option (List TD)
 | [],_=>some []
 | (f,d)::r,off=>match d,B70 r (off+P.cellsOf f.type) with
   |some d,some ds=>if f.name ≠ "_"∧f.offset=off∧d.cs=P.cellsOf f.type then some (d::ds) else none
   |_,_=>none
def B0T:Nat->TypeId->Option TD
 |0,_=>none
 | n+1,t=>match P.underlying t with
   |some (.int k)=>some (.int k)
   |some .bool=>some .bool
   |some .string=>some .str
   |some (.struct fs)=>if P.stoodInHeld t then none else match B70 P (fs.toList.map λf=>(f,B0T n f.type)) 0 with | some l=>some (.agg l) | none=>none
   |some (.array k e)=>match B0T n e with | some d=>if d.cs=P.cellsOf e then some (.agg (List.replicate k d)) else none | none=>none
   |_=>none
def C2i (t:TypeId):Option TD:=if P.eqGuardType P.depth t then none else B0T P 20 t
def D8x:TD->Bool
 |.agg _=>false
 |_=>true
def D9o (t:TypeId):Option TD:=match P.underlying t with
 |some (.int k)=>some (.int k)
 |some .bool=>some .bool
 |some .string=>some .str
 | some (.struct _)=>match B0T P 20 t with
   |some (.agg l)=>if l.all D8x then some (.agg l) else none
   |_=>none
 |_=>none
def E1N:Value->Bool | .agg _=>true | _=>false
def E0B (t:TypeId):Option PV:=match P.info? t with
 | some i=>match i.zero,C1Z P t with
   |some z,some v=>if E1N z=v.isAgg then some v else none
   |_,_=>none
 |none=>none
def B50:Option Operand->Bool
 |some (.const (.int k n))=>k==.i64&&n==0
 |_=>false
def opC (sh:Nat)(mt pz:Bool)(rt:TypeId):Op->Option MOp
 |.move x=>match A0r P rt x with | some o=>some (.move o) | none=>none
 | .assign x=>match x,P.underlying rt with
   |.const (.slice none 0 0),some (.slice e)=>some (.nilv (P.cellsOf e))
   |x,_=>match A0r P rt x with | some o=>some (.move o) | none=>none
 |.pick c a b=>match A0r P 0 c,A0r P rt a,A0r P rt b with | some c,some a,some b=>some (.pick c a b) | _,_,_=>none
 |.alloc t=>match B0n P t with | some z=>some (.box (.c z)) | none=>none
 |.box t x=>match A0r P t x with | some o=>some (.box o) | none=>none
 | .build t parts=>match A42 P t,P.underlying t with
   | some zc,some (.struct fs)=>if A6T fs.size parts.toList&&A8K P fs.toList 0 then
      match A6K P parts.toList (fs.toList.map (·.type)) 0 zc with | some l=>some (.build (fs.toList.map λf=>P.cellsOf f.type) l) | none=>none
     else none
   | some zc,some (.array n e)=>if A6T n parts.toList&&A4l P e then
      match A6K P parts.toList (List.replicate n e) 0 zc with | some l=>some (.build (List.replicate n (P.cellsOf e)) l) | none=>none
     else none
   |_,_=>none
 | .buildSlice t n parts=>match P.underlying t with
   |some (.slice e)=>if P.cellsOf e=0∨n*P.cellsOf e>16777216 then none else
     match A42 P e with
     | some zc=>if zc.length=P.cellsOf e∧A6T n parts.toList then
        match A6K P parts.toList (List.replicate n e) 0 (List.replicate n zc).flatten with | some l=>some (if pz then .bslp (P.cellsOf e) l else .bsl (mt || n==0) (P.cellsOf e) l) | none=>none
       else none
     |none=>none
   |_=>none
 |.load t x=>match A0r P 0 x with | some o=>if A4l P t then some (.load (A04 P t) (P.cellsOf t) o) else none | none=>none
 |.store t a x=>match A0r P 0 a,A0r P t x with | some a,some x=>if A4l P t then some (.store (P.cellsOf t) a x) else none | _,_=>none
 |.nilCheck x=>match A0r P 0 x with | some o=>some (.nilc o) | none=>none
 | .binOp op t x y yt=>match A0r P t x,A0r P yt y with
   | some a,some b=>match P.underlying t with
     |some (.int _) | some .string=>some (.bin false op a b)
     |some .bool=>some (.bin true op a b)
     |some (.struct _) | some (.array ..)=>(match op,C2i P t with | .eql,some d=>some (.eqs false d a b) | .neq,some d=>some (.eqs true d a b) | _,_=>none)
     | some (.pointer _)=>match op,y with
       |.eql,.const (.pointer none)=>some (.isnil false false a)
       |.neq,.const (.pointer none)=>some (.isnil false true a)
       |_,_=>none
     | some (.func ..)=>match op,y with
       |.eql,.const .nilFunc=>some (.isnil true false a)
       |.neq,.const .nilFunc=>some (.isnil true true a)
       |_,_=>none
     |_=>none
   |_,_=>none
 | .unOp op t x=>match A0r P t x with
   |some a=>match op with | .not=>some (.not a) | .neg=>some (.neg a) | .xor=>some (.inv a) | _=>none
   |none=>none
 | .convert src dst x=>match A0r P src x with
   | some a=>match P.underlying src,P.underlying dst with
     |some (.int _),some (.int k)=>some (.convI k a)
     |some .string,some .string=>some (.convS a)
     |some (.int _),some .string=>some (.convR a)
     |_,_=>none
   |none=>none
 |.makeFunc (.func f) first caps=>if A8E<=f then none else if first.size=0 then(match A2T P [] caps.toList with | some l=>some (.mkfn f l) | none=>none) else if caps.size=0 then(match A2T P [] first.toList with | some l=>some (.mkfn (A8E+f) l) | none=>none) else none
 | .makeSlice t l c=>match P.underlying t with
   | some (.slice e)=>if P.cellsOf e=0∨P.bytesOf e=0 then none else match B0n P e,A0r P 0 l,A0r P 0 c with
     |some z,some l,some c=>some (.mksl (P.cellsOf e) (P.bytesOf e) z l c)
     |_,_,_=>none
   |_=>none
 | .slice t x lo hi mx=>if mx.isNone then
    match A0r P t x,A78 P lo,A78 P hi with
    | some x,some lo,some hi=>match P.underlying t with
      |some (.slice e)=>if P.cellsOf e=0 then none else if mt then(match lo,hi with | some lo,some hi=>some (.sliceK (P.cellsOf e) x lo hi) | _,_=>none) else some (.slice (P.cellsOf e) x lo hi)
      |some .string=>some (.sliceS x lo hi)
      |some (.array n e)=>if P.cellsOf e=0 then none else(match lo,hi with | none,none=>some (.slA n (P.cellsOf e) x) | _,_=>none)
      |_=>none
    |_,_,_=>none
   else if lo.isNone&&B50 hi&&B50 mx then
    match A0r P t x,P.underlying t with
    |some x,some (.slice e)=>if P.cellsOf e=0 then none else some (.cut0 (P.cellsOf e) x)
    |_,_=>none
   else match A0r P t x,lo.bind (A0r P 0),hi.bind (A0r P 0),mx.bind (A0r P 0) with
    |some x,some lo,some hi,some mx=>match P.underlying t with | some (.slice e)=>if P.cellsOf e=0 then none else some (.slice3 x lo hi mx) | _=>none
    |_,_,_,_=>none
 | .fieldAddr t x f=>match A0r P 0 x,P.underlying t with
   | some x,some (.struct fs)=>match fs[f]? with
     |some fd=>if P.cellsOf fd.type=0 then none else some (.faddr x f fd.offset)
     |none=>none
   |_,_=>none
 | .field t x f=>match A0r P t x,P.underlying t with
   | some x,some (.struct fs)=>match fs[f]? with
     |some fd=>if A4l P fd.type then some (.fld (A04 P fd.type) (P.cellsOf fd.type) fd.offset x f) else none
     |none=>none
   |_,_=>none
 | .indexAddr t x i=>match A0r P 0 x,A0r P 0 i,P.underlying t with
   |some x,some i,some (.slice e)=>if P.cellsOf e=0 then none else some (.iaddr (P.cellsOf e) x i)
   |some x,some i,some (.array n e)=>if P.cellsOf e=0 then none else some (.iaddrA n (P.cellsOf e) x i)
   |_,_,_=>none
 | .index t x i=>match A0r P t x,A0r P 0 i,P.underlying t with
   |some x,some i,some (.array n e)=>if A4l P e then some (.idx (A04 P e) (P.cellsOf e) n x i) else none
   |some x,some i,some .string=>some (.idxS x i)
   |_,_,_=>none
 |.extract x i=>match A0r P 0 x with | some o=>some (.ext o i) | none=>none
 |.makeMap t r=>match r,P.underlying t with | none,some (.map kt et)=>some (.mkmap ((D9o P kt).getD .bool) ((B0T P 20 et).getD .bool)) | _,_=>none
 | .lookup t m k ok=>match P.underlying t with
   | some (.map kt et)=>match A0r P t m,A0r P kt k,E0B P et,D9o P kt with
     |some m,some k,some z,some td=>some (.mlook td (.p z) ok m k)
     |_,_,_,_=>none
   |_=>none
 | .mapUpdate t m k v=>match P.underlying t with
   | some (.map kt et)=>match A0r P t m,A0r P kt k,A0r P et v,D9o P kt with
     |some m,some k,some v,some td=>some (.mset td m k v)
     |_,_,_,_=>none
   |_=>none
 | .call c=>match c.callee with
   | .value f=>match A0r P 0 f,A2T P c.argTypes.toList c.args.toList with
     |some f,some l=>some (.call sh f l)
     |_,_=>none
   |.invoke ..=>none
   | .builtin b=>match A2T P c.argTypes.toList c.args.toList with
     |none=>none
     | some l=>match b,l,c.argTypes.toList with
       |.len,[x],[t]=>match P.underlying t with | some .string=>some (.lenS x) | some (.slice _)=>some (.len x) | _=>none
       |.cap,[x],[t]=>match P.underlying t with | some (.slice _)=>some (.capn x) | _=>none
       | .append,[x,y],[t,ty]=>match P.underlying t,P.underlying ty with
         |some (.slice e),some (.int _)=>if P.cellsOf e=0∨P.bytesOf e=0 then none else match B0n P e with | some z=>some (.appn (P.cellsOf e) (P.bytesOf e) z x y) | none=>none
         |some (.slice e),_=>if mt then(if t=ty∧P.cellsOf e≠0∧P.bytesOf e≠0 then some (.appk (P.cellsOf e) x y) else none) else if t=ty∧P.cellsOf e≠0∧P.bytesOf e≠0∧(A42 P e).map List.length=some (P.cellsOf e) then some (.app pz (P.cellsOf e) (P.bytesOf e) x y) else none
         |_,_=>none
       |.copy,[x,y],[t,_]=>match P.underlying t with | some (.slice e)=>if P.cellsOf e=0 then none else some (.cpy (P.cellsOf e) x y) | _=>none
       | .clear,[x],[t]=>match P.underlying t with
         | some (.slice e)=>match C1Z P e with
           |some v=>if P.cellsOf e=0 then none else some (.clr (P.cellsOf e) v x)
           |_=>none
         |_=>none
       |.min,l,_=>some (.mn l)
       |.max,l,_=>some (.mx l)
       |.delete,[m,k],[t,_]=>match P.underlying t with | some (.map ..)=>some (.mdel m k) | _=>none
       |_,_,_=>none
 |_=>none
def C7T (ops:Array Oper):Option (Nat×Bool)->Option (Option (Nat×Bool))
 |none=>some none
 |some (j,b)=>match (ops[j]?).bind (·.dst) with | some t=>some (some (t,b)) | none=>none
def D1o (nt:Nat)(o:Oper):Bool:=match o.dst with | some d=>decide (d<nt) | none=>true
def D1p (A:Ann)(o:Oper):Nat:=match o.dst with | some d=>if A.sh.contains d then 1 else if A.tk.contains d then 2 else 0 | none=>0
def inC (l:List Nat)(o:Oper):Bool:=match o.dst with | some d=>l.contains d | none=>false
def E00 (A:Ann)(nt:Nat)(ops:Array Oper)(o:Oper):Option Ins :=
 if D1o nt o then
  match C7T ops o.guard with
  |some g=>some ⟨o.dst,g,(opC P (D1p A o) (inC A.mt o) (inC A.pz o) o.type o.op).getD .bad⟩
  |none=>none
 else none
def B1C (A:Ann)(nt:Nat)(ops:Array Oper):List Oper->Option (List Ins)
 | []=>some []
 |o::r=>match E00 P A nt ops o,B1C A nt ops r with | some i,some is=>some (i::is) | _,_=>none
def A8L (ops:Array Oper)(is:List Ins):List (Nat×Nat) :=
 let b:=Region.before ops
 (List.range is.length).flatMap λj=>(List.range j).filterMap λi =>
   match is[i]?,is[j]? with
   |some x,some y=>if idle x.op || idle y.op || (A5l x.op&&A5l y.op) || (b.getD j 0).testBit i then none else some (i,j)
   |_,_=>none
def B71 (ops:Array Oper)(is:List Ins):Bool :=
 let b:=Region.before ops
 (List.range is.length).all λj =>
   (match ops[j]? with | some o=>o.after.toList.all λe=>!Region.binds .any e || decide (e.on<j) | none=>false) &&
   (List.range j).all λi=>(b.getD j 0).testBit i || match is[i]?,is[j]? with | some x,some y=>B2C x y | _,_=>false
def C10 (l:List Nat)(c:MC):MC:=l.foldr (λs c=>.seq (.gh (.freeze s)) c) c
def A4e (A:Ann)(nt:Nat):Code->Nat->Option (MC×Nat)
 |.skip,n=>some (.skip,n)
 |.ret,n=>some (.seq (.gh (.keep (A.keep.getD n ([],[])).1 (A.keep.getD n ([],[])).2)) .ret,n+1)
 |.exit id,n=>some (.seq (.gh (.keep (A.keep.getD n ([],[])).1 (A.keep.getD n ([],[])).2)) (.exit id),n+1)
 | .region id ops draw,n=>match B1C P A nt ops ops.toList with
   |some is=>if !draw || B71 ops is then some (C10 ((A.fz.find? (·.1==id)).elim [] (·.2)) (.reg (if draw then A8L ops is else[]) is),n) else some (.bad,n)
   |none=>none
 | .seq a b,n=>match A4e A nt a n with
   | some (x,n1)=>match A4e A nt b n1 with
     |some (y,n2)=>some (.seq x y,n2)
     |none=>none
   |none=>none
 | .cond c a b,n=>match A0r P 0 c,A4e A nt a n with
   | some c,some (x,n1)=>match A4e A nt b n1 with
     |some (y,n2)=>some (.cond c x y,n2)
     |none=>none
   |_,_=>none
 |.block id c,n=>match A4e A nt c n with | some (x,n1)=>some (.block id x,n1) | none=>none
 | .loop c,n=>match A4e A nt c (n+1) with
   |some (x,n1)=>some (.loop (A.keep.getD n ([],[])).1 (A.keep.getD n ([],[])).2 x,n1)
   |none=>none
 |_,n=>some (.bad,n)
def C9F (tmps:Nat):ResultVar->Option RV
 |.tmp t=>if t<tmps then some (.tmp t) else none
 |.cell a t=>if a<tmps∧A4l P t=true then some (.cell a (A04 P t) (P.cellsOf t)) else none
def B1D (tmps:Nat):List ResultVar->Option (List RV)
 | []=>some []
 |x::r=>match C9F P tmps x,B1D tmps r with | some v,some vs=>some (v::vs) | _,_=>none
def C9G (A:Ann)(fn:Func):Option MFun :=
 match fn.body with
 | some c=>match A4e P A fn.ntmps c 0,B1D P fn.ntmps fn.results.toList with
   |some (b,_),some rs=>some ⟨b,rs,A.frz⟩
   |_,_=>none
 |none=>none
end
end Go.Mid
/- What the middle semantics' values and owned memory are in the model's world: the relation,and how it is kept. -/
namespace Go.Mid
set_option linter.unusedSimpArgs false
set_option linter.unusedVariables false
open Go.RowKit
def fnV (f:Nat)(vs:Array Value):Value:=if f<A8E then .func (.func f) #[] vs else .func (.func (f-A8E)) vs #[]
theorem C2j {f:Nat}{vs:Array Value}(h:f<A8E):fnV f vs=.func (.func f) #[] vs:=if_pos h
theorem C7U {f:Nat}{vs:Array Value}(h:A8E<=f):fnV f vs=.func (.func (f-A8E)) vs #[]:=if_neg (Nat.not_lt.2 h)
theorem C2k (f:Nat)(vs:Array Value):∃g i c,fnV f vs=.func g i c:=by
 unfold fnV;split<;>exact⟨_,_,_,rfl⟩
theorem B1E (f:Nat)(vs:Array Value):(fnV f vs).cells=#[fnV f vs]:=by
 unfold fnV;split<;>rfl
structure An where
 g:Nat
 b:Option Nat
 cap:Nat
section
variable {α β:Type}(f:α->β)
mutual
def T.mapA:T α->T β
 |.p v=>.p v
 |.m v=>.m v
 |.agg l=>.agg (T.mapAs l)
 |.vec a z l n=>.vec (f a) z (T.mapAs l) n
 |.mp a ks l=>.mp (f a) ks (T.mapAs l)
 |.hole n=>.hole n
def T.mapAs:List (T α)->List (T β)
 | []=>[]
 |x::r=>T.mapA x::T.mapAs r
end
def Obj.mapA:Obj α->Obj β
 |.cell a t=>.cell (f a) (t.mapA f)
 |.vec a z l=>.vec (f a) z (T.mapAs f l)
 |.mp a ks l=>.mp (f a) ks (T.mapAs f l)
 |.gone=>.gone
theorem T.mapAs_eq (l:List (T α)):T.mapAs f l=l.map (T.mapA f):=by
 induction l with
 |nil=>rfl
 |cons x r ih=>simp[T.mapAs,ih]
end
def Row (w:World)(b o:Nat)(cs:List Value):Prop:=∀j v,cs[j]?=some v->w.cell? ⟨b,o+j,none⟩=some v
def Blk (w:World)(b n:Nat):Prop:=∃c ty,w.heap[b]?=some (.cells c ty (0,0))∧c.size=n
theorem Row.nil {w:World}{b o:Nat}:Row w b o []:=λj v h=>by simp at h
theorem Row.append {w:World}{b o:Nat}{c d:List Value}:Row w b o (c++d)↔Row w b o c∧Row w b (o+c.length) d:=by
 constructor
 . intro h;refine ⟨λj v hj=>h j v ?_,λj v hj=>?_⟩
   . rw[List.getElem?_append_left (by exact(List.getElem?_eq_some_iff.1 hj).1)];exact hj
   . have:=h (c.length+j) v (by rw [List.getElem?_append_right (by omega)];simpa using hj)
     rwa [←Nat.add_assoc] at this
 . rintro ⟨h1,h2⟩ j v hj;by_cases hlt:j<c.length
   . rw[List.getElem?_append_left hlt] at hj;exact h1 j v hj
   . rw [List.getElem?_append_right (by omega)] at hj
     have:=h2 (j-c.length) v hj
     rwa [Nat.add_assoc,Nat.add_sub_cancel' (by omega)] at this
theorem Row.one {w:World}{b o:Nat}{v:Value}:Row w b o [v]↔w.cell? ⟨b,o,none⟩=some v:=by
 constructor
 . intro h;exact h 0 v rfl
 . intro h j u hj;cases j with
   |zero=>simp at hj;subst hj;exact h
   |succ j=>simp at hj
theorem A8M {w w':World}{b:Nat}(h:w'.heap[b]?=w.heap[b]?)(o:Nat):w'.cell? ⟨b,o,none⟩=w.cell? ⟨b,o,none⟩:=World.cell?_of_block (w:=w) h
theorem Row.frame {w w':World}{b o:Nat}{cs:List Value}(h:w'.heap[b]?=w.heap[b]?)(r:Row w b o cs):Row w' b o cs :=
 λj v hj=>by rw[A8M h];exact r j v hj
theorem Blk.frame {w w':World}{b n:Nat}(h:w'.heap[b]?=w.heap[b]?)(r:Blk w b n):Blk w' b n:=by
 obtain⟨c,ty,e,hs⟩:=r;exact⟨c,ty,by rw[h,e],hs⟩
def pk (agg:Bool)(cs:List Value):Value:=if agg then .agg cs.toArray else cs.headD undef
section
variable (w:World)(A:Nat->Prop)
mutual
def PVc:PV->List Value->Prop
 |.int k n,cs=>cs=[.int k n]
 |.bool b,cs=>cs=[.bool b]
 |.str s,cs=>cs=[.string s]
 |.agg l,cs=>PVcs l cs
 |.sl l,cs=>∃a cap,cs=[.slice a l.length cap]∧l.length<=cap∧(l=[]∨∃b o z,a=some ⟨b,o,none⟩∧A b∧PVel l b o z)
 |.ref v,cs=>∃b o,cs=[.pointer (some ⟨b,o,none⟩)]∧A b∧∃cv,PVc v cv∧Row w b o cv
 |.fn f caps,cs=>∃vs,cs=[fnV f vs.toArray]∧PVvs caps vs
 | .mp ks vs,cs=>(cs=[.map none]∧ks=[]∧vs=[]) ∨
    ∃b es clock,cs=[.map (some b)]∧A b∧w.heap[b]?=some (.map es clock)∧PVvs ks (es.toList.map (·.key))∧PVvs vs (es.toList.map (·.val))
 |.nilp,cs=>cs=[.pointer none]
 |.nilf,cs=>cs=[.nilFunc]
def PVcs:List PV->List Value->Prop
 | [],cs=>cs=[]
 |x::r,cs=>∃c d,cs=c++d∧PVc x c∧PVcs r d
def PVel:List PV->Nat->Nat->Nat->Prop
 | [],_,_,_=>True
 |x::r,b,o,z=>(∃c,PVc x c∧c.length=z∧Row w b o c)∧PVel r b (o+z) z
def PVvs:List PV->List Value->Prop
 | [],vs=>vs=[]
 |x::r,vs=>∃c d,vs=pk x.isAgg c::d∧PVc x c∧PVvs r d
end
def PVv (v:PV)(val:Value):Prop:=∃c,PVc w A v c∧val=pk v.isAgg c
end
section
variable {w:World}{A:Nat->Prop}
mutual
theorem PVc.len:∀ {v:PV} {cs:List Value},PVc w A v cs->cs.length=v.cs
 |.int ..,cs,h=>by simp only[PVc] at h;subst h;rfl
 |.bool _,cs,h=>by simp only[PVc] at h;subst h;rfl
 |.str _,cs,h=>by simp only[PVc] at h;subst h;rfl
 |.agg l,cs,h=>by simp only[PVc] at h;simp only[PV.cs];exact PVcs.len h
 |.sl _,cs,h=>by simp only[PVc] at h;obtain⟨a,cap,rfl,_⟩:=h;rfl
 |.ref _,cs,h=>by simp only[PVc] at h;obtain⟨a,cap,rfl,_⟩:=h;rfl
 |.fn ..,cs,h=>by simp only[PVc] at h;obtain⟨a,rfl,_⟩:=h;rfl
 |.mp ..,cs,h=>by
   simp only[PVc] at h;rcases h with⟨rfl,_⟩ | ⟨_,_,_,rfl,_⟩<;>rfl
 |.nilp,cs,h=>by simp only[PVc] at h;subst h;rfl
 |.nilf,cs,h=>by simp only[PVc] at h;subst h;rfl
theorem PVcs.len:∀ {l:List PV} {cs:List Value},PVcs w A l cs->cs.length=PV.css l
 | [],cs,h=>by simp only[PVcs] at h;subst h;rfl
 |x::r,cs,h=>by
   simp only[PVcs] at h;obtain⟨c,d,rfl,h1,h2⟩:=h;rw[List.length_append,PVc.len h1,PVcs.len h2,PV.css]
end
variable {w':World}{A':Nat->Prop}
mutual
theorem PVc.frame (hA:∀ b,A b->A' b)(hw:∀ b,A b->w'.heap[b]?=w.heap[b]?):∀ {v:PV} {cs:List Value},PVc w A v cs->PVc w' A' v cs
 |.int ..,cs,h=>by simpa only[PVc] using h
 |.bool _,cs,h=>by simpa only[PVc] using h
 |.str _,cs,h=>by simpa only[PVc] using h
 |.agg l,cs,h=>by simp only[PVc] at h ⊢;exact PVcs.frame hA hw h
 |.sl l,cs,h=>by
   simp only[PVc] at h ⊢;obtain⟨a,cap,rfl,hc,h⟩:=h;refine⟨a,cap,rfl,hc,?_⟩;rcases h with h | ⟨b,o,z,rfl,hb,h⟩
   . exact .inl h
   . exact .inr ⟨b,o,z,rfl,hA b hb,PVel.frame hA hw hb h⟩
 |.ref v,cs,h=>by
   simp only[PVc] at h ⊢;obtain⟨b,o,rfl,hb,cv,h1,h2⟩:=h;exact⟨b,o,rfl,hA b hb,cv,PVc.frame hA hw h1,h2.frame (hw b hb)⟩
 |.fn f l,cs,h=>by
   simp only[PVc] at h ⊢;obtain⟨vs,rfl,h⟩:=h;exact⟨vs,rfl,PVvs.frame hA hw h⟩
 |.mp ks vs,cs,h=>by
   simp only[PVc] at h ⊢;rcases h with h | ⟨b,es,clock,rfl,hb,he,h1,h2⟩
   . exact .inl h
   . exact .inr ⟨b,es,clock,rfl,hA b hb,by rw[hw b hb,he],PVvs.frame hA hw h1,PVvs.frame hA hw h2⟩
 |.nilp,cs,h=>by simpa only[PVc] using h
 |.nilf,cs,h=>by simpa only[PVc] using h
theorem PVcs.frame (hA:∀ b,A b->A' b)(hw:∀ b,A b->w'.heap[b]?=w.heap[b]?):∀ {l:List PV} {cs:List Value},PVcs w A l cs->PVcs w' A' l cs
 | [],cs,h=>by simpa only[PVcs] using h
 |x::r,cs,h=>by
   simp only[PVcs] at h ⊢;obtain⟨c,d,rfl,h1,h2⟩:=h;exact⟨c,d,rfl,PVc.frame hA hw h1,PVcs.frame hA hw h2⟩
theorem PVel.frame (hA:∀ b,A b->A' b)(hw:∀ b,A b->w'.heap[b]?=w.heap[b]?):∀ {l:List PV} {b o z:Nat},A b->PVel w A l b o z->PVel w' A' l b o z
 | [],b,o,z,_,h=>by simp only[PVel]
 |x::r,b,o,z,hb,h=>by
   simp only[PVel] at h ⊢;obtain⟨⟨c,h1,h2,h3⟩,h4⟩:=h;exact⟨⟨c,PVc.frame hA hw h1,h2,h3.frame (hw b hb)⟩,PVel.frame hA hw hb h4⟩
theorem PVvs.frame (hA:∀ b,A b->A' b)(hw:∀ b,A b->w'.heap[b]?=w.heap[b]?):∀ {l:List PV} {vs:List Value},PVvs w A l vs->PVvs w' A' l vs
 | [],vs,h=>by simpa only[PVvs] using h
 |x::r,vs,h=>by
   simp only[PVvs] at h ⊢;obtain⟨c,d,rfl,h1,h2⟩:=h;exact⟨c,d,rfl,PVc.frame hA hw h1,PVvs.frame hA hw h2⟩
end
theorem PVv.frame (hA:∀b,A b->A' b)(hw:∀b,A b->w'.heap[b]?=w.heap[b]?){v:PV}{val:Value}(h:PVv w A v val):PVv w' A' v val:=by
 obtain⟨c,h1,h2⟩:=h;exact⟨c,h1.frame hA hw,h2⟩
end
end Go.Mid
/- A0B memory in the model's world: the relation of values,trees and roots,and how it is kept. -/
namespace Go.Mid
set_option linter.unusedSimpArgs false
set_option linter.unusedVariables false
open Go.RowKit
def Stp:=Nat->Prop
def Stp.le (a b:Stp):Prop:=∀g,a g->b g
def Stp.add (a:Stp)(g:Nat):Stp:=λi=>a i∨i=g
theorem Stp.le_refl (a:Stp):a.le a:=λ_ h=>h
theorem Stp.le_trans {a b c:Stp}(h:a.le b)(k:b.le c):a.le c:=λg hg=>k g (h g hg)
theorem Stp.le_add (a:Stp)(g:Nat):a.le (a.add g):=λ_ h=>.inl h
theorem Stp.mem_add (a:Stp)(g:Nat):(a.add g) g:=.inr rfl
def A0I (an:An)(z off len:Nat)(a:Option Addr)(cap:Nat):Prop :=
 match an.b with
 |none=>len=0∧cap=0
 |some b=>(cap+off=an.cap∧an.cap<=9223372036854775807)∧((len=0∧cap=0)∨a=some ⟨b,off*z,none⟩)
section
variable (w:World)(A:Nat->Prop)(E:A0f An)(nx:Stp)
mutual
def MVv:MV->Value->Prop
 |.p v,val=>PVv w A v val
 |.nil _,val=>∃a,val=.slice a 0 0
 | .own id path off len g,val=>nx g∧∃ a cap,val=.slice a len cap∧len<=cap ∧
    ∀an z,A0h (E id) (some path)=some (an,some z)->an.g=g->A0I an z off len a cap
 | .ptr id np _ g o,val=>nx g∧∃ a,val=.pointer (some a) ∧
    ∀an z,A0h (E id) np=some (an,z)->an.g=g->∃b,an.b=some b∧a=⟨b,o,none⟩
 |.mref id path g,val=>nx g∧∃b,val=.map (some b)∧∀an z,A0h (E id) (some path)=some (an,z)->an.g=g->an.b=some b
 |.agg l,val=>∃cs,val=.agg cs.toArray∧MVcs l cs
 |.fn f caps,val=>∃vs,val=fnV f vs.toArray∧MVvs caps vs
 |.tup l,val=>∃vs,val=.tuple vs.toArray∧MVvs l vs
 |.dead _,_=>True
def MVcs:List MV->List Value->Prop
 | [],cs=>cs=[]
 |x::r,cs=>∃v d,cs=v.cells.toList++d∧v.cells.size=x.cs∧(∀c,v=.agg c->x.isAgg=true∨∃n,x=.dead n)∧MVv x v∧MVcs r d
def MVvs:List MV->List Value->Prop
 | [],vs=>vs=[]
 |x::r,vs=>∃v d,vs=v::d∧MVv x v∧MVvs r d
end
mutual
def TAt:T An->Nat->Nat->Prop
 |.p v,b,o=>∃cs,PVc w A v cs∧Row w b o cs
 |.m v,b,o=>v.cs=1∧v.isAgg=false∧∃val,MVv w A E nx v val∧Row w b o [val]
 |.agg l,b,o=>TsAt l b o
 | .vec an z l n,b,o=>∃ a cap,Row w b o [.slice a n cap]∧n<=l.length∧A0I an z 0 n a cap ∧
    match an.b with
    |none=>l=[]∧an.cap=0
    |some b'=>Blk w b' (an.cap*z)∧l.length<=an.cap∧(∀t∈l,t.cs=z)∧TsAt l b' 0
 |.mp ..,_,_=>False
 |.hole n,b,o=>∀j,j<n->∃v,w.cell? ⟨b,o+j,none⟩=some v
def TsAt:List (T An)->Nat->Nat->Prop
 | [],_,_=>True
 |t::r,b,o=>TAt t b o∧TsAt r b (o+t.cs)
end
def VB (an:An)(z:Nat)(l:List (T An)):Prop :=
 match an.b with
 |none=>l=[]∧an.cap=0
 |some b=>Blk w b (an.cap*z)∧l.length<=an.cap∧(∀t∈l,t.cs=z)∧TsAt w A E nx l b 0
def MpAt (an:An)(ks:List PV)(vs:List (T An)):Prop :=
 ∃b es clock ws,an.b=some b∧w.heap[b]?=some (.map es clock)∧vs=ws.map T.p∧PVvs w A ks (es.toList.map (·.key))∧PVvs w A ws (es.toList.map (·.val))
def OAt:Obj An->Prop
 |.cell an t=>∃b,an.b=some b∧Blk w b t.cs∧TAt w A E nx t b 0
 |.vec an z l=>VB w A E nx an z l
 |.mp an ks vs=>MpAt w A an ks vs
 |.gone=>True
end
mutual
def T.blk:T An->List Nat
 |.agg l=>T.blks l
 |.vec an _ l _=>an.b.toList++T.blks l
 |.mp an _ l=>an.b.toList++T.blks l
 |_=>[]
def T.blks:List (T An)->List Nat
 | []=>[]
 |t::r=>t.blk++T.blks r
end
def Obj.blk:Obj An->List Nat
 |.cell an t=>an.b.toList++t.blk
 |.vec an _ l=>an.b.toList++T.blks l
 |.mp an _ l=>an.b.toList++T.blks l
 |.gone=>[]
mutual
def T.st (nx:Stp):T An->Prop
 |.agg l=>T.sts nx l
 |.vec an _ l _=>nx an.g∧T.sts nx l
 |.mp an _ _=>nx an.g
 |_=>True
def T.sts (nx:Stp):List (T An)->Prop
 | []=>True
 |t::r=>t.st nx∧T.sts nx r
end
def Obj.st (nx:Stp):Obj An->Prop
 |.cell an t=>nx an.g∧t.st nx
 |.vec an _ l=>nx an.g∧T.sts nx l
 |.mp an _ _=>nx an.g
 |.gone=>True
def NSt (nx:Stp)(E E':A0f An):Prop:=∀id np an z,A0h (E' id) np=some (an,z)->nx an.g->A0h (E id) np=some (an,z)
theorem NSt.refl (nx:Stp)(E:A0f An):NSt nx E E:=λ_ _ _ _ h _=>h
theorem NSt.trans {nx nx':Stp}{E E' E'':A0f An}(h:NSt nx E E')(h':NSt nx' E' E'')(hn:nx.le nx'):NSt nx E E'' :=
 λid np an z hh hg=>h id np an z (h' id np an z hh (hn _ hg)) hg
structure Fr (w w':World)(A A':Nat->Prop)(E E':A0f An)(nx nx':Stp):Prop where
 hA:∀b,A b->A' b
 hw:∀b,A b->w'.heap[b]?=w.heap[b]?
 hE:NSt nx E E'
 hn:nx.le nx'
section
variable {w w':World}{A A':Nat->Prop}{E E':A0f An}{nx nx':Stp}
mutual
theorem MVv.frame (f:Fr w w' A A' E E' nx nx'):∀ {v:MV} {val:Value},MVv w A E nx v val->MVv w' A' E' nx' v val
 |.p v,val,h=>by simp only[MVv] at h ⊢;exact h.frame f.hA f.hw
 |.nil _,val,h=>by simpa only[MVv] using h
 |.own ..,val,h=>by
   simp only[MVv] at h ⊢;obtain⟨hg,a,cap,rfl,hc,h⟩:=h;exact⟨f.hn _ hg,a,cap,rfl,hc,λan z hh hg'=>h an z (f.hE _ _ _ _ hh (hg' ▸ hg)) hg'⟩
 |.ptr ..,val,h=>by
   simp only[MVv] at h ⊢;obtain⟨hg,a,rfl,h⟩:=h;exact⟨f.hn _ hg,a,rfl,λan z hh hg'=>h an z (f.hE _ _ _ _ hh (hg' ▸ hg)) hg'⟩
 |.mref ..,val,h=>by
   simp only[MVv] at h ⊢;obtain⟨hg,a,rfl,h⟩:=h;exact⟨f.hn _ hg,a,rfl,λan z hh hg'=>h an z (f.hE _ _ _ _ hh (hg' ▸ hg)) hg'⟩
 |.agg l,val,h=>by
   simp only[MVv] at h ⊢;obtain⟨cs,rfl,h⟩:=h;exact⟨cs,rfl,MVcs.frame f h⟩
 |.fn _ l,val,h=>by
   simp only[MVv] at h ⊢;obtain⟨vs,rfl,h⟩:=h;exact⟨vs,rfl,MVvs.frame f h⟩
 |.tup l,val,h=>by
   simp only[MVv] at h ⊢;obtain⟨vs,rfl,h⟩:=h;exact⟨vs,rfl,MVvs.frame f h⟩
 |.dead _,val,h=>by simp only[MVv]
theorem MVcs.frame (f:Fr w w' A A' E E' nx nx'):∀ {l:List MV} {cs:List Value},MVcs w A E nx l cs->MVcs w' A' E' nx' l cs
 | [],cs,h=>by simpa only[MVcs] using h
 |x::r,cs,h=>by
   simp only[MVcs] at h ⊢;obtain⟨v,d,rfl,h1,h2,h3,h4⟩:=h;exact⟨v,d,rfl,h1,h2,MVv.frame f h3,MVcs.frame f h4⟩
theorem MVvs.frame (f:Fr w w' A A' E E' nx nx'):∀ {l:List MV} {vs:List Value},MVvs w A E nx l vs->MVvs w' A' E' nx' l vs
 | [],vs,h=>by simpa only[MVvs] using h
 |x::r,vs,h=>by
   simp only[MVvs] at h ⊢;obtain⟨v,d,rfl,h1,h2⟩:=h;exact⟨v,d,rfl,MVv.frame f h1,MVvs.frame f h2⟩
end
mutual
theorem TAt.frame (f:Fr w w' A A' E E' nx nx'):∀ {t:T An} {b o:Nat},(w'.heap[b]?=w.heap[b]?)->(∀ x∈t.blk,w'.heap[x]?=w.heap[x]?)->TAt w A E nx t b o->TAt w' A' E' nx' t b o
 |.p v,b,o,hb,_,h=>by
   simp only[TAt] at h ⊢;obtain⟨cs,h1,h2⟩:=h;exact⟨cs,h1.frame f.hA f.hw,h2.frame hb⟩
 |.m v,b,o,hb,_,h=>by
   simp only[TAt] at h ⊢;obtain⟨h0,h0',val,h1,h2⟩:=h;exact⟨h0,h0',val,h1.frame f,h2.frame hb⟩
 |.agg l,b,o,hb,hk,h=>by
   simp only[TAt] at h ⊢;exact TsAt.frame f hb (by simpa only[T.blk] using hk) h
 |.vec an z l n,b,o,hb,hk,h=>by
   simp only[TAt] at h ⊢;obtain⟨a,cap,h1,h2,h3,h4⟩:=h;refine⟨a,cap,h1.frame hb,h2,h3,?_⟩;cases hbb:an.b with
   |none=>simpa only[hbb] using h4
   |some b' =>
     simp only[hbb] at h4 ⊢;simp only[T.blk,hbb,Option.toList,List.cons_append,List.nil_append,List.mem_cons] at hk;exact⟨h4.1.frame (hk b' (.inl rfl)),h4.2.1,h4.2.2.1,TsAt.frame f (hk b' (.inl rfl)) (λx hx=>hk x (.inr hx)) h4.2.2.2⟩
 |.mp ..,_,_,_,_,h=>by simp only[TAt] at h
 |.hole n,b,o,hb,_,h=>by
   simp only[TAt] at h ⊢;intro j hj;rw[A8M hb];exact h j hj
theorem TsAt.frame (f:Fr w w' A A' E E' nx nx'):∀ {l:List (T An)} {b o:Nat},(w'.heap[b]?=w.heap[b]?)->(∀ x∈T.blks l,w'.heap[x]?=w.heap[x]?)->TsAt w A E nx l b o->TsAt w' A' E' nx' l b o
 | [],b,o,_,_,h=>by simp only[TsAt]
 |t::r,b,o,hb,hk,h=>by
   simp only[TsAt] at h ⊢;simp only[T.blks,List.mem_append] at hk;exact⟨TAt.frame f hb (λx hx=>hk x (.inl hx)) h.1,TsAt.frame f hb (λx hx=>hk x (.inr hx)) h.2⟩
end
theorem MpAt.frame {w w':World}{A A':Nat->Prop}{an:An}{ks:List PV}{vs:List (T An)}(hA:∀b,A b->A' b)(hw:∀b,A b->w'.heap[b]?=w.heap[b]?)(hb:∀b,an.b=some b->w'.heap[b]?=w.heap[b]?)(h:MpAt w A an ks vs):MpAt w' A' an ks vs:=by
 obtain⟨b,es,clock,ws,h1,h2,h3,h4,h5⟩:=h;exact⟨b,es,clock,ws,h1,(hb b h1).trans h2,h3,h4.frame hA hw,h5.frame hA hw⟩
theorem OAt.frame (f:Fr w w' A A' E E' nx nx'){o:Obj An}(hk:∀x∈o.blk,w'.heap[x]?=w.heap[x]?)(h:OAt w A E nx o):OAt w' A' E' nx' o:=by
 cases o with
 |cell an t =>
   simp only[OAt] at h ⊢;obtain⟨b,hb,h1,h2⟩:=h;simp only[Obj.blk,hb,Option.toList,List.cons_append,List.nil_append,List.mem_cons] at hk;exact⟨b,hb,h1.frame (hk b (.inl rfl)),TAt.frame f (hk b (.inl rfl)) (λx hx=>hk x (.inr hx)) h2⟩
 |vec an z l =>
   simp only[OAt,VB] at h ⊢;cases hbb:an.b with
   |none=>simpa only[hbb] using h
   |some b' =>
     simp only[hbb] at h ⊢;simp only[Obj.blk,hbb,Option.toList,List.cons_append,List.nil_append,List.mem_cons] at hk;exact⟨h.1.frame (hk b' (.inl rfl)),h.2.1,h.2.2.1,TsAt.frame f (hk b' (.inl rfl)) (λx hx=>hk x (.inr hx)) h.2.2.2⟩
 |mp an ks vs =>
   simp only[OAt] at h ⊢;exact h.frame f.hA f.hw (λb hb=>hk b (by simp[Obj.blk,hb]))
 |gone=>simp only[OAt]
end
def A0B (E:A0f An)(b:Nat):Prop:=∃i o,E i=some o∧b∈o.blk
structure MR (w:World)(A:Nat->Prop)(E:A0f An)(h:A0b)(nx:Stp):Prop where
 er:∀i,h i=(E i).map (Obj.mapA An.g)
 at_:∀i o,E i=some o->OAt w A E nx o
 lt:∀b,A0B E b->b<w.heap.size∧¬A b
 nd:∀i o,E i=some o->o.blk.Nodup
 dj:∀i j o o',i≠j->E i=some o->E j=some o'->∀b∈o.blk,b∉o'.blk
 im:∀b,A b->b<w.heap.size
 st:∀i o,E i=some o->o.st nx
structure Go1 (w:World)(A:Nat->Prop)(E:A0f An)(nx:Stp)(w':World)(A':Nat->Prop)(E':A0f An):Prop where
 os:w'.os=w.os
 tape:w'.tape=w.tape
 output:w'.output=w.output
 size:w.heap.size<=w'.heap.size
 keep:∀b,b<w.heap.size->¬A0B E b->w'.heap[b]?=w.heap[b]?
 sub:∀b,A b->A' b
 imm:∀b,b<w.heap.size->A' b->A b∨A0B E b
 own:∀b,b<w.heap.size->A0B E' b->A0B E b
 ns:NSt nx E E'
theorem Go1.keepA {w w':World}{A A':Nat->Prop}{E E':A0f An}{nx:Stp}{h:A0b}(m:MR w A E h nx)(g:Go1 w A E nx w' A' E')(b:Nat)(hb:A b):w'.heap[b]?=w.heap[b]? :=
 g.keep b (m.im b hb) λho=>(m.lt b ho).2 hb
theorem Go1.refl (w:World)(A:Nat->Prop)(E:A0f An)(nx:Stp):Go1 w A E nx w A E :=
 ⟨rfl,rfl,rfl,Nat.le_refl _,λ_ _ _=>rfl,λ_ h=>h,λ_ _ h=>.inl h,λ_ _ h=>h,NSt.refl _ _⟩
theorem Go1.trans {w w' w'':World}{A A' A'':Nat->Prop}{E E' E'':A0f An}{nx nx':Stp}(h:Go1 w A E nx w' A' E')(k:Go1 w' A' E' nx' w'' A'' E'')(hn:nx.le nx') :
 Go1 w A E nx w'' A'' E'' where
 os:=k.os.trans h.os
 tape:=k.tape.trans h.tape
 output:=k.output.trans h.output
 size:=Nat.le_trans h.size k.size
 keep:=λb hb ho=>(k.keep b (Nat.lt_of_lt_of_le hb h.size) λho'=>ho (h.own b hb ho')).trans (h.keep b hb ho)
 sub:=λb hb=>k.sub b (h.sub b hb)
 imm:=λb hb hA=>(k.imm b (Nat.lt_of_lt_of_le hb h.size) hA).elim (h.imm b hb) λho=>.inr (h.own b hb ho)
 own:=λb hb ho=>h.own b hb (k.own b (Nat.lt_of_lt_of_le hb h.size) ho)
 ns:=h.ns.trans k.ns hn
theorem MVv.go {w w':World}{A A':Nat->Prop}{E E':A0f An}{nx nx':Stp}{h:A0b}(m:MR w A E h nx)(g:Go1 w A E nx w' A' E')(hn:nx.le nx'){v:MV}{val:Value}
 (hv:MVv w A E nx v val):MVv w' A' E' nx' v val:=hv.frame ⟨g.sub,g.keepA m,g.ns,hn⟩
end Go.Mid
/- The operations that do not touch owned memory: the model does what the middle semantics says. -/
namespace Go.Mid
set_option linter.unusedSimpArgs false
set_option linter.unusedVariables false
open Go.RowKit
theorem B2f {P:Program}{o:Oper}{a:Act}{w w':World}{next:Act->World->Prop}{Q:Exit->Act->World->Prop}{val:Value}
 (h:(execOp a.eval o).run P w=.ok (.value val) w') (hn:next (a.put o.dst val) w'):o.wp P a w next Q:=by
 unfold Oper.wp;rw[h];exact hn
theorem C57 {P:Program}{o:Oper}{a:Act}{w w':World}{next:Act->World->Prop}{Q:Exit->Act->World->Prop}
 (h:(execOp a.eval o).run P w=.ok .skip w') (hn:next (a.put o.dst undef) w'):o.wp P a w next Q:=by
 unfold Oper.wp;rw[h];exact hn
def OpOk (P:Program)(o:Oper)(a:Act)(w:World)(A:Nat->Prop)(E:A0f An)(nx:Stp)(γ:Nat)(v:MV)(h':A0b):Prop :=
 ∃ val w' A' E',((execOp a.eval o).run P w=.ok (.value val) w'∨((execOp a.eval o).run P w=.ok .skip w'∧val=undef)) ∧
  MVv w' A' E' (nx.add γ) v val∧MR w' A' E' h' (nx.add γ)∧Go1 w A E nx w' A' E'
mutual
theorem T.st_mono {n m:Stp}(h:n.le m):∀ {t:T An},t.st n->t.st m
 |.p _,_=>trivial
 |.m _,_=>trivial
 |.agg l,k=>by simp only[T.st] at k ⊢;exact T.sts_mono h k
 |.vec ..,k=>by simp only[T.st] at k ⊢;exact⟨h _ k.1,T.sts_mono h k.2⟩
 |.mp ..,k=>by simp only[T.st] at k ⊢;exact h _ k
 |.hole _,_=>trivial
theorem T.sts_mono {n m:Stp}(h:n.le m):∀ {l:List (T An)},T.sts n l->T.sts m l
 | [],_=>trivial
 |_::_,k=>by simp only[T.sts] at k ⊢;exact⟨T.st_mono h k.1,T.sts_mono h k.2⟩
end
theorem Obj.st_mono {n m:Stp}(h:n.le m){o:Obj An}(k:o.st n):o.st m:=by
 cases o<;>simp only[Obj.st] at k ⊢
 . exact⟨h _ k.1,T.st_mono h k.2⟩
 . exact⟨h _ k.1,T.sts_mono h k.2⟩
 . exact h _ k
theorem Fr.same (w:World)(A:Nat->Prop)(E:A0f An){n m:Stp}(h:n.le m):Fr w w A A E E n m:=⟨λ_ h=>h,λ_ _=>rfl,NSt.refl _ _,h⟩
theorem MR.mono {w:World}{A:Nat->Prop}{E:A0f An}{h:A0b}{n m:Stp}(k:MR w A E h n)(hn:n.le m):MR w A E h m :=
 ⟨k.er,λi o ho=>OAt.frame (Fr.same w A E hn) (λ_ _=>rfl) (k.at_ i o ho),k.lt,k.nd,k.dj,k.im,λi o ho=>Obj.st_mono hn (k.st i o ho)⟩
section
variable {P:Program}{o:Oper}{a:Act}{w:World}{A:Nat->Prop}{E:A0f An}{nx:Stp}{γ:Nat}{v:MV}{h:A0b}
theorem OpOk.idle {val:Value}(hr:(execOp a.eval o).run P w=.ok (.value val) w)(hv:MVv w A E nx v val)(hm:MR w A E h nx):OpOk P o a w A E nx γ v h :=
 ⟨val,w,A,E,.inl hr,hv.frame (Fr.same w A E (nx.le_add γ)),hm.mono (nx.le_add γ),Go1.refl w A E nx⟩
end
section
variable {w:World}{A:Nat->Prop}{E:A0f An}{nx:Stp}{val:Value}
theorem A1W {k:IntKind}{n:Int}:MVv w A E nx (.p (.int k n)) val↔val=.int k n:=by
 simp only[MVv,PVv,PVc,PV.isAgg,pk];constructor
 . rintro⟨c,rfl,rfl⟩;rfl
 . rintro rfl;exact⟨_,rfl,rfl⟩
theorem A2r {b:Bool}:MVv w A E nx (.p (.bool b)) val↔val=.bool b:=by
 simp only[MVv,PVv,PVc,PV.isAgg,pk];constructor
 . rintro⟨c,rfl,rfl⟩;rfl
 . rintro rfl;exact⟨_,rfl,rfl⟩
theorem A6U {s:ByteArray}:MVv w A E nx (.p (.str s)) val↔val=.string s:=by
 simp only[MVv,PVv,PVc,PV.isAgg,pk];constructor
 . rintro⟨c,rfl,rfl⟩;rfl
 . rintro rfl;exact⟨_,rfl,rfl⟩
theorem C2l:MVv w A E nx (.p .nilp) val↔val=.pointer none:=by
 simp only[MVv,PVv,PVc,PV.isAgg,pk];constructor
 . rintro⟨c,rfl,rfl⟩;rfl
 . rintro rfl;exact⟨_,rfl,rfl⟩
theorem C2m:MVv w A E nx (.p .nilf) val↔val=.nilFunc:=by
 simp only[MVv,PVv,PVc,PV.isAgg,pk];constructor
 . rintro⟨c,rfl,rfl⟩;rfl
 . rintro rfl;exact⟨_,rfl,rfl⟩
theorem B51 {l:List PV}:MVv w A E nx (.p (.agg l)) val↔∃cs,val=.agg cs.toArray∧PVcs w A l cs:=by
 simp only[MVv,PVv,PVc,PV.isAgg,pk];constructor
 . rintro⟨c,h,rfl⟩;exact⟨c,rfl,h⟩
 . rintro⟨c,rfl,h⟩;exact⟨c,h,rfl⟩
theorem A43 {l:List PV}:MVv w A E nx (.p (.sl l)) val↔∃p cap,val=.slice p l.length cap∧l.length<=cap∧(l=[]∨∃b o z,p=some ⟨b,o,none⟩∧A b∧PVel w A l b o z):=by
 simp only[MVv,PVv,PVc,PV.isAgg,pk];constructor
 . rintro⟨c,⟨p,cap,rfl,h⟩,rfl⟩;exact⟨p,cap,rfl,h⟩
 . rintro⟨p,cap,rfl,h⟩;exact⟨_,⟨p,cap,rfl,h⟩,rfl⟩
theorem A6V {u:PV}:MVv w A E nx (.p (.ref u)) val↔∃b o,val=.pointer (some ⟨b,o,none⟩)∧A b∧∃cv,PVc w A u cv∧Row w b o cv:=by
 simp only[MVv,PVv,PVc,PV.isAgg,pk];constructor
 . rintro⟨c,⟨b,o,rfl,h⟩,rfl⟩;exact⟨b,o,rfl,h⟩
 . rintro⟨b,o,rfl,h⟩;exact⟨_,⟨b,o,rfl,h⟩,rfl⟩
theorem B52 {f:Nat}{l:List PV}:MVv w A E nx (.p (.fn f l)) val↔∃vs,val=fnV f vs.toArray∧PVvs w A l vs:=by
 simp only[MVv,PVv,PVc,PV.isAgg,pk];constructor
 . rintro⟨c,⟨vs,rfl,h⟩,rfl⟩;exact⟨vs,rfl,h⟩
 . rintro⟨vs,rfl,h⟩;exact⟨_,⟨vs,rfl,h⟩,rfl⟩
end
def GL (P:Program)(w:World)(A:Nat->Prop):Prop:=∀g v,B9y P g=some v->PVv w A (.ref v) (.pointer (some ⟨g,0,none⟩))
theorem GL.frame {P:Program}{w w':World}{A A':Nat->Prop}(h:GL P w A)(hA:∀b,A b->A' b)(hw:∀b,A b->w'.heap[b]?=w.heap[b]?):GL P w' A':=λg v hg=>(h g v hg).frame hA hw
structure SlR (P:Program)(w:World)(A:Nat->Prop)(E:A0f An)(nx:Stp)(s:A0o)(a:Act):Prop where
 sl:∀k,MVv w A E nx (s k) (a.tmps.getD k undef)
 gl:GL P w A
section
variable {P:Program}{w:World}{A:Nat->Prop}{E:A0f An}{nx:Stp}{s:A0o}{a:Act}
theorem C58 {t:TypeId}{v:Value}{m:MV}(h:C2h P t v=some m):MVv w A E nx m v:=by
 unfold C2h at h;split at h<;>try cases h
 . exact A2r.2 rfl
 . exact A1W.2 rfl
 . exact A6U.2 rfl
 . exact C2l.2 rfl
 . exact C2m.2 rfl
 . simp only[MVv,PVv,PVc];exact⟨_,.inl ⟨rfl,trivial,trivial⟩,rfl⟩
 . split at h<;>cases h<;>(simp only[MVv];exact⟨none,rfl⟩)
theorem A0l (hs:SlR P w A E nx s a){t:TypeId}{x:Operand}{o:Opd}(h:A0r P t x=some o):MVv w A E nx (evO s o) (a.eval x):=by
 unfold A0r at h;cases x with
 |tmp n=>simp only[Option.some.injEq] at h;subst h;exact hs.sl n
 |const v =>
   simp only at h;split at h
   . rename_i m hm;cases h;exact C58 hm
   . cases h
 |global g =>
   simp only at h;split at h
   . rename_i v hv;cases h;simp only[evO,MVv];exact hs.gl g v hv
   . cases h
 |func f =>
   simp only at h;split at h
   . rename_i hf;cases h;exact B52.2 ⟨[],(C2j hf).symm,by simp only[PVvs]⟩
   . cases h
theorem A8p (hs:SlR P w A E nx s a):∀ {ts:List TypeId} {xs:List Operand} {os:List Opd},A2T P ts xs=some os->MVvs w A E nx (os.map (evO s)) (xs.map a.eval)
 | [],[],os,h=>by simp only[A2T] at h;cases h;simp only[List.map_nil,MVvs]
 |t::ts,[],os,h=>by simp only[A2T] at h;cases h;simp only[List.map_nil,MVvs]
 | [],x::r,os,h=>by
   simp only[A2T] at h;split at h
   . rename_i o os' h1 h2;cases h;simp only[List.map_cons,MVvs];exact⟨_,_,rfl,A0l hs h1,A8p hs h2⟩
   . cases h
 |t::ts,x::r,os,h=>by
   simp only[A2T] at h;split at h
   . rename_i o os' h1 h2;cases h;simp only[List.map_cons,MVvs];exact⟨_,_,rfl,A0l hs h1,A8p hs h2⟩
   . cases h
end
section
variable {P:Program}(w:World)
theorem C2n (op:BinOp)(k:IntKind)(x y n:Int)(h:B7V op k x y=some n):(Op.intBits op k x y).run P w=.ok (.int k n) w:=by
 cases op<;>simp[B7V] at h<;>subst h<;>simp[Op.intBits]
theorem B2D {t:TypeId}(ht:P.underlying t=some .bool)(m n:Bool):(Op.equal t (.bool m) (.bool n)).run P w=.ok (m==n) w:=by
 have h:∀d,(Op.equalIn (d+1) t (.bool m) (.bool n)).run P w=.ok (m==n) w:=by
  intro d;simp[Op.equalIn,run_underlying ht w]
 exact h 9999
theorem C7V (op:BinOp)(t:TypeId){x y z:PV}(h:A0Z op x y=some z){A:Nat->Prop}{E:A0f An}{nx:Stp}{a b:Value}
 (ha:MVv w A E nx (.p x) a) (hb:MVv w A E nx (.p y) b) (hbool:(∃p,x=.bool p)->P.underlying t=some .bool) :
 ∃c,(binOp op t a b).run P w=.ok c w∧MVv w A E nx (.p z) c∧∀X Y,(eqGuard op t X Y a b).run P w=.ok () w:=by
 cases x<;>cases y<;>simp only[A0Z] at h<;>try cases h
 . rename_i k m k' n;rw [A1W] at ha hb;subst ha;subst hb;have hg:∀ X Y,(eqGuard op t X Y (.int k m) (.int k' n)).run P w=.ok () w:=by
    intro X Y;unfold eqGuard;cases op<;>simp
   cases op<;>simp only at h
   all_goals first
    | (split at h
       . cases h
       . rename_i hk;simp only [ne_eq,Decidable.not_not] at hk;subst hk
         first
          | (simp only [Option.some.injEq] at h;subst h
             refine⟨_,?_,A1W.2 rfl,hg⟩;simp[binOp,Op.intArith];done)
          | (simp only [Option.some.injEq] at h;subst h
             refine⟨_,?_,A2r.2 rfl,hg⟩;simp[binOp,Op.intCmp];done)
          | (split at h
             . cases h
             . rename_i hz;simp only[Option.some.injEq] at h;subst h;refine⟨_,?_,A1W.2 rfl,hg⟩;simp[binOp,Op.intDiv,hz];done)
          | (split at h
             . rename_i r hr;simp only [Option.some.injEq] at h;subst h;refine ⟨_,?_,A1W.2 rfl,hg⟩
               have:=C2n (P:=P) w _ k m n r hr
               simpa [binOp] using this
             . cases h))
    | (split at h
       . cases h
       . rename_i hz;simp only[Option.some.injEq] at h;subst h;refine⟨_,?_,A1W.2 rfl,hg⟩;simp[binOp,Op.shift,hz];done)
 . rename_i m n;rw [A2r] at ha hb;subst ha;subst hb;have ht:=hbool ⟨_,rfl⟩;have hg:∀ X Y,(eqGuard op t X Y (.bool m) (.bool n)).run P w=.ok () w:=by
    intro X Y;unfold eqGuard;cases op<;>simp
   cases op<;>simp only at h<;>cases h
   . refine ⟨_,?_,A2r.2 rfl,hg⟩;have e:binOp .eql t (.bool m) (.bool n)=(do pure (.bool (← Op.equal t (.bool m) (.bool n)))):=rfl
     rw[e];simp only[Sem.run_bind,B2D w ht,Result.andThen_ok,Sem.run_pure]
   . refine ⟨_,?_,A2r.2 rfl,hg⟩;have e:binOp .neq t (.bool m) (.bool n)=(do pure (.bool (!(← Op.equal t (.bool m) (.bool n))))):=rfl
     rw[e];simp only[Sem.run_bind,B2D w ht,Result.andThen_ok,Sem.run_pure]
 . rename_i m n;rw [A6U] at ha hb;subst ha;subst hb;have hg:∀ X Y,(eqGuard op t X Y (.string m) (.string n)).run P w=.ok () w:=by
    intro X Y;unfold eqGuard;cases op<;>simp
   cases op<;>simp only at h
   all_goals first
    |cases h;done
    | (simp only [Option.some.injEq] at h;subst h
       refine⟨_,?_,A2r.2 rfl,hg⟩;simp[binOp,Op.stringOp];done)
    | (split at h
       . rename_i hz;simp only [Option.some.injEq] at h;subst h;refine ⟨_,?_,A6U.2 rfl,hg⟩;have hz':¬ (((m.size+n.size:Nat):Int)>IntKind.i64.max):=by
          simp only[IntKind.max,IntKind.signed,IntKind.bits];simp;omega
         simp[binOp,Op.stringOp];omega
       . cases h)
end
end Go.Mid
/- Parts of structs and arrays,comparisons: the model's runs. -/
namespace Go.Mid
set_option linter.unusedSimpArgs false
set_option linter.unusedVariables false
open Go.RowKit
section
variable {w:World}{A:Nat->Prop}{E:A0f An}{nx:Stp}
theorem PVcs.get:∀ {l:List PV} {cs:List Value} {i:Nat} {x:PV},PVcs w A l cs->l[i]?=some x->
 ∃p c q,cs=p++c++q∧p.length=PV.css (l.take i)∧PVc w A x c
 | [],_,i,x,_,hi=>by simp at hi
 |y::r,cs,0,x,h,hi=>by
   simp only[PVcs] at h;obtain⟨c,d,rfl,h1,h2⟩:=h;simp only[List.getElem?_cons_zero,Option.some.injEq] at hi;subst hi;exact⟨[],c,d,rfl,rfl,h1⟩
 |y::r,cs,i+1,x,h,hi=>by
   simp only[PVcs] at h;obtain⟨c,d,rfl,h1,h2⟩:=h;simp only[List.getElem?_cons_succ] at hi;obtain⟨p,c',q,rfl,hp,hc⟩:=PVcs.get h2 hi;refine⟨c++p,c',q,by simp only[List.append_assoc],?_,hc⟩
   rw[List.length_append,hp,h1.len,List.take_succ_cons,PV.css]
theorem MVcs.get:∀ {l:List MV} {cs:List Value} {i:Nat} {x:MV},MVcs w A E nx l cs->l[i]?=some x->
 ∃p v q,cs=p++v.cells.toList++q∧p.length=MV.css (l.take i)∧v.cells.size=x.cs∧(∀c,v=.agg c->x.isAgg=true∨∃n,x=.dead n)∧MVv w A E nx x v
 | [],_,i,x,_,hi=>by simp at hi
 |y::r,cs,0,x,h,hi=>by
   simp only[MVcs] at h;obtain⟨v,d,rfl,h1,h2,h3,h4⟩:=h;simp only[List.getElem?_cons_zero,Option.some.injEq] at hi;subst hi;exact⟨[],v,d,rfl,rfl,h1,h2,h3⟩
 |y::r,cs,i+1,x,h,hi=>by
   simp only[MVcs] at h;obtain⟨v,d,rfl,h1,h2,h3,h4⟩:=h;simp only[List.getElem?_cons_succ] at hi;obtain⟨p,v',q,rfl,hp,hc⟩:=MVcs.get h4 hi;refine⟨v.cells.toList++p,v',q,by simp only[List.append_assoc],?_,hc⟩
   rw[List.length_append,hp,Array.length_toList,h1,List.take_succ_cons,MV.css]
theorem PVc.one {v:PV}{c:List Value}(h:PVc w A v c)(hv:v.isAgg=false):∃x,c=[x]∧x.cells=#[x]:=by
 cases v<;>simp only[PVc] at h<;>try (subst h;exact⟨_,rfl,rfl⟩)
 . simp[PV.isAgg] at hv
 . obtain⟨a,cap,rfl,_⟩:=h;exact⟨_,rfl,rfl⟩
 . obtain⟨a,cap,rfl,_⟩:=h;exact⟨_,rfl,rfl⟩
 . obtain⟨a,rfl,_⟩:=h;exact⟨_,rfl,B1E _ _⟩
 . rcases h with⟨rfl,_⟩ | ⟨_,_,_,rfl,_⟩<;>exact⟨_,rfl,rfl⟩
theorem PVc.pk_cells {v:PV}{c:List Value}(h:PVc w A v c):(pk v.isAgg c).cells=c.toArray:=by
 cases hv:v.isAgg with
 |true=>simp[pk,Value.cells]
 |false =>
   obtain⟨x,rfl,hx⟩:=h.one hv;simp[pk,hx]
theorem MVv.nonagg {x:MV}{v:Value}(h:MVv w A E nx x v)(hx:x.isAgg=false)(hd:∀n,x≠.dead n):v.cells=#[v]:=by
 cases x with
 |p u =>
   simp only[MVv,PVv] at h;obtain⟨c,h1,rfl⟩:=h;simp only[MV.isAgg] at hx;obtain⟨y,rfl,hy⟩:=h1.one hx;simp[pk,hx,hy]
 |nil=>simp only[MVv] at h;obtain⟨a,rfl⟩:=h;rfl
 |own=>simp only[MVv] at h;obtain⟨_,a,cap,rfl,_⟩:=h;rfl
 |ptr=>simp only[MVv] at h;obtain⟨_,a,rfl,_⟩:=h;rfl
 |mref=>simp only[MVv] at h;obtain⟨_,a,rfl,_⟩:=h;rfl
 |agg=>simp[MV.isAgg] at hx
 |fn=>simp only[MVv] at h;obtain⟨_,rfl,_⟩:=h;exact B1E _ _
 |tup=>simp only[MVv] at h;obtain⟨_,rfl,_⟩:=h;rfl
 |dead n=>exact absurd rfl (hd n)
theorem MVv.agg_eq {x:MV}{v:Value}(h:MVv w A E nx x v)(hx:x.isAgg=true):∃c,v=.agg c:=by
 cases x<;>simp only[MV.isAgg,Bool.false_eq_true] at hx
 . rename_i u;cases u<;>simp only[PV.isAgg,Bool.false_eq_true] at hx;obtain⟨cs,rfl,_⟩:=B51.1 h;exact⟨_,rfl⟩
 . simp only[MVv] at h;obtain⟨cs,rfl,_⟩:=h;exact⟨_,rfl⟩
theorem MVv.pk_eq {x:MV}{v:Value}(h:MVv w A E nx x v)(hd:∀n,x≠.dead n):pk x.isAgg v.cells.toList=v:=by
 cases hx:x.isAgg with
 |true=>obtain⟨c,rfl⟩:=h.agg_eq hx;simp[pk,Value.cells]
 |false=>have:=h.nonagg hx hd;simp[pk,this]
end
section
variable {P:Program}(w:World)
theorem B0e {t:TypeId}(h:P.cellsOf t≠0):∃i,P.info? t=some i∧i.size=P.cellsOf t:=by
 unfold Program.cellsOf at h ⊢;cases hi:P.info? t with
 |none=>simp[hi] at h
 |some i=>exact⟨i,rfl,by simp⟩
theorem B4K {t:TypeId}{d:TypeDesc}(h:P.underlying t=some d):∃i,P.info? t=some i∧i.size=P.cellsOf t:=by
 unfold Program.underlying at h;unfold Program.cellsOf;cases hi:P.info? t with
 |none=>simp[hi] at h
 |some i=>exact⟨i,rfl,by simp⟩
theorem B72 {t:TypeId}{i:TypeInfo}(h:P.info? t=some i):(sizeOf t).run P w=.ok i.size w:=by
 simp[sizeOf,typeInfo,h]
theorem A44 {t:TypeId}(h:A4l P t=true):(sizeOf t).run P w=.ok (P.cellsOf t) w:=by
 unfold A4l at h;obtain⟨d,hd⟩:=Option.isSome_iff_exists.1 h;obtain⟨i,hi,hs⟩:=B4K hd;rw[B72 w hi,hs]
theorem A3k {t:TypeId}(h:P.cellsOf t≠0):(sizeOf t).run P w=.ok (P.cellsOf t) w:=by
 obtain⟨i,hi,hs⟩:=B0e h;rw[B72 w hi,hs]
theorem C0y {t:TypeId}(h:A4l P t=true):(isAgg t).run P w=.ok (A04 P t) w:=by
 unfold A4l at h;obtain⟨d,hd⟩:=Option.isSome_iff_exists.1 h;simp only[isAgg,Sem.run_bind,run_underlying hd,Result.andThen_ok,A04,hd];cases d<;>rfl
theorem A9q {t:TypeId}(h:A4l P t=true)(p c q:List Value)(hc:c.length=P.cellsOf t)(h1:A04 P t=false->c.length=1) :
 (part t (p++c++q).toArray p.length).run P w=.ok (pk (A04 P t) c) w:=by
 simp only[part,Sem.run_bind,C0y w h,Result.andThen_ok];cases hg:A04 P t with
 |true =>
   simp only[if_true,Sem.run_bind,A44 w h,Result.andThen_ok,Sem.run_pure,pk];congr 2;rw[←hc];apply Array.ext';simp[List.drop_left',List.take_left']
 |false =>
   have hl:=h1 hg;obtain⟨x,rfl⟩:=List.length_eq_one_iff.1 hl;simp[pk]
end
section
variable {P:Program}{w:World}{A:Nat->Prop}
def TD.isAgg:TD->Bool | .agg _=>true | _=>false
mutual
theorem A9r:∀ {d:TD} {x:PV},A2V d x=true->x.cs=d.cs∧x.isAgg=d.isAgg
 |.int _,.int ..,_=>⟨rfl,rfl⟩
 |.bool,.bool _,_=>⟨rfl,rfl⟩
 |.str,.str _,_=>⟨rfl,rfl⟩
 |.agg l,.agg m,h=>by
   simp only[A2V] at h;simp only[PV.cs,TD.cs,PV.isAgg,TD.isAgg,and_true];exact C2o h
 |.int _,.bool _,h | .int _,.str _,h | .int _,.agg _,h | .int _,.sl _,h | .int _,.ref _,h | .int _,.fn ..,h | .int _,.mp ..,h | .int _,.nilp,h | .int _,.nilf,h=>by simp[A2V] at h
 |.bool,.int ..,h | .bool,.str _,h | .bool,.agg _,h | .bool,.sl _,h | .bool,.ref _,h | .bool,.fn ..,h | .bool,.mp ..,h | .bool,.nilp,h | .bool,.nilf,h=>by simp[A2V] at h
 |.str,.int ..,h | .str,.bool _,h | .str,.agg _,h | .str,.sl _,h | .str,.ref _,h | .str,.fn ..,h | .str,.mp ..,h | .str,.nilp,h | .str,.nilf,h=>by simp[A2V] at h
 |.agg _,.int ..,h | .agg _,.bool _,h | .agg _,.str _,h | .agg _,.sl _,h | .agg _,.ref _,h | .agg _,.fn ..,h | .agg _,.mp ..,h | .agg _,.nilp,h | .agg _,.nilf,h=>by simp[A2V] at h
theorem C2o:∀ {l:List TD} {m:List PV},A4d l m=true->PV.css m=TD.css l
 | [],[],_=>rfl
 |d::l,x::m,h=>by
   simp only[A4d,Bool.and_eq_true] at h;simp only[PV.css,TD.css,(A9r h.1).1,C2o h.2]
 | [],_::_,h | _::_,[],h=>by simp[A4d] at h
end
theorem C2p {n:Nat}{t:TypeId}{d:TD}(h:B0T P n t=some d):A4l P t=true∧A04 P t=d.isAgg:=by
 cases n with
 |zero=>simp[B0T] at h
 |succ n =>
   unfold B0T at h;unfold A4l A04;cases hu:P.underlying t with
   |none=>rw[hu] at h;cases h
   |some dd =>
     rw [hu] at h;cases dd<;>simp only at h<;>first
      |(cases h;exact⟨rfl,rfl⟩)
      |(cases h;done)
      | (split at h
         . cases h
         . split at h
           . cases h;exact⟨rfl,rfl⟩
           . cases h)
      | (split at h
         . split at h
           . cases h;exact⟨rfl,rfl⟩
           . cases h
         . cases h)
theorem C0z {n:Nat}{e:TypeId}{d:TD}{z:Nat}(f:Nat)(hz:P.cellsOf e=z)(hu:A4l P e=true)(hagg:A04 P e=d.isAgg)(hd:d.cs=z)
 (ih:∀(x y:PV) (cx cy:List Value),A2V d x=true->A2V d y=true->PVc w A x cx->PVc w A y cy->(Op.equalIn (f+n) e (pk x.isAgg cx) (pk y.isAgg cy)).run P w=.ok (eqV x y) w) :
 ∀ (k i:Nat) (xs ys:List PV) (px cx py cy:List Value),A4d (List.replicate k d) xs=true->A4d (List.replicate k d) ys=true->PVcs w A xs cx->PVcs w A ys cy->
  px.length=i*z->py.length=i*z->
  ((forIn (List.range' i k) ((none,()):Option Bool×Unit) λj r=>do
    let a ←part e (px++cx).toArray (j*z)
    let b ←part e (py++cy).toArray (j*z)
    let c ←Op.equalIn (f+n) e a b
    if(!c)=true then pure (ForInStep.done (some false,())) else pure (ForInStep.yield (none,())):Sem (Option Bool×Unit))).run P w =
    .ok (if A9k xs ys then(none,()) else(some false,())) w
 |0,i,xs,ys,px,cx,py,cy,hx,hy,_,_,_,_=>by
   cases xs with
   | nil=>cases ys with
     |nil=>simp[A9k]
     |cons=>simp[A4d] at hy
   |cons=>simp[A4d] at hx
 |k+1,i,xs,ys,px,cx,py,cy,hx,hy,rx,ry,lx,ly=>by
   cases xs with
   |nil=>simp[List.replicate_succ,A4d] at hx
   |cons x xs =>
     cases ys with
     |nil=>simp[List.replicate_succ,A4d] at hy
     |cons y ys =>
       simp only[List.replicate_succ,A4d,Bool.and_eq_true] at hx hy;simp only[PVcs] at rx ry;obtain⟨c1,d1,rfl,r1,r2⟩:=rx;obtain⟨c2,d2,rfl,s1,s2⟩:=ry;obtain⟨hx1,hx2⟩:=A9r hx.1;obtain⟨hy1,hy2⟩:=A9r hy.1;have e1:=A9q (P:=P) w hu px c1 d1 (by rw[r1.len,hx1,hd,hz]) (λh=>by rw[hagg] at h;rw[←hx2] at h;obtain⟨_,rfl,_⟩:=r1.one h;rfl)
       have e2:=A9q (P:=P) w hu py c2 d2 (by rw[s1.len,hy1,hd,hz]) (λh=>by rw[hagg] at h;rw[←hy2] at h;obtain⟨_,rfl,_⟩:=s1.one h;rfl)
       rw[hagg,←hx2] at e1;rw[hagg,←hy2] at e2;rw[lx] at e1;rw[ly] at e2;rw[List.range'_succ,List.forIn_cons];simp only[←List.append_assoc] at e1 e2 ⊢;simp only[Sem.run_bind,e1,e2,Result.andThen_ok,ih x y c1 c2 hx.1 hy.1 r1 s1,Sem.run_ite];cases he:eqV x y with
       |false=>simp[A9k,he]
       |true =>
         simp only[Bool.not_true,Bool.false_eq_true,if_false,Sem.run_pure,Result.andThen_ok]
         have:=C0z f hz hu hagg hd ih k (i+1) xs ys (px++c1) d1 (py++c2) d2 hx.2 hy.2 r2 s2
          (by rw[List.length_append,lx,r1.len,hx1,hd,Nat.succ_mul]) (by rw[List.length_append,ly,s1.len,hy1,hd,Nat.succ_mul])
         simp only[A9k,he,Bool.true_and];exact this
end
end Go.Mid
/- Go's==on structs and arrays,as the middle semantics has it. -/
namespace Go.Mid
set_option linter.unusedSimpArgs false
set_option linter.unusedVariables false
open Go.RowKit
section
variable {P:Program}{w:World}{A:Nat->Prop}
theorem B4L {n f:Nat}(ih:∀ (t:TypeId) (d:TD),B0T P n t=some d->∀ (x y:PV) (cx cy:List Value),A2V d x=true->A2V d y=true->PVc w A x cx->PVc w A y cy->
 (Op.equalIn (f+n) t (pk x.isAgg cx) (pk y.isAgg cy)).run P w=.ok (eqV x y) w) :
 ∀ (fs:List Field) (off:Nat) (ds:List TD) (xs ys:List PV) (px cx py cy:List Value),B70 P (fs.map λf=>(f,B0T P n f.type)) off=some ds->A4d ds xs=true->A4d ds ys=true->
  PVcs w A xs cx->PVcs w A ys cy->px.length=off->py.length=off->
  (Op.eqFields (f+n) (px++cx).toArray (py++cy).toArray fs).run P w=.ok (A9k xs ys) w
 | [],off,ds,xs,ys,px,cx,py,cy,h,hx,hy,_,_,_,_=>by
   simp only[List.map_cons,List.map_nil,B70] at h;cases h;cases xs<;>cases ys<;>simp[A4d] at hx hy;simp[Op.eqFields,A9k]
 |fd::fs,off,ds,xs,ys,px,cx,py,cy,h,hx,hy,rx,ry,lx,ly=>by
   simp only[List.map_cons,List.map_nil,B70] at h;split at h
   . rename_i d ds' h1 h2;split at h
     . rename_i hc;obtain ⟨hname,hoff,hcs⟩:=hc;cases h;cases xs with
       |nil=>simp[A4d] at hx
       |cons x xs =>
         cases ys with
         |nil=>simp[A4d] at hy
         |cons y ys =>
           simp only[A4d,Bool.and_eq_true] at hx hy;simp only[PVcs] at rx ry;obtain⟨c1,d1,rfl,r1,r2⟩:=rx;obtain⟨c2,d2,rfl,s1,s2⟩:=ry;obtain⟨hx1,hx2⟩:=A9r hx.1;obtain⟨hy1,hy2⟩:=A9r hy.1;obtain⟨hu,hagg⟩:=C2p h1;have e1:=A9q (P:=P) w hu px c1 d1 (by rw[r1.len,hx1,hcs]) (λh=>by rw[hagg] at h;rw[←hx2] at h;obtain⟨_,rfl,_⟩:=r1.one h;rfl)
           have e2:=A9q (P:=P) w hu py c2 d2 (by rw[s1.len,hy1,hcs]) (λh=>by rw[hagg] at h;rw[←hy2] at h;obtain⟨_,rfl,_⟩:=s1.one h;rfl)
           rw [hagg,← hx2] at e1;rw [hagg,← hy2] at e2;rw [lx,← hoff] at e1;rw [ly,← hoff] at e2;have ih2:=B4L ih fs (off+P.cellsOf fd.type) ds' xs ys (px++c1) d1 (py++c2) d2 h2 hx.2 hy.2 r2 s2
            (by rw[List.length_append,lx,r1.len,hx1,hcs]) (by rw[List.length_append,ly,s1.len,hy1,hcs])
           simp only[←List.append_assoc] at e1 e2 ⊢;simp only[Op.eqFields,if_pos hname,Sem.run_bind,e1,e2,Result.andThen_ok,ih fd.type d h1 x y c1 c2 hx.1 hy.1 r1 s1,Sem.run_ite];cases he:eqV x y with
           |false=>simp[A9k,he]
           |true =>
             simp only[Bool.not_true,Bool.false_eq_true,if_false,A9k,he,Bool.true_and];exact ih2
     . cases h
   . cases h
theorem B4M:∀ (n:Nat) (f:Nat) (t:TypeId) (d:TD),B0T P n t=some d->∀ (x y:PV) (cx cy:List Value),A2V d x=true->A2V d y=true->PVc w A x cx->PVc w A y cy->
 (Op.equalIn (f+n) t (pk x.isAgg cx) (pk y.isAgg cy)).run P w=.ok (eqV x y) w
 |0,_,_,_,h=>by simp[B0T] at h
 |n+1,f,t,d,h=>by
   intro x y cx cy hx hy rx ry;have ih:=B4M n;unfold B0T at h;cases hu:P.underlying t with
   |none=>rw[hu] at h;cases h
   |some dd =>
     rw[hu] at h;cases dd<;>simp only at h<;>try (cases h;done)
     . cases h;cases x<;>simp[A2V] at hx;cases y<;>simp[A2V] at hy;simp only[PVc] at rx ry;subst rx;subst ry;exact run_equalIn_bool' w (f+n) t _ _ hu
     . cases h;cases x<;>simp[A2V] at hx;cases y<;>simp[A2V] at hy;simp only[PVc] at rx ry;subst rx;subst ry;subst hx;subst hy;exact run_equalIn_int w (f+n) t _ _ _ _ hu
     . cases h;cases x<;>simp[A2V] at hx;cases y<;>simp[A2V] at hy;simp only[PVc] at rx ry;subst rx;subst ry;exact run_equalIn_string w (f+n) t _ _ hu
     . rename_i len e;split at h
       . rename_i d' h1;split at h
         . rename_i hcs;cases h;cases x<;>simp only [A2V,Bool.false_eq_true] at hx;cases y<;>simp only [A2V,Bool.false_eq_true] at hy;simp only [PVc] at rx ry;obtain ⟨hue,hagg⟩:=C2p h1
           have:=C0z (P:=P) (w:=w) (A:=A) (n:=n) (e:=e) (d:=d') (z:=P.cellsOf e) f rfl hue hagg hcs (ih f e d' h1) len 0 _ _ [] cx [] cy hx hy rx ry (by simp) (by simp)
           simp only[List.nil_append] at this;rw[show f+(n+1)=(f+n)+1 from rfl];simp only[pk,PV.isAgg,if_true,Op.equalIn,Sem.run_bind,run_underlying hu,Result.andThen_ok,A44 w hue];have hs:([:len]:Std.Legacy.Range).size=len:=by simp[Std.Legacy.Range.size]
           rw[Std.Legacy.Range.forIn_eq_forIn_range',hs];simp only at this ⊢;rw[this];simp only[eqV];cases A9k _ _<;>rfl
         . cases h
       . cases h
     . rename_i fs;split at h
       . cases h
       . rename_i hst;split at h
         . rename_i ds h1;cases h;cases x<;>simp only [A2V,Bool.false_eq_true] at hx;cases y<;>simp only [A2V,Bool.false_eq_true] at hy;simp only [PVc] at rx ry;have hfs:P.fieldsOf t=fs:=by simp [Program.fieldsOf,hu]
           have:=run_equalIn_struct (P:=P) w (f+n) t cx.toArray cy.toArray (by rw[hfs];exact hu) (by simpa using hst)
           rw[show f+(n+1)=(f+n)+1 from rfl];simp only[pk,PV.isAgg,if_true];rw[this,hfs]
           have:=B4L (ih f) fs.toList 0 ds _ _ [] cx [] cy h1 hx hy rx ry rfl rfl
           simpa [eqV] using this
         . cases h
end
end Go.Mid
/- The operations that do not touch owned memory,one by one. -/
namespace Go.Mid
set_option linter.unusedSimpArgs false
set_option linter.unusedVariables false
open Go.RowKit
theorem A6p (a:Act)(v:Value):a.eval (.const v)=v:=rfl
section
variable {P:Program}{o:Oper}{a:Act}{w:World}{A:Nat->Prop}{E:A0f An}{nx:Stp}{γ:Nat}{v:MV}{h h':A0b}{s:A0o}{K:A0w}{d:Option Nat}
 (hs:SlR P w A E nx s a) (hm:MR w A E h nx)
include hs hm
theorem C2q {x:Operand}{y:Opd}(ho:o.op=.move x∨o.op=.assign x)(hx:A0r P o.type x=some y)
 (he:A0a K γ d s h (.move y)=some (v,h')):OpOk P o a w A E nx γ v h':=by
 simp only[A0a,Option.some.injEq,Prod.mk.injEq] at he;obtain⟨rfl,rfl⟩:=he;refine OpOk.idle ?_ (A0l hs hx) hm;rcases ho with ho | ho<;>simp[execOp,ho]
theorem C9H {c x y:Operand}{c' x' y':Opd}(ho:o.op=.pick c x y){t0:TypeId}(hc:A0r P t0 c=some c'){t1 t2:TypeId}(hx:A0r P t1 x=some x')(hy:A0r P t2 y=some y')
 (he:A0a K γ d s h (.pick c' x' y')=some (v,h')):OpOk P o a w A E nx γ v h':=by
 simp only[A0a] at he;split at he
 . rename_i b hb;simp only [Option.some.injEq,Prod.mk.injEq] at he;obtain ⟨rfl,rfl⟩:=he;have hcv:=A0l hs hc;rw [hb,A2r] at hcv;refine OpOk.idle (val:=if b then a.eval x else a.eval y) ?_ ?_ hm
   . simp[execOp,ho,hcv,asBool]
   . cases b
     . exact A0l hs hy
     . exact A0l hs hx
 . cases he
theorem C9I {x:Operand}{y:Opd}(ho:o.op=.nilCheck x){t:TypeId}(hx:A0r P t x=some y)
 (he:A0a K γ d s h (.nilc y)=some (v,h')):OpOk P o a w A E nx γ v h':=by
 have hv:=A0l hs hx;simp only[A0a] at he;split at he
 . rename_i u hu;simp only[Option.some.injEq,Prod.mk.injEq] at he;obtain⟨rfl,rfl⟩:=he;rw[hu] at hv;obtain⟨b,o',hval,_⟩:=A6V.1 hv;refine OpOk.idle (val:=a.eval x) ?_ hv hm;simp[execOp,ho,hval]
 . rename_i id np rp g o' hu;simp only[Option.some.injEq,Prod.mk.injEq] at he;obtain⟨rfl,rfl⟩:=he;rw[hu] at hv;refine OpOk.idle (val:=a.eval x) ?_ hv hm;simp only[MVv] at hv;obtain⟨_,p,hval,_⟩:=hv;simp[execOp,ho,hval]
 . cases he
theorem B9z {bl:Bool}{op:BinOp}{t yt:TypeId}{x y:Operand}{x' y':Opd}(ho:o.op=.binOp op t x y yt)(hx:A0r P t x=some x')(hy:A0r P yt y=some y')
 (hb:P.underlying t=some .bool∨(∃k,P.underlying t=some (.int k))∨P.underlying t=some .string)
 (hbool:bl=true->P.underlying t=some .bool)
 (he:A0a K γ d s h (.bin bl op x' y')=some (v,h')):OpOk P o a w A E nx γ v h':=by
 have hvx:=A0l hs hx;have hvy:=A0l hs hy;simp only[A0a] at he;split at he
 . rename_i p q hp hq;split at he
   . rename_i hbl;split at he
     . rename_i r hr;simp only [Option.some.injEq,Prod.mk.injEq] at he;obtain ⟨rfl,rfl⟩:=he;rw [hp] at hvx;rw [hq] at hvy;obtain ⟨c,hc1,hc2,hc3⟩:=C7V (P:=P) w op t hr hvx hvy (by rintro ⟨b,rfl⟩;exact hbool hbl.symm)
       refine OpOk.idle (val:=c) ?_ hc2 hm;simp[execOp,ho,hc3,hc1]
     . cases he
   . cases he
 . cases he
theorem B53 {op:BinOp}{t yt:TypeId}{x y:Operand}{x' y':Opd}{neg:Bool}{td:TD}(ho:o.op=.binOp op t x y yt)(hop:op=if neg then .neq else .eql)
 (hx:A0r P t x=some x') (hy:A0r P yt y=some y') (htd:C2i P t=some td) (hagg:A04 P t=true)
 (he:A0a K γ d s h (.eqs neg td x' y')=some (v,h')):OpOk P o a w A E nx γ v h':=by
 have hvx:=A0l hs hx;have hvy:=A0l hs hy;simp only[A0a] at he;split at he
 . rename_i p q hp hq;split at he
   . rename_i hfit;simp only [Bool.and_eq_true] at hfit;simp only [Option.some.injEq,Prod.mk.injEq,A9H] at he;obtain ⟨rfl,rfl⟩:=he;rw [hp] at hvx;rw [hq] at hvy;unfold C2i at htd;split at htd
     . cases htd
     . rename_i hg;have hg':P.eqGuardType P.depth t=false:=by simpa using hg
       simp only[MVv,PVv] at hvx hvy;obtain⟨cx,rx,ex⟩:=hvx;obtain⟨cy,ry,ey⟩:=hvy;have hu:=C2p htd;have hpa:p.isAgg=true:=by rw[(A9r hfit.1).2,←hu.2,hagg]
       have hqa:q.isAgg=true:=by rw[(A9r hfit.2).2,←hu.2,hagg]
       have hr:=B4M (P:=P) (w:=w) (A:=A) 20 9980 t td htd p q cx cy hfit.1 hfit.2 rx ry;rw[hpa,hqa] at hr;rw[hpa] at ex;rw[hqa] at ey;simp only[pk,if_true] at hr ex ey;refine OpOk.idle (val:=.bool (eqV p q != neg)) ?_ (A2r.2 rfl) hm;cases neg with
       |false =>
         simp only[Bool.false_eq_true,if_false] at hop;subst hop;simp only[execOp,ho,ex,ey,Sem.run_bind,run_eqGuard_agg w _ _ _ _ _ _ hg',Result.andThen_ok,run_eql_struct,hr,Sem.run_pure,Bool.bne_false]
       |true =>
         simp only[if_true] at hop;subst hop;simp only[execOp,ho,ex,ey,Sem.run_bind,run_eqGuard_agg w _ _ _ _ _ _ hg',Result.andThen_ok,run_neq_struct,hr,Sem.run_pure,Bool.bne_true]
   . cases he
 . cases he
theorem D1E {t:TypeId}{x:Operand}{x':Opd}(ho:o.op=.unOp .not t x)(hx:A0r P t x=some x')
 (he:A0a K γ d s h (.not x')=some (v,h')):OpOk P o a w A E nx γ v h':=by
 have hvx:=A0l hs hx;simp only[A0a] at he;split at he
 . rename_i b hb;simp only[Option.some.injEq,Prod.mk.injEq,A9H] at he;obtain⟨rfl,rfl⟩:=he;rw[hb,A2r] at hvx;refine OpOk.idle (val:=.bool !b) ?_ (A2r.2 rfl) hm;simp[execOp,ho,hvx,Op.unary]
 . cases he
theorem D1F {t:TypeId}{x:Operand}{x':Opd}(ho:o.op=.unOp .neg t x)(hx:A0r P t x=some x')
 (he:A0a K γ d s h (.neg x')=some (v,h')):OpOk P o a w A E nx γ v h':=by
 have hvx:=A0l hs hx;simp only[A0a] at he;split at he
 . rename_i k n hb;simp only[Option.some.injEq,Prod.mk.injEq] at he;obtain⟨rfl,rfl⟩:=he;rw[hb,A1W] at hvx;refine OpOk.idle (val:=.int k (k.wrap (0-n))) ?_ (A1W.2 rfl) hm;simp[execOp,ho,hvx,Op.unary,Op.intArith]
 . cases he
theorem D1G {t:TypeId}{x:Operand}{x':Opd}(ho:o.op=.unOp .xor t x)(hx:A0r P t x=some x')
 (he:A0a K γ d s h (.inv x')=some (v,h')):OpOk P o a w A E nx γ v h':=by
 have hvx:=A0l hs hx;simp only[A0a] at he;split at he
 . rename_i k n hb;split at he
   . rename_i m hmm;simp only [Option.some.injEq,Prod.mk.injEq] at he;obtain ⟨rfl,rfl⟩:=he;rw [hb,A1W] at hvx;refine OpOk.idle (val:=.int k m) ?_ (A1W.2 rfl) hm
     have:=C2n (P:=P) w .xor k (if k.signed then -1 else k.max) n m hmm
     simp[execOp,ho,hvx,Op.unary,this]
   . cases he
 . cases he
theorem C7W {src dst:TypeId}{k0 k:IntKind}{x:Operand}{x':Opd}(ho:o.op=.convert src dst x)(hx:A0r P src x=some x')(h0:P.underlying src=some (.int k0))(h1:P.underlying dst=some (.int k))
 (he:A0a K γ d s h (.convI k x')=some (v,h')):OpOk P o a w A E nx γ v h':=by
 have hvx:=A0l hs hx;simp only[A0a] at he;split at he
 . rename_i k1 n hb;simp only[Option.some.injEq,Prod.mk.injEq] at he;obtain⟨rfl,rfl⟩:=he;rw[hb,A1W] at hvx;refine OpOk.idle (val:=.int k (k.wrap n)) ?_ (A1W.2 rfl) hm;simp[execOp,ho,hvx,convert,run_underlying h0,run_underlying h1,Conv.intToInt]
 . cases he
theorem C7X {src dst:TypeId}{x:Operand}{x':Opd}(ho:o.op=.convert src dst x)(hx:A0r P src x=some x')(h0:P.underlying src=some .string)(h1:P.underlying dst=some .string)
 (he:A0a K γ d s h (.convS x')=some (v,h')):OpOk P o a w A E nx γ v h':=by
 have hvx:=A0l hs hx;simp only[A0a] at he;split at he
 . rename_i b hb;simp only[Option.some.injEq,Prod.mk.injEq] at he;obtain⟨rfl,rfl⟩:=he;rw[hb,A6U] at hvx;refine OpOk.idle (val:=.string b) ?_ (A6U.2 rfl) hm;simp[execOp,ho,hvx,convert,run_underlying h0,run_underlying h1]
 . cases he
theorem C7Y {src dst:TypeId}{k0:IntKind}{x:Operand}{x':Opd}(ho:o.op=.convert src dst x)(hx:A0r P src x=some x')(h0:P.underlying src=some (.int k0))(h1:P.underlying dst=some .string)
 (he:A0a K γ d s h (.convR x')=some (v,h')):OpOk P o a w A E nx γ v h':=by
 have hvx:=A0l hs hx;simp only[A0a] at he;split at he
 . rename_i k1 n hb;simp only[Option.some.injEq,Prod.mk.injEq] at he;obtain⟨rfl,rfl⟩:=he;rw[hb,A1W] at hvx;refine OpOk.idle (val:=.string (Utf8.encode n)) ?_ (A6U.2 rfl) hm;simp[execOp,ho,hvx,convert,run_underlying h0,run_underlying h1,Conv.intToString]
 . cases he
theorem B73 {op:BinOp}{t yt e:TypeId}{x:Operand}{x':Opd}{neg:Bool}(ho:o.op=.binOp op t x (.const (.pointer none)) yt)(hop:op=if neg then .neq else .eql)
 (hx:A0r P t x=some x') (hu:P.underlying t=some (.pointer e))
 (he:A0a K γ d s h (.isnil false neg x')=some (v,h')):OpOk P o a w A E nx γ v h':=by
 have hvx:=A0l hs hx;have main:∀(b:Bool) (p:Option Addr),a.eval x=.pointer p->b=p.isNone->OpOk P o a w A E nx γ (A9H (b != neg)) h:=by
  intro b p hp hb;refine OpOk.idle (val:=.bool (b != neg)) ?_ (A2r.2 rfl) hm;have h0:∀f,(Op.equalIn (f+1) t (.pointer p) (.pointer none)).run P w=.ok b w:=by
   intro f;subst hb;cases p<;>simp[Op.equalIn,run_underlying hu]
  have h1:(Op.equal t (.pointer p) (.pointer none)).run P w=.ok b w:=h0 9999;have h2:(eqGuard op t x (.const (.pointer none)) (.pointer p) (.pointer none)).run P w=.ok () w:=by
   unfold eqGuard;cases op<;>simp
  cases neg with
  |false =>
    simp only[Bool.false_eq_true,if_false] at hop;subst hop;have e1:binOp .eql t (.pointer p) (.pointer none)=(do pure (.bool (←Op.equal t (.pointer p) (.pointer none)))):=by cases p<;>rfl
    simp[execOp,ho,hp,A6p,h2,e1,h1]
  |true =>
    simp only[if_true] at hop;subst hop;have e1:binOp .neq t (.pointer p) (.pointer none)=(do pure (.bool (!(←Op.equal t (.pointer p) (.pointer none))))):=by cases p<;>rfl
    simp[execOp,ho,hp,A6p,h2,e1,h1]
 simp only[A0a] at he;split at he<;>simp only[Option.some.injEq,Prod.mk.injEq,reduceCtorEq] at he<;>try contradiction
 . obtain⟨rfl,rfl⟩:=he;rename_i hb;rw[hb,C2l] at hvx;exact main true none hvx rfl
 . obtain⟨rfl,rfl⟩:=he;rename_i hb;rw[hb] at hvx;obtain⟨b,o',hval,_⟩:=A6V.1 hvx;exact main false _ hval rfl
 . obtain⟨rfl,rfl⟩:=he;rename_i hb;rw[hb] at hvx;simp only[MVv] at hvx;obtain⟨_,p,hval,_⟩:=hvx;exact main false _ hval rfl
theorem B74 {op:BinOp}{t yt:TypeId}{ps rs:Array TypeId}{vr:Bool}{x:Operand}{x':Opd}{neg:Bool}(ho:o.op=.binOp op t x (.const .nilFunc) yt)(hop:op=if neg then .neq else .eql)
 (hx:A0r P t x=some x') (hu:P.underlying t=some (.func ps rs vr))
 (he:A0a K γ d s h (.isnil true neg x')=some (v,h')):OpOk P o a w A E nx γ v h':=by
 have hvx:=A0l hs hx;have main:∀(b:Bool) (p:Value),a.eval x=p->(p=.nilFunc∧b=true∨(∃f i c,p=.func f i c)∧b=false)->OpOk P o a w A E nx γ (A9H (b != neg)) h:=by
  intro b p hp hb;refine OpOk.idle (val:=.bool (b != neg)) ?_ (A2r.2 rfl) hm;have h0:∀f,(Op.equalIn (f+1) t p .nilFunc).run P w=.ok b w:=by
   intro f;rcases hb with⟨rfl,rfl⟩ | ⟨⟨f,i,c,rfl⟩,rfl⟩<;>simp[Op.equalIn,run_underlying hu]
  have h1:(Op.equal t p .nilFunc).run P w=.ok b w:=h0 9999;have h2:(eqGuard op t x (.const .nilFunc) p .nilFunc).run P w=.ok () w:=by
   rcases hb with⟨rfl,rfl⟩ | ⟨⟨f,i,c,rfl⟩,rfl⟩<;>(unfold eqGuard;cases op<;>simp)
  cases neg with
  |false =>
    simp only[Bool.false_eq_true,if_false] at hop;subst hop;have e1:binOp .eql t p .nilFunc=(do pure (.bool (←Op.equal t p .nilFunc))):=by
     rcases hb with⟨rfl,rfl⟩ | ⟨⟨f,i,c,rfl⟩,rfl⟩<;>rfl
    simp[execOp,ho,hp,A6p,h2,e1,h1]
  |true =>
    simp only[if_true] at hop;subst hop;have e1:binOp .neq t p .nilFunc=(do pure (.bool (!(←Op.equal t p .nilFunc)))):=by
     rcases hb with⟨rfl,rfl⟩ | ⟨⟨f,i,c,rfl⟩,rfl⟩<;>rfl
    simp[execOp,ho,hp,A6p,h2,e1,h1]
 simp only[A0a] at he;split at he<;>simp only[Option.some.injEq,Prod.mk.injEq,reduceCtorEq] at he<;>try contradiction
 . obtain⟨rfl,rfl⟩:=he;rename_i hb;rw[hb,C2m] at hvx;exact main true _ hvx (.inl ⟨rfl,rfl⟩)
 . obtain⟨rfl,rfl⟩:=he;rename_i hb;rw[hb] at hvx;obtain⟨vs,hval,_⟩:=B52.1 hvx;exact main false _ hval (.inr ⟨C2k _ _,rfl⟩)
 . obtain⟨rfl,rfl⟩:=he;rename_i hb;rw[hb] at hvx;simp only[MVv] at hvx;obtain⟨vs,hval,_⟩:=hvx;exact main false _ hval (.inr ⟨C2k _ _,rfl⟩)
theorem D1H {x:Operand}{i:Nat}{x':Opd}{t:TypeId}(ho:o.op=.extract x i)(hx:A0r P t x=some x')
 (he:A0a K γ d s h (.ext x' i)=some (v,h')):OpOk P o a w A E nx γ v h':=by
 have hvx:=A0l hs hx;simp only[A0a] at he;split at he
 . rename_i l hb;split at he
   . rename_i u hi;simp only [Option.some.injEq,Prod.mk.injEq] at he;obtain ⟨rfl,rfl⟩:=he;rw [hb] at hvx;simp only [MVv] at hvx;obtain ⟨vs,hval,hl⟩:=hvx;have key:∀ {l:List MV} {vs:List Value} {i:Nat},MVvs w A E nx l vs->l[i]?=some u->∃ x,vs[i]?=some x∧MVv w A E nx u x:=by
      intro l
      induction l with
      |nil=>intro vs i _ hi;simp at hi
      |cons y r ih =>
        intro vs i hl hi;simp only[MVvs] at hl;obtain⟨x,d,rfl,h1,h2⟩:=hl;cases i with
        |zero=>simp at hi;subst hi;exact⟨x,rfl,h1⟩
        |succ i=>simp at hi;simpa using ih h2 hi
     obtain⟨x,hx1,hx2⟩:=key hl hi;refine OpOk.idle (val:=x) ?_ hx2 hm;simp[execOp,ho,hval,Instr.extract,hx1]
   . cases he
 . cases he
end
end Go.Mid
/- Places in owned memory: what lies there,in the model's world. -/
namespace Go.Mid
set_option linter.unusedSimpArgs false
set_option linter.unusedVariables false
open Go.RowKit
section
variable {α β:Type}(f:α->β)
theorem A7f:∀ (p:List Nat) (t:T α),A0e (t.mapA f) p=(A0e t p).map (T.mapA f)
 | [],t=>by simp[A0e]
 |i::r,.p v=>by
   cases v<;>simp only[T.mapA,A0e,Option.map_none];rename_i l;cases l[i]? with
   |none=>rfl
   |some v=>exact A7f r (.p v)
 |i::r,.m v=>by simp[T.mapA,A0e]
 |i::r,.agg l=>by
   simp only[T.mapA,A0e,T.mapAs_eq,List.getElem?_map];cases l[i]? with
   |none=>rfl
   |some t=>exact A7f r t
 |i::r,.vec a z l n=>by
   simp only[T.mapA,A0e,T.mapAs_eq,List.getElem?_map];cases l[i]? with
   |none=>rfl
   |some t=>exact A7f r t
 |i::r,.mp a ks l=>by simp[T.mapA,A0e]
 |i::r,.hole n=>by simp[T.mapA,A0e]
theorem C2r (ob:Option (Obj α))(p:List Nat):A0j (ob.map (Obj.mapA f)) p=(A0j ob p).map (T.mapA f):=by
 cases ob with
 |none=>cases p<;>rfl
 |some o =>
   cases o with
   |cell a t=>simp only[Option.map_some,Obj.mapA,A0j];exact A7f f p t
   |vec a z l =>
     cases p with
     |nil=>rfl
     |cons i r =>
       simp only[Option.map_some,Obj.mapA,A0j,T.mapAs_eq,List.getElem?_map];cases l[i]? with
       |none=>rfl
       |some t=>exact A7f f r t
   |mp a ks l=>cases p<;>rfl
   |gone=>cases p<;>rfl
theorem C0A (ob:Option (Obj α))(p:List Nat):A0D (ob.map (Obj.mapA f)) p=(A0D ob p).map λx=>(f x.1,x.2.1,x.2.2.map (T.mapA f)):=by
 have h:=C2r f ob p;cases ob with
 |none=>cases p<;>rfl
 |some o =>
   cases o with
   |vec a z l =>
     cases p with
     |nil=>simp[Obj.mapA,A0D,T.mapAs_eq]
     |cons i r =>
       simp only[Option.map_some,A0D] at h ⊢;simp only[Obj.mapA] at h ⊢;rw[h];cases hs:A0j (some (Obj.vec a z l)) (i::r) with
       |none=>rfl
       |some t=>cases t<;>simp[T.mapA,T.mapAs_eq]
   |cell a t =>
     simp only[Option.map_some,A0D] at h ⊢;simp only[Obj.mapA] at h ⊢;rw[h];cases hs:A0j (some (Obj.cell a t)) p with
     |none=>rfl
     |some t=>cases t<;>simp[T.mapA,T.mapAs_eq]
   |mp a ks l =>
     simp only[Option.map_some,A0D] at h ⊢;simp only[Obj.mapA] at h ⊢;rw[h];cases hs:A0j (some (Obj.mp a ks l)) p with
     |none=>rfl
     |some t=>cases t<;>simp[T.mapA,T.mapAs_eq]
   |gone =>
     simp only[Option.map_some,A0D] at h ⊢;simp only[Obj.mapA] at h ⊢;rw[h];cases hs:A0j (some (Obj.gone:Obj α)) p with
     |none=>rfl
     |some t=>cases t<;>simp[T.mapA,T.mapAs_eq]
mutual
theorem T.cs_map:∀ (t:T α),(t.mapA f).cs=t.cs
 |.p _=>rfl
 |.m _=>rfl
 |.agg l=>by simp only[T.mapA,T.cs];exact T.css_map l
 |.vec ..=>rfl
 |.mp ..=>rfl
 |.hole _=>rfl
theorem T.css_map:∀ (l:List (T α)),T.css (T.mapAs f l)=T.css l
 | []=>rfl
 |t::r=>by simp only[T.mapAs,T.css,T.cs_map t,T.css_map r]
end
theorem T.css_map' (l:List (T α)):T.css (l.map (T.mapA f))=T.css l:=by rw[←T.mapAs_eq,T.css_map]
theorem B1F:∀ (p:List Nat) (t:T α) (o:Nat),A1b (t.mapA f) p o=(A1b t p o).map λx=>(x.1.mapA f,x.2)
 | [],t,o=>by simp[A1b]
 |i::r,.p v,o=>by
   cases v<;>simp only[T.mapA,A1b,Option.map_none];rename_i l;cases l[i]? with
   |none=>rfl
   |some v=>exact B1F r (.p v) _
 |i::r,.m v,o=>by simp[T.mapA,A1b]
 |i::r,.agg l,o=>by
   simp only[T.mapA,A1b,T.mapAs_eq,List.getElem?_map];cases l[i]? with
   |none=>rfl
   |some t =>
     simp only[Option.map_some];rw[←List.map_take,T.css_map' f];exact B1F r t _
 |i::r,.vec a z l n,o=>by simp[T.mapA,A1b]
 |i::r,.mp a ks l,o=>by simp[T.mapA,A1b]
 |i::r,.hole n,o=>by simp[T.mapA,A1b]
theorem C9J (ob:Option (Obj α))(np:Option (List Nat))(rp:List Nat):look (ob.map (Obj.mapA f)) np rp=(look ob np rp).map λx=>(x.1.mapA f,f x.2.1,x.2.2):=by
 cases np with
 |none =>
   cases ob with
   |none=>rfl
   |some o =>
     cases o<;>simp only[look,Option.map_some,Obj.mapA,Option.map_none];rename_i a t;rw[B1F];cases A1b t rp 0<;>rfl
 |some p =>
   simp only[look,C0A];cases A0D ob p with
   |none=>rfl
   |some x =>
     obtain⟨a,z,l⟩:=x;cases rp with
     |nil=>rfl
     |cons i r =>
       simp only[Option.map_some,List.getElem?_map];cases l[i]? with
       |none=>rfl
       |some t =>
         simp only[Option.map_some];rw[B1F];cases A1b t r (i*z)<;>rfl
end
section
variable {α:Type}
theorem A4O:∀ (p q:List Nat) (t:T α),A0e t (p++q)=(A0e t p).bind λu=>A0e u q
 | [],q,t=>by simp[A0e]
 |i::r,q,.p v=>by
   cases v<;>simp only[List.cons_append,A0e,Option.bind_none];rename_i l;cases l[i]? with
   |none=>rfl
   |some v=>exact A4O r q (.p v)
 |i::r,q,.m v=>by simp[A0e]
 |i::r,q,.agg l=>by
   simp only[List.cons_append,A0e];cases l[i]? with
   |none=>rfl
   |some t=>exact A4O r q t
 |i::r,q,.vec a z l n=>by
   simp only[List.cons_append,A0e];cases l[i]? with
   |none=>rfl
   |some t=>exact A4O r q t
 |i::r,q,.mp a ks l=>by simp[A0e]
 |i::r,q,.hole n=>by simp[A0e]
theorem B0o:∀ (p:List Nat) (t u:T α) (o o':Nat),A1b t p o=some (u,o')->A0e t p=some u
 | [],t,u,o,o',h=>by simp only[A1b,Option.some.injEq,Prod.mk.injEq] at h;simp[A0e,h.1]
 |i::r,.p v,u,o,o',h=>by
   cases v<;>simp only[A1b,reduceCtorEq] at h;rename_i l;simp only[A0e];cases hl:l[i]? with
   |none=>simp[hl] at h
   |some v=>simp only[hl] at h;exact B0o r _ u _ o' h
 |i::r,.m v,u,o,o',h=>by simp[A1b] at h
 |i::r,.agg l,u,o,o',h=>by
   simp only[A1b] at h;simp only[A0e];cases hl:l[i]? with
   |none=>simp[hl] at h
   |some t=>simp only[hl] at h;exact B0o r _ u _ o' h
 |i::r,.vec a z l n,u,o,o',h=>by simp[A1b] at h
 |i::r,.mp a ks l,u,o,o',h=>by simp[A1b] at h
 |i::r,.hole n,u,o,o',h=>by simp[A1b] at h
theorem B6x (ob:Option (Obj α))(p q:List Nat){u:T α}(h:A0j ob p=some u):A0j ob (p++q)=A0e u q:=by
 cases ob with
 |none=>cases p<;>simp[A0j] at h
 |some o =>
   cases o with
   |cell a t=>simp only[A0j] at h ⊢;rw[A4O,h];rfl
   |vec a z l =>
     cases p with
     |nil=>simp[A0j] at h
     |cons i r =>
       simp only[A0j,List.cons_append] at h ⊢;cases hl:l[i]? with
       |none=>simp[hl] at h
       |some t=>simp only[hl] at h ⊢;rw[A4O,h];rfl
   |mp a ks l=>cases p<;>simp[A0j] at h
   |gone=>cases p<;>simp[A0j] at h
theorem C59 (ob:Option (Obj α))(p:List Nat){a:α}{z:Nat}{l:List (T α)}(h:A0D ob p=some (a,z,l))(i:Nat)(r:List Nat){t:T α}(ht:l[i]?=some t) :
 A0j ob (p++i::r)=A0e t r:=by
 have key:∀n,A0j ob p=some (.vec a z l n)->A0j ob (p++i::r)=A0e t r:=by
  intro n hs;rw[B6x ob p (i::r) hs];simp only[A0e,ht]
 cases ob with
 |none=>cases p<;>simp[A0D,A0j] at h
 |some o =>
   cases o with
   |vec a' z' l' =>
     cases p with
     |nil =>
       simp only[A0D,Option.some.injEq,Prod.mk.injEq] at h;obtain⟨rfl,rfl,rfl⟩:=h;simp only[List.nil_append,A0j,ht]
     |cons j q =>
       simp only[A0D] at h;split at h
       . rename_i hs;simp only[Option.some.injEq,Prod.mk.injEq] at h;obtain⟨rfl,rfl,rfl⟩:=h;exact key _ hs
       . cases h
   |cell a' t' =>
     simp only[A0D] at h;split at h
     . rename_i hs;simp only[Option.some.injEq,Prod.mk.injEq] at h;obtain⟨rfl,rfl,rfl⟩:=h;exact key _ hs
     . cases h
   |mp a' ks l' =>
     simp only[A0D] at h;split at h
     . rename_i hs;simp only[Option.some.injEq,Prod.mk.injEq] at h;obtain⟨rfl,rfl,rfl⟩:=h;exact key _ hs
     . cases h
   |gone =>
     simp only[A0D] at h;split at h
     . rename_i hs;simp only[Option.some.injEq,Prod.mk.injEq] at h;obtain⟨rfl,rfl,rfl⟩:=h;exact key _ hs
     . cases h
theorem B3o {ob:Option (Obj α)}{np:Option (List Nat)}{rp:List Nat}{u:T α}{a:α}{o:Nat}(h:look ob np rp=some (u,a,o)):A0j ob (A5q np rp)=some u:=by
 cases np with
 |none =>
   cases ob with
   |none=>simp[look] at h
   |some ob =>
     cases ob<;>simp only[look,reduceCtorEq] at h;split at h
     . rename_i hl;simp only[Option.some.injEq,Prod.mk.injEq] at h;obtain⟨rfl,rfl,rfl⟩:=h;simp only[A5q,Option.getD_none,List.nil_append,A0j];exact B0o _ _ _ _ _ hl
     . cases h
 |some p =>
   simp only[look] at h;split at h
   . rename_i a' z l i r hv;split at h
     . rename_i t ht;split at h
       . rename_i hl;simp only[Option.some.injEq,Prod.mk.injEq] at h;obtain⟨rfl,rfl,rfl⟩:=h;simp only[A5q,Option.getD_some];rw[C59 ob p hv i r ht];exact B0o _ _ _ _ _ hl
       . cases h
     . cases h
   . cases h
theorem B1G {ob:Option (Obj α)}{p:List Nat}{a:α}{z:Nat}{l:List (T α)}(h:A0D ob p=some (a,z,l)) :
 (p=[]∧ob=some (.vec a z l))∨∃n,A0j ob p=some (.vec a z l n):=by
 have via:(match A0j ob p with | some (.vec a z l _)=>some (a,z,l) | _=>none)=some (a,z,l)->∃n,A0j ob p=some (.vec a z l n):=by
  intro hh;cases hs:A0j ob p with
  |none=>rw[hs] at hh;cases hh
  |some t =>
    rw[hs] at hh;cases t<;>simp only[Option.some.injEq,Prod.mk.injEq,reduceCtorEq] at hh;obtain⟨rfl,rfl,rfl⟩:=hh;exact⟨_,rfl⟩
 cases ob with
 |none=>exact .inr (via (by cases p<;>simp[A0D,A0j] at h))
 |some o =>
   cases o with
   |vec a' z' l' =>
     cases p with
     |nil =>
       simp only[A0D,Option.some.injEq,Prod.mk.injEq] at h;obtain⟨rfl,rfl,rfl⟩:=h;exact .inl ⟨rfl,rfl⟩
     |cons i r=>exact .inr (via h)
   |cell a' t=>exact .inr (via h)
   |mp a' ks l'=>exact .inr (via h)
   |gone=>exact .inr (via h)
theorem A1E {ob:Option (Obj α)}{p:List Nat}{a:α}{z:Nat}{l:List (T α)}(h:A0D ob p=some (a,z,l)):A0h ob (some p)=some (a,some z):=by
 cases ob with
 |none=>cases p<;>simp[A0D,A0j] at h
 |some o =>
   cases o with
   |vec a' z' l' =>
     cases p with
     |nil =>
       simp only[A0D,Option.some.injEq,Prod.mk.injEq] at h;obtain⟨rfl,rfl,rfl⟩:=h;rfl
     |cons j q =>
       simp only[A0D] at h;split at h
       . rename_i hs;simp only[Option.some.injEq,Prod.mk.injEq] at h;obtain⟨rfl,rfl,rfl⟩:=h;simp only[A0h,hs]
       . cases h
   |mp a' ks l' =>
     cases p with
     |nil=>simp[A0D,A0j] at h
     |cons j q =>
       simp only[A0D] at h;split at h
       . rename_i hs;simp only[Option.some.injEq,Prod.mk.injEq] at h;obtain⟨rfl,rfl,rfl⟩:=h;simp only[A0h,hs]
       . cases h
   |cell a' t' =>
     simp only[A0D] at h;split at h
     . rename_i hs;simp only[Option.some.injEq,Prod.mk.injEq] at h;obtain⟨rfl,rfl,rfl⟩:=h;simp only[A0h,hs]
     . cases h
   |gone =>
     simp only[A0D] at h;split at h
     . rename_i hs;simp only[Option.some.injEq,Prod.mk.injEq] at h;obtain⟨rfl,rfl,rfl⟩:=h;simp only[A0h,hs]
     . cases h
theorem A8q {ob:Option (Obj α)}{np:Option (List Nat)}{rp:List Nat}{u:T α}{a:α}{o:Nat}(h:look ob np rp=some (u,a,o)):∃z,A0h ob np=some (a,z):=by
 cases np with
 |none =>
   cases ob with
   |none=>simp[look] at h
   |some ob =>
     cases ob<;>simp only[look,reduceCtorEq] at h;split at h
     . simp only[Option.some.injEq,Prod.mk.injEq] at h;obtain⟨rfl,rfl,rfl⟩:=h;exact⟨none,rfl⟩
     . cases h
 |some p =>
   simp only[look] at h;split at h
   . rename_i a' z l i r hv;split at h
     . split at h
       . simp only[Option.some.injEq,Prod.mk.injEq] at h;obtain⟨rfl,rfl,rfl⟩:=h;exact⟨some z,A1E hv⟩
       . cases h
     . cases h
   . cases h
end
section
variable {w:World}{A:Nat->Prop}{E:A0f An}{nx:Stp}
theorem TsAt.get:∀ {l:List (T An)} {b o i:Nat} {t:T An},TsAt w A E nx l b o->l[i]?=some t->TAt w A E nx t b (o+T.css (l.take i))
 | [],b,o,i,t,_,h=>by simp at h
 |x::r,b,o,0,t,k,h=>by simp only[TsAt] at k;simp at h;subst h;simpa [T.css] using k.1
 |x::r,b,o,i+1,t,k,h=>by
   simp only[TsAt] at k;simp only[List.getElem?_cons_succ] at h
   have:=TsAt.get k.2 h
   rwa [List.take_succ_cons,T.css,←Nat.add_assoc]
theorem A5U {α:Type}{z:Nat}:∀ {l:List (T α)} {i:Nat},(∀ t∈l,t.cs=z)->i<=l.length->T.css (l.take i)=i*z
 |_,0,_,_=>by simp[T.css]
 | [],i+1,_,h=>by simp at h
 |x::r,i+1,h,hi=>by
   rw[List.take_succ_cons,T.css,h x (by simp),A5U (λt ht=>h t (by simp[ht])) (by simpa using hi),Nat.succ_mul,Nat.add_comm]
theorem TsAt.elem {l:List (T An)}{b i z:Nat}{t:T An}(k:TsAt w A E nx l b 0)(hz:∀t∈l,t.cs=z)(h:l[i]?=some t):TAt w A E nx t b (i*z):=by
 have:=k.get h
 rwa [Nat.zero_add,A5U hz (Nat.le_of_lt (List.getElem?_eq_some_iff.1 h).1)] at this
theorem B3p:∀ (p:List Nat) (t u:T An) (b o o':Nat),A1b t p o=some (u,o')->TAt w A E nx t b o->TAt w A E nx u b o'
 | [],t,u,b,o,o',h,k=>by
   simp only[A1b,Option.some.injEq,Prod.mk.injEq] at h;obtain⟨rfl,rfl⟩:=h;exact k
 |i::r,.p v,u,b,o,o',h,k=>by
   cases v<;>simp only[A1b,reduceCtorEq] at h;rename_i l;split at h
   . rename_i v hv;refine B3p r _ u b _ o' h ?_;simp only[TAt,PVc] at k ⊢;obtain⟨cs,k1,k2⟩:=k;obtain⟨p,c,q,rfl,hp,hc⟩:=k1.get hv;refine⟨c,hc,?_⟩;rw[←hp];exact(Row.append.1 (Row.append.1 k2).1).2
   . cases h
 |i::r,.m v,u,b,o,o',h,_=>by simp[A1b] at h
 |i::r,.agg l,u,b,o,o',h,k=>by
   simp only[A1b] at h;split at h
   . rename_i t ht;simp only[TAt] at k;exact B3p r _ u b _ o' h (k.get ht)
   . cases h
 |i::r,.vec a z l n,u,b,o,o',h,_=>by simp[A1b] at h
 |i::r,.mp a ks l,u,b,o,o',h,_=>by simp[A1b] at h
 |i::r,.hole n,u,b,o,o',h,_=>by simp[A1b] at h
theorem B2E:∀ (p:List Nat) (t u:T An) (b o:Nat),A0e t p=some u->TAt w A E nx t b o->∃ b' o',TAt w A E nx u b' o'∧(b'=b∨b'∈t.blk)
 | [],t,u,b,o,h,k=>by
   simp only[A0e,Option.some.injEq] at h;subst h;exact⟨b,o,k,.inl rfl⟩
 |i::r,.p v,u,b,o,h,k=>by
   cases v<;>simp only[A0e,reduceCtorEq] at h;rename_i l;split at h
   . rename_i v hv
     have:TAt w A E nx (.p v) b (o+PV.css (l.take i)):=by
      simp only[TAt,PVc] at k ⊢;obtain⟨cs,k1,k2⟩:=k;obtain⟨p,c,q,rfl,hp,hc⟩:=k1.get hv;refine⟨c,hc,?_⟩;rw[←hp];exact(Row.append.1 (Row.append.1 k2).1).2
     obtain⟨b',o',h1,h2⟩:=B2E r (.p v) u b _ h this;exact⟨b',o',h1,.inl (h2.resolve_right (by simp[T.blk]))⟩
   . cases h
 |i::r,.m v,u,b,o,h,_=>by simp[A0e] at h
 |i::r,.agg l,u,b,o,h,k=>by
   simp only[A0e] at h;split at h
   . rename_i t ht;simp only [TAt] at k;obtain ⟨b',o',h1,h2⟩:=B2E r t u b _ h (k.get ht);refine ⟨b',o',h1,h2.imp id λhb=>?_⟩
     simp only[T.blk];have key:∀{l:List (T An)} {i:Nat},l[i]?=some t->b'∈T.blks l:=by
      intro l
      induction l with
      |nil=>intro i h;simp at h
      |cons x q ih =>
        intro i h;cases i with
        |zero=>simp at h;subst h;simp[T.blks,hb]
        |succ i=>simp at h;simp[T.blks,ih h]
     exact key ht
   . cases h
 |i::r,.vec a z l n,u,b,o,h,k=>by
   simp only[A0e] at h;split at h
   . rename_i t ht;simp only [TAt] at k;obtain ⟨p,cap,_,_,_,k4⟩:=k;cases hb:a.b with
     |none=>simp only[hb] at k4;rw[k4.1] at ht;simp at ht
     |some b0 =>
       simp only[hb] at k4;obtain⟨b',o',h1,h2⟩:=B2E r t u b0 _ h (k4.2.2.2.elem k4.2.2.1 ht);refine⟨b',o',h1,.inr ?_⟩;simp only[T.blk,hb,Option.toList,List.cons_append,List.nil_append,List.mem_cons];refine h2.imp id λhb=>?_
       have key:∀{l:List (T An)} {i:Nat},l[i]?=some t->b'∈T.blks l:=by
        intro l
        induction l with
        |nil=>intro i h;simp at h
        |cons x q ih =>
          intro i h;cases i with
          |zero=>simp at h;subst h;simp[T.blks,hb]
          |succ i=>simp at h;simp[T.blks,ih h]
       exact key ht
   . cases h
 |i::r,.mp a ks l,u,b,o,_,k=>by simp only[TAt] at k
 |i::r,.hole n,u,b,o,h,_=>by simp[A0e] at h
end
end Go.Mid
/- Operations that read: loads,lengths,addresses,parts. -/
namespace Go.Mid
set_option linter.unusedSimpArgs false
set_option linter.unusedVariables false
open Go.RowKit
section
variable {w:World}{A:Nat->Prop}{E:A0f An}{nx:Stp}{h:A0b}
theorem MR.vec (m:MR w A E h nx){id:Nat}{path:List Nat}{g z:Nat}{l:List (T Nat)}(hv:A0D (h id) path=some (g,z,l)) :
 ∃an l',A0D (E id) path=some (an,z,l')∧an.g=g∧l=l'.map (T.mapA An.g):=by
 rw[m.er id,C0A] at hv;cases hE:A0D (E id) path with
 |none=>simp[hE] at hv
 |some x =>
   obtain⟨an,z',l'⟩:=x;simp only[hE,Option.map_some,Option.some.injEq,Prod.mk.injEq] at hv;obtain⟨rfl,rfl,rfl⟩:=hv;exact⟨an,l',rfl,rfl,rfl⟩
theorem MR.look (m:MR w A E h nx){id:Nat}{np:Option (List Nat)}{rp:List Nat}{g o:Nat}{t:T Nat}(hv:look (h id) np rp=some (t,g,o)) :
 ∃an t',look (E id) np rp=some (t',an,o)∧an.g=g∧t=t'.mapA An.g:=by
 rw[m.er id,C9J] at hv;cases hE:Mid.look (E id) np rp with
 |none=>simp[hE] at hv
 |some x =>
   obtain⟨t',an,o'⟩:=x;simp only[hE,Option.map_some,Option.some.injEq,Prod.mk.injEq] at hv;obtain⟨rfl,rfl,rfl⟩:=hv;exact⟨an,t',rfl,rfl,rfl⟩
theorem MR.sub (m:MR w A E h nx){id:Nat}{p:List Nat}{t:T Nat}(hv:A0j (h id) p=some t):∃t',A0j (E id) p=some t'∧t=t'.mapA An.g:=by
 rw[m.er id,C2r] at hv;cases hE:A0j (E id) p with
 |none=>simp[hE] at hv
 |some t'=>simp only[hE,Option.map_some,Option.some.injEq] at hv;exact⟨t',rfl,hv.symm⟩
theorem MR.vecB (m:MR w A E h nx){id:Nat}{path:List Nat}{an:An}{z:Nat}{l:List (T An)}(hv:A0D (E id) path=some (an,z,l)):VB w A E nx an z l:=by
 have key:∀{o:Obj An} {n:Nat},E id=some o->A0j (some o) path=some (.vec an z l n)->VB w A E nx an z l:=by
  intro o n ho hs;have hat:=m.at_ id o ho;have fin:∀{b o':Nat},TAt w A E nx (.vec an z l n) b o'->VB w A E nx an z l:=by
   intro b o' k;simp only[TAt] at k;obtain⟨_,_,_,_,_,k⟩:=k;simp only[VB];exact k
  cases o with
  |cell a t =>
    simp only[OAt] at hat;obtain⟨b,_,_,k⟩:=hat;simp only[A0j] at hs;obtain⟨b',o',k',_⟩:=B2E _ _ _ _ _ hs k;exact fin k'
  |vec a z' l' =>
    cases path with
    |nil=>simp[A0j] at hs
    |cons i r =>
      simp only[A0j] at hs;split at hs
      . rename_i t ht;simp only [OAt,VB] at hat;cases hb:a.b with
        |none=>simp only[hb] at hat;rw[hat.1] at ht;simp at ht
        |some b =>
          simp only[hb] at hat;obtain⟨b',o',k',_⟩:=B2E _ _ _ _ _ hs (hat.2.2.2.elem hat.2.2.1 ht);exact fin k'
      . cases hs
  |mp=>cases path<;>simp[A0j] at hs
  |gone=>cases path<;>simp[A0j] at hs
 cases ho:E id with
 |none=>rw[ho] at hv;cases path<;>simp[A0D,A0j] at hv
 |some o =>
   rw[ho] at hv;rcases B1G hv with⟨rfl,he⟩ | ⟨n,hs⟩
   . cases he
     have:=m.at_ id _ ho
     simpa only[OAt] using this
   . exact key ho hs
theorem MR.lookAt (m:MR w A E h nx){id:Nat}{np:Option (List Nat)}{rp:List Nat}{an:An}{o:Nat}{t:T An}(hv:Mid.look (E id) np rp=some (t,an,o)) :
 ∃b,an.b=some b∧TAt w A E nx t b o:=by
 cases np with
 |none =>
   cases ho:E id with
   |none=>rw[ho] at hv;simp[Mid.look] at hv
   |some ob =>
     rw[ho] at hv;cases ob<;>simp only[Mid.look,reduceCtorEq] at hv;rename_i a t0;split at hv
     . rename_i u o' hl;simp only [Option.some.injEq,Prod.mk.injEq] at hv;obtain ⟨rfl,rfl,rfl⟩:=hv
       have:=m.at_ id _ ho
       simp only[OAt] at this;obtain⟨b,hb,_,k⟩:=this;exact⟨b,hb,B3p _ _ _ _ _ _ hl k⟩
     . cases hv
 |some p =>
   simp only[Mid.look] at hv;split at hv
   . rename_i a z l i r hvec;split at hv
     . rename_i t0 ht0;split at hv
       . rename_i u o' hl;simp only [Option.some.injEq,Prod.mk.injEq] at hv;obtain ⟨rfl,rfl,rfl⟩:=hv;have k:=m.vecB hvec;simp only [VB] at k;cases hb:a.b with
         |none=>simp only[hb] at k;rw[k.1] at ht0;simp at ht0
         |some b =>
           simp only[hb] at k;exact⟨b,rfl,B3p _ _ _ _ _ _ hl (k.2.2.2.elem k.2.2.1 ht0)⟩
       . cases hv
     . cases hv
   . cases hv
theorem A7w:∀ (p:List Nat) (t u:T An),A0e t p=some u->t.st nx->u.st nx
 | [],t,u,h,k=>by simp only[A0e,Option.some.injEq] at h;subst h;exact k
 |i::r,.p v,u,h,k=>by
   cases v<;>simp only[A0e,reduceCtorEq] at h;split at h
   . rename_i v hv;exact A7w r (.p v) u h trivial
   . cases h
 |i::r,.m v,u,h,_=>by simp[A0e] at h
 |i::r,.agg l,u,h,k=>by
   simp only[A0e] at h;split at h
   . rename_i t ht;simp only [T.st] at k;have key:∀ {l:List (T An)} {i:Nat},T.sts nx l->l[i]?=some t->t.st nx:=by
      intro l
      induction l with
      |nil=>intro i _ h;simp at h
      |cons x q ih =>
        intro i k h;simp only[T.sts] at k;cases i with
        |zero=>simp at h;subst h;exact k.1
        |succ i=>simp at h;exact ih k.2 h
     exact A7w r t u h (key k ht)
   . cases h
 |i::r,.vec a z l n,u,h,k=>by
   simp only[A0e] at h;split at h
   . rename_i t ht;simp only [T.st] at k;have key:∀ {l:List (T An)} {i:Nat},T.sts nx l->l[i]?=some t->t.st nx:=by
      intro l
      induction l with
      |nil=>intro i _ h;simp at h
      |cons x q ih =>
        intro i k h;simp only[T.sts] at k;cases i with
        |zero=>simp at h;subst h;exact k.1
        |succ i=>simp at h;exact ih k.2 h
     exact A7w r t u h (key k.2 ht)
   . cases h
 |i::r,.mp a ks l,u,h,k=>by simp[A0e] at h
 |i::r,.hole n,u,h,_=>by simp[A0e] at h
theorem T.sts_get {l:List (T An)}{i:Nat}{t:T An}(k:T.sts nx l)(h:l[i]?=some t):t.st nx:=by
 induction l generalizing i with
 |nil=>simp at h
 |cons x q ih =>
   simp only[T.sts] at k;cases i with
   |zero=>simp at h;subst h;exact k.1
   |succ i=>simp at h;exact ih k.2 h
theorem MR.subSt (m:MR w A E h nx){id:Nat}{p:List Nat}{t:T An}(hs:A0j (E id) p=some t):t.st nx:=by
 cases ho:E id with
 |none=>rw[ho] at hs;cases p<;>simp[A0j] at hs
 |some o =>
   rw[ho] at hs
   have:=m.st id o ho
   cases o with
   |cell a t0=>simp only[A0j] at hs;simp only[Obj.st] at this;exact A7w _ _ _ hs this.2
   |vec a z l =>
     cases p with
     |nil=>simp[A0j] at hs
     |cons i r =>
       simp only[A0j] at hs;simp only[Obj.st] at this;split at hs
       . rename_i t0 ht0;exact A7w _ _ _ hs (T.sts_get this.2 ht0)
       . cases hs
   |mp a ks l=>cases p<;>simp[A0j] at hs
   |gone=>cases p<;>simp[A0j] at hs
theorem MR.mapAt (m:MR w A E h nx){id:Nat}{path:List Nat}{g:Nat}{ks:List PV}{vs:List (T Nat)}(hm:Mid.mapAt (h id) path=some (g,ks,vs)) :
 path=[]∧∃an lA,E id=some (.mp an ks lA)∧an.g=g∧vs=T.mapAs An.g lA:=by
 rw[m.er] at hm;cases hE:E id with
 |none=>rw[hE] at hm;cases path<;>simp[Mid.mapAt] at hm
 |some o =>
   rw[hE] at hm;cases o<;>cases path<;>simp[Mid.mapAt,Obj.mapA] at hm;obtain⟨rfl,rfl,rfl⟩:=hm;exact⟨rfl,_,_,rfl,rfl,rfl⟩
theorem C2s {c:Array Value}(h:(Value.agg c).cells=#[Value.agg c]):False:=by
 simp only[Value.cells] at h;have hm:Value.agg c∈c:=by
  have:Value.agg c∈#[Value.agg c]:=by simp
  rw[←h] at this;exact this
 have:=Array.sizeOf_lt_of_mem hm
 simp at this;omega
theorem B0U {b o:Nat}:∀ (n:Nat),(∀ j,j<n->∃ v,w.cell? ⟨b,o+j,none⟩=some v)->∃ cs:List Value,cs.length=n∧Row w b o cs
 |0,_=>⟨[],rfl,Row.nil⟩
 |n+1,k=>by
   obtain⟨cs,h1,h2⟩:=B0U n (λj hj=>k j (by omega))
   obtain⟨v,hv⟩:=k n (by omega)
   refine⟨cs++[v],by simp[h1],Row.append.2 ⟨h2,?_⟩⟩
   rw[h1];exact Row.one.2 hv
def ValR (w:World)(A:Nat->Prop)(E:A0f An)(nx:Stp)(x:MV)(cs:List Value):Prop :=
 cs.length=x.cs∧((∃n,x=.dead n)∨MVv w A E nx x (pk x.isAgg cs)∧(x.isAgg=false->∃v,cs=[v]∧v.cells=#[v]))
theorem ValR.val {x:MV}{cs:List Value}(k:ValR w A E nx x cs):MVv w A E nx x (pk x.isAgg cs):=by
 rcases k.2 with⟨n,rfl⟩ | h
 . simp only[MVv]
 . exact h.1
theorem ValR.comp {x:MV}{cs:List Value}(k:ValR w A E nx x cs):∃v,v.cells.toList=cs∧v.cells.size=x.cs∧(∀c,v=.agg c->x.isAgg=true∨∃n,x=.dead n)∧MVv w A E nx x v:=by
 rcases k.2 with⟨n,rfl⟩ | ⟨h1,h2⟩
 . exact⟨.agg cs.toArray,by simp[Value.cells],by simpa [Value.cells,MV.cs] using k.1,λc _=>.inr ⟨n,rfl⟩,by simp only[MVv]⟩
 . cases hx:x.isAgg with
   |true =>
     refine⟨.agg cs.toArray,by simp[Value.cells],by simpa [Value.cells] using k.1,λc _=>.inl rfl,?_⟩
     simpa [hx,pk] using h1
   |false =>
     obtain⟨v,rfl,hv⟩:=h2 hx;refine⟨v,by simp[hv],by simpa [hv] using k.1,?_,?_⟩
     . rintro c rfl;exact(C2s hv).elim
     . simpa [hx,pk] using h1
theorem A8r:∀ {l:List MV} {vs:List PV},A3h l=some vs->l=vs.map .p
 | [],vs,h=>by simp only[A3h] at h;cases h;rfl
 |x::r,vs,h=>by
   cases x<;>simp only[A3h,reduceCtorEq] at h;split at h
   . rename_i l hl;cases h;simp[A8r hl]
   . cases h
theorem C2t:∀ {vs:List PV} {cs:List Value},MVcs w A E nx (vs.map .p) cs->PVcs w A vs cs
 | [],cs,h=>by simpa only[List.map_nil,MVcs,PVcs] using h
 |x::r,cs,h=>by
   simp only[List.map_cons,MVcs] at h;obtain⟨v,d,rfl,h1,h2,h3,h4⟩:=h;simp only[PVcs];simp only[MVv,PVv] at h3;obtain⟨c,h5,rfl⟩:=h3;refine⟨c,d,?_,h5,C2t h4⟩;rw[h5.pk_cells]
theorem A7g:∀ {vs:List PV} {l:List Value},MVvs w A E nx (vs.map .p) l↔PVvs w A vs l
 | [],l=>by simp only[List.map_nil,MVvs,PVvs]
 |x::r,l=>by
   simp only[List.map_cons,MVvs,PVvs,MVv,PVv];constructor
   . rintro⟨v,d,rfl,⟨c,h1,rfl⟩,h2⟩;exact⟨c,d,rfl,h1,A7g.1 h2⟩
   . rintro⟨c,d,rfl,h1,h2⟩;exact⟨_,d,rfl,⟨c,h1,rfl⟩,A7g.2 h2⟩
theorem B1H {l:List MV}{cs:List Value}(h:MVcs w A E nx l cs):MVv w A E nx (A50 l) (.agg cs.toArray):=by
 unfold A50;cases ha:A3h l with
 |none=>simp only[MVv];exact⟨cs,rfl,h⟩
 |some vs =>
   rw[A8r ha] at h;exact B51.2 ⟨cs,rfl,C2t h⟩
theorem B67 (l:List MV):(A50 l).cs=MV.css l∧(A50 l).isAgg=true:=by
 unfold A50;cases ha:A3h l with
 |none=>exact⟨rfl,rfl⟩
 |some vs =>
   rw[A8r ha];refine⟨?_,rfl⟩;simp only[MV.cs,PV.cs];clear ha
   induction vs with
   |nil=>rfl
   |cons x r ih=>simp[PV.css,MV.css,MV.cs,ih]
mutual
theorem B9A (m:MR w A E h nx){id:Nat}:∀ (t:T An) (path:List Nat) (b o:Nat),A0j (E id) path=some t->TAt w A E nx t b o->
 ∃cs,Row w b o cs∧ValR w A E nx (A76 id path (t.mapA An.g)) cs∧cs.length=t.cs
 |.p v,path,b,o,_,k=>by
   simp only[TAt] at k;obtain⟨cs,h1,h2⟩:=k;refine⟨cs,h2,⟨by simpa [T.mapA,A76,MV.cs] using h1.len,.inr ⟨?_,?_⟩⟩,by simpa [T.cs] using h1.len⟩
   . simp only[T.mapA,A76,MV.isAgg,MVv,PVv];exact⟨cs,h1,rfl⟩
   . intro hx;obtain⟨x,rfl,hx'⟩:=h1.one hx;exact⟨x,rfl,hx'⟩
 |.m v,path,b,o,_,k=>by
   simp only[TAt] at k;obtain⟨h0,h1,val,h2,h3⟩:=k;refine⟨[val],h3,⟨by simpa [T.mapA,A76] using h0.symm,?_⟩,by simpa [T.cs] using h0.symm⟩
   simp only[T.mapA,A76];by_cases hd:∃n,v=.dead n
   . exact .inl hd
   . refine .inr ⟨by simpa [h1,pk] using h2,λ_=>⟨val,rfl,h2.nonagg h1 (λn e=>hd ⟨n,e⟩)⟩⟩
 |.agg l,path,b,o,hs,k=>by
   simp only[TAt] at k;obtain⟨cs,h1,h2,h3⟩:=C2u m l [] path b o (by simpa using hs) k
   simp only[T.mapA,A76];refine⟨cs,h1,⟨?_,.inr ⟨?_,?_⟩⟩,by simpa [T.cs] using h3⟩
   . rw [(B67 _).1]
     have:∀{l:List MV} {cs:List Value},MVcs w A E nx l cs->cs.length=MV.css l:=by
      intro l
      induction l with
      |nil=>intro cs h;simp only[MVcs] at h;subst h;rfl
      |cons x r ih =>
        intro cs h;simp only[MVcs] at h;obtain⟨v,d,rfl,h1,_,_,h4⟩:=h;rw[List.length_append,Array.length_toList,h1,ih h4,MV.css]
     exact this h2
   . rw[(B67 _).2];simpa [pk] using B1H h2
   . rw[(B67 _).2];intro h;cases h
 |.vec an z l n,path,b,o,hs,k=>by
   have hst:=m.subSt hs;simp only[T.st] at hst;simp only[TAt] at k;obtain⟨a,cap,h1,h2,h3,h4⟩:=k;refine⟨[.slice a n cap],h1,⟨rfl,.inr ⟨?_,λ_=>⟨_,rfl,rfl⟩⟩⟩,rfl⟩
   simp only[T.mapA,A76,MV.isAgg,pk,MVv,Bool.false_eq_true,if_false,List.headD_cons];refine⟨hst.1,a,cap,rfl,?_,λan' z' hn hg=>?_⟩
   . unfold A0I at h3;cases hb:an.b with
     |none=>simp only[hb] at h3;omega
     |some b' =>
       simp only[hb] at h3 h4
       have:=h4.2.1
       have:=h3.1
       omega
   . have:A0h (E id) (some path)=some (an,some z):=by
      refine A1E (l:=l) ?_;unfold A0D;split
      . rename_i he;rw[he] at hs;simp[A0j] at hs
      . rw[hs]
     rw[this] at hn;cases hn;exact h3
 |.mp ..,_,_,_,_,k=>by simp only[TAt] at k
 |.hole n,path,b,o,_,k=>by
   simp only[TAt] at k
   have:=B0U n k
   obtain⟨cs,h1,h2⟩:=this;exact⟨cs,h2,⟨by simpa [T.mapA,A76,MV.cs] using h1,.inl ⟨n,rfl⟩⟩,by simpa [T.cs] using h1⟩
theorem C2u (m:MR w A E h nx){id:Nat}:∀ (l pre:List (T An)) (path:List Nat) (b o:Nat),A0j (E id) path=some (.agg (pre++l))->TsAt w A E nx l b o->
 ∃cs,Row w b o cs∧MVcs w A E nx (A7v id path pre.length (T.mapAs An.g l)) cs∧cs.length=T.css l
 | [],pre,path,b,o,_,_=>⟨[],Row.nil,by simp only[T.mapAs,A7v,MVcs],rfl⟩
 |t::r,pre,path,b,o,hs,k=>by
   simp only[TsAt] at k;have ht:A0j (E id) (path++[pre.length])=some t:=by
    rw[B6x _ _ _ hs];simp[A0e]
   obtain⟨c,h1,h2,h3⟩:=B9A m t (path++[pre.length]) b o ht k.1;obtain⟨d,h4,h5,h6⟩:=C2u m r (pre++[t]) path b (o+t.cs) (by simpa using hs) k.2
   obtain⟨v,hv1,hv2,hv3,hv4⟩:=h2.comp;refine⟨c++d,Row.append.2 ⟨h1,by rw[h3];exact h4⟩,?_,by rw[List.length_append,h3,h6,T.css]⟩
   simp only[T.mapAs,A7v,MVcs];refine⟨v,d,by rw[hv1],hv2,hv3,hv4,?_⟩
   simpa using h5
end
end
end Go.Mid
/- Operations that read,one by one. -/
namespace Go.Mid
set_option linter.unusedSimpArgs false
set_option linter.unusedVariables false
open Go.RowKit
theorem A2s (b o n:Nat):(⟨b,o,none⟩:Addr).add n=⟨b,o+n,none⟩:=by
 unfold Addr.add;split
 . rename_i h;subst h;rfl
 . rfl
section
variable {w:World}{A:Nat->Prop}{E:A0f An}{nx:Stp}
theorem PVel.get:∀ {l:List PV} {b o z i:Nat} {x:PV},PVel w A l b o z->l[i]?=some x->∃ c,PVc w A x c∧c.length=z∧Row w b (o+i*z) c
 | [],_,_,_,i,x,_,h=>by simp at h
 |y::r,b,o,z,0,x,k,h=>by
   simp only[PVel] at k;obtain⟨⟨c,h1,h2,h3⟩,_⟩:=k;simp at h;subst h;exact⟨c,h1,h2,by simpa using h3⟩
 |y::r,b,o,z,i+1,x,k,h=>by
   simp only[PVel] at k;simp only[List.getElem?_cons_succ] at h;obtain⟨c,h1,h2,h3⟩:=PVel.get k.2 h;refine⟨c,h1,h2,?_⟩
   rwa [Nat.add_assoc,Nat.add_comm z,←Nat.succ_mul] at h3
theorem B2F {x:MV}{val:Value}{i:Int}(h:asI x=some i)(hv:MVv w A E nx x val):∃k,val=.int k i:=by
 unfold asI at h;split at h
 . cases h;exact⟨_,A1W.1 hv⟩
 . cases h
theorem B0V {x:MV}{val:Value}{n k:Nat}(h:B0d n x=some k)(hv:MVv w A E nx x val):∃kd,val=.int kd k∧k<n:=by
 unfold B0d at h;split at h
 . rename_i i hi;split at h
   . rename_i hb;cases h;obtain⟨kd,rfl⟩:=B2F hi hv;exact⟨kd,by rw[Int.toNat_of_nonneg hb.1],by omega⟩
   . cases h
 . cases h
theorem A9s {x:MV}{val:Value}{n k:Nat}(h:A9n n x=some k)(hv:MVv w A E nx x val):∃kd,val=.int kd k∧k<=n:=by
 unfold A9n at h;split at h
 . rename_i i hi;split at h
   . rename_i hb;cases h;obtain⟨kd,rfl⟩:=B2F hi hv;exact⟨kd,by rw[Int.toNat_of_nonneg hb.1],by omega⟩
   . cases h
 . cases h
end
section
variable {P:Program}{o:Oper}{a:Act}{w:World}{A:Nat->Prop}{E:A0f An}{nx:Stp}{γ:Nat}{v:MV}{h h':A0b}{s:A0o}{K:A0w}{d:Option Nat}
 (hs:SlR P w A E nx s a) (hm:MR w A E h nx)
theorem A9I (w:World){t:TypeId}(hU:A4l P t=true){b o:Nat}{cs:List Value}(hc:cs.length=P.cellsOf t)(hr:Row w b o cs)(h1:A04 P t=false->cs.length=1) :
 (loadVar t ⟨b,o,none⟩).run P w=.ok (pk (A04 P t) cs) w:=by
 have hrow:∀j v,cs[j]?=some v->w.cell? ((⟨b,o,none⟩:Addr).add j)=some v:=λj v hj=>by rw[A2s];exact hr j v hj
 simp only[loadVar,Sem.run_bind,C0y w hU,Result.andThen_ok];cases hg:A04 P t with
 |true =>
   simp only[if_true,Sem.run_bind,A44 w hU,Result.andThen_ok];rw[←hc,run_loadCells_list w _ cs hrow];simp[pk]
 |false =>
   obtain⟨x,rfl⟩:=List.length_eq_one_iff.1 (h1 hg)
   have:=Row.one.1 hr
   simp[pk,this]
include hs hm
theorem C9K {t:TypeId}{x:Operand}{x':Opd}{t0:TypeId}(ho:o.op=.load t x)(hx:A0r P t0 x=some x')(hU:A4l P t=true)
 (he:A0a K γ d s h (.load (A04 P t) (P.cellsOf t) x')=some (v,h')):OpOk P o a w A E nx γ v h':=by
 have hvx:=A0l hs hx;simp only[A0a] at he;split at he
 . rename_i u hu;simp only [Option.some.injEq,Prod.mk.injEq] at he;obtain ⟨rfl,rfl⟩:=he;unfold A37 at hu;split at hu
   . rename_i pv hp;split at hu
     . rename_i hc;cases hu;rw [hp] at hvx;obtain ⟨b,o',hval,hA,cv,h1,h2⟩:=A6V.1 hvx;refine OpOk.idle (val:=pk (A04 P t) cv) ?_ ?_ hm
       . simp only [execOp,ho,hval,Instr.loadAt,Instr.sureAddr,Sem.run_bind,Sem.run_pure,Result.andThen_ok];rw [A9I w hU (by rw [h1.len,hc.1]) h2 (λhg=>by rw [← hc.2] at hg;obtain ⟨_,rfl,_⟩:=h1.one hg;rfl)]
         rfl
       . simp only[MVv,PVv];exact⟨cv,h1,by rw[hc.2]⟩
     . cases hu
   . rename_i id np rp g o' hp;split at hu
     . rename_i t' s' oo hl;simp only at hu;split at hu
       . rename_i hc;obtain ⟨rfl,rfl,hcs⟩:=hc;split at hu
         . rename_i hagg;obtain ⟨hagg,hdead⟩:=hagg;cases hu;obtain ⟨an,tA,hlA,hg,rfl⟩:=hm.look hl;obtain ⟨b,hb,hat⟩:=hm.lookAt hlA;rw [hp] at hvx;simp only [MVv] at hvx;obtain ⟨_,ad,hval,hadr⟩:=hvx;obtain ⟨z,hn⟩:=A8q hlA;obtain ⟨b',hb',rfl⟩:=hadr an z hn hg;rw [hb] at hb';cases hb';obtain ⟨cs,hrow,hvr,hlen⟩:=B9A hm tA (A5q np rp) b oo (B3o hlA) hat;rw [T.cs_map] at hcs;refine OpOk.idle (val:=pk (A04 P t) cs) ?_ ?_ hm
           . simp only [execOp,ho,hval,Instr.loadAt,Instr.sureAddr,Sem.run_bind,Sem.run_pure,Result.andThen_ok];rw [A9I w hU (by rw [hlen,hcs]) hrow ?_]
             . rfl
             . intro hg';rw [← hagg] at hg';rcases hvr.2 with ⟨n,hn⟩ | ⟨_,h2⟩
               . rw[hn] at hdead;cases hdead
               . obtain⟨x,rfl,_⟩:=h2 hg';rfl
           . rw[←hagg];exact hvr.val
         . cases hu
       . cases hu
     . cases hu
   . cases hu
 . cases he
omit hs hm in
theorem A30 {c:Call}{b:Builtin}(ho:o.op=.call c)(hc:c.callee=.builtin b) :
 (execOp a.eval o).run P w=(builtin b c.argTypes o.type (c.args.map λ| .const _=>true | _=>false) (c.args.map a.eval)).run P w:=by
 simp only[execOp,ho,resolve,hc,Sem.run_bind,Sem.run_pure,Result.andThen_ok,invoke];rfl
theorem D1I {x:Operand}{x':Opd}{t t0 e:TypeId}{c:Call}(ho:o.op=.call c)(hc1:c.callee=.builtin .len)(hc2:c.args=#[x])(hc3:c.argTypes=#[t])(hx:A0r P t0 x=some x')
 (hu:P.underlying t=some (.slice e))
 (he:A0a K γ d s h (.len x')=some (v,h')):OpOk P o a w A E nx γ v h':=by
 have hvx:=A0l hs hx;simp only[A0a] at he;split at he
 . rename_i n hn;simp only [Option.some.injEq,Prod.mk.injEq,A8G] at he;obtain ⟨rfl,rfl⟩:=he;have main:∀ p cap,a.eval x=.slice p n cap->OpOk P o a w A E nx γ (.p (.int .i64 n)) h:=by
    intro p cap hval;refine OpOk.idle (val:=.int .i64 n) ?_ (A1W.2 rfl) hm;rw[A30 ho hc1];simp[builtin,hc2,hc3,hval,Builtin.len_,run_underlying hu,goInt]
   unfold A8H at hn;split at hn
   . rename_i l hl;cases hn;rw[hl] at hvx;obtain⟨p,cap,hval,_⟩:=A43.1 hvx;exact main p cap hval
   . rename_i z hl;cases hn;rw[hl] at hvx;simp only[MVv] at hvx;obtain⟨p,hval⟩:=hvx;exact main p 0 hval
   . rename_i id path off len g hl;cases hn;rw[hl] at hvx;simp only[MVv] at hvx;obtain⟨_,p,cap,hval,_⟩:=hvx;exact main p cap hval
   . cases hn
 . cases he
theorem C9L {x:Operand}{x':Opd}{t t0 e:TypeId}{c:Call}(ho:o.op=.call c)(hc1:c.callee=.builtin .cap)(hc2:c.args=#[x])(hc3:c.argTypes=#[t])(hx:A0r P t0 x=some x')
 (hu:P.underlying t=some (.slice e))
 (he:A0a K γ d s h (.capn x')=some (v,h')):OpOk P o a w A E nx γ v h':=by
 have hvx:=A0l hs hx;simp only[A0a] at he;split at he
 . rename_i z hb;simp only[Option.some.injEq,Prod.mk.injEq,A8G] at he;obtain⟨rfl,rfl⟩:=he;rw[hb] at hvx;simp only[MVv] at hvx;obtain⟨p,hval⟩:=hvx;refine OpOk.idle (val:=.int .i64 (0:Nat)) ?_ (A1W.2 rfl) hm;rw[A30 ho hc1];simp[builtin,hc2,hc3,hval,Builtin.cap_,run_underlying hu,goInt]
 . cases he
theorem C9M {x:Operand}{x':Opd}{t t0:TypeId}{c:Call}(ho:o.op=.call c)(hc1:c.callee=.builtin .len)(hc2:c.args=#[x])(hc3:c.argTypes=#[t])(hx:A0r P t0 x=some x')
 (hu:P.underlying t=some .string)
 (he:A0a K γ d s h (.lenS x')=some (v,h')):OpOk P o a w A E nx γ v h':=by
 have hvx:=A0l hs hx;simp only[A0a] at he;split at he
 . rename_i b hb;simp only[Option.some.injEq,Prod.mk.injEq,A8G] at he;obtain⟨rfl,rfl⟩:=he;rw[hb,A6U] at hvx;refine OpOk.idle (val:=.int .i64 b.size) ?_ (A1W.2 rfl) hm;rw[A30 ho hc1];simp[builtin,hc2,hc3,hvx,Builtin.len_,run_underlying hu,goInt]
 . cases he
theorem C7Z {x ix:Operand}{x' ix':Opd}{t t0 t1 e:TypeId}(ho:o.op=.indexAddr t x ix)(hx:A0r P t0 x=some x')(hix:A0r P t1 ix=some ix')
 (hu:P.underlying t=some (.slice e)) (hz:P.cellsOf e≠0)
 (he:A0a K γ d s h (.iaddr (P.cellsOf e) x' ix')=some (v,h')):OpOk P o a w A E nx γ v h':=by
 have hvx:=A0l hs hx;have hvi:=A0l hs hix;simp only[A0a] at he;split at he
 . rename_i u hu';simp only [Option.some.injEq,Prod.mk.injEq] at he;obtain ⟨rfl,rfl⟩:=he;have main:∀ b o' len cap kd (k:Nat),a.eval x=.slice (some ⟨b,o',none⟩) len cap->a.eval ix=.int kd k->k<len->MVv w A E nx u (.pointer (some ⟨b,o'+k*P.cellsOf e,none⟩))->
    OpOk P o a w A E nx γ u h:=by
    intro b o' len cap kd k h1 h2 h3 h4;refine OpOk.idle ?_ h4 hm;have h5:(k:Int)<(len:Int):=by omega
    simp[execOp,ho,h1,h2,Instr.indexAt,asIntOf,run_underlying hu,h3,A3k w hz,A2s]
   unfold A6S at hu';split at hu'
   . rename_i l hl;split at hu'
     . rename_i k hk;split at hu'
       . rename_i pv hpv;split at hu'
         . rename_i hcs;cases hu';obtain ⟨kd,hival,hlt⟩:=B0V hk hvi;rw [hl] at hvx;obtain ⟨p,cap,hval,_,hel⟩:=A43.1 hvx;rcases hel with rfl | ⟨b,o',z,rfl,hA,hel⟩
           . simp at hpv
           . obtain ⟨c,h1,h2,h3⟩:=hel.get hpv
             have:z=P.cellsOf e:=by rw[←h2,h1.len,hcs]
             subst this;exact main b o' l.length cap kd k hval hival hlt (A6V.2 ⟨b,_,rfl,hA,c,h1,h3⟩)
         . cases hu'
       . cases hu'
     . cases hu'
   . rename_i id path off len g hl;split at hu'
     . rename_i k hk;split at hu'
       . rename_i g' z' l' hvec;split at hu'
         . rename_i hc;obtain ⟨rfl,rfl⟩:=hc;cases hu';obtain ⟨kd,hival,hlt⟩:=B0V hk hvi;rw [hl] at hvx;simp only [MVv] at hvx;obtain ⟨hg,p,cap,hval,hlc,hown⟩:=hvx;obtain ⟨an,lA,hvA,hgA,rfl⟩:=hm.vec hvec;have hn:=A1E hvA;have hh:=hown an _ hn hgA;unfold A0I at hh;cases hb:an.b with
           |none=>simp only[hb] at hh;omega
           |some b =>
             simp only[hb] at hh;rcases hh with⟨hcap,hh | rfl⟩
             . omega
             . refine main b _ len cap kd k hval hival hlt ?_;simp only [MVv];refine ⟨by omega,_,rfl,λan' z hn' hg'=>?_⟩
               rw[hn] at hn';cases hn';exact⟨b,hb,by rw[Nat.add_mul]⟩
         . cases hu'
       . cases hu'
     . cases hu'
   . cases hu'
 . cases he
omit hs hm in
theorem B0W (hs:SlR P w A E nx s a){n:Nat}{lo hi:Option Operand}{lo' hi':Option Opd}(hlo:A78 P lo=some lo')(hhi:A78 P hi=some hi'){i j:Nat}(he:B3m n (lo'.map (evO s)) (hi'.map (evO s))=some (i,j)) :
 i<=j∧j<=n∧∀isS cap,n<=cap->(Instr.sliceBounds isS n cap (lo.map a.eval) (hi.map a.eval) none).run P w=.ok (i,j,cap) w:=by
 have opt:∀{x:Option Operand} {x':Option Opd},A78 P x=some x'->(x=none∧x'=none)∨∃y y' t,x=some y∧x'=some y'∧A0r P t y=some y':=by
  intro x x' hx;unfold A78 at hx;cases x with
  |none=>simp at hx;exact .inl ⟨rfl,hx.symm⟩
  |some y =>
    simp only at hx;split at hx
    . rename_i y' hy;cases hx;exact .inr ⟨y,y',0,rfl,rfl,hy⟩
    . cases hx
 unfold B3m at he;have bd:∀{x:Option Operand} {x':Option Opd} {n m:Nat} {r:Nat},A78 P x=some x'->B4I n m (x'.map (evO s))=some r->(x=none∧r=m)∨∃y kd,x=some y∧a.eval y=.int kd r∧r<=n:=by
  intro x x' n m r hx hb;rcases opt hx with⟨rfl,rfl⟩ | ⟨y,y',t,rfl,rfl,hy⟩
  . simp only[Option.map_none,B4I,Option.some.injEq] at hb;exact .inl ⟨rfl,hb.symm⟩
  . simp only[Option.map_some,B4I] at hb;obtain⟨kd,hval,hle⟩:=A9s hb (A0l hs hy);exact .inr ⟨y,kd,rfl,hval,hle⟩
 split at he
 . rename_i jj h1;split at he
   . rename_i ii h4;simp only [Option.some.injEq,Prod.mk.injEq] at he;obtain ⟨rfl,rfl⟩:=he;have h3:=bd hhi h1;have h6:=bd hlo h4;have h2:jj<=n:=by
      rcases h3 with⟨_,rfl⟩ | ⟨_,_,_,_,h⟩
      . exact Nat.le_refl _
      . exact h
     have h5:ii<=jj:=by
      rcases h6 with⟨_,rfl⟩ | ⟨_,_,_,_,h⟩
      . exact Nat.zero_le _
      . exact h
     refine⟨h5,h2,λisS cap hcap=>?_⟩
     have e1:∀(kd:IntKind) (m y:Nat) (cd:BoundsCode),m<=y->(Instr.sliceBound (.int kd m) y cd).run P w=.ok m w:=by
      intro kd m y cd hle
      have:(m:Int)<=(y:Int):=by omega
      simp[Instr.sliceBound,asIntOf,this]
     rcases h3 with⟨rfl,rfl⟩ | ⟨y,kd,rfl,hy,_⟩<;>rcases h6 with⟨rfl,rfl⟩ | ⟨y2,kd2,rfl,hy2,_⟩
     . simp[Instr.sliceBounds]
     . simp[Instr.sliceBounds,hy2,e1 kd2 ii _ _ h5]
     . simp[Instr.sliceBounds,hy,e1 kd jj cap _ (by omega)]
     . simp[Instr.sliceBounds,hy,hy2,e1 kd jj cap _ (by omega),e1 kd2 ii _ _ h5]
   . cases he
 . cases he
theorem C6a {x:Operand}{x':Opd}{lo hi:Option Operand}{lo' hi':Option Opd}{t t0:TypeId}(ho:o.op=.slice t x lo hi none)(hx:A0r P t0 x=some x')
 (hlo:A78 P lo=some lo') (hhi:A78 P hi=some hi') (hu:P.underlying t=some .string)
 (he:A0a K γ d s h (.sliceS x' lo' hi')=some (v,h')):OpOk P o a w A E nx γ v h':=by
 have hvx:=A0l hs hx;simp only[A0a] at he;split at he
 . rename_i b hb;split at he
   . rename_i i j hij;simp only[Option.some.injEq,Prod.mk.injEq] at he;obtain⟨rfl,rfl⟩:=he;rw[hb,A6U] at hvx;obtain⟨_,_,hr⟩:=B0W hs hlo hhi hij;refine OpOk.idle (val:=.string (b.extract i j)) ?_ (A6U.2 rfl) hm;simp[execOp,ho,hvx,Instr.sliceAt,Instr.slice,run_underlying hu,hr false b.size (Nat.le_refl _)]
   . cases he
 . cases he
omit hs hm in
theorem C70 {u:MV}{val:Value}{n:Nat}(hv:MVv w A E nx u val)(h:A8H u=some n):∃p cap,val=.slice p n cap∧n<=cap:=by
 unfold A8H at h;split at h
 . cases h;obtain⟨p,cap,hval,hc,_⟩:=A43.1 hv;exact⟨p,cap,hval,hc⟩
 . cases h;simp only[MVv] at hv;obtain⟨p,hval⟩:=hv;exact⟨p,0,hval,Nat.le_refl _⟩
 . cases h;simp only[MVv] at hv;obtain⟨_,p,cap,hval,hc,_⟩:=hv;exact⟨p,cap,hval,hc⟩
 . cases h
theorem C6b {x lo hi mx:Operand}{x' lo' hi' mx':Opd}{t t0 t1 t2 t3 e:TypeId}(ho:o.op=.slice t x (some lo) (some hi) (some mx))(hx:A0r P t0 x=some x')
 (hlo:A0r P t1 lo=some lo') (hhi:A0r P t2 hi=some hi') (hmx:A0r P t3 mx=some mx') (hu:P.underlying t=some (.slice e)) (hz:P.cellsOf e≠0)
 (he:A0a K γ d s h (.slice3 x' lo' hi' mx')=some (v,h')):OpOk P o a w A E nx γ v h':=by
 have hvx:=A0l hs hx;simp only[A0a] at he;split at he
 . rename_i n hn;split at he
   . rename_i m hm1;split at he
     . rename_i b hb1;split at he
       . rename_i c hc1;simp only [Option.some.injEq,Prod.mk.injEq] at he;obtain ⟨rfl,rfl⟩:=he;obtain ⟨p,cap,hval,hcap⟩:=C70 hvx hn;obtain ⟨k1,v1,l1⟩:=A9s hm1 (A0l hs hmx);obtain ⟨k2,v2,l2⟩:=A9s hb1 (A0l hs hhi);obtain ⟨k3,v3,l3⟩:=A9s hc1 (A0l hs hlo);have e1:∀ (kd:IntKind) (m y:Nat) (cd:BoundsCode),m<=y->(Instr.sliceBound (.int kd m) y cd).run P w=.ok m w:=by
          intro kd m y cd hle
          have:(m:Int)<=(y:Int):=by omega
          simp[Instr.sliceBound,asIntOf,this]
         refine OpOk.idle (val:=.slice (if m=c then p else p.map (·.add (c*P.cellsOf e))) (b-c) (m-c)) ?_ (by simp only[MVv]) hm
         simp[execOp,ho,hval,Instr.sliceAt,Instr.slice,run_underlying hu,Instr.sliceBounds,v1,v2,v3,e1 k1 m cap _ (by omega),e1 k2 b m _ l2,e1 k3 c b _ l3,A3k w hz]
       . cases he
     . cases he
   . cases he
 . cases he
omit hs hm in
theorem PVcs.el:∀ {l:List PV} {cs:List Value} {b o z:Nat},PVcs w A l cs->Row w b o cs->l.all (λv=>v.cs==z)=true->PVel w A l b o z
 | [],_,_,_,_,_,_,_=>by simp only[PVel]
 |x::r,cs,b,o,z,h,hr,hz=>by
   simp only[PVcs] at h;obtain⟨c,d,rfl,h1,h2⟩:=h;simp only[List.all_cons,Bool.and_eq_true,beq_iff_eq] at hz;obtain⟨r1,r2⟩:=Row.append.1 hr;simp only[PVel];have hc:c.length=z:=by rw[h1.len,hz.1]
   exact⟨⟨c,h1,hc,r1⟩,PVcs.el h2 (hc ▸ r2) hz.2⟩
omit hs hm in
theorem PVel.drop:∀ {l:List PV} {b o' z:Nat} (k:Nat),PVel w A l b o' z->PVel w A (l.drop k) b (o'+k*z) z
 |l,b,o',z,0,h=>by simpa using h
 | [],b,o',z,k+1,_=>by simp only[List.drop_nil,PVel]
 |x::r,b,o',z,k+1,h=>by
   simp only[PVel] at h
   have:=PVel.drop k h.2
   rw[List.drop_succ_cons,Nat.succ_mul,Nat.add_comm (k*z),←Nat.add_assoc];exact this
omit hs hm in
theorem PVel.take:∀ {l:List PV} {b o' z:Nat} (k:Nat),PVel w A l b o' z->PVel w A (l.take k) b o' z
 |l,b,o',z,0,h=>by simp only[List.take_zero,PVel]
 | [],b,o',z,k+1,_=>by simp only[List.take_nil,PVel]
 |x::r,b,o',z,k+1,h=>by
   simp only[PVel] at h;rw[List.take_succ_cons];simp only[PVel];exact⟨h.1,PVel.take k h.2⟩
omit hs hm in
theorem PVel.z {l:List PV}{b o' z:Nat}(k:PVel w A l b o' z)(hne:l ≠ []){n:Nat}(hz:l.all (λv=>v.cs==n)=true):z=n:=by
 cases l with
 |nil=>exact absurd rfl hne
 |cons x r =>
   simp only[PVel] at k;obtain⟨⟨c,h1,h2,_⟩,_⟩:=k;simp only[List.all_cons,Bool.and_eq_true,beq_iff_eq] at hz;rw[←h2,h1.len,hz.1]
theorem C71 {x:Operand}{x':Opd}{lo hi:Option Operand}{lo' hi':Option Opd}{t t0 e:TypeId}(ho:o.op=.slice t x lo hi none)(hx:A0r P t0 x=some x')
 (hlo:A78 P lo=some lo') (hhi:A78 P hi=some hi') (hu:P.underlying t=some (.slice e)) (hz:P.cellsOf e≠0)
 (he:A0a K γ d s h (.slice (P.cellsOf e) x' lo' hi')=some (v,h')):OpOk P o a w A E nx γ v h':=by
 have hvx:=A0l hs hx;simp only[A0a] at he;split at he
 . rename_i u hu';simp only [Option.some.injEq,Prod.mk.injEq] at he;obtain ⟨rfl,rfl⟩:=he;have main:∀ p len cap i j,a.eval x=.slice p len cap->B3m len (lo'.map (evO s)) (hi'.map (evO s))=some (i,j)->len<=cap->
    MVv w A E nx u (.slice (if cap=i then p else p.map (·.add (i*P.cellsOf e))) (j-i) (cap-i))->OpOk P o a w A E nx γ u h:=by
    intro p len cap i j h1 h2 h3 h4;obtain⟨_,_,hr⟩:=B0W hs hlo hhi h2;refine OpOk.idle ?_ h4 hm;simp[execOp,ho,h1,Instr.sliceAt,Instr.slice,run_underlying hu,hr true cap h3,A3k w hz]
   unfold A6R at hu';split at hu'
   . rename_i l hl;split at hu'
     . rename_i i j hij;split at hu'
       . rename_i hall;cases hu';rw [hl] at hvx;obtain ⟨p,cap,hval,hlc,hel⟩:=A43.1 hvx;obtain ⟨hi1,hj1,_⟩:=B0W hs hlo hhi hij;refine main p l.length cap i j hval hij hlc ?_;have hlen:((l.take j).drop i).length=j-i:=by rw [List.length_drop,List.length_take,Nat.min_eq_left hj1]
         refine A43.2 ⟨_,_,by rw[hlen],by rw[hlen];omega,?_⟩
         by_cases hne:j=i
         . left;exact List.eq_nil_of_length_eq_zero (by rw[hlen];omega)
         . right;rcases hel with rfl | ⟨b,o',z,rfl,hA,hel⟩
           . simp at hj1;omega
           . have hzz:=hel.z (by rintro rfl;simp at hj1;omega) hall
             subst hzz;refine⟨b,o'+i*P.cellsOf e,P.cellsOf e,?_,hA,PVel.drop i (PVel.take j hel)⟩;rw[if_neg (by omega)]
             simp[A2s]
       . cases hu'
     . cases hu'
   . rename_i z hl;split at hu'
     . rename_i ij hij;cases hu';rw [hl] at hvx;simp only [MVv] at hvx;obtain ⟨p,hval⟩:=hvx;obtain ⟨i,j⟩:=ij;obtain ⟨hi1,hj1,_⟩:=B0W hs hlo hhi hij;refine main p 0 0 i j hval hij (Nat.le_refl _) ?_
       have:i=0:=by omega
       have:j=0:=by omega
       subst i;subst j;simp only[MVv];exact⟨_,rfl⟩
     . cases hu'
   . rename_i id path off len g hl;split at hu'
     . rename_i i j g' z' l' hij hvec;split at hu'
       . rename_i hc;obtain ⟨rfl,rfl⟩:=hc;cases hu';rw [hl] at hvx;simp only [MVv] at hvx;obtain ⟨hg,p,cap,hval,hlc,hown⟩:=hvx;obtain ⟨hi1,hj1,_⟩:=B0W hs hlo hhi hij;refine main p len cap i j hval hij hlc ?_;simp only [MVv];refine ⟨hg,_,_,rfl,by omega,λan z hn hga=>?_⟩
         obtain⟨an',lA,hvA,hgA,rfl⟩:=hm.vec hvec;have hn':=A1E hvA;rw[hn'] at hn;cases hn;have hh:=hown _ _ hn' hgA;unfold A0I at hh ⊢;cases hb:an.b with
         |none=>simp only[hb] at hh ⊢;omega
         |some b =>
           simp only[hb] at hh ⊢;refine⟨by omega,?_⟩
           by_cases hci:cap=i
           . left;omega
           . rcases hh with ⟨hcap,hh | rfl⟩
             . left;omega
             . right;rw[if_neg hci];simp[A2s,Nat.add_mul]
       . cases hu'
     . cases hu'
   . cases hu'
 . cases he
theorem C6c {x lo hi:Operand}{x' lo' hi':Opd}{t t0 t1 t2 e:TypeId}(ho:o.op=.slice t x (some lo) (some hi) none)(hx:A0r P t0 x=some x')
 (hlo:A0r P t1 lo=some lo') (hhi:A0r P t2 hi=some hi') (hu:P.underlying t=some (.slice e)) (hz:P.cellsOf e≠0)
 (he:A0a K γ d s h (.sliceK (P.cellsOf e) x' lo' hi')=some (v,h')):OpOk P o a w A E nx γ v h':=by
 have hvx:=A0l hs hx;simp only[A0a] at he;split at he
 . rename_i id path off len g hl;split at he
   . rename_i g' z' l' hvec;split at he
     . rename_i hc;obtain ⟨rfl,rfl,hoff⟩:=hc;split at he
       . rename_i j hj1;split at he
         . rename_i i hi1;simp only [Option.some.injEq,Prod.mk.injEq] at he;obtain ⟨rfl,rfl⟩:=he;rw [hl] at hvx;simp only [MVv] at hvx;obtain ⟨hg,p,cap,hval,hlc,hown⟩:=hvx;obtain ⟨k2,v2,l2⟩:=A9s hj1 (A0l hs hhi);obtain ⟨k3,v3,l3⟩:=A9s hi1 (A0l hs hlo);obtain ⟨an,lA,hvA,hgA,rfl⟩:=hm.vec hvec;have hn':=A1E hvA;have hh:=hown _ _ hn' hgA;have hB:=hm.vecB hvA;have hjc:j<=cap:=by
            rw[List.length_map] at l2 hoff;unfold A0I at hh;unfold VB at hB;cases hb:an.b with
            |none =>
              simp only[hb] at hh hB;obtain⟨rfl,_⟩:=hB;simp at l2;omega
            |some b =>
              simp only[hb] at hh hB;omega
           have e1:∀(kd:IntKind) (m y:Nat) (cd:BoundsCode),m<=y->(Instr.sliceBound (.int kd m) y cd).run P w=.ok m w:=by
            intro kd m y cd hle
            have:(m:Int)<=(y:Int):=by omega
            simp[Instr.sliceBound,asIntOf,this]
           refine OpOk.idle (val:=.slice (if cap=i then p else p.map (·.add (i*P.cellsOf e))) (j-i) (cap-i)) ?_ ?_ hm
           . simp[execOp,ho,hval,Instr.sliceAt,Instr.slice,run_underlying hu,Instr.sliceBounds,v2,v3,e1 k2 j cap _ hjc,e1 k3 i j _ l3,A3k w hz]
           . simp only [MVv];refine ⟨hg,_,_,rfl,by omega,λan1 z hn hga=>?_⟩
             rw[hn'] at hn;cases hn;unfold A0I at hh ⊢;cases hb:an.b with
             |none=>simp only[hb] at hh ⊢;omega
             |some b =>
               simp only[hb] at hh ⊢;refine⟨by omega,?_⟩
               by_cases hci:cap=i
               . left;omega
               . rcases hh with ⟨hcap,hh | rfl⟩
                 . left;omega
                 . right;rw[if_neg hci];simp[A2s,Nat.add_mul]
         . cases he
       . cases he
     . cases he
   . cases he
 . cases he
theorem D1J {x:Operand}{x':Opd}{t t0 e:TypeId}{n:Nat}(ho:o.op=.slice t x none none none)(hx:A0r P t0 x=some x')
 (hu:P.underlying t=some (.array n e)) (hz:P.cellsOf e≠0)
 (he:A0a K γ d s h (.slA n (P.cellsOf e) x')=some (v,h')):OpOk P o a w A E nx γ v h':=by
 have hvx:=A0l hs hx;simp only[A0a] at he;split at he
 . rename_i l hl;split at he
   . rename_i hc;simp only [Option.some.injEq,Prod.mk.injEq] at he;obtain ⟨rfl,rfl⟩:=he;rw [hl] at hvx;obtain ⟨b,o',hval,hA,cv,hcv,hrow⟩:=A6V.1 hvx;simp only [PVc] at hcv;refine OpOk.idle (val:=.slice (some (if n=0 then (⟨b,o',none⟩:Addr) else (⟨b,o',none⟩:Addr).add (0*P.cellsOf e))) (n-0) (n-0)) ?_ ?_ hm
     . simp[execOp,ho,hval,Instr.sliceAt,run_underlying hu,Instr.sliceBounds,Instr.sureAddr,A3k w hz]
     . refine A43.2 ⟨_,_,by rw [hc.1,Nat.sub_zero],by rw [hc.1];omega,?_⟩
       right;refine⟨b,o',P.cellsOf e,?_,hA,PVcs.el hcv hrow hc.2⟩;split<;>simp[A2s]
   . cases he
 . cases he
theorem C9N {x:Operand}{x':Opd}{t t0 e:TypeId}(ho:o.op=.slice t x none (some (.const (.int .i64 0))) (some (.const (.int .i64 0))))(hx:A0r P t0 x=some x')
 (hu:P.underlying t=some (.slice e)) (hz:P.cellsOf e≠0)
 (he:A0a K γ d s h (.cut0 (P.cellsOf e) x')=some (v,h')):OpOk P o a w A E nx γ v h':=by
 have hvx:=A0l hs hx;have main:∀p len cap,a.eval x=.slice p len cap->OpOk P o a w A E nx γ (.nil (P.cellsOf e)) h:=by
  intro p len cap hval;refine OpOk.idle (val:=.slice (if(0:Nat)=0 then p else p) 0 0) ?_ (by simp only[MVv];exact⟨_,rfl⟩) hm
  simp[execOp,ho,hval,Instr.sliceAt,Instr.slice,run_underlying hu,A3k w hz,Instr.sliceBounds,Instr.sliceBound,asIntOf,A6p]
 simp only[A0a] at he;split at he<;>simp only[Option.some.injEq,Prod.mk.injEq,reduceCtorEq] at he<;>try contradiction
 . obtain⟨rfl,rfl⟩:=he;rename_i l hl;rw[hl] at hvx;obtain⟨p,cap,hval,_⟩:=A43.1 hvx;exact main p _ cap hval
 . obtain⟨rfl,rfl⟩:=he;rename_i hl;rw[hl] at hvx;simp only[MVv] at hvx;obtain⟨_,p,cap,hval,_⟩:=hvx;exact main p _ cap hval
 . obtain⟨rfl,rfl⟩:=he;rename_i hl;rw[hl] at hvx;simp only[MVv] at hvx;obtain⟨p,hval⟩:=hvx;exact main p _ 0 hval
theorem C72 {x:Operand}{x':Opd}{t t0:TypeId}{i:Nat}{fs:Array Field}{fd:Field}(ho:o.op=.fieldAddr t x i)(hx:A0r P t0 x=some x')
 (hu:P.underlying t=some (.struct fs)) (hf:fs[i]?=some fd) (hz:P.cellsOf fd.type≠0)
 (he:A0a K γ d s h (.faddr x' i fd.offset)=some (v,h')):OpOk P o a w A E nx γ v h':=by
 have hvx:=A0l hs hx;have main:∀p u,a.eval x=.pointer (some p)->MVv w A E nx u (.pointer (some (p.add fd.offset)))->OpOk P o a w A E nx γ u h:=by
  intro p u hval hk;refine OpOk.idle ?_ hk hm;simp[execOp,ho,hval,Instr.fieldAt,run_underlying hu,hf,Instr.sureAddr,fieldPlace,A3k w hz,hz]
 simp only[A0a] at he;split at he
 . rename_i l hl;split at he
   . rename_i pv hpv;split at he
     . rename_i hoff;simp only [Option.some.injEq,Prod.mk.injEq] at he;obtain ⟨rfl,rfl⟩:=he;rw [hl] at hvx;obtain ⟨b,o',hval,hA,cv,h1,h2⟩:=A6V.1 hvx;simp only [PVc] at h1;obtain ⟨p,c,q,rfl,hp,hc⟩:=h1.get hpv;refine main _ _ hval (A6V.2 ⟨b,o'+fd.offset,by rw [A2s],hA,c,hc,?_⟩)
       rw[←hoff,←hp];exact(Row.append.1 (Row.append.1 h2).1).2
     . cases he
   . cases he
 . rename_i id np rp g o0 hl;simp only [Option.some.injEq,Prod.mk.injEq] at he;obtain ⟨rfl,rfl⟩:=he;rw [hl] at hvx;simp only [MVv] at hvx;obtain ⟨hg,p,hval,hadr⟩:=hvx;refine main p _ hval ?_;simp only [MVv];refine ⟨hg,_,rfl,λan z hn hga=>?_⟩
   obtain⟨b,hb,rfl⟩:=hadr an z hn hga;exact⟨b,hb,by rw[A2s]⟩
 . cases he
theorem C6d {x ix:Operand}{x' ix':Opd}{t t0 t1 e:TypeId}{n:Nat}(ho:o.op=.indexAddr t x ix)(hx:A0r P t0 x=some x')(hix:A0r P t1 ix=some ix')
 (hu:P.underlying t=some (.array n e)) (hz:P.cellsOf e≠0)
 (he:A0a K γ d s h (.iaddrA n (P.cellsOf e) x' ix')=some (v,h')):OpOk P o a w A E nx γ v h':=by
 have hvx:=A0l hs hx;have hvi:=A0l hs hix;simp only[A0a] at he;split at he
 . rename_i k hk;obtain ⟨kd,hival,hlt⟩:=B0V hk hvi;have main:∀ p u,a.eval x=.pointer (some p)->MVv w A E nx u (.pointer (some (p.add (k*P.cellsOf e))))->OpOk P o a w A E nx γ u h:=by
    intro p u hval hk;refine OpOk.idle ?_ hk hm;have h5:(k:Int)<(n:Int):=by omega
    simp[execOp,ho,hval,hival,Instr.indexAt,asIntOf,run_underlying hu,Instr.sureAddr,A3k w hz,hlt]
   split at he
   . rename_i l hl;split at he
     . rename_i pv hpv;split at he
       . rename_i hoff;simp only [Option.some.injEq,Prod.mk.injEq] at he;obtain ⟨rfl,rfl⟩:=he;rw [hl] at hvx;obtain ⟨b,o',hval,hA,cv,h1,h2⟩:=A6V.1 hvx;simp only [PVc] at h1;obtain ⟨p,c,q,rfl,hp,hc⟩:=h1.get hpv;refine main _ _ hval (A6V.2 ⟨b,o'+k*P.cellsOf e,by rw [A2s],hA,c,hc,?_⟩)
         rw[←hoff,←hp];exact(Row.append.1 (Row.append.1 h2).1).2
       . cases he
     . cases he
   . rename_i id np rp g o0 hl;simp only [Option.some.injEq,Prod.mk.injEq] at he;obtain ⟨rfl,rfl⟩:=he;rw [hl] at hvx;simp only [MVv] at hvx;obtain ⟨hg,p,hval,hadr⟩:=hvx;refine main p _ hval ?_;simp only [MVv];refine ⟨hg,_,rfl,λan z hn hga=>?_⟩
     obtain⟨b,hb,rfl⟩:=hadr an z hn hga;exact⟨b,hb,by rw[A2s]⟩
   . cases he
 . cases he
end
end Go.Mid
/- Parts of values,functions,minima. -/
namespace Go.Mid
set_option linter.unusedSimpArgs false
set_option linter.unusedVariables false
open Go.RowKit
section
variable {P:Program}{o:Oper}{a:Act}{w:World}{A:Nat->Prop}{E:A0f An}{nx:Stp}{γ:Nat}{v:MV}{h h':A0b}{s:A0o}{K:A0w}{d:Option Nat}
 (hs:SlR P w A E nx s a) (hm:MR w A E h nx)
include hs hm
theorem D1K {x:Operand}{x':Opd}{t t0:TypeId}{i:Nat}{fs:Array Field}{fd:Field}(ho:o.op=.field t x i)(hx:A0r P t0 x=some x')
 (hu:P.underlying t=some (.struct fs)) (hf:fs[i]?=some fd) (hU:A4l P fd.type=true)
 (he:A0a K γ d s h (.fld (A04 P fd.type) (P.cellsOf fd.type) fd.offset x' i)=some (v,h')):OpOk P o a w A E nx γ v h':=by
 have hvx:=A0l hs hx;have main:∀ (p c q:List Value) u,a.eval x=.agg (p++c++q).toArray->p.length=fd.offset->c.length=P.cellsOf fd.type->(A04 P fd.type=false->c.length=1)->
  MVv w A E nx u (pk (A04 P fd.type) c)->OpOk P o a w A E nx γ u h:=by
  intro p c q u hval hp hc h1 hk;refine OpOk.idle ?_ hk hm
  have:=A9q (P:=P) w hU p c q hc h1
  rw[hp] at this;simp only[execOp,ho,hval,Instr.field,Sem.run_bind,run_underlying hu,Result.andThen_ok,hf,asAgg,Sem.run_pure,this]
 simp only[A0a] at he;split at he
 . rename_i l hl;split at he
   . rename_i pv hpv;split at he
     . rename_i hc;obtain ⟨h1,h2,h3⟩:=hc;simp only [Option.some.injEq,Prod.mk.injEq] at he;obtain ⟨rfl,rfl⟩:=he;rw [hl] at hvx;obtain ⟨cs,hval,hcs⟩:=B51.1 hvx;obtain ⟨p,c,q,rfl,hp,hc⟩:=hcs.get hpv;refine main p c q _ hval (by rw [hp,h1]) (by rw [hc.len,h2]) (λhg=>?_) ?_
       . rw[←h3] at hg;obtain⟨_,rfl,_⟩:=hc.one hg;rfl
       . simp only[MVv,PVv];exact⟨c,hc,by rw[h3]⟩
     . cases he
   . cases he
 . rename_i l hl;split at he
   . rename_i mv hmv;split at he
     . rename_i hc;obtain ⟨h1,h2,h3,hdead⟩:=hc;simp only [Option.some.injEq,Prod.mk.injEq] at he;obtain ⟨rfl,rfl⟩:=he;rw [hl] at hvx;simp only [MVv] at hvx;obtain ⟨cs,hval,hcs⟩:=hvx;obtain ⟨p,u,q,rfl,hp,hsz,hag,hk⟩:=hcs.get hmv;have hd':∀ n,mv≠.dead n:=by rintro n rfl;cases hdead
       refine main p u.cells.toList q _ hval (by rw[hp,h1]) (by rw[Array.length_toList,hsz,h2]) (λhg=>?_) ?_
       . rw[←h3] at hg;rw[hk.nonagg hg hd'];rfl
       . rw[←h3,hk.pk_eq hd'];exact hk
     . cases he
   . cases he
 . cases he
theorem D1L {x ix:Operand}{x' ix':Opd}{t t0 t1 e:TypeId}{n:Nat}(ho:o.op=.index t x ix)(hx:A0r P t0 x=some x')(hix:A0r P t1 ix=some ix')
 (hu:P.underlying t=some (.array n e)) (hU:A4l P e=true)
 (he:A0a K γ d s h (.idx (A04 P e) (P.cellsOf e) n x' ix')=some (v,h')):OpOk P o a w A E nx γ v h':=by
 have hvx:=A0l hs hx;have hvi:=A0l hs hix;simp only[A0a] at he;split at he
 . rename_i l hl;split at he
   . rename_i k hk;obtain ⟨kd,hival,hlt⟩:=B0V hk hvi;split at he
     . rename_i pv hpv;split at he
       . rename_i hc;obtain ⟨h1,h2,h3⟩:=hc;simp only [Option.some.injEq,Prod.mk.injEq] at he;obtain ⟨rfl,rfl⟩:=he;rw [hl] at hvx;obtain ⟨cs,hval,hcs⟩:=B51.1 hvx;obtain ⟨p,c,q,rfl,hp,hc⟩:=hcs.get hpv;have hr:=A9q (P:=P) w hU p c q (by rw [hc.len,h2]) (λhg=>by rw [← h3] at hg;obtain ⟨_,rfl,_⟩:=hc.one hg;rfl)
         rw[hp,h1] at hr;refine OpOk.idle (val:=pk (A04 P e) c) ?_ (by simp only[MVv,PVv];exact⟨c,hc,by rw[h3]⟩) hm
         have h5:(k:Int)<(n:Int):=by omega
         simp[execOp,ho,hval,hival,Instr.index,asIntOf,run_underlying hu,hlt,A44 w hU];simp at hr;rw[hr];rfl
       . cases he
     . cases he
   . cases he
 . cases he
theorem C9O {x ix:Operand}{x' ix':Opd}{t t0 t1:TypeId}(ho:o.op=.index t x ix)(hx:A0r P t0 x=some x')(hix:A0r P t1 ix=some ix')
 (hu:P.underlying t=some .string)
 (he:A0a K γ d s h (.idxS x' ix')=some (v,h')):OpOk P o a w A E nx γ v h':=by
 have hvx:=A0l hs hx;have hvi:=A0l hs hix;simp only[A0a] at he;split at he
 . rename_i b hb;split at he
   . rename_i k hk;obtain ⟨kd,hival,hlt⟩:=B0V hk hvi;split at he
     . rename_i c hc;simp only [Option.some.injEq,Prod.mk.injEq] at he;obtain ⟨rfl,rfl⟩:=he;rw [hb,A6U] at hvx;refine OpOk.idle (val:=.int .u8 c.toNat) ?_ (A1W.2 rfl) hm;have hg:b[k]?=some c:=by
        have hk':k<b.data.size:=hlt;rw[Array.getElem?_eq_getElem hk'] at hc;rw[getElem?_pos b k hlt];exact hc
       simp[execOp,ho,hvx,hival,Instr.index,asIntOf,run_underlying hu,hg]
     . cases he
   . cases he
 . cases he
theorem C2v {f k:Nat}{first caps xs:Array Operand}{l:List Opd}{ts:List TypeId}(ho:o.op=.makeFunc (.func f) first caps)(hk:(k=f∧f<A8E∧first=#[]∧xs=caps)∨(k=A8E+f∧caps=#[]∧xs=first))(hl:A2T P ts xs.toList=some l)
 (he:A0a K γ d s h (.mkfn k l)=some (v,h')):OpOk P o a w A E nx γ v h':=by
 have hv:=A8p hs hl;have hrun:(execOp a.eval o).run P w=.ok (.value (fnV k (xs.toList.map a.eval).toArray)) w:=by
  rcases hk with⟨rfl,h1,rfl,rfl⟩ | ⟨rfl,rfl,rfl⟩
  . rw[C2j h1];simp[execOp,ho,Instr.makeFunc];apply Array.ext';simp
  . rw[C7U (Nat.le_add_right _ _),Nat.add_sub_cancel_left];simp[execOp,ho,Instr.makeFunc];apply Array.ext';simp
 simp only[A0a] at he;split at he
 . rename_i vs hvs;simp only[Option.some.injEq,Prod.mk.injEq] at he;obtain⟨rfl,rfl⟩:=he;rw[A8r hvs] at hv;exact OpOk.idle hrun (B52.2 ⟨_,rfl,A7g.1 hv⟩) hm
 . simp only[Option.some.injEq,Prod.mk.injEq] at he;obtain⟨rfl,rfl⟩:=he;exact OpOk.idle hrun (by simp only[MVv];exact⟨_,rfl,hv⟩) hm
omit hs hm in
theorem B3q (f:Int->Int->Int)(g:Value->Value->Sem Value)(hg:∀ k x k' y,(g (.int k x) (.int k' y)).run P w=.ok (.int k (f x y)) w) :
 ∀(vs:List PV) (x r:PV) (vals:List Value),A8I f x vs=some r->PVvs w A vs vals->∀val,MVv w A E nx (.p x) val->∃res,(vals.foldlM g val).run P w=.ok res w∧MVv w A E nx (.p r) res
 | [],x,r,vals,h,hv,val,hx=>by
   simp only[A8I,Option.some.injEq] at h;subst h;simp only[PVvs] at hv;subst hv;exact⟨val,by simp,hx⟩
 |y::vs,x,r,vals,h,hv,val,hx=>by
   cases x<;>cases y<;>simp only[A8I,reduceCtorEq] at h;simp only[PVvs] at hv;obtain⟨c,dd,rfl,h1,h2⟩:=hv;simp only[PVc] at h1;subst h1;rw[A1W] at hx;subst hx;obtain⟨res,h3,h4⟩:=B3q f g hg vs _ r dd h h2 _ (A1W.2 rfl);refine⟨res,?_,h4⟩;simp only[List.foldlM_cons,Sem.run_bind,PV.isAgg,pk,Bool.false_eq_true,if_false,List.headD_cons,hg,Result.andThen_ok];exact h3
theorem D3d {l:List Opd}{c:Call}{ts:List TypeId}(ho:o.op=.call c)(hc1:c.callee=.builtin .max)(hl:A2T P ts c.args.toList=some l)
 (he:A0a K γ d s h (.mx l)=some (v,h')):OpOk P o a w A E nx γ v h':=by
 have hv:=A8p hs hl;simp only[A0a] at he;split at he
 . rename_i x r hlr;split at he
   . rename_i vs hvs;split at he
     . rename_i res hres;simp only [Option.some.injEq,Prod.mk.injEq] at he;obtain ⟨rfl,rfl⟩:=he;rw [hlr,A8r hvs] at hv;simp only [MVvs] at hv;obtain ⟨val,vals,hvals,hx,hr⟩:=hv;obtain ⟨rv,h1,h2⟩:=B3q (P:=P) (λx y=>if y>x then y else x) Builtin.max2 (λ_ _ _ _=>rfl) vs x res vals hres (A7g.1 hr) val hx
       refine OpOk.idle (val:=rv) ?_ h2 hm;rw[A30 ho hc1]
       have:(c.args.map a.eval).toList=val::vals:=by rw[Array.toList_map,hvals]
       simp only[builtin,Builtin.max_,this,Sem.run_bind,h1,Result.andThen_ok,Sem.run_pure]
     . cases he
   . cases he
 . cases he
theorem D3e {l:List Opd}{c:Call}{ts:List TypeId}(ho:o.op=.call c)(hc1:c.callee=.builtin .min)(hl:A2T P ts c.args.toList=some l)
 (he:A0a K γ d s h (.mn l)=some (v,h')):OpOk P o a w A E nx γ v h':=by
 have hv:=A8p hs hl;simp only[A0a] at he;split at he
 . rename_i x r hlr;split at he
   . rename_i vs hvs;split at he
     . rename_i res hres;simp only [Option.some.injEq,Prod.mk.injEq] at he;obtain ⟨rfl,rfl⟩:=he;rw [hlr,A8r hvs] at hv;simp only [MVvs] at hv;obtain ⟨val,vals,hvals,hx,hr⟩:=hv;obtain ⟨rv,h1,h2⟩:=B3q (P:=P) (λx y=>if y<x then y else x) Builtin.min2 (λ_ _ _ _=>rfl) vs x res vals hres (A7g.1 hr) val hx
       refine OpOk.idle (val:=rv) ?_ h2 hm;rw[A30 ho hc1]
       have:(c.args.map a.eval).toList=val::vals:=by rw[Array.toList_map,hvals]
       simp only[builtin,Builtin.min_,this,Sem.run_bind,h1,Result.andThen_ok,Sem.run_pure]
     . cases he
   . cases he
 . cases he
end
end Go.Mid
