/- Typed values: codes of types, their values in Lean, and their pure values; decision trees. -/
import Derived.Test.YtfjdpcegbfenbaaGreatDoorM7
set_option linter.unusedSimpArgs false
set_option linter.unusedVariables false
open BitVec renaming ofInt → cl
open Bool renaming and_eq_true → ak, or_eq_true → cG
open List renaming map → fy, cons_append → aS, map_cons → aG, length → cE, take_of_length_le → aZ, nil_append → a7, map_map → cu, length_cons → ba, mem_map → bh, getElem?_cons_succ → bL, set_cons_zero → dZ, set_cons_succ → eH, take_succ_cons → bW, getElem?_map → aN, map_take → bP, getElem?_eq_some_iff → aL, map_set → gC, map_append → b8, map_nil → cr, map_drop → fq, length_map → aD
open Nat renaming sub_self → gD, le_refl → au, blt → cZ, blt_eq → iF, zero_le → dt, sub_zero → gB, zero_add → bS, ble → cV, ble_eq → cC, beq → jc, eq_of_beq_eq_true → eA
open Option renaming map → pD, map_some → ar, getD_none → cU
open Option.some renaming injEq → aa
open Prod.mk renaming injEq → ae
namespace Go.Mid
inductive Ty where
 | int (k:IntKind) | bool | str | sl (t:Ty) | agg (ts:List Ty) | ref (t:Ty) | fn (f:Nat) (ts:List Ty) | mp (k v:Ty) | eY | fg | vec (z:Nat) (t:Ty) | mS (t:Ty)
 deriving Inhabited
def D6o (A R:Type):List Ty→Type
 | []=>A
 | _::_=>A×R
mutual
def El:Ty→Type
 | .int _=>Int
 | .bool=>Bool
 | .str=>ByteArray
 | .sl t=>List (El t)
 | .agg ts=>gV ts
 | .ref t=>El t
 | .fn _ ts=>gV ts
 | .mp k v=>List (El k×El v)
 | .eY=>Unit
 | .fg=>Unit
 | .vec _ t=>List (El t)
 | .mS t=>Option (El t)
def gV:List Ty→Type
 | []=>Unit
 | t::r=>D6o (El t) (gV r) r
end
def oe {t:Ty}:(r:List Ty)→gV (t::r)→El t
 | [],x=>x
 | _::_,x=>x.1
def pT {t:Ty}:(r:List Ty)→gV (t::r)→gV r
 | [],_=>()
 | _::_,x=>x.2
def sf {t:Ty}:(r:List Ty)→El t→gV r→gV (t::r)
 | [],a,_=>a
 | _::_,a,b=>(a,b)
@[simp] theorem uz {t:Ty} (r:List Ty) (a:El t) (b:gV r):oe r (sf r a b)=a:=by cases r<;>rfl
@[simp] theorem uA {t:Ty} (r:List Ty) (a:El t) (b:gV r):pT r (sf r a b)=b:=by cases r<;>rfl
def S7:Option PV→PV
 | none=>.eY
 | some v=>.ref v
mutual
def enc:(t:Ty)→El t→PV
 | .mS t,x=>S7 (pD (enc t) x)
 | .int k,x=>.int k x
 | .bool,x=>.bool x
 | .str,x=>.str x
 | .sl t,x=>.sl (fy (enc t) x)
 | .agg ts,x=>.agg (kL ts x)
 | .ref t,x=>.ref (enc t x)
 | .fn f ts,x=>.fn f (kL ts x)
 | .mp k v,x=>.mp (fy (fun p=>enc k p.1) x) (fy (fun p=>enc v p.2) x)
 | .eY,_=>.eY
 | .fg,_=>.fg
 | .vec _ t,x=>.sl (fy (enc t) x)
def kL:(ts:List Ty)→gV ts→List PV
 | [],_=>[]
 | t::r,x=>enc t (oe r x)::kL r (pT r x)
end
mutual
def Dk:(t:Ty)→El t
 | .int _=>(0:Int)
 | .bool=>false
 | .str=>(⟨#[]⟩:ByteArray)
 | .sl _=>[]
 | .agg ts=>NP ts
 | .ref t=>Dk t
 | .fn _ ts=>NP ts
 | .mp _ _=>[]
 | .eY=>()
 | .fg=>()
 | .vec _ _=>[]
 | .mS _=>none
def NP:(ts:List Ty)→gV ts
 | []=>()
 | t::r=>sf r (Dk t) (NP r)
end
mutual
def Ty.cs:Ty→Nat
 | .agg l=>Ty.dm l
 | _=>1
def Ty.dm:List Ty→Nat
 | []=>0
 | x::xs=>x.cs+Ty.dm xs
end
def Ty.isAgg:Ty→Bool | .agg _=>true | _=>false
mutual
def Ty.pure:Ty→Bool
 | .vec ..=>false
 | .agg l=>Ty.uB l
 | _=>true
def Ty.uB:List Ty→Bool
 | []=>true
 | x::xs=>x.pure&&Ty.uB xs
end
mutual
theorem zJ:∀ (t:Ty) (x:El t),(enc t x).cs=t.cs
 | .mS t,x=>by
   have h:∀ y:Option (El t),(S7 (y.map (enc t))).cs=1:=fun y=>by cases y<;>rfl
   exact h x
 | .agg ts,x=>by simp only [enc,PV.cs,Ty.cs];exact C50 ts x
 | .int _,_ | .bool,_ | .str,_ | .sl _,_ | .ref _,_ | .fn _ _,_ | .mp _ _,_ | .eY,_ | .fg,_ | .vec _ _,_=>rfl
theorem C50:∀ (ts:List Ty) (x:gV ts),PV.dm (kL ts x)=Ty.dm ts
 | [],_=>rfl
 | t::r,x=>by simp only [kL,PV.dm,Ty.dm];rw [zJ t,C50 r]
end
@[simp] theorem NQ:∀ (t:Ty) (x:El t),(enc t x).isAgg=t.isAgg
  | .mS t,x=>by
    have h:∀ y:Option (El t),(S7 (y.map (enc t))).isAgg=false:=fun y=>by cases y<;>rfl
    exact h x
  | .agg ts,x=>rfl
  | .int _,_ | .bool,_ | .str,_ | .sl _,_ | .ref _,_ | .fn _ _,_ | .mp _ _,_ | .eY,_ | .fg,_ | .vec _ _,_=>rfl
mutual
def Ty.eq:Ty→Ty→Bool
 | .int k,.int l=>k==l
 | .bool,.bool=>true
 | .str,.str=>true
 | .sl t,.sl u=>Ty.eq t u
 | .agg l,.agg m=>Ty.eqs l m
 | .ref t,.ref u=>Ty.eq t u
 | .fn f l,.fn g m=>f==g&&Ty.eqs l m
 | .mp k v,.mp l w=>Ty.eq k l&&Ty.eq v w
 | .eY,.eY=>true
 | .fg,.fg=>true
 | .vec z t,.vec y u=>z==y&&Ty.eq t u
 | .mS t,.mS u=>Ty.eq t u
 | _,_=>false
def Ty.eqs:List Ty→List Ty→Bool
 | [],[]=>true
 | t::r,u::q=>Ty.eq t u&&Ty.eqs r q
 | _,_=>false
end
mutual
theorem Ty.o4:∀ t u,Ty.eq t u=true→t=u
 | .int k,u,h=>by cases u<;>simp [Ty.eq] at h;rw [h]
 | .bool,u,h=>by cases u<;>simp [Ty.eq] at h;rfl
 | .str,u,h=>by cases u<;>simp [Ty.eq] at h;rfl
 | .eY,u,h=>by cases u<;>simp [Ty.eq] at h;rfl
 | .fg,u,h=>by cases u<;>simp [Ty.eq] at h;rfl
 | .sl t,u,h=>by cases u<;>simp [Ty.eq] at h;rw [Ty.o4 t _ h]
 | .ref t,u,h=>by cases u<;>simp [Ty.eq] at h;rw [Ty.o4 t _ h]
 | .mS t,u,h=>by cases u<;>simp [Ty.eq] at h;rw [Ty.o4 t _ h]
 | .agg l,u,h=>by cases u<;>simp [Ty.eq] at h;rw [Ty.vP l _ h]
 | .fn f l,u,h=>by cases u<;>simp [Ty.eq] at h;rw [h.1,Ty.vP l _ h.2]
 | .mp k v,u,h=>by cases u<;>simp [Ty.eq] at h;rw [Ty.o4 k _ h.1,Ty.o4 v _ h.2]
 | .vec z t,u,h=>by cases u<;>simp [Ty.eq] at h;rw [h.1,Ty.o4 t _ h.2]
theorem Ty.vP:∀ t u,Ty.eqs t u=true→t=u
 | [],u,h=>by cases u<;>simp [Ty.eqs] at h;rfl
 | t::r,u,h=>by cases u<;>simp [Ty.eqs] at h;rw [Ty.o4 t _ h.1,Ty.vP r _ h.2]
end
def rR {t:Ty} (u:Ty) (x:El t):Option (El u):=if h:Ty.eq t u=true then some (cast (congrArg El (Ty.o4 t u h)) x) else none
theorem vQ {t u:Ty} {x:El t} {y:El u} (h:rR u x=some y):t=u∧HEq x y∧enc t x=enc u y:=by
 unfold rR at h;split at h
 · rename_i e;have e:=Ty.o4 t u e;subst e;simp only [cast_eq,aa] at h;subst h;exact ⟨rfl,HEq.rfl,rfl⟩
 · cases h
def S8 (k:IntKind):PV→Option Int | .int l n=>if k==l then some n else none | _=>none
def S9:PV→Option Bool | .bool b=>some b | _=>none
def Ta:PV→Option ByteArray | .str b=>some b | _=>none
mutual
def dec:(t:Ty)→PV→Option (El t)
 | .int k,v=>S8 k v
 | .bool,v=>S9 v
 | .str,v=>Ta v
 | .sl t,v=>match v with | .sl []=>some ([]:List (El t)) | _=>none
 | .agg ts,v=>match v with | .agg l=>Cb ts l | _=>none
 | .eY,v=>match v with | .eY=>some () | _=>none
 | .fg,v=>match v with | .fg=>some () | _=>none
 | .fn f ts,v=>match v with | .fn g l=>if f==g then Cb ts l else none | _=>none
 | .mp k w,v=>match v with | .mp [] []=>some ([]:List (El k×El w)) | _=>none
 | .ref _,_=>none
 | .vec _ _,_=>none
 | .mS t,v=>match v with | .eY=>some (none:Option (El t)) | _=>none
def Cb:(ts:List Ty)→List PV→Option (gV ts)
 | [],l=>match l with | []=>some () | _::_=>none
 | t::r,l=>match l with
   | []=>none
   | v::q=>match dec t v,Cb r q with | some a,some b=>some (sf r a b) | _,_=>none
end
theorem D2W (k:IntKind) (v:PV):dec (.int k) v=S8 k v:=by rfl
theorem D02 (v:PV):dec .bool v=S9 v:=by rfl
theorem D2X (v:PV):dec .str v=Ta v:=by rfl
mutual
theorem E8:∀ (t:Ty) (v:PV) (x:El t),dec t v=some x→enc t x=v
 | .int k,v,x,h=>by
   rw [D2W] at h;cases v<;>simp only [S8,reduceCtorEq] at h;split at h
   · rename_i e;cases h;simp only [beq_iff_eq] at e;subst e;rfl
   · cases h
 | .bool,v,x,h=>by rw [D02] at h;cases v<;>simp only [S9,reduceCtorEq] at h;cases h;rfl
 | .str,v,x,h=>by rw [D2X] at h;cases v<;>simp only [Ta,reduceCtorEq] at h;cases h;rfl
 | .eY,v,x,h=>by cases v<;>first | rfl | cases h
 | .fg,v,x,h=>by cases v<;>first | rfl | cases h
 | .ref t,v,x,h=>by cases h
 | .mS t,v,x,h=>by cases v<;>first | (cases h;rfl) | cases h
 | .vec z t,v,x,h=>by cases h
 | .sl t,v,x,h=>by
   cases v<;>first | cases h | skip
   rename_i l;cases l<;>cases h;rfl
 | .mp k w,v,x,h=>by
   cases v<;>first | cases h | skip
   rename_i l m;cases l<;>cases m<;>cases h;rfl
 | .agg ts,v,x,h=>by
   cases v<;>first | cases h | skip
   rename_i l;have h:Cb ts l=some x:=h;show PV.agg (kL ts x)=_;rw [Tb ts _ x h]
 | .fn f ts,v,x,h=>by
   cases v<;>first | cases h | skip
   rename_i g l;by_cases e:(f==g)=true
   · have h1:dec (.fn f ts) (.fn g l)=Cb ts l:=if_pos e;have h2:Cb ts l=some x:=h1.symm.trans h;simp only [beq_iff_eq] at e;subst e;show PV.fn f (kL ts x)=_;rw [Tb ts _ x h2]
   · have h1:dec (.fn f ts) (.fn g l)=none:=if_neg e;rw [h1] at h;cases h
theorem Tb:∀ (ts:List Ty) (l:List PV) (x:gV ts),Cb ts l=some x→kL ts x=l
 | [],l,x,h=>by
   cases l with
   | nil=>rfl
   | cons v q=>cases h
 | t::r,l,x,h=>by
   cases l with
   | nil=>cases h
   | cons v q =>
     have h:(match dec t v,Cb r q with | some a,some b=>some (sf r a b) | _,_=>none)=some x:=h
     cases h1:dec t v with
     | none=>rw [h1] at h;cases h
     | some a =>
       cases h2:Cb r q with
       | none=>rw [h1,h2] at h;cases h
       | some b =>
         rw [h1,h2] at h;cases h;show enc t (oe r (sf r a b))::kL r (pT r (sf r a b))=_;rw [uz,uA,E8 t v a h1,Tb r q b h2]
end
def Tc:PV→Option Ty
 | .int k _=>some (.int k)
 | .bool _=>some .bool
 | .str _=>some .str
 | .agg l=>match E9 l with | some ts=>some (.agg ts) | none=>none
 | .fn f l=>match E9 l with | some ts=>some (.fn f ts) | none=>none
 | .eY=>some .eY
 | .fg=>some .fg
 | _=>none
where E9:List PV→Option (List Ty)
 | []=>some []
 | x::r=>match Tc x,E9 r with | some t,some ts=>some (t::ts) | _,_=>none
inductive Tree (α:Type):Type 1 where
 | fail
 | leaf (a:α)
 | ite (c:Bool) (x y:Tree α)
 | opt {A:Type} (d:A) (o:Option A) (k:A→Tree α)
 | sum {A B:Type} (d:A) (e:B) (o:A ⊕ B) (k:A→Tree α) (l:B→Tree α)
namespace Tree
def den {α:Type}:Tree α→Option α
 | fail=>none
 | leaf a=>some a
 | ite c x y=>bif c then x.den else y.den
 | opt _ o k=>o.bind fun a=>(k a).den
 | sum _ _ o k l=>Sum.elim (fun a=>(k a).den) (fun b=>(l b).den) o
def bind {α β:Type}:Tree α→(α→Tree β)→Tree β
 | fail,_=>fail
 | leaf a,f=>f a
 | ite c x y,f=>ite c (x.bind f) (y.bind f)
 | opt d o k,f=>opt d o (fun a=>(k a).bind f)
 | sum d e o k l,f=>sum d e o (fun a=>(k a).bind f) (fun b=>(l b).bind f)
theorem den_bind {α β:Type} (t:Tree α) (f:α→Tree β) (r:β):(t.bind f).den=some r↔∃ a,t.den=some a∧(f a).den=some r:=by
 induction t with
 | fail=>simp [bind,den]
 | leaf a=>simp [bind,den]
 | ite c x y hx hy=>cases c<;>simp [bind,den,hx,hy]
 | opt d o k ih=>cases o<;>simp [bind,den,ih]
 | sum d e o k l ih1 QT=>cases o<;>simp [bind,den,ih1,QT]
def leaves {α:Type}:Tree α→List α
 | fail=>[]
 | leaf a=>[a]
 | ite _ x y=>x.leaves++y.leaves
 | opt d _ k=>(k d).leaves
 | sum d e _ k l=>(k d).leaves++(l e).leaves
def Jy (b:Bool):Tree Unit:=match b with | true=>leaf () | false=>fail
def ask (b:Bool):Tree Unit:=ite b (leaf ()) fail
def lN {α:Type}:Option α→Tree α
 | none=>fail
 | some a=>leaf a
@[simp] theorem den_leaf {α:Type} (a r:α):(leaf a).den=some r↔a=r:=by simp [den]
@[simp] theorem me {α:Type} (r:α):(fail:Tree α).den=some r↔False:=by simp [den]
@[simp] theorem wQ (b:Bool) (r:Unit):(Jy b).den=some r↔b=true:=by cases b<;>simp [Jy,den]
@[simp] theorem dE (b:Bool) (r:Unit):(ask b).den=some r↔b=true:=by cases b<;>simp [ask,den]
@[simp] theorem den_ofO {α:Type} (o:Option α) (r:α):(lN o).den=some r↔o=some r:=by cases o<;>simp [lN,den]
theorem oI {α:Type} (c:Bool) (x y:Tree α) (r:α):(ite c x y).den=some r↔(c=true∧x.den=some r)∨(c=false∧y.den=some r):=by cases c<;>simp [den]
theorem lU {α A:Type} (d:A) (o:Option A) (k:A→Tree α) (r:α):(opt d o k).den=some r↔∃ a,o=some a∧(k a).den=some r:=by cases o<;>simp [den]
end Tree
end Go.Mid
namespace Go.Mid
inductive Step where
 | f (i o:Nat) | k (i z:Nat)
def Step.ix:Step→Nat | .f i _=>i | .k i _=>i
def Step.of:Step→Nat | .f _ o=>o | .k i z=>i*z
def jf:List Step→List Nat
 | []=>[]
 | x::r=>x.ix::jf r
def vR:List Step→Nat
 | []=>0
 | x::r=>x.of+vR r
theorem Jz:∀ p q:List Step,jf (p++q)=jf p++jf q
 | [],q=>rfl
 | x::r,q=>by simp only [aS,jf,Jz r q]
theorem Td:∀ p q:List Step,vR (p++q)=vR p+vR q
 | [],q=>by simp [vR]
 | x::r,q=>by simp only [aS,vR,Td r q];omega
inductive W where
 | c (v:PV)
 | v (t:Ty) (x:El t)
 | nil (z:Nat)
 | own (id:Nat) (path:List Step) (off:Option Nat) (len g:Nat)
 | ptr (id:Nat) (np:Option (List Step)) (rp:List Step) (g:Nat)
 | fE (id:Nat) (path:List Step) (g:Nat)
 | agg (l:List W)
 | fn (f:Nat) (ji:List W)
 | eO (l:List W)
 | dead (n:Nat)
instance:Inhabited W:=⟨.dead 0⟩
def xA:Option (List Step)→Option (List Nat)
 | none=>none
 | some p=>some (jf p)
mutual
def cW:W→MV
 | .c v=>.p v
 | .v t x=>.p (enc t x)
 | .nil z=>.nil z
 | .own id path off len g=>.own id (jf path) (off.getD 0) len g
 | .ptr id np rp g=>.ptr id (xA np) (jf rp) g (vR rp)
 | .fE id path g=>.fE id (jf path) g
 | .agg l=>.agg (mW l)
 | .fn f l=>.fn f (mW l)
 | .eO l=>.eO (mW l)
 | .dead n=>.dead n
def mW:List W→List MV
 | []=>[]
 | x::r=>cW x::mW r
end
theorem s8:∀ l:List W,mW l=l.map cW
 | []=>rfl
 | x::r=>by simp only [mW,aG,s8 r]
mutual
def jy (s:Nat):(t:Ty)→El t→T Nat
 | .vec z t,x=>.vec s z (fy (jy s t) x) (cE x)
 | .agg ts,x=>ke (mB s ts x)
 | .int k,x=>.p (enc (.int k) x)
 | .bool,x=>.p (enc .bool x)
 | .str,x=>.p (enc .str x)
 | .sl t,x=>.p (enc (.sl t) x)
 | .ref t,x=>.p (enc (.ref t) x)
 | .mS t,x=>.p (enc (.mS t) x)
 | .fn f ts,x=>.p (enc (.fn f ts) x)
 | .mp k v,x=>.p (enc (.mp k v) x)
 | .eY,x=>.p (enc .eY x)
 | .fg,x=>.p (enc .fg x)
def mB (s:Nat):(ts:List Ty)→gV ts→List (T Nat)
 | [],_=>[]
 | t::r,x=>jy s t (oe r x)::mB s r (pT r x)
end
theorem Te {α:Type}:∀ {l:List (T α)} {vs:List PV},mw l=some vs→l=vs.map T.p
 | [],vs,h=>by simp only [mw,aa] at h;subst h;rfl
 | .p v::r,vs,h=>by
   simp only [mw] at h;cases h1:mw r with
   | none=>rw [h1] at h;cases h
   | some l=>rw [h1] at h;cases h;rw [Te h1];rfl
 | .m _::_,vs,h | .agg _::_,vs,h | .vec ..::_,vs,h | .mp ..::_,vs,h | .hole _::_,vs,h=>by simp [mw] at h
theorem Tf {α:Type}:∀ vs:List PV,mw (vs.map (T.p (α:=α)))=some vs
 | []=>rfl
 | v::r=>by simp only [aG,mw,Tf r]
theorem yk {α:Type} (l:List (T α)):(∃ vs,l=vs.map T.p∧ke l=.p (.agg vs))∨ke l=.agg l:=by
 unfold ke;cases h:mw l with
 | none=>exact .inr rfl
 | some vs=>exact .inl ⟨vs,Te h,rfl⟩
theorem Tg {α:Type}:∀ vs:List PV,T.dm (vs.map (T.p (α:=α)))=PV.dm vs
 | []=>rfl
 | v::r=>by simp only [aG,T.dm,T.cs,PV.dm,Tg r]
theorem B8R {α:Type} (l:List (T α)):(ke l).cs=T.dm l:=by
 rcases yk l with ⟨vs,rfl,h⟩ | h
 · rw [h,Tg];rfl
 · rw [h];rfl
mutual
theorem JA (s:Nat):∀ (t:Ty) (x:El t),(jy s t x).cs=t.cs
 | .mS t,x=>zJ (.mS t) x
 | .agg ts,x=>by simp only [jy,B8R,Ty.cs];exact C3p s ts x
 | .int _,_ | .bool,_ | .str,_ | .sl _,_ | .ref _,_ | .fn _ _,_ | .mp _ _,_ | .eY,_ | .fg,_ | .vec _ _,_=>rfl
theorem C3p (s:Nat):∀ (ts:List Ty) (x:gV ts),T.dm (mB s ts x)=Ty.dm ts
 | [],_=>rfl
 | t::r,x=>by simp only [mB,T.dm,Ty.dm];rw [JA s t,C3p s r]
end
mutual
theorem rS (s:Nat):∀ (t:Ty) (x:El t),t.pure=true→jy s t x=.p (enc t x)
 | .agg ts,x,h=>by
   simp only [jy,enc];rw [B8S s ts x h];simp only [ke,Tf]
 | .int _,_,_ | .bool,_,_ | .str,_,_ | .sl _,_,_ | .ref _,_,_ | .fn _ _,_,_ | .mp _ _,_,_ | .eY,_,_ | .fg,_,_ | .mS _,_,_=>rfl
 | .vec _ _,_,h=>by simp [Ty.pure] at h
theorem B8S (s:Nat):∀ (ts:List Ty) (x:gV ts),Ty.uB ts=true→mB s ts x=(kL ts x).map T.p
 | [],_,_=>rfl
 | t::r,x,h=>by
   simp only [Ty.uB,ak] at h;simp only [mB,kL,aG];rw [rS s t _ h.1,B8S s r _ h.2]
end
theorem B8T:∀ vs:List PV,lv (vs.map T.p)=some vs
 | []=>rfl
 | v::r=>by simp only [aG,lv,sP,B8T r]
theorem C3q (l:List (T Nat)):sP (ke l)=match lv l with | some vs=>some (.agg vs) | none=>none:=by
 rcases yk l with ⟨vs,rfl,h⟩ | h
 · rw [h,B8T];rfl
 · rw [h];rfl
mutual
theorem NR (s:Nat):∀ (t:Ty) (x:El t),sP (jy s t x)=some (enc t x)
 | .agg ts,x=>by simp only [jy,C3q,B7a s ts x];rfl
 | .vec z t,x=>by
   have h:∀ l:List (El t),lv (l.map (jy s t))=some (l.map (enc t)):=by
    intro l
    induction l with
    | nil=>rfl
    | cons a r ih=>simp only [aG,lv,NR s t a,ih]
   have key:∀ l:List (El t),(match lv (l.map (jy s t)) with | some vs=>some (PV.sl (vs.take l.length)) | none=>none)=some (PV.sl (l.map (enc t))):=by
    intro l;rw [h];simp only;rw [aZ (by simp)]
   exact key x
 | .int _,_ | .bool,_ | .str,_ | .sl _,_ | .ref _,_ | .fn _ _,_ | .mp _ _,_ | .eY,_ | .fg,_ | .mS _,_=>rfl
theorem B7a (s:Nat):∀ (ts:List Ty) (x:gV ts),lv (mB s ts x)=some (kL ts x)
 | [],_=>rfl
 | t::r,x=>by simp only [mB,kL,lv];rw [NR s t,B7a s r]
end
theorem zK (φ:MV→MV) (ζ:Nat→Nat):∀ l:List (T Nat),jQ φ ζ l=l.map (jk φ ζ)
 | []=>rfl
 | x::r=>by simp only [jQ,aG,zK φ ζ r]
theorem D2Y (φ:MV→MV) (ζ:Nat→Nat) (l:List (T Nat)) (h:∀ t∈l,∀ v,t≠.m v):jk φ ζ (ke l)=ke (l.map (jk φ ζ)):=by
 have hp:∀ l:List (T Nat),(∀ t∈l,∀ v,t≠T.m v)→mw (l.map (jk φ ζ))=mw l:=by
  intro l h
  induction l with
  | nil=>rfl
  | cons a r ih =>
    have ih:=ih (fun t ht=>h t (by simp [ht]))
    cases a with
    | p v=>simp only [aG,jk,mw,ih]
    | m v=>exact absurd rfl (h _ (by simp) v)
    | _=>rfl
 unfold ke;rw [hp l h];cases mw l with
 | none=>simp only [jk,zK]
 | some vs=>rfl
mutual
theorem D2Z (s:Nat):∀ (t:Ty) (x:El t) (v:MV),jy s t x≠.m v
 | .agg ts,x,v=>by
   simp only [jy];rcases yk (mB s ts x) with ⟨vs,_,h⟩ | h<;>rw [h]<;>simp
 | .int _,_,_ | .bool,_,_ | .str,_,_ | .sl _,_,_ | .ref _,_,_ | .fn _ _,_,_ | .mp _ _,_,_ | .eY,_,_ | .fg,_,_ | .vec _ _,_,_ | .mS _,_,_=>by simp [jy]
end
theorem C3r (s:Nat):∀ (ts:List Ty) (x:gV ts),∀ u∈mB s ts x,∀ v,u≠.m v
 | [],_,u,h=>by simp [mB] at h
 | t::r,x,u,h=>by
   simp only [mB,List.mem_cons] at h;rcases h with rfl | h
   · exact D2Z s t _
   · exact C3r s r _ u h
mutual
theorem NS (φ:MV→MV) (ζ:Nat→Nat) (s:Nat):∀ (t:Ty) (x:El t),jk φ ζ (jy s t x)=jy (ζ s) t x
 | .agg ts,x=>by
   simp only [jy];rw [D2Y _ _ _ (C3r s ts x),← zK,B8U φ ζ s ts x]
 | .vec z t,x=>by
   have h:∀ l:List (El t),jQ φ ζ (l.map (jy s t))=l.map (jy (ζ s) t):=by
    intro l
    induction l with
    | nil=>rfl
    | cons a r ih=>simp only [aG,jQ,NS φ ζ s t a,ih]
   have key:∀ l:List (El t),T.vec (ζ s) z (jQ φ ζ (l.map (jy s t))) l.length=T.vec (ζ s) z (l.map (jy (ζ s) t)) l.length:=by
    intro l;rw [h]
   exact key x
 | .int _,_ | .bool,_ | .str,_ | .sl _,_ | .ref _,_ | .fn _ _,_ | .mp _ _,_ | .eY,_ | .fg,_ | .mS _,_=>rfl
theorem B8U (φ:MV→MV) (ζ:Nat→Nat) (s:Nat):∀ (ts:List Ty) (x:gV ts),jQ φ ζ (mB s ts x)=mB (ζ s) ts x
 | [],_=>rfl
 | t::r,x=>by simp only [mB,jQ];rw [NS φ ζ s t,B8U φ ζ s r]
end
theorem Th:∀ vs:List PV,oU (vs.map (T.p (α:=Nat)))=[]
 | []=>rfl
 | v::r=>by simp only [aG,oU,tw,Th r,a7]
theorem C3s (l:List (T Nat)):tw (ke l)=oU l:=by
 rcases yk l with ⟨vs,rfl,h⟩ | h
 · rw [h,Th];rfl
 · rw [h];rfl
mutual
theorem NT (s:Nat):∀ (t:Ty) (x:El t),tw (jy s t x)=[]
 | .agg ts,x=>by simp only [jy,C3s];exact B7b s ts x
 | .vec z t,x=>by
   have h:∀ l:List (El t),oU (l.map (jy s t))=[]:=by
    intro l
    induction l with
    | nil=>rfl
    | cons a r ih=>simp only [aG,oU,NT s t a,ih,a7]
   show oU (fy (jy s t) x)=_;exact h x
 | .int _,_ | .bool,_ | .str,_ | .sl _,_ | .ref _,_ | .fn _ _,_ | .mp _ _,_ | .eY,_ | .fg,_ | .mS _,_=>rfl
theorem B7b (s:Nat):∀ (ts:List Ty) (x:gV ts),oU (mB s ts x)=[]
 | [],_=>rfl
 | t::r,x=>by simp only [mB,oU];rw [NT s t,B7b s r];rfl
end
theorem B7c (s:Nat) (t:Ty):∀ l:List (El t),oU (l.map (jy s t))=[]
 | []=>rfl
 | a::r=>by simp only [aG,oU,NT s t a,B7c s t r,a7]
theorem C7n (φ:MV→MV) (ζ:Nat→Nat) (s:Nat) (t:Ty) (l:List (El t)):jQ φ ζ (l.map (jy s t))=l.map (jy (ζ s) t):=by
 rw [zK,cu];congr 1;funext x;exact NS φ ζ s t x
theorem NU (s:Nat) (t:Ty):∀ l:List (El t),lv (l.map (jy s t))=some (l.map (enc t))
 | []=>rfl
 | a::r=>by simp only [aG,lv,NR s t a,NU s t r]
mutual
inductive T2 where
 | e (s:Nat) (t:Ty) (x:El t)
 | w (v:W)
 | agg (l:List T2)
 | vec (g z:Nat) (l:SL) (n:Nat)
 | hole (n:Nat)
inductive SL where
 | base (s:Nat) (t:Ty) (l:List (El t))
 | set (a:SL) (i:Nat) (u:T2)
 | app (a:SL) (u:T2)
end
instance:Inhabited T2:=⟨.hole 0⟩
inductive O2 where
 | cell (g:Nat) (t:T2)
 | vec (g z:Nat) (l:SL)
 | mp (g:Nat) (k v:Ty) (l:List (El k×El v))
 | gone
instance:Inhabited O2:=⟨.gone⟩
mutual
def cT:T2→T Nat
 | .e s t x=>jy s t x
 | .w v=>.m (cW v)
 | .agg l=>ke (jm l)
 | .vec g z l n=>.vec g z (eX l) n
 | .hole n=>.hole n
def jm:List T2→List (T Nat)
 | []=>[]
 | x::r=>cT x::jm r
def eX:SL→List (T Nat)
 | .base s t l=>l.map (jy s t)
 | .set a i u=>(eX a).set i (cT u)
 | .app a u=>eX a++[cT u]
end
def cO:O2→Obj Nat
 | .cell g t=>.cell g (cT t)
 | .vec g z l=>.vec g z (eX l)
 | .mp g k v l=>.mp g (l.map fun p=>enc k p.1) (l.map fun p=>.p (enc v p.2))
 | .gone=>.gone
theorem zL:∀ l:List T2,jm l=l.map cT
 | []=>rfl
 | x::r=>by simp only [jm,aG,zL r]
def SL.len:SL→Nat
 | .base _ _ l=>l.length
 | .set a _ _=>a.len
 | .app a _=>a.len+1
theorem SL.j4:∀ a:SL,(eX a).length=a.len
 | .base _ _ l=>by simp [eX,SL.len]
 | .set a i u=>by simp only [eX,List.length_set,SL.len];exact SL.j4 a
 | .app a u=>by simp only [eX,List.length_append,ba,List.length_nil,SL.len];rw [SL.j4 a]
abbrev S2:=List (Nat×W)
abbrev H2:=List (Nat×O2)
def uC:S2→Nat→W
 | [],_=>.dead 0
 | (j,v)::r,k=>if k==j then v else uC r k
def oS:H2→Nat→Option O2
 | [],_=>none
 | (j,v)::r,k=>if k==j then some v else oS r k
def e7 {α:Type}:List (Nat×α)→Nat→α→List (Nat×α)
 | [],k,v=>[(k,v)]
 | (j,u)::r,k,v=>if k==j then (k,v)::r else (j,u)::e7 r k v
def sH:S2→List (Nat×MV)
 | []=>[]
 | (j,v)::r=>(j,cW v)::sH r
def oJ:H2→List (Nat×Obj Nat)
 | []=>[]
 | (j,v)::r=>(j,cO v)::oJ r
abbrev cS (s:S2):gI:=qV (sH s)
abbrev cH (h:H2):cq:=mz (oJ h)
theorem A8:∀ (s:S2) (k:Nat),cS s k=cW (uC s k)
 | [],k=>rfl
 | (j,v)::r,k=>by
   show qV ((j,cW v)::sH r) k=cW (if k==j then v else uC r k)
   rw [D0V];by_cases h:k=j
   · simp [h]
   · rw [if_neg h,if_neg (by simpa using h)];exact A8 r k
theorem Cc:∀ (h:H2) (k:Nat),cH h k=(oS h k).map cO
 | [],k=>rfl
 | (j,v)::r,k=>by
   show mz ((j,cO v)::oJ r) k=pD cO (if k==j then some v else oS r k)
   rw [zI];by_cases h:k=j
   · simp [h]
   · rw [if_neg h,if_neg (by simpa using h)];exact Cc r k
theorem C51:∀ (s:S2) (k:Nat) (v:W),sH (e7 s k v)=wP (sH s) k (cW v)
 | [],k,v=>rfl
 | (j,u)::r,k,v=>by
   simp only [e7,sH,wP];by_cases h:k=j
   · simp [h,sH]
   · rw [if_neg h,if_neg (by simpa using h)];simp only [sH,C51 r k v]
theorem C52:∀ (s:H2) (k:Nat) (v:O2),oJ (e7 s k v)=wP (oJ s) k (cO v)
 | [],k,v=>rfl
 | (j,u)::r,k,v=>by
   simp only [e7,oJ,wP];by_cases h:k=j
   · simp [h,oJ]
   · rw [if_neg h,if_neg (by simpa using h)];simp only [oJ,C52 r k v]
theorem qi (h:H2) (k:Nat) (o:O2):cD (cH h) k (some (cO o))=cH (e7 h k o):=by
 rw [C5Z,← C52]
theorem Dl (s:S2) (k:Nat) (v:W):cD (cS s) k (cW v)=cS (e7 s k v):=by
 rw [D2T,← C51]
mutual
def GP:W→Nat
 | .c p=>p.cs
 | .v t _=>t.cs
 | .agg l=>JB l
 | .eO _=>0
 | .dead n=>n
 | .nil _ | .own .. | .ptr .. | .fE .. | .fn ..=>1
def JB:List W→Nat
 | []=>0
 | x::r=>GP x+JB r
end
mutual
theorem NV:∀ w:W,(cW w).cs=GP w
 | .c p=>rfl
 | .v t x=>zJ t x
 | .agg l=>by simp only [cW,MV.cs,GP];exact Ti l
 | .eO _=>rfl
 | .dead n=>rfl
 | .nil _ | .own .. | .ptr .. | .fE .. | .fn ..=>rfl
theorem Ti:∀ l:List W,MV.dm (mW l)=JB l
 | []=>rfl
 | x::r=>by simp only [mW,MV.dm,JB];rw [NV x,Ti r]
end
def D2k:W→Bool
 | .dead _ | .eO _=>false
 | _=>true
theorem D03 (w:W):rZ (cW w)=D2k w:=by cases w<;>rfl
def NW:W→Bool
 | .c p=>p.isAgg
 | .v t _=>t.isAgg
 | .agg _=>true
 | _=>false
theorem C53 (w:W):(cW w).isAgg=NW w:=by
 cases w<;>simp only [cW,NW]<;>first | rfl | exact NQ _ _
mutual
def GQ:W→List Nat
 | .own id .. | .ptr id .. | .fE id ..=>[id]
 | .agg l | .fn _ l | .eO l=>yl l
 | _=>[]
def yl:List W→List Nat
 | []=>[]
 | x::r=>GQ x++yl r
end
mutual
theorem Tj:∀ w:W,kf (cW w)=GQ w
 | .own .. | .ptr .. | .fE .. | .c _ | .v _ _ | .nil _ | .dead _=>rfl
 | .agg l | .fn _ l | .eO l=>by simp only [cW,kf,GQ];exact GR l
theorem GR:∀ l:List W,mD (mW l)=yl l
 | []=>rfl
 | x::r=>by simp only [mW,mD,yl];rw [Tj x,GR r]
end
mutual
def xB:T2→Option (List Nat)
 | .e ..=>some []
 | .hole _=>some []
 | .w v=>some (GQ v)
 | .agg l=>GS l
 | .vec _ _ l _=>if Fa l then some [] else none
def GS:List T2→Option (List Nat)
 | []=>some []
 | x::r=>match xB x,GS r with | some a,some b=>some (a++b) | _,_=>none
def Fa:SL→Bool
 | .base ..=>true
 | .set a _ u=>Fa a&&(match xB u with | some []=>true | _=>false)
 | .app a u=>Fa a&&(match xB u with | some []=>true | _=>false)
end
def JC:O2→Option (List Nat)
 | .cell _ t=>xB t
 | .vec _ _ l=>if Fa l then some [] else none
 | .mp ..=>some []
 | .gone=>some []
theorem Tk {l:List (T Nat)}:oU l=[]↔∀ t∈l,tw t=[]:=by
 induction l with
 | nil=>simp [oU]
 | cons a r ih=>simp [oU,ih]
mutual
theorem NX:∀ (t:T2) (l:List Nat),xB t=some l→tw (cT t)=l
 | .e s t x,l,h=>by simp only [xB,aa] at h;subst h;exact NT s t x
 | .hole _,l,h=>by simp only [xB,aa] at h;subst h;rfl
 | .w v,l,h=>by simp only [xB,aa] at h;subst h;exact Tj v
 | .agg q,l,h=>by
   simp only [xB] at h;simp only [cT,C3s];exact C1A q l h
 | .vec g z q n,l,h=>by
   simp only [xB] at h;split at h
   · rename_i hf;cases h;exact NY q hf
   · cases h
theorem C1A:∀ (q:List T2) (l:List Nat),GS q=some l→oU (jm q)=l
 | [],l,h=>by simp only [GS,aa] at h;subst h;rfl
 | x::r,l,h=>by
   simp only [GS] at h;cases h1:xB x with
   | none=>rw [h1] at h;cases h
   | some a =>
     cases h2:GS r with
     | none=>rw [h1,h2] at h;cases h
     | some b =>
       rw [h1,h2] at h;cases h;simp only [jm,oU];rw [NX x a h1,C1A r b h2]
theorem NY:∀ q:SL,Fa q=true→oU (eX q)=[]
 | .base s t l,_=>B7c s t l
 | .set a i u,h=>by
   simp only [Fa,ak] at h;obtain ⟨h1,h2⟩:=h;have h3:=NY a h1;have h4:tw (cT u)=[]:=by
    cases hu:xB u with
    | none=>rw [hu] at h2;cases h2
    | some l =>
      cases l with
      | nil=>exact NX u [] hu
      | cons _ _=>rw [hu] at h2;cases h2
   rw [Tk] at h3 ⊢;intro t ht;simp only [eX] at ht;rcases List.mem_or_eq_of_mem_set ht with ht | ht
   · exact h3 t ht
   · rw [ht,h4]
 | .app a u,h=>by
   simp only [Fa,ak] at h;obtain ⟨h1,h2⟩:=h;have h3:=NY a h1;have h4:tw (cT u)=[]:=by
    cases hu:xB u with
    | none=>rw [hu] at h2;cases h2
    | some l =>
      cases l with
      | nil=>exact NX u [] hu
      | cons _ _=>rw [hu] at h2;cases h2
   rw [Tk] at h3 ⊢;intro t ht;simp only [eX,List.mem_append,List.mem_singleton] at ht;rcases ht with ht | ht
   · exact h3 t ht
   · rw [ht,h4]
end
theorem D04 (o:O2) (l:List Nat) (h:JC o=some l):yF (some (cO o))=l:=by
 cases o with
 | cell g t=>exact NX t l h
 | vec g z q =>
   simp only [JC] at h;split at h
   · rename_i hf;cases h;exact NY q hf
   · cases h
 | mp g k v m =>
   simp only [JC,aa] at h;subst h;show oU (m.map fun p=>T.p (enc v p.2))=[]
   rw [Tk];intro t ht;simp only [bh] at ht;obtain ⟨p,_,rfl⟩:=ht;rfl
 | gone=>simp only [JC,aa] at h;subst h;rfl
abbrev TV:=(t:Ty)×El t
def zM:W→Option TV
 | .v t x=>some ⟨t,x⟩
 | .c p=>match Tc p with
   | some t=>match dec t p with | some x=>some ⟨t,x⟩ | none=>none
   | none=>none
 | _=>none
theorem GU {w:W} {t:Ty} {x:El t} (h:zM w=some ⟨t,x⟩):cW w=.p (enc t x):=by
 cases w<;>simp only [zM,reduceCtorEq] at h
 case v=>cases h;rfl
 case c p =>
  cases h1:Tc p with
  | none=>rw [h1] at h;cases h
  | some u =>
    rw [h1] at h;simp only at h;cases h2:dec u p with
    | none=>rw [h2] at h;cases h
    | some y=>rw [h2] at h;cases h;rw [E8 _ _ _ h2];rfl
def Cd (t:Ty):W→Option (El t)
 | .v _ x=>rR t x
 | .c p=>dec t p
 | _=>none
theorem GV {t:Ty} {w:W} {x:El t} (h:Cd t w=some x):cW w=.p (enc t x):=by
 cases w<;>simp only [Cd,reduceCtorEq] at h
 case v u y=>rw [← (vQ h).2.2];rfl
 case c p=>rw [E8 _ _ _ h];rfl
def vS:W→Option (IntKind×Int)
 | .v (.int k) x=>some (k,x)
 | .c (.int k n)=>some (k,n)
 | _=>none
theorem xC {w:W} {k:IntKind} {n:Int} (h:vS w=some (k,n)):cW w=.p (.int k n):=by
 unfold vS at h;split at h<;>cases h<;>rfl
def JD:W→Option Bool
 | .v .bool x=>some x
 | .c (.bool b)=>some b
 | _=>none
theorem Tl {w:W} {b:Bool} (h:JD w=some b):cW w=.p (.bool b):=by
 unfold JD at h;split at h<;>cases h<;>rfl
def Dm:W→Option ByteArray
 | .v .str x=>some x
 | .c (.str b)=>some b
 | _=>none
theorem GW {w:W} {b:ByteArray} (h:Dm w=some b):cW w=.p (.str b):=by
 unfold Dm at h;split at h<;>cases h<;>rfl
def JE (z:Nat) (n:Nat):W→Step
 | .c _=>.f n (n*z)
 | _=>.k n z
theorem C85 (z n:Nat) (w:W):(JE z n w).ix=n:=by cases w<;>rfl
theorem C86 (z n:Nat) (w:W):(JE z n w).of=n*z:=by cases w<;>rfl
end Go.Mid
namespace Go.Mid
def Dn:(ts:List Ty)→gV ts→Nat→Option TV
 | [],_,_=>none
 | t::r,x,i=>match i with
   | 0=>some ⟨t,oe r x⟩
   | i+1=>Dn r (pT r x) i
theorem JF (s:Nat):∀ (ts:List Ty) (x:gV ts) (i:Nat) (t:Ty) (y:El t),Dn ts x i=some ⟨t,y⟩ →
 (kL ts x)[i]?=some (enc t y)∧(mB s ts x)[i]?=some (jy s t y)
 | [],_,_,_,_,h=>by cases h
 | u::r,x,0,t,y,h=>by
   simp only [Dn,aa] at h;cases h;exact ⟨rfl,rfl⟩
 | u::r,x,i+1,t,y,h=>by
   simp only [Dn] at h
   have:=JF s r (pT r x) i t y h
   simpa only [kL,mB,bL] using this
def GX:(ts:List Ty)→gV ts→Nat→(t:Ty)→El t→Option (gV ts)
 | [],_,_,_,_=>none
 | u::r,x,i,t,y=>match i with
   | 0=>match rR u y with | some z=>some (sf r z (pT r x)) | none=>none
   | i+1=>match GX r (pT r x) i t y with | some q=>some (sf r (oe r x) q) | none=>none
theorem C54 (s:Nat):∀ (ts:List Ty) (x:gV ts) (i:Nat) (t:Ty) (y:El t) (x':gV ts),GX ts x i t y=some x' →
 mB s ts x'=(mB s ts x).set i (jy s t y)
 | [],_,_,_,_,_,h=>by cases h
 | u::r,x,0,t,y,x',h=>by
   simp only [GX] at h;cases hc:rR u y with
   | none=>rw [hc] at h;cases h
   | some z =>
     rw [hc] at h;simp only [aa] at h;subst h;obtain ⟨rfl,he,_⟩:=vQ hc;cases he;simp only [mB,uz,uA,dZ]
 | u::r,x,i+1,t,y,x',h=>by
   simp only [GX] at h;cases hc:GX r (pT r x) i t y with
   | none=>rw [hc] at h;cases h
   | some z =>
     rw [hc] at h;simp only [aa] at h;subst h;simp only [mB,uz,uA,eH];rw [C54 s r _ i t y z hc]
def GY (t:Ty) (i:Nat):(ts:List Ty)→gV ts→Nat→Option (El t)
 | [],_,_=>none
 | [_],x,_=>rR t (oe [] x)
 | _::u2::r,x,j=>match rR t (oe (u2::r) x),GY t i (u2::r) (pT (u2::r) x) (j+1) with
    | some a,some b=>some (bif i==j then a else b)
    | _,_=>none
theorem Tm (s:Nat) (t:Ty) (i:Nat):∀ (ts:List Ty) (x:gV ts) (j:Nat) (y:El t),GY t i ts x j=some y→j≤i→i<j+ts.length →
 (kL ts x)[i-j]?=some (enc t y)∧(mB s ts x)[i-j]?=some (jy s t y)
 | [],_,_,_,h,_,_=>by cases h
 | [u],x,j,y,h,h1,h2=>by
   have h:rR t (oe [] x)=some y:=h;have e:i-j=0:=by simp at h2;omega
   rw [e];obtain ⟨rfl,he,_⟩:=vQ h;cases he;exact ⟨rfl,rfl⟩
 | u::u2::r,x,j,y,h,h1,h2=>by
   simp only [GY] at h;cases hc:rR t (oe (u2::r) x) with
   | none=>rw [hc] at h;cases h
   | some a =>
     cases hd:GY t i (u2::r) (pT (u2::r) x) (j+1) with
     | none=>rw [hc,hd] at h;cases h
     | some b =>
       rw [hc,hd] at h;simp only [aa] at h;by_cases e:i=j
       · subst e;simp only [beq_self_eq_true,cond_true] at h;subst h;obtain ⟨rfl,he,_⟩:=vQ hc;cases he;rw [gD];exact ⟨rfl,rfl⟩
       · have e2:(i==j)=false:=by simpa using e
         rw [e2] at h;simp only [cond_false] at h;subst h
         have:=Tm s t i (u2::r) (pT (u2::r) x) (j+1) b hd (by omega) (by simp only [ba] at h2 ⊢;omega)
         have e3:i-j=(i-(j+1))+1:=by omega
         rw [e3];simpa only [kL,mB,bL] using this
def JG (t:Ty) (y:El t) (i:Nat):(ts:List Ty)→gV ts→Nat→Option (gV ts)
 | [],_,_=>some ()
 | u::r,x,j=>match rR u y,JG t y i r (pT r x) (j+1) with
   | some a,some b=>some (sf r (bif i==j then a else oe r x) b)
   | _,_=>none
theorem C55 (s:Nat) (t:Ty) (y:El t) (i:Nat):∀ (ts:List Ty) (x:gV ts) (j:Nat) (x':gV ts),JG t y i ts x j=some x' →
 mB s ts x'=if j≤i then (mB s ts x).set (i-j) (jy s t y) else mB s ts x
 | [],_,_,_,h=>by simp [mB]
 | u::r,x,j,x',h=>by
   simp only [JG] at h;cases hc:rR u y with
   | none=>rw [hc] at h;cases h
   | some a =>
     cases hd:JG t y i r (pT r x) (j+1) with
     | none=>rw [hc,hd] at h;cases h
     | some b =>
       rw [hc,hd] at h;simp only [aa] at h;subst h;obtain ⟨rfl,he,_⟩:=vQ hc;cases he;have ih:=C55 s t y i r (pT r x) (j+1) b hd;simp only [mB,uz,uA];rw [ih];by_cases e:i=j
       · subst e;simp only [beq_self_eq_true,cond_true,au,if_true,gD,dZ];rw [if_neg (by omega)]
       · have e2:(i==j)=false:=by simpa using e
         rw [e2];simp only [cond_false];by_cases h1:j≤i
         · rw [if_pos (by omega),if_pos h1]
           have e3:i-j=(i-(j+1))+1:=by omega
           rw [e3,eH]
         · rw [if_neg (by omega),if_neg h1]
def NZ (t:Ty):List Ty→Bool
 | []=>true
 | u::r=>Ty.eq t u&&NZ t r
theorem Tn {t:Ty}:∀ {ts:List Ty} {i:Nat},NZ t ts=true→i≤ts.length→Ty.dm (ts.take i)=i*t.cs
 | [],i,_,h=>by simp at h;subst h;simp [Ty.dm]
 | u::r,0,_,_=>by simp [Ty.dm]
 | u::r,i+1,h,h1=>by
   simp only [NZ,ak] at h;have e:=Ty.o4 _ _ h.1;subst e;simp only [bW,Ty.dm];rw [Tn h.2 (by simpa using h1),Nat.succ_mul];omega
theorem To (s:Nat):∀ (ts:List Ty) (x:gV ts) (i:Nat),T.dm ((mB s ts x).take i)=Ty.dm (ts.take i)
 | [],_,i=>by simp [mB,T.dm,Ty.dm]
 | t::r,x,0=>by simp [T.dm,Ty.dm]
 | t::r,x,i+1=>by
   simp only [mB,bW,T.dm,Ty.dm];rw [JA,To s r]
theorem JH:∀ (ts:List Ty) (x:gV ts) (i:Nat),PV.dm ((kL ts x).take i)=Ty.dm (ts.take i)
 | [],_,i=>by simp [kL,PV.dm,Ty.dm]
 | t::r,x,0=>by simp [PV.dm,Ty.dm]
 | t::r,x,i+1=>by
   simp only [kL,bW,PV.dm,Ty.dm];rw [zJ,JH r]
theorem pn:∀ l m:List PV,PV.dm (l++m)=PV.dm l+PV.dm m
 | [],m=>by simp [PV.dm]
 | x::r,m=>by simp only [aS,PV.dm,pn r m];omega
theorem D05 (L:List (T Nat)) (i:Nat) (r:List Nat) (o:Nat):lY (ke L) (i::r) o=match L[i]? with | some t=>lY t r (o+T.dm (L.take i)) | none=>none:=by
 rcases yk L with ⟨vs,rfl,h⟩ | h
 · rw [h];simp only [lY,aN];cases hv:vs[i]? with
   | none=>rfl
   | some v =>
     simp only [ar];rw [← bP,Tg]
 · rw [h];simp only [lY];cases L[i]? <;> rfl
theorem D20 (L:List (T Nat)) (i:Nat) (r:List Nat):c6 (ke L) (i::r)=match L[i]? with | some t=>c6 t r | none=>none:=by
 rcases yk L with ⟨vs,rfl,h⟩ | h
 · rw [h];simp only [c6,aN];cases vs[i]? with
   | none=>rfl
   | some v=>rfl
 · rw [h];simp only [c6];cases L[i]? <;> rfl
theorem D21 (L:List (T Nat)) (i:Nat) (r:List Nat) (u:T Nat):dh (ke L) (i::r) u=match L[i]? with
 | some t=>match dh t r u with | some w=>some (ke (L.set i w)) | none=>none
 | none=>none:=by
 rcases yk L with ⟨vs,rfl,h⟩ | h
 · rw [h];simp only [dh,aN];cases vs[i]? with
   | none=>rfl
   | some v=>simp only [ar];cases dh (T.p v) r u<;>rfl
 · rw [h];simp only [dh];cases L[i]? with
   | none=>rfl
   | some v=>simp only;cases dh v r u<;>rfl
def SL.get:SL→Nat→Tree T2
 | .base s t l,i=>.opt (Dk t) l[i]? fun x=>.leaf (.e s t x)
 | .set a j u,i=>.ite (i==j) ((Tree.ask (cZ j a.len)).bind fun _=>.leaf u) (a.get i)
 | .app a u,i=>.ite (i==a.len) (.leaf u) (a.get i)
theorem SL.get_eq:∀ (a:SL) (i:Nat) (u:T2),(a.get i).den=some u→(eX a)[i]?=some (cT u)
 | .base s t l,i,u,h=>by
   simp only [SL.get,Tree.lU,Tree.den_leaf] at h;obtain ⟨x,h1,rfl⟩:=h;simp only [eX,aN,h1];rfl
 | .set a j v,i,u,h=>by
   simp only [SL.get,Tree.oI,Tree.den_bind,Tree.dE,Tree.den_leaf] at h;rcases h with ⟨h1,_,h2,rfl⟩ | ⟨h1,h2⟩
   · simp only [beq_iff_eq] at h1;subst h1;have h3:i<a.len:=iF.mp h2;simp only [eX];rw [List.getElem?_set_self (by rw [SL.j4];exact h3)]
   · have h1:¬ i=j:=by simpa using h1
     simp only [eX];rw [List.getElem?_set_ne (Ne.symm h1)];exact SL.get_eq a i u h2
 | .app a v,i,u,h=>by
   simp only [SL.get,Tree.oI,Tree.den_leaf] at h;rcases h with ⟨h1,rfl⟩ | ⟨h1,h2⟩
   · simp only [beq_iff_eq] at h1;subst h1;simp only [eX];rw [List.getElem?_append_right (by rw [SL.j4];exact au _),SL.j4,gD];rfl
   · have:=SL.get_eq a i u h2
     simp only [eX];rw [List.getElem?_append_left (aL.1 this).1];exact this
def GZ (s:Nat) (t:Ty):T2→Option (El t)
 | .e s' _ x=>if s'==s || t.pure then rR t x else none
 | _=>none
theorem C56 {s:Nat} {t:Ty} {u:T2} {x:El t} (h:GZ s t u=some x):cT u=jy s t x:=by
 cases u<;>simp only [GZ,reduceCtorEq] at h;rename_i s' t' y;split at h
 · rename_i hc;obtain ⟨rfl,he,_⟩:=vQ h;cases he;simp only [cG,beq_iff_eq] at hc;rcases hc with rfl | hc
   · rfl
   · simp only [cT];rw [rS _ _ _ hc,rS _ _ _ hc]
 · cases h
def SL.put:SL→Nat→T2→SL
 | .base s t l,i,u=>match GZ s t u with | some x=>.base s t (l.set i x) | none=>.set (.base s t l) i u
 | a,i,u=>.set a i u
theorem SL.put_eq (a:SL) (i:Nat) (u:T2):eX (a.put i u)=(eX a).set i (cT u):=by
 cases a with
 | base s t l =>
   simp only [SL.put];cases h:GZ s t u with
   | none=>rfl
   | some x=>simp only [eX];rw [gC,C56 h]
 | set a j v=>rfl
 | app a v=>rfl
def SL.dh (i:Nat) (u:T2):SL→Tree SL
 | .set a j v=>.ite (i==j) (.leaf (a.put i u)) (.leaf (.set (.set a j v) i u))
 | a=>.leaf (a.put i u)
theorem SL.wR {i:Nat} {u:T2} {a b:SL} (h:(SL.dh i u a).den=some b):eX b=(eX a).set i (cT u):=by
 cases a with
 | set a j v =>
   simp only [SL.dh,Tree.oI,Tree.den_leaf] at h;rcases h with ⟨h1,rfl⟩ | ⟨_,rfl⟩
   · simp only [beq_iff_eq] at h1;subst h1;rw [SL.put_eq];simp only [eX,List.set_set]
   · rfl
 | base s t l=>simp only [SL.dh,Tree.den_leaf] at h;subst h;exact SL.put_eq _ _ _
 | app a v=>simp only [SL.dh,Tree.den_leaf] at h;subst h;exact SL.put_eq _ _ _
def SL.push:SL→T2→SL
 | .base s t l,u=>match GZ s t u with | some x=>.base s t (l++[x]) | none=>.app (.base s t l) u
 | a,u=>.app a u
theorem SL.Ce (a:SL) (u:T2):eX (a.push u)=eX a++[cT u]:=by
 cases a with
 | base s t l =>
   simp only [SL.push];cases h:GZ s t u with
   | none=>rfl
   | some x=>simp only [eX,b8,aG,cr];rw [C56 h]
 | set a j v=>rfl
 | app a v=>rfl
mutual
def zN:T2→Nat
 | .e _ t _=>t.cs
 | .w v=>GP v
 | .agg l=>JI l
 | .vec ..=>1
 | .hole n=>n
def JI:List T2→Nat
 | []=>0
 | x::r=>zN x+JI r
end
mutual
theorem G0:∀ t:T2,(cT t).cs=zN t
 | .e s t x=>JA s t x
 | .w v=>NV v
 | .agg l=>by simp only [cT,B8R,zN];exact Tp l
 | .vec ..=>rfl
 | .hole n=>rfl
theorem Tp:∀ l:List T2,T.dm (jm l)=JI l
 | []=>rfl
 | x::r=>by simp only [jm,T.dm,JI];rw [G0 x,Tp r]
end
def N0:List Ty→Nat→Option Ty
 | [],_=>none
 | t::r,z=>if NZ t (t::r)&&t.cs==z then some t else none
def JJ:T2→Step→Tree T2
 | .e s (.agg ts) x,st=>match st with
   | .f i o=>if Ty.dm (ts.take i)==o then (Tree.lN (Dn ts x i)).bind fun p=>.leaf (.e s p.1 p.2) else .fail
   | .k i z=>match N0 ts z with
     | some t=>(Tree.ask (cZ i ts.length)).bind fun _=>(Tree.lN (GY t i ts x 0)).bind fun y=>.leaf (.e s t y)
     | none=>.fail
 | .agg l,.f i o=>if JI (l.take i)==o then Tree.lN l[i]? else .fail
 | _,_=>.fail
theorem Tq {t:T2} {st:Step} {u:T2} (h:(JJ t st).den=some u):∃ L,cT t=ke L∧L[st.ix]?=some (cT u)∧T.dm (L.take st.ix)=st.of:=by
 unfold JJ at h;split at h
 · rename_i s ts x;refine ⟨mB s ts x,rfl,?_⟩;split at h
   · rename_i i o;split at h
     · rename_i ho;simp only [Tree.den_bind,Tree.den_ofO,Tree.den_leaf] at h;obtain ⟨⟨t,y⟩,h1,rfl⟩:=h;exact ⟨(JF s ts x i t y h1).2,(To s ts x i).trans (beq_iff_eq.mp ho)⟩
     · simp at h
   · rename_i i z;split at h
     · rename_i t ht;simp only [Tree.den_bind,Tree.dE,Tree.den_ofO,Tree.den_leaf] at h;obtain ⟨_,h1,y,h2,rfl⟩:=h;have h1:i<ts.length:=iF.mp h1
       have:=(Tm s t i ts x 0 y h2 (dt _) (by omega)).2
       rw [gB] at this;refine ⟨this,(To s ts x i).trans ?_⟩;unfold N0 at ht;split at ht
       · cases ht
       · split at ht
         · rename_i hc;cases ht;simp only [ak,beq_iff_eq] at hc;rw [← hc.2];exact Tn hc.1 (by show i≤_;omega)
         · cases ht
     · simp at h
 · rename_i l i o;split at h
   · rename_i ho;rw [Tree.den_ofO] at h;refine ⟨jm l,rfl,?_,?_⟩
     · rw [zL,aN];show pD cT l[i]?=_;rw [h];rfl
     · show T.dm ((jm l).take i)=o;rw [zL,← bP,← zL,Tp];simpa using ho
   · simp at h
 · simp at h
def G1 (s:Nat):(ts:List Ty)→gV ts→List T2
 | [],_=>[]
 | t::r,x=>.e s t (oe r x)::G1 s r (pT r x)
theorem N1 (s:Nat):∀ (ts:List Ty) (x:gV ts),jm (G1 s ts x)=mB s ts x
 | [],_=>rfl
 | t::r,x=>by simp only [G1,jm,mB,N1 s r];rfl
def Tr:T2→Step→T2→Tree T2
 | .e s (.agg ts) x,st,u=>match st with
   | .f i _=>match (match u with | .e s' t y=>if s'==s || t.pure then GX ts x i t y else none | _=>none) with
     | some x'=>.leaf (.e s (.agg ts) x')
     | none=>.leaf (.agg ((G1 s ts x).set i u))
   | .k i _=>match u with
     | .e s' t y=>if s'==s || t.pure then (Tree.lN (JG t y i ts x 0)).bind fun x'=>.leaf (.e s (.agg ts) x') else .fail
     | _=>.fail
 | .agg l,.f i _,u=>.leaf (.agg (l.set i u))
 | _,_,_=>.fail
theorem D22 {t:T2} {st:Step} {u t':T2} (h:(Tr t st u).den=some t'):∃ L,cT t=ke L∧cT t'=ke (L.set st.ix (cT u)):=by
 have hs:∀ (s s':Nat) (t:Ty) (y:El t),(s'==s || t.pure)=true→jy s t y=jy s' t y:=by
  intro s s' t y hc;simp only [cG,beq_iff_eq] at hc;rcases hc with rfl | hc
  · rfl
  · rw [rS _ _ _ hc,rS _ _ _ hc]
 unfold Tr at h;split at h
 · rename_i s ts x;refine ⟨mB s ts x,rfl,?_⟩;split at h
   · rename_i i o;split at h
     · rename_i x' hx;simp only [Tree.den_leaf] at h;subst h;split at hx
       · rename_i s' t y;split at hx
         · rename_i hc;simp only [cT,jy,Step.ix];rw [C54 s ts x i t y x' hx,hs s s' t y hc]
         · cases hx
       · cases hx
     · simp only [Tree.den_leaf] at h;subst h;simp only [cT,Step.ix];rw [zL,gC,← zL];exact congrArg (fun q=>ke (List.set q i (cT u))) (N1 s ts x)
   · rename_i i z;split at h
     · rename_i s' t y;split at h
       · rename_i hc;simp only [Tree.den_bind,Tree.den_ofO,Tree.den_leaf] at h;obtain ⟨x',h1,rfl⟩:=h
         have:=C55 s t y i ts x 0 x' h1
         simp only [dt,if_true,gB] at this;simp only [cT,jy,Step.ix];rw [this,hs s s' t y hc]
       · simp at h
     · simp at h
 · rename_i l i o;simp only [Tree.den_leaf] at h;subst h;refine ⟨jm l,rfl,?_⟩;simp only [cT,Step.ix];rw [zL,gC,← zL]
 · simp at h
def G2:List Step→T2→Tree T2
 | [],t=>.leaf t
 | s::r,t=>(JJ t s).bind (G2 r)
theorem Tt:∀ {p:List Step} {t u:T2} {o:Nat},(G2 p t).den=some u→lY (cT t) (jf p) o=some (cT u,o+vR p)
 | [],t,u,o,h=>by
   simp only [G2,Tree.den_leaf] at h;subst h;cases hc:cT t<;>rfl
 | s::r,t,u,o,h=>by
   simp only [G2,Tree.den_bind] at h;obtain ⟨v,h1,h2⟩:=h;obtain ⟨L,e1,e2,e3⟩:=Tq h1;simp only [jf,vR];rw [e1,D05,e2];simp only;rw [e3,Tt h2,Nat.add_assoc]
def G3:T2→Step→Tree T2
 | .vec _ _ l _,st=>l.get st.ix
 | .e s (.vec z t) l,st=>SL.get (.base s t l) st.ix
 | t,st=>JJ t st
theorem D23 {t:T2} {st:Step} {u:T2} (h:(G3 t st).den=some u) (r:List Nat):c6 (cT t) (st.ix::r)=c6 (cT u) r:=by
 unfold G3 at h;split at h
 · rename_i g z l n
   have:=SL.get_eq _ _ _ h
   simp only [cT,c6,this]
 · rename_i s z t l
   have:=SL.get_eq _ _ _ h
   have e:cT (.e s (.vec z t) l)=.vec s z (eX (.base s t l)) (cE (α:=El t) l):=rfl;rw [e];simp only [c6,this]
 · obtain ⟨L,e1,e2,_⟩:=Tq h;rw [e1,D20,e2]
def Tu:T2→Step→T2→Tree T2
 | .vec g z l n,st,u=>(SL.dh st.ix u l).bind fun l'=>.leaf (.vec g z l' n)
 | .e s (.vec z t) l,st,u=>.leaf (.vec s z (SL.put (.base s t l) st.ix u) (cE (α:=El t) l))
 | t,st,u=>Tr t st u
theorem D24 {t:T2} {st:Step} {u v t':T2} {r:List Nat} {w:T Nat} (hk:(G3 t st).den=some u) (hp:dh (cT u) r w=some (cT v)) (h:(Tu t st v).den=some t'):dh (cT t) (st.ix::r) w=some (cT t'):=by
 unfold Tu at h;split at h
 · rename_i g z l n
   have:=SL.get_eq _ _ _ hk
   simp only [Tree.den_bind,Tree.den_leaf] at h;obtain ⟨l',hl,rfl⟩:=h;simp only [cT,dh,this,hp,SL.wR hl]
 · rename_i s z t l
   have:=SL.get_eq _ _ _ hk
   simp only [Tree.den_leaf] at h;subst h;have e:cT (.e s (.vec z t) l)=.vec s z (eX (.base s t l)) (cE (α:=El t) l):=rfl;rw [e];simp only [dh,this,hp,cT,SL.put_eq]
 · rename_i uX hx2;have hk:(JJ t st).den=some u:=by
    unfold G3 at hk;split at hk
    · exact absurd rfl (uX _ _ _ _)
    · exact absurd rfl (hx2 _ _ _ _)
    · exact hk
   obtain ⟨L,e1,e2,_⟩:=Tq hk;obtain ⟨L',e3,e4⟩:=D22 h;have hL:L=L':=by
    have e:ke L=ke L':=by rw [← e1,← e3]
    rcases yk L with ⟨vs,rfl,h1⟩ | h1<;>rcases yk L' with ⟨yd,rfl,h2⟩ | h2<;>rw [h1,h2] at e
    · simp only [T.p.injEq,PV.agg.injEq] at e;rw [e]
    · cases e
    · cases e
    · simpa using e
   subst hL;rw [e1,D21,e2];simp only [hp];rw [e4]
def G4:List Step→T2→Tree T2
 | [],t=>.leaf t
 | s::r,t=>(G3 t s).bind (G4 r)
theorem Tv:∀ {p:List Step} {t u:T2},(G4 p t).den=some u→c6 (cT t) (jf p)=some (cT u)
 | [],t,u,h=>by
   simp only [G4,Tree.den_leaf] at h;subst h;cases hc:cT t<;>rfl
 | s::r,t,u,h=>by
   simp only [G4,Tree.den_bind] at h;obtain ⟨v,h1,h2⟩:=h;simp only [jf];rw [D23 h1,Tv h2]
def G5 (u:T2):List Step→T2→Tree T2
 | [],_=>.leaf u
 | s::r,t=>(G3 t s).bind fun c=>(G5 u r c).bind fun c'=>Tu t s c'
theorem Tw:∀ {p:List Step} {t u t':T2},(G5 u p t).den=some t'→dh (cT t) (jf p) (cT u)=some (cT t')
 | [],t,u,t',h=>by
   simp only [G5,Tree.den_leaf] at h;subst h;cases hc:cT t<;>rfl
 | s::r,t,u,t',h=>by
   simp only [G5,Tree.den_bind] at h;obtain ⟨c,h1,c',h2,h3⟩:=h;simp only [jf];exact D24 h1 (Tw h2) h3
def xD:O2→List Step→Tree T2
 | .cell _ t,p=>G4 p t
 | .vec _ _ l,s::r=>(l.get s.ix).bind (G4 r)
 | _,_=>.fail
theorem Dp {o:O2} {p:List Step} {u:T2} (h:(xD o p).den=some u):ew (some (cO o)) (jf p)=some (cT u):=by
 unfold xD at h;split at h
 · exact Tv h
 · simp only [Tree.den_bind] at h;obtain ⟨v,h1,h2⟩:=h;simp only [cO,jf,ew,SL.get_eq _ _ _ h1];exact Tv h2
 · simp at h
def zO (u:T2):O2→List Step→Tree O2
 | .cell g t,p=>(G5 u p t).bind fun t'=>.leaf (.cell g t')
 | .vec g z l,s::r=>(l.get s.ix).bind fun c=>(G5 u r c).bind fun c'=>(SL.dh s.ix c' l).bind fun l'=>.leaf (.vec g z l')
 | _,_=>.fail
theorem Cf {o o':O2} {p:List Step} {u:T2} (h:(zO u o p).den=some o'):put (some (cO o)) (jf p) (cT u)=some (cO o'):=by
 unfold zO at h;split at h
 · simp only [Tree.den_bind,Tree.den_leaf] at h;obtain ⟨t',h1,rfl⟩:=h;simp only [cO,put,Tw h1]
 · simp only [Tree.den_bind,Tree.den_leaf] at h;obtain ⟨c,h1,c',h2,l',h3,rfl⟩:=h;simp only [cO,jf,put,SL.get_eq _ _ _ h1,Tw h2,SL.wR h3]
 · simp at h
def N2:T2→Tree (Nat×Nat×SL)
 | .vec g z l _=>.leaf (g,z,l)
 | .e s (.vec z t) l=>.leaf (s,z,.base s t l)
 | _=>.fail
theorem C3x {t:T2} {g z:Nat} {l:SL} (h:(N2 t).den=some (g,z,l)):∃ n,cT t=.vec g z (eX l) n:=by
 unfold N2 at h;split at h
 · simp only [Tree.den_leaf,ae] at h;obtain ⟨rfl,rfl,rfl⟩:=h;exact ⟨_,rfl⟩
 · simp only [Tree.den_leaf,ae] at h;obtain ⟨rfl,rfl,rfl⟩:=h;exact ⟨_,rfl⟩
 · simp at h
def xE:O2→List Step→Tree (Nat×Nat×SL)
 | .vec g z l,[]=>.leaf (g,z,l)
 | o,p=>(xD o p).bind N2
theorem C7p {o:Obj Nat} {p:List Nat} {a z:Nat} {l:List (T Nat)} {n:Nat} (h:ew (some o) p=some (.vec a z l n)):jI (some o) p=some (a,z,l):=by
 unfold jI;split
 · rename_i h1;cases h1;simp [ew] at h
 · rw [h]
theorem ym {o:O2} {p:List Step} {g z:Nat} {l:SL} (h:(xE o p).den=some (g,z,l)):jI (some (cO o)) (jf p)=some (g,z,eX l):=by
 unfold xE at h;split at h
 · simp only [Tree.den_leaf,ae] at h;obtain ⟨rfl,rfl,rfl⟩:=h;rfl
 · simp only [Tree.den_bind] at h;obtain ⟨u,h1,h2⟩:=h;obtain ⟨n,h3⟩:=C3x h2
   have:=Dp h1
   rw [h3] at this;exact C7p this
def N3 (s:Step) (z:Nat):Bool:=match s with | .f i o=>i*z==o | .k _ y=>y==z
theorem C87 {s:Step} {z:Nat} (h:N3 s z=true):s.ix*z=s.of:=by
 cases s with
 | f i o=>simpa [Step.ix,Step.of,N3] using h
 | k i y=>simp only [N3,beq_iff_eq] at h;subst h;rfl
def Fb (o:O2) (np:Option (List Step)) (rp:List Step):Tree (T2×Nat) :=
 match np with
 | none=>match o with
   | .cell a t=>(G2 rp t).bind fun u=>.leaf (u,a)
   | _=>.fail
 | some p=>match rp with
   | s::r=>(xE o p).bind fun x=>if N3 s x.2.1 then (x.2.2.get s.ix).bind fun t=>(G2 r t).bind fun u=>.leaf (u,x.1) else .fail
   | []=>.fail
theorem JK {o:O2} {np:Option (List Step)} {rp:List Step} {u:T2} {g:Nat} (h:(Fb o np rp).den=some (u,g)):look (some (cO o)) (xA np) (jf rp)=some (cT u,g,vR rp):=by
 unfold Fb at h;split at h
 · split at h
   · simp only [Tree.den_bind,Tree.den_leaf,ae] at h;obtain ⟨v,h1,rfl,rfl⟩:=h;simp only [cO,xA,look];rw [Tt h1,bS]
   · simp at h
 · split at h
   · rename_i p s r;simp only [Tree.den_bind] at h;obtain ⟨⟨a,z,l⟩,h1,h⟩:=h;split at h
     · rename_i hc;simp only [Tree.den_bind,Tree.den_leaf,ae] at h;obtain ⟨t,h2,v,h3,rfl,rfl⟩:=h;have e:=C87 hc;simp only [xA,jf,look,ym h1,SL.get_eq _ _ _ h2];rw [Tt h3,e];rfl
     · simp at h
   · simp at h
end Go.Mid
namespace Go.Mid
def Fc:List W→Option ((ts:List Ty)×gV ts)
 | []=>some ⟨[],()⟩
 | w::r=>match zM w,Fc r with | some p,some q=>some ⟨p.1::q.1,sf q.1 p.2 q.2⟩ | _,_=>none
theorem Tx:∀ {l:List W} {ts:List Ty} {x:gV ts},Fc l=some ⟨ts,x⟩→l.map cW=(kL ts x).map .p
 | [],ts,x,h=>by simp only [Fc,aa] at h;cases h;rfl
 | w::r,ts,x,h=>by
   simp only [Fc] at h;cases h1:zM w with
   | none=>rw [h1] at h;cases h
   | some p =>
     cases h2:Fc r with
     | none=>rw [h1,h2] at h;cases h
     | some q =>
       rw [h1,h2] at h;obtain ⟨t,y⟩:=p;obtain ⟨us,z⟩:=q;simp only [aa] at h;cases h;simp only [aG,kL,uz,uA];rw [GU h1,Tx h2]
theorem JL:∀ l:List PV,pF (l.map .p)=some l
 | []=>rfl
 | x::r=>by simp only [aG,pF,JL r]
def Fe:W→Bool
 | .c _=>false
 | .v _ _=>false
 | _=>true
theorem N4:∀ {l:List W},l.any Fe=true→pF (l.map cW)=none
 | w::r,h=>by
   simp only [List.any_cons,cG] at h;simp only [aG];rcases h with h | h
   · cases w<;>simp only [Fe,Bool.false_eq_true] at h<;>rfl
   · have:=N4 h
     cases hw:cW w<;>simp only [pF,this]
def G6 (l:List W):Tree W:=match Fc l with
 | some q=>.leaf (.v (.agg q.1) q.2)
 | none=>if l.any Fe then .leaf (.agg l) else .fail
theorem N5 {l:List W} {w:W} (h:(G6 l).den=some w):uP (l.map cW)=cW w:=by
 unfold G6 at h;split at h
 · rename_i q hq;obtain ⟨ts,x⟩:=q;simp only [Tree.den_leaf] at h;subst h;unfold uP;rw [Tx hq,JL];rfl
 · split at h
   · rename_i hn;simp only [Tree.den_leaf] at h;subst h;unfold uP;rw [N4 hn,cW,s8]
   · simp at h
mutual
def vT (s id:Nat) (p:List Step):(t:Ty)→El t→Tree W
 | .vec _ t,x=>.leaf (.own id p none (cE (α:=El t) x) s)
 | .agg ts,x=>if Ty.uB ts then .leaf (.v (.agg ts) x) else (JM s id p 0 0 ts x).bind G6
 | t,x=>.leaf (.v t x)
def JM (s id:Nat) (p:List Step) (i o:Nat):(ts:List Ty)→gV ts→Tree (List W)
 | [],_=>.leaf []
 | t::r,x=>(vT s id (p++[.f i o]) t (oe r x)).bind fun w=>(JM s id p (i+1) (o+t.cs) r (pT r x)).bind fun l=>.leaf (w::l)
end
mutual
def Ff (id:Nat) (p:List Step):T2→Tree W
 | .e s t x=>vT s id p t x
 | .w v=>.leaf v
 | .agg l=>(JN id p 0 0 l).bind G6
 | .vec g _ _ n=>.leaf (.own id p none n g)
 | .hole n=>.leaf (.dead n)
def JN (id:Nat) (p:List Step) (i o:Nat):List T2→Tree (List W)
 | []=>.leaf []
 | t::r=>(Ff id (p++[.f i o]) t).bind fun w=>(JN id p (i+1) (o+zN t) r).bind fun l=>.leaf (w::l)
end
theorem C3y (id:Nat):∀ (vs:List PV) (p:List Nat) (i:Nat),xd id p i (vs.map T.p)=vs.map .p
 | [],_,_=>rfl
 | v::r,p,i=>by simp only [aG,xd,vl,C3y id r]
theorem C57 (id:Nat) (p:List Nat) (L:List (T Nat)):vl id p (ke L)=uP (xd id p 0 L):=by
 rcases yk L with ⟨vs,rfl,h⟩ | h
 · rw [h,C3y];unfold uP;rw [JL];rfl
 · rw [h];rfl
theorem C3z (p:List Step) (i o:Nat):jf (p++[.f i o])=jf p++[i]:=by rw [Jz];rfl
mutual
theorem C58 (s id:Nat):∀ (t:Ty) (p:List Step) (x:El t) (w:W),(vT s id p t x).den=some w→vl id (jf p) (jy s t x)=cW w
 | .vec z t,p,x,w,h=>by
   simp only [vT,Tree.den_leaf] at h;subst h;rfl
 | .agg ts,p,x,w,h=>by
   simp only [vT] at h;split at h
   · rename_i hp;simp only [Tree.den_leaf] at h;subst h;rw [rS s (.agg ts) x (by simpa only [Ty.pure] using hp)]
     rfl
   · simp only [Tree.den_bind] at h;obtain ⟨l,h1,h2⟩:=h;simp only [jy];rw [C57]
     have:=C3A s id ts p 0 0 x l h1
     rw [this];exact N5 h2
 | .int k,p,x,w,h=>by simp only [vT,Tree.den_leaf] at h;subst h;rfl
 | .bool,p,x,w,h=>by simp only [vT,Tree.den_leaf] at h;subst h;rfl
 | .str,p,x,w,h=>by simp only [vT,Tree.den_leaf] at h;subst h;rfl
 | .sl t,p,x,w,h=>by simp only [vT,Tree.den_leaf] at h;subst h;rfl
 | .ref t,p,x,w,h=>by simp only [vT,Tree.den_leaf] at h;subst h;rfl
 | .mS t,p,x,w,h=>by simp only [vT,Tree.den_leaf] at h;subst h;rfl
 | .fn f ts,p,x,w,h=>by simp only [vT,Tree.den_leaf] at h;subst h;rfl
 | .mp k v,p,x,w,h=>by simp only [vT,Tree.den_leaf] at h;subst h;rfl
 | .eY,p,x,w,h=>by simp only [vT,Tree.den_leaf] at h;subst h;rfl
 | .fg,p,x,w,h=>by simp only [vT,Tree.den_leaf] at h;subst h;rfl
theorem C3A (s id:Nat):∀ (ts:List Ty) (p:List Step) (i o:Nat) (x:gV ts) (l:List W),(JM s id p i o ts x).den=some l→xd id (jf p) i (mB s ts x)=l.map cW
 | [],p,i,o,x,l,h=>by simp only [JM,Tree.den_leaf] at h;subst h;rfl
 | t::r,p,i,o,x,l,h=>by
   simp only [JM,Tree.den_bind,Tree.den_leaf] at h;obtain ⟨w,h1,l',h2,rfl⟩:=h;simp only [mB,xd,aG]
   have:=C58 s id t _ _ w h1
   rw [C3z] at this;rw [this,C3A s id r p (i+1) _ _ l' h2]
end
mutual
theorem C59 (id:Nat):∀ (t:T2) (p:List Step) (w:W),(Ff id p t).den=some w→vl id (jf p) (cT t)=cW w
 | .e s t x,p,w,h=>C58 s id t p x w h
 | .w v,p,w,h=>by simp only [Ff,Tree.den_leaf] at h;subst h;rfl
 | .agg l,p,w,h=>by
   simp only [Ff,Tree.den_bind] at h;obtain ⟨ws,h1,h2⟩:=h;simp only [cT];rw [C57,C3B id l p 0 0 ws h1];exact N5 h2
 | .vec g z l n,p,w,h=>by simp only [Ff,Tree.den_leaf] at h;subst h;rfl
 | .hole n,p,w,h=>by simp only [Ff,Tree.den_leaf] at h;subst h;rfl
theorem C3B (id:Nat):∀ (l:List T2) (p:List Step) (i o:Nat) (ws:List W),(JN id p i o l).den=some ws→xd id (jf p) i (jm l)=ws.map cW
 | [],p,i,o,ws,h=>by simp only [JN,Tree.den_leaf] at h;subst h;rfl
 | t::r,p,i,o,ws,h=>by
   simp only [JN,Tree.den_bind,Tree.den_leaf] at h;obtain ⟨w,h1,l',h2,rfl⟩:=h;simp only [jm,xd,aG]
   have:=C59 id t _ w h1
   rw [C3z] at this;rw [this,C3B id r p (i+1) _ l' h2]
end
mutual
def yn:Ty→Ty
 | .vec _ t=>.sl (yn t)
 | .agg ts=>.agg (G7 ts)
 | .int k=>.int k
 | .bool=>.bool
 | .str=>.str
 | .sl t=>.sl t
 | .ref t=>.ref t
 | .mS t=>.mS t
 | .fn f ts=>.fn f ts
 | .mp k v=>.mp k v
 | .eY=>.eY
 | .fg=>.fg
def G7:List Ty→List Ty
 | []=>[]
 | t::r=>yn t::G7 r
end
mutual
def s9:(t:Ty)→El t→El (yn t)
 | .vec _ t,x=>fy (s9 t) x
 | .agg ts,x=>N6 ts x
 | .int _,x=>x
 | .bool,x=>x
 | .str,x=>x
 | .sl _,x=>x
 | .ref _,x=>x
 | .mS _,x=>x
 | .fn _ _,x=>x
 | .mp _ _,x=>x
 | .eY,x=>x
 | .fg,x=>x
def N6:(ts:List Ty)→gV ts→gV (G7 ts)
 | [],_=>()
 | t::r,x=>sf (G7 r) (s9 t (oe r x)) (N6 r (pT r x))
end
mutual
theorem JO:∀ (t:Ty) (x:El t),enc (yn t) (s9 t x)=enc t x
 | .vec z t,x=>by
   have h:∀ l:List (El t),(l.map (s9 t)).map (enc (yn t))=l.map (enc t):=by
    intro l
    induction l with
    | nil=>rfl
    | cons a r ih=>simp only [aG,JO t a,ih]
   exact congrArg PV.sl (h x)
 | .agg ts,x=>congrArg PV.agg (C3C ts x)
 | .int _,_ | .bool,_ | .str,_ | .sl _,_ | .ref _,_ | .fn _ _,_ | .mp _ _,_ | .eY,_ | .fg,_ | .mS _,_=>rfl
theorem C3C:∀ (ts:List Ty) (x:gV ts),kL (G7 ts) (N6 ts x)=kL ts x
 | [],_=>rfl
 | t::r,x=>by
   simp only [G7,N6,kL,uz,uA];rw [JO t,C3C r]
end
def Fg (t:Ty) (l:List (El t)):TV:=if t.pure then ⟨.sl t,l⟩ else ⟨.sl (yn t),fy (s9 t) l⟩
theorem Tz (t:Ty) (l:List (El t)):enc (Fg t l).1 (Fg t l).2=.sl (l.map (enc t)):=by
 by_cases hp:t.pure=true
 · rw [show Fg t l=⟨.sl t,l⟩ from if_pos hp];rfl
 · rw [show Fg t l=⟨.sl (yn t),fy (s9 t) l⟩ from if_neg hp];show PV.sl ((l.map (s9 t)).map (enc (yn t)))=_;rw [cu];congr 2;funext x;exact JO t x
def toQ:(t:Ty)→El t→TV
 | .vec _ u,l=>Fg u l
 | t,x=>⟨yn t,s9 t x⟩
theorem D4i (t:Ty) (x:El t):enc (toQ t x).1 (toQ t x).2=enc t x:=by
 cases t with
 | vec z u=>exact Tz _ _
 | _=>exact JO _ _
def JP (t:Ty) (x:El t):TV:=if t.pure then ⟨t,x⟩ else toQ t x
theorem D4j (t:Ty) (x:El t):enc (JP t x).1 (JP t x).2=enc t x:=by
 by_cases hp:t.pure=true
 · rw [show JP t x=⟨t,x⟩ from if_pos hp]
 · rw [show JP t x=toQ t x from if_neg hp];exact D4i t x
def JQ (t:Ty) (l:List (El t)):(t:Ty)×List (El t):=if t.pure then ⟨t,l⟩ else ⟨yn t,fy (s9 t) l⟩
theorem D08 (t:Ty) (l:List (El t)):(JQ t l).2.map (enc (JQ t l).1)=l.map (enc t):=by
 by_cases hp:t.pure=true
 · rw [show JQ t l=⟨t,l⟩ from if_pos hp]
 · rw [show JQ t l=⟨yn t,fy (s9 t) l⟩ from if_neg hp];show (l.map (s9 t)).map (enc (yn t))=_;rw [cu];congr 1;funext x;exact JO t x
def N7 (n:Nat) (o:Tree ((t:Ty)×List (El t))):SL→Tree TV
 | .base _ t l=>.leaf (Fg t (l.take n))
 | _=>o.bind fun q=>.leaf ⟨.sl q.1,q.2.take n⟩
mutual
def tP:T2→Tree TV
 | .e _ t x=>.leaf (JP t x)
 | .agg l=>(JR l).bind fun q=>.leaf ⟨.agg q.1,q.2⟩
 | .vec _ _ a n=>N7 n (Cg a) a
 | .w _=>.fail
 | .hole _=>.fail
def JR:List T2→Tree ((ts:List Ty)×gV ts)
 | []=>.leaf ⟨[],()⟩
 | t::r=>(tP t).bind fun p=>(JR r).bind fun q=>.leaf ⟨p.1::q.1,sf q.1 p.2 q.2⟩
def Cg:SL→Tree ((t:Ty)×List (El t))
 | .base _ t l=>.leaf (JQ t l)
 | .set a i u=>(Cg a).bind fun q=>(tP u).bind fun v=>(Tree.lN (rR q.1 v.2)).bind fun x=>.leaf ⟨q.1,q.2.set i x⟩
 | .app a u=>(Cg a).bind fun q=>(tP u).bind fun v=>(Tree.lN (rR q.1 v.2)).bind fun x=>.leaf ⟨q.1,q.2++[x]⟩
end
theorem B82:∀ {l:List (T Nat)} {vs:List PV} {i:Nat} {t:T Nat} {v:PV},lv l=some vs→sP t=some v→lv (l.set i t)=some (vs.set i v)
 | [],vs,i,t,v,h,_=>by simp only [lv,aa] at h;subst h;rfl
 | a::r,vs,i,t,v,h,hv=>by
   simp only [lv] at h;cases h1:sP a with
   | none=>rw [h1] at h;cases h
   | some x =>
     cases h2:lv r with
     | none=>rw [h1,h2] at h;cases h
     | some q =>
       rw [h1,h2] at h;simp only [aa] at h;subst h;cases i with
       | zero=>simp only [dZ,lv,hv,h2]
       | succ i=>simp only [eH,lv,h1,B82 h2 hv]
theorem B7d:∀ {l:List (T Nat)} {vs:List PV} {t:T Nat} {v:PV},lv l=some vs→sP t=some v→lv (l++[t])=some (vs++[v])
 | [],vs,t,v,h,hv=>by simp only [lv,aa] at h;subst h;simp only [a7,lv,hv]
 | a::r,vs,t,v,h,hv=>by
   simp only [lv] at h;cases h1:sP a with
   | none=>rw [h1] at h;cases h
   | some x =>
     cases h2:lv r with
     | none=>rw [h1,h2] at h;cases h
     | some q =>
       rw [h1,h2] at h;simp only [aa] at h;subst h;simp only [aS,lv,h1,B7d h2 hv]
theorem D25 {n:Nat} {o:Tree ((t:Ty)×List (El t))} {a:SL} (ho:∀ q,o.den=some q→lv (eX a)=some (q.2.map (enc q.1))) {v:TV} (h:(N7 n o a).den=some v):∃ vs,lv (eX a)=some vs∧enc v.1 v.2=.sl (vs.take n):=by
 cases a with
 | base s t l =>
   simp only [N7,Tree.den_leaf] at h;subst h;refine ⟨l.map (enc t),by simp only [eX,NU],?_⟩
   rw [Tz,bP]
 | _ =>
   simp only [N7,Tree.den_bind,Tree.den_leaf] at h;obtain ⟨q,h1,rfl⟩:=h;refine ⟨_,ho q h1,?_⟩;show PV.sl ((q.2.take n).map (enc q.1))=_;rw [bP]
mutual
theorem N8:∀ (t:T2) (v:TV),(tP t).den=some v→sP (cT t)=some (enc v.1 v.2)
 | .e s t x,v,h=>by
   simp only [tP,Tree.den_leaf] at h;subst h;rw [D4j];exact NR s t x
 | .agg l,v,h=>by
   simp only [tP,Tree.den_bind,Tree.den_leaf] at h;obtain ⟨q,h1,rfl⟩:=h;simp only [cT,C3q];rw [C88 l q h1];rfl
 | .vec g z a n,v,h=>by
   simp only [tP] at h;obtain ⟨vs,h1,h2⟩:=D25 (fun q hq=>JS a q hq) h
   simp only [cT,sP,h1,h2]
 | .w _,v,h=>by simp [tP,Tree.den] at h
 | .hole _,v,h=>by simp [tP,Tree.den] at h
theorem C88:∀ (l:List T2) (q:(ts:List Ty)×gV ts),(JR l).den=some q→lv (jm l)=some (kL q.1 q.2)
 | [],q,h=>by simp only [JR,Tree.den_leaf] at h;subst h;rfl
 | t::r,q,h=>by
   simp only [JR,Tree.den_bind,Tree.den_leaf] at h;obtain ⟨p,h1,q',h2,rfl⟩:=h;simp only [jm,lv,kL,uz,uA];rw [N8 t p h1,C88 r q' h2]
theorem JS:∀ (a:SL) (q:(t:Ty)×List (El t)),(Cg a).den=some q→lv (eX a)=some (q.2.map (enc q.1))
 | .base s t l,q,h=>by
   simp only [Cg,Tree.den_leaf] at h;subst h;rw [D08];simp only [eX,NU]
 | .set a i u,q,h=>by
   simp only [Cg,Tree.den_bind,Tree.den_ofO,Tree.den_leaf] at h;obtain ⟨q',h1,v,h2,x,h3,rfl⟩:=h;obtain ⟨e1,e2,e3⟩:=vQ h3;simp only [eX,gC];exact B82 (JS a q' h1) (by rw [N8 u v h2,e3])
 | .app a u,q,h=>by
   simp only [Cg,Tree.den_bind,Tree.den_ofO,Tree.den_leaf] at h;obtain ⟨q',h1,v,h2,x,h3,rfl⟩:=h;obtain ⟨e1,e2,e3⟩:=vQ h3;simp only [eX,b8,aG,cr];exact B7d (JS a q' h1) (by rw [N8 u v h2,e3])
end
def N9 (off:Option Nat) (len:Nat):SL→Tree TV
 | .base _ t l=>.leaf (Fg t ((match off with | none=>l | some o=>l.drop o).take len))
 | a=>(Cg a).bind fun q=>.leaf ⟨.sl q.1,(match off with | none=>q.2 | some o=>q.2.drop o).take len⟩
theorem D4k {off:Option Nat} {len:Nat} {a:SL} {v:TV} (h:(N9 off len a).den=some v):∃ vs,lv (eX a)=some vs∧enc v.1 v.2=.sl ((vs.drop (off.getD 0)).take len):=by
 cases a with
 | base s t l =>
   simp only [N9,Tree.den_leaf] at h;subst h;refine ⟨l.map (enc t),by simp only [eX,NU],?_⟩
   rw [Tz];cases off with
   | none=>simp [bP]
   | some o=>simp [bP,fq]
 | _ =>
   simp only [N9,Tree.den_bind,Tree.den_leaf] at h;obtain ⟨q,h1,rfl⟩:=h;refine ⟨_,JS _ q h1,?_⟩;cases off with
   | none=>exact congrArg PV.sl (by simp [bP])
   | some o=>exact congrArg PV.sl (by simp [bP,fq])
def Oa:Option Ty→Nat→Option Ty
 | some (.agg ts),i=>ts[i]?
 | some (.fn _ ts),i=>ts[i]?
 | _,_=>none
def A9:Option Ty→Option Ty
 | some (.sl t)=>some t
 | some (.vec _ t)=>some t
 | _=>none
mutual
def sK (h:H2):Option Ty→W→Tree TV
 | _,.v t x=>.leaf ⟨t,x⟩
 | u,.c p=>match zM (.c p) with
   | some x=>.leaf x
   | none=>match u with
     | some u=>match dec u p with | some x=>.leaf ⟨u,x⟩ | none=>.fail
     | none=>.fail
 | u,.nil _=>match A9 u with | some t=>.leaf ⟨.sl t,([]:List (El t))⟩ | none=>.fail
 | _,.own id path off len g=>(Tree.lN (oS h id)).bind fun o=>(xE o path).bind fun x=>if x.1==g then (Tree.ask (cV (match off with | none=>len | some o=>o+len) x.2.2.len)).bind fun _=>N9 off len x.2.2 else .fail
 | _,.ptr id np rp g=>(Tree.lN (oS h id)).bind fun o=>(Fb o np rp).bind fun x=>if x.2==g then (tP x.1).bind fun v=>.leaf ⟨.ref v.1,v.2⟩ else .fail
 | u,.agg l=>(Ch h u 0 l).bind fun q=>.leaf ⟨.agg q.1,q.2⟩
 | u,.fn f l=>(Ch h u 0 l).bind fun q=>.leaf ⟨.fn f q.1,q.2⟩
 | _,.fE ..=>.fail
 | _,.eO _=>.fail
 | _,.dead _=>.fail
def Ch (h:H2) (u:Option Ty) (i:Nat):List W→Tree ((ts:List Ty)×gV ts)
 | []=>.leaf ⟨[],()⟩
 | w::r=>(sK h (Oa u i) w).bind fun p=>(Ch h u (i+1) r).bind fun q=>.leaf ⟨p.1::q.1,sf q.1 p.2 q.2⟩
end
theorem q0 {h:H2} {id:Nat} {o:O2} (e:oS h id=some o):cH h id=some (cO o):=by rw [Cc,e];rfl
mutual
theorem Ba (h:H2):∀ (w:W) (u:Option Ty) (v:TV),(sK h u w).den=some v→mC (cH h) (cW w)=some (enc v.1 v.2)
 | .v t x,u,v,e=>by simp only [sK,Tree.den_leaf] at e;subst e;rfl
 | .c p,u,v,e=>by
   simp only [sK] at e;split at e
   · rename_i x hx;simp only [Tree.den_leaf] at e;subst e
     have:=GU hx
     rw [this];rfl
   · split at e
     · split at e
       · rename_i hd;simp only [Tree.den_leaf] at e;subst e;show some p=_;rw [E8 _ _ _ hd]
       · simp at e
     · simp at e
 | .nil z,u,v,e=>by
   simp only [sK] at e;split at e
   · simp only [Tree.den_leaf] at e;subst e;rfl
   · simp at e
 | .own id path off len g,u,v,e=>by
   simp only [sK,Tree.den_bind,Tree.den_ofO] at e;obtain ⟨o,h1,⟨g',z,a⟩,h2,e⟩:=e;split at e
   · rename_i hg;simp only [beq_iff_eq] at hg;simp only [Tree.den_bind,Tree.dE] at e;obtain ⟨_,h3,h4⟩:=e;obtain ⟨vs,h5,h6⟩:=D4k h4;have h3:off.getD 0+len≤a.len:=by
      cases off with
      | none=>simpa using cC.mp h3
      | some o=>exact cC.mp h3
     simp only [cW,mC];rw [q0 h1,ym h2];simp only [hg,true_and,SL.j4,h3,if_true,h5,h6]
   · simp at e
 | .ptr id np rp g,u,v,e=>by
   simp only [sK,Tree.den_bind,Tree.den_ofO] at e;obtain ⟨o,h1,⟨t,g'⟩,h2,e⟩:=e;split at e
   · rename_i hg;simp only [beq_iff_eq] at hg;simp only [Tree.den_bind,Tree.den_leaf] at e;obtain ⟨x,h3,rfl⟩:=e;simp only [cW,mC];rw [q0 h1,JK h2];simp only [hg,true_and,if_true,N8 _ _ h3];rfl
   · simp at e
 | .agg l,u,v,e=>by
   simp only [sK,Tree.den_bind,Tree.den_leaf] at e;obtain ⟨q,h1,rfl⟩:=e;simp only [cW,mC];rw [G8 h l u 0 q h1];rfl
 | .fn f l,u,v,e=>by
   simp only [sK,Tree.den_bind,Tree.den_leaf] at e;obtain ⟨q,h1,rfl⟩:=e;simp only [cW,mC];rw [G8 h l u 0 q h1];rfl
 | .fE ..,u,v,e=>by simp [sK,Tree.den] at e
 | .eO _,u,v,e=>by simp [sK,Tree.den] at e
 | .dead _,u,v,e=>by simp [sK,Tree.den] at e
theorem G8 (h:H2):∀ (l:List W) (u:Option Ty) (i:Nat) (q:(ts:List Ty)×gV ts),(Ch h u i l).den=some q→rI (cH h) (mW l)=some (kL q.1 q.2)
 | [],u,i,q,e=>by simp only [Ch,Tree.den_leaf] at e;subst e;rfl
 | w::r,u,i,q,e=>by
   simp only [Ch,Tree.den_bind,Tree.den_leaf] at e;obtain ⟨p,h1,q',h2,rfl⟩:=e;simp only [mW,rI,kL,uz,uA];rw [Ba h w _ p h1,G8 h r u (i+1) q' h2]
end
end Go.Mid
namespace Go.Mid
theorem TA (φ:MV→MV) (ζ:Nat→Nat):∀ l:List (T Nat),mw (l.map (jk φ ζ))=mw l
 | []=>rfl
 | .p v::r=>by simp only [aG,jk,mw,TA φ ζ r]
 | .m _::r | .agg _::r | .vec ..::r | .mp ..::r | .hole _::r=>rfl
theorem D09 (φ:MV→MV) (ζ:Nat→Nat) (l:List (T Nat)):jk φ ζ (ke l)=ke (jQ φ ζ l):=by
 unfold ke;rw [zK,TA];cases mw l with
 | none=>simp only [jk,zK]
 | some vs=>rfl
section
variable (φ:W→Tree W) (ζ:Nat→Nat)
mutual
def zP:T2→Tree T2
 | .e s t x=>.leaf (.e (ζ s) t x)
 | .w v=>(φ v).bind fun v'=>.leaf (.w v')
 | .agg l=>(G9 l).bind fun l'=>.leaf (.agg l')
 | .vec g z a n=>(Ci a).bind fun a'=>.leaf (.vec (ζ g) z a' n)
 | .hole n=>.leaf (.hole n)
def G9:List T2→Tree (List T2)
 | []=>.leaf []
 | t::r=>(zP t).bind fun t'=>(G9 r).bind fun r'=>.leaf (t'::r')
def Ci:SL→Tree SL
 | .base s t l=>.leaf (.base (ζ s) t l)
 | .set a i u=>(Ci a).bind fun a'=>(zP u).bind fun u'=>.leaf (.set a' i u')
 | .app a u=>(Ci a).bind fun a'=>(zP u).bind fun u'=>.leaf (.app a' u')
end
def Dq:O2→Tree O2
 | .cell g t=>(zP φ ζ t).bind fun t'=>.leaf (.cell (ζ g) t')
 | .vec g z a=>(Ci φ ζ a).bind fun a'=>.leaf (.vec (ζ g) z a')
 | .mp g k v l=>.leaf (.mp (ζ g) k v l)
 | .gone=>.leaf .gone
end
section
variable (ζ:Nat→Nat) {φ:W→Tree W} {φ':MV→MV}
mutual
theorem JT (hφ:∀ w w',(φ w).den=some w'→φ' (cW w)=cW w'):∀ (t t':T2),(zP φ ζ t).den=some t'→jk φ' ζ (cT t)=cT t'
 | .e s t x,t',h=>by
   simp only [zP,Tree.den_leaf] at h;subst h;exact NS φ' ζ s t x
 | .w v,t',h=>by
   simp only [zP,Tree.den_bind,Tree.den_leaf] at h;obtain ⟨v',h1,rfl⟩:=h;simp only [cT,jk,hφ _ _ h1]
 | .agg l,t',h=>by
   simp only [zP,Tree.den_bind,Tree.den_leaf] at h;obtain ⟨l',h1,rfl⟩:=h;simp only [cT,D09,TE hφ l l' h1]
 | .vec g z a n,t',h=>by
   simp only [zP,Tree.den_bind,Tree.den_leaf] at h;obtain ⟨a',h1,rfl⟩:=h;simp only [cT,jk,JU hφ a a' h1]
 | .hole n,t',h=>by simp only [zP,Tree.den_leaf] at h;subst h;rfl
theorem TE (hφ:∀ w w',(φ w).den=some w'→φ' (cW w)=cW w'):∀ (l l':List T2),(G9 φ ζ l).den=some l'→jQ φ' ζ (jm l)=jm l'
 | [],l',h=>by simp only [G9,Tree.den_leaf] at h;subst h;rfl
 | t::r,l',h=>by
   simp only [G9,Tree.den_bind,Tree.den_leaf] at h;obtain ⟨t',h1,r',h2,rfl⟩:=h;simp only [jm,jQ,JT hφ t t' h1,TE hφ r r' h2]
theorem JU (hφ:∀ w w',(φ w).den=some w'→φ' (cW w)=cW w'):∀ (a a':SL),(Ci φ ζ a).den=some a'→jQ φ' ζ (eX a)=eX a'
 | .base s t l,a',h=>by
   simp only [Ci,Tree.den_leaf] at h;subst h;exact C7n φ' ζ s t l
 | .set a i u,a',h=>by
   simp only [Ci,Tree.den_bind,Tree.den_leaf] at h;obtain ⟨b,h1,u',h2,rfl⟩:=h;simp only [eX];rw [zK,gC,← zK,JU hφ a b h1,JT hφ u u' h2]
 | .app a u,a',h=>by
   simp only [Ci,Tree.den_bind,Tree.den_leaf] at h;obtain ⟨b,h1,u',h2,rfl⟩:=h;simp only [eX];rw [zK,b8,← zK,JU hφ a b h1,aG,JT hφ u u' h2];rfl
end
theorem Ob (hφ:∀ w w',(φ w).den=some w'→φ' (cW w)=cW w') (o o':O2) (h:(Dq φ ζ o).den=some o'):kO φ' ζ (cO o)=cO o':=by
 cases o with
 | cell g t =>
   simp only [Dq,Tree.den_bind,Tree.den_leaf] at h;obtain ⟨t',h1,rfl⟩:=h;simp only [cO,kO,JT ζ hφ t t' h1]
 | vec g z a =>
   simp only [Dq,Tree.den_bind,Tree.den_leaf] at h;obtain ⟨a',h1,rfl⟩:=h;simp only [cO,kO,JU ζ hφ a a' h1]
 | mp g k v l =>
   simp only [Dq,Tree.den_leaf] at h;subst h
   have:∀ l:List (El k×El v),jQ φ' ζ (l.map fun p=>T.p (enc v p.2))=l.map fun p=>T.p (enc v p.2):=by
    intro l
    induction l with
    | nil=>rfl
    | cons a r ih=>simp only [aG,jQ,jk,ih]
   simp only [cO,kO,this]
 | gone=>simp only [Dq,Tree.den_leaf] at h;subst h;rfl
end
def C89 (g:Nat) (t:T2):Tree T2:=zP .leaf (fun _=>g) t
def xF (g:Nat) (a:SL):Tree SL:=Ci .leaf (fun _=>g) a
theorem JV (w w':W) (h:(Tree.leaf w).den=some w'):(fun v:MV=>v) (cW w)=cW w':=by simp only [Tree.den_leaf] at h;rw [h]
theorem C9a {g:Nat} {t t':T2} (h:(C89 g t).den=some t'):Ar g (cT t)=cT t':=JT _ JV t t' h
theorem Cj {g:Nat} {a a':SL} (h:(xF g a).den=some a'):nS g (eX a)=eX a':=JU _ JV a a' h
mutual
def Bb (s:Nat):T2→Tree TV
 | .e s' t x=>if s'==s || t.pure then .leaf ⟨t,x⟩ else .fail
 | .agg l=>(JW s l).bind fun q=>.leaf ⟨.agg q.1,q.2⟩
 | .vec g z a n=>if g==s then (zQ a).bind fun b=>match b with
    | .base s' t l=>if s'==s || t.pure then (Tree.ask (n==l.length)).bind fun _=>.leaf ⟨.vec z t,l⟩ else .fail
    | _=>.fail
   else .fail
 | .w _=>.fail
 | .hole _=>.fail
def JW (s:Nat):List T2→Tree ((ts:List Ty)×gV ts)
 | []=>.leaf ⟨[],()⟩
 | t::r=>(Bb s t).bind fun p=>(JW s r).bind fun q=>.leaf ⟨p.1::q.1,sf q.1 p.2 q.2⟩
def zQ:SL→Tree SL
 | .base s t l=>.leaf (.base s t l)
 | .set a i u=>(zQ a).bind fun b=>match b with
   | .base s t l=>(Bb s u).bind fun v=>(Tree.lN (rR t v.2)).bind fun x=>.leaf (.base s t (l.set i x))
   | _=>.fail
 | .app a u=>(zQ a).bind fun b=>match b with
   | .base s t l=>(Bb s u).bind fun v=>(Tree.lN (rR t v.2)).bind fun x=>.leaf (.base s t (l++[x]))
   | _=>.fail
end
theorem TF {s s':Nat} {t:Ty} (hc:(s'==s || t.pure)=true) (y:El t):jy s' t y=jy s t y:=by
 simp only [cG,beq_iff_eq] at hc;rcases hc with rfl | hc
 · rfl
 · rw [rS _ _ _ hc,rS _ _ _ hc]
mutual
theorem Oc (s:Nat):∀ (t:T2) (v:TV),(Bb s t).den=some v→cT t=jy s v.1 v.2
 | .e s' t x,v,h=>by
   simp only [Bb] at h;by_cases hc:(s'==s || t.pure)=true
   · rw [if_pos hc,Tree.den_leaf] at h;subst h;exact TF hc x
   · rw [if_neg hc] at h;simp at h
 | .agg l,v,h=>by
   simp only [Bb,Tree.den_bind,Tree.den_leaf] at h;obtain ⟨q,h1,rfl⟩:=h;simp only [cT,jy,C3D s l q h1]
 | .vec g z a n,v,h=>by
   simp only [Bb] at h;split at h
   · rename_i hg;simp only [beq_iff_eq] at hg;simp only [Tree.den_bind] at h;obtain ⟨b,h1,h⟩:=h;have hb:=Fh a b h1;split at h
     · rename_i s' t l;by_cases hc:(s'==s || t.pure)=true
       · rw [if_pos hc] at h;simp only [Tree.den_bind,Tree.dE,Tree.den_leaf,beq_iff_eq] at h;obtain ⟨_,h2,rfl⟩:=h;have e1:∀ l:List (El t),l.map (jy s' t)=l.map (jy s t):=by
          intro l;congr 1;funext y;exact TF hc y
         simp only [cT,hb,eX,hg,h2,jy,e1]
       · rw [if_neg hc] at h;simp at h
     · simp at h
   · simp at h
 | .w _,v,h=>by simp [Bb,Tree.den] at h
 | .hole _,v,h=>by simp [Bb,Tree.den] at h
theorem C3D (s:Nat):∀ (l:List T2) (q:(ts:List Ty)×gV ts),(JW s l).den=some q→jm l=mB s q.1 q.2
 | [],q,h=>by simp only [JW,Tree.den_leaf] at h;subst h;rfl
 | t::r,q,h=>by
   simp only [JW,Tree.den_bind,Tree.den_leaf] at h;obtain ⟨p,h1,q',h2,rfl⟩:=h;simp only [jm,mB,uz,uA];rw [Oc s t p h1,C3D s r q' h2]
theorem Fh:∀ (a b:SL),(zQ a).den=some b→eX a=eX b
 | .base s t l,b,h=>by simp only [zQ,Tree.den_leaf] at h;subst h;rfl
 | .set a i u,b,h=>by
   simp only [zQ,Tree.den_bind] at h;obtain ⟨b',h1,h⟩:=h;have hb:=Fh a b' h1;split at h
   · rename_i s t l;simp only [Tree.den_bind,Tree.den_ofO,Tree.den_leaf] at h;obtain ⟨v,h2,x,h3,rfl⟩:=h;have hu:=Oc s u v h2;obtain ⟨t',y⟩:=v;obtain ⟨e,he,_⟩:=vQ h3;simp only at e he;subst e;cases he;simp only [eX,hb,hu,gC]
   · simp at h
 | .app a u,b,h=>by
   simp only [zQ,Tree.den_bind] at h;obtain ⟨b',h1,h⟩:=h;have hb:=Fh a b' h1;split at h
   · rename_i s t l;simp only [Tree.den_bind,Tree.den_ofO,Tree.den_leaf] at h;obtain ⟨v,h2,x,h3,rfl⟩:=h;have hu:=Oc s u v h2;obtain ⟨t',y⟩:=v;obtain ⟨e,he,_⟩:=vQ h3;simp only at e he;subst e;cases he;simp only [eX,hb,hu,b8,aG,cr]
   · simp at h
end
mutual
def Dr:T2→Tree T2
 | .vec g z a n=>(zQ a).bind fun b=>.leaf (.vec g z b n)
 | .agg l=>(JX l).bind fun l'=>.leaf (.agg l')
 | .e s t x=>.leaf (.e s t x)
 | .w v=>.leaf (.w v)
 | .hole n=>.leaf (.hole n)
def JX:List T2→Tree (List T2)
 | []=>.leaf []
 | t::r=>(Dr t).bind fun t'=>(JX r).bind fun r'=>.leaf (t'::r')
end
mutual
theorem C3E:∀ (t t':T2),(Dr t).den=some t'→cT t=cT t'
 | .vec g z a n,t',h=>by
   simp only [Dr,Tree.den_bind,Tree.den_leaf] at h;obtain ⟨b,h1,rfl⟩:=h;simp only [cT,Fh a b h1]
 | .agg l,t',h=>by
   simp only [Dr,Tree.den_bind,Tree.den_leaf] at h;obtain ⟨l',h1,rfl⟩:=h;simp only [cT,C1B l l' h1]
 | .e s t x,t',h=>by simp only [Dr,Tree.den_leaf] at h;subst h;rfl
 | .w v,t',h=>by simp only [Dr,Tree.den_leaf] at h;subst h;rfl
 | .hole n,t',h=>by simp only [Dr,Tree.den_leaf] at h;subst h;rfl
theorem C1B:∀ (l l':List T2),(JX l).den=some l'→jm l=jm l'
 | [],l',h=>by simp only [JX,Tree.den_leaf] at h;subst h;rfl
 | t::r,l',h=>by
   simp only [JX,Tree.den_bind,Tree.den_leaf] at h;obtain ⟨t',h1,r',h2,rfl⟩:=h;simp only [jm,C3E t t' h1,C1B r r' h2]
end
def Ha:O2→Tree O2
 | .cell g t=>(Dr t).bind fun t'=>.leaf (.cell g t')
 | .vec g z a=>(zQ a).bind fun b=>.leaf (.vec g z b)
 | o=>.leaf o
theorem D1a (o o':O2) (h:(Ha o).den=some o'):cO o=cO o':=by
 cases o with
 | cell g t =>
   simp only [Ha,Tree.den_bind,Tree.den_leaf] at h;obtain ⟨t',h1,rfl⟩:=h;simp only [cO,C3E t t' h1]
 | vec g z a =>
   simp only [Ha,Tree.den_bind,Tree.den_leaf] at h;obtain ⟨b,h1,rfl⟩:=h;simp only [cO,Fh a b h1]
 | mp g k v l=>simp only [Ha,Tree.den_leaf] at h;subst h;rfl
 | gone=>simp only [Ha,Tree.den_leaf] at h;subst h;rfl
def Hb (g:Nat) (u:Option Ty):SL:=match A9 u with | some t=>.base g t [] | none=>.base g .bool []
theorem TG (g:Nat) (u:Option Ty):eX (Hb g u)=[]:=by
 unfold Hb;split<;>rfl
mutual
def wT (g:Nat) (u:Option Ty) (h:H2):W→Tree (T2×H2)
 | .v t x=>if t.pure then .leaf (.e g t x,h) else .fail
 | .c p=>match zM (.c p) with
   | some v=>if v.1.pure then .leaf (.e g v.1 v.2,h) else .fail
   | none=>match u with
     | some u=>match dec u p with | some x=>if u.pure then .leaf (.e g u x,h) else .fail | none=>.fail
     | none=>.fail
 | .own id path off len g'=>match off with
   | some _=>.fail
   | none=>(Tree.lN (oS h id)).bind fun o=>match o,path with
     | .vec uR z a,[]=>if g'==uR then (Tree.ask (cV len a.len)).bind fun _=>(xF g a).bind fun b=>.leaf (.vec g z b len,e7 h id .gone) else .fail
     | o,path=>(xD o path).bind fun t=>(N2 t).bind fun x=>if g'==x.1 then
        (Tree.ask (cV len x.2.2.len)).bind fun _=>(xF g x.2.2).bind fun b=>(zO (.hole 1) o path).bind fun o'=>.leaf (.vec g x.2.1 b len,e7 h id o') else .fail
 | .agg l=>(Hc g u 0 h l).bind fun x=>.leaf (.agg x.1,x.2)
 | .nil z=>.leaf (.vec g z (Hb g u) 0,h)
 | .ptr id np rp g'=>.leaf (.w (.ptr id np rp g'),h)
 | .fn f l=>.leaf (.w (.fn f l),h)
 | .fE ..=>.fail
 | .eO _=>.fail
 | .dead _=>.fail
def Hc (g:Nat) (u:Option Ty) (i:Nat) (h:H2):List W→Tree (List T2×H2)
 | []=>.leaf ([],h)
 | w::r=>(wT g (Oa u i) h w).bind fun x=>(Hc g u (i+1) x.2 r).bind fun y=>.leaf (x.1::y.1,y.2)
end
theorem TH {o:O2} {g z:Nat} {l:List (T Nat)} (h:cO o=.vec g z l):∃ a,o=.vec g z a:=by
 cases o with
 | vec g1 z1 a=>simp only [cO,Obj.vec.injEq] at h;obtain ⟨rfl,rfl,_⟩:=h;exact ⟨a,rfl⟩
 | _=>simp [cO] at h
theorem C5m {g id len g':Nat} {h:cq} {ob:Obj Nat} {p:List Nat} (ho:h id=some ob) (hn:∀ g1 z1 l1,ob=.vec g1 z1 l1→p=[]→False) :
 o9 g h (.own id p 0 len g')=match ew (some ob) p with
  | some (.vec uR z l _)=>if g'=uR∧len≤l.length then
     match put (some ob) p (.hole 1) with | some o=>some (.vec g z (nS g l) len,cD h id (some o)) | none=>none
    else none
  | _=>none:=by
 simp only [o9,ho,true_and];split
 · rename_i h1;simp only [aa] at h1;exact absurd rfl (hn _ _ _ h1)
 · rfl
mutual
theorem TI (g:Nat):∀ (w:W) (u:Option Ty) (h:H2) (t:T2) (h':H2),(wT g u h w).den=some (t,h')→o9 g (cH h) (cW w)=some (cT t,cH h')
 | .v t x,u,h,t',h',e=>by
   simp only [wT] at e;split at e
   · rename_i hp;simp only [Tree.den_leaf,ae] at e;obtain ⟨rfl,rfl⟩:=e;show some (T.p (enc t x),cH h)=some (jy g t x,cH h);rw [rS g t x hp]
   · simp at e
 | .c p,u,h,t',h',e=>by
   simp only [wT] at e;split at e
   · rename_i v hv;split at e
     · rename_i hp;simp only [Tree.den_leaf,ae] at e;obtain ⟨rfl,rfl⟩:=e;rw [GU hv];show some (T.p (enc v.1 v.2),cH h)=some (jy g v.1 v.2,cH h);rw [rS g _ _ hp]
     · simp at e
   · split at e
     · rename_i u;split at e
       · rename_i x hx;split at e
         · rename_i hp;simp only [Tree.den_leaf,ae] at e;obtain ⟨rfl,rfl⟩:=e;show some (T.p p,cH h)=some (jy g u x,cH h);rw [rS g _ _ hp,E8 _ _ _ hx]
         · simp at e
       · simp at e
     · simp at e
 | .own id path off len g',u,h,t',h',e=>by
   simp only [wT] at e;split at e
   · simp at e
   · simp only [Tree.den_bind,Tree.den_ofO] at e;obtain ⟨o,h1,e⟩:=e;have ho:=q0 h1;split at e
     · rename_i uR z a;split at e
       · rename_i hg;simp only [beq_iff_eq] at hg;subst hg;simp only [Tree.den_bind,Tree.dE,Tree.den_leaf,ae] at e;obtain ⟨_,h2,b,h3,rfl,rfl⟩:=e;have h2:=cC.mp h2;simp only [cW,jf,cU,o9,ho,cO];rw [if_pos ⟨trivial,trivial,by rw [SL.j4];exact h2⟩,Cj h3,← qi]
         rfl
       · simp at e
     · rename_i mG;simp only [Tree.den_bind] at e;obtain ⟨t,h2,⟨uR,z,a⟩,h3,e⟩:=e;split at e
       · rename_i hg;simp only [beq_iff_eq] at hg;subst hg;simp only [Tree.den_bind,Tree.dE,Tree.den_leaf,ae] at e;obtain ⟨_,h4,b,h5,BJ,h6,rfl,rfl⟩:=e;have h4:=cC.mp h4;have dM:=Dp h2;obtain ⟨n,hv⟩:=C3x h3;rw [hv] at dM;have eZ:put (some (cO o)) (jf path) (.hole 1)=some (cO BJ):=Cf h6;have key:=C5m (g:=g) (g':=g') (len:=len) ho (p:=jf path) (fun g1 z1 l1 e1 e2=>by
          obtain ⟨a1,ha⟩:=TH e1;cases path with
          | nil=>exact mG _ _ _ ha rfl
          | cons s r=>simp [jf] at e2)
         refine key.trans ?_;rw [dM];simp only;rw [if_pos ⟨trivial,by rw [SL.j4];exact h4⟩,eZ,Cj h5,← qi]
         rfl
       · simp at e
 | .agg l,u,h,t',h',e=>by
   simp only [wT,Tree.den_bind,Tree.den_leaf,ae] at e;obtain ⟨⟨ts,h1⟩,e1,rfl,rfl⟩:=e;simp only [cW,o9,TJ g l u 0 h ts h1 e1,cT]
 | .nil z,u,h,t',h',e=>by
   simp only [wT,Tree.den_leaf,ae] at e;obtain ⟨rfl,rfl⟩:=e;simp only [cW,o9,cT,TG]
 | .ptr id np rp g',u,h,t',h',e=>by
   simp only [wT,Tree.den_leaf,ae] at e;obtain ⟨rfl,rfl⟩:=e;rfl
 | .fn f l,u,h,t',h',e=>by
   simp only [wT,Tree.den_leaf,ae] at e;obtain ⟨rfl,rfl⟩:=e;rfl
 | .fE ..,u,h,t',h',e=>by simp [wT,Tree.den] at e
 | .eO _,u,h,t',h',e=>by simp [wT,Tree.den] at e
 | .dead _,u,h,t',h',e=>by simp [wT,Tree.den] at e
theorem TJ (g:Nat):∀ (l:List W) (u:Option Ty) (i:Nat) (h:H2) (ts:List T2) (h':H2),(Hc g u i h l).den=some (ts,h')→tQ g (cH h) (mW l)=some (jm ts,cH h')
 | [],u,i,h,ts,h',e=>by
   simp only [Hc,Tree.den_leaf,ae] at e;obtain ⟨rfl,rfl⟩:=e;rfl
 | w::r,u,i,h,ts,h',e=>by
   simp only [Hc,Tree.den_bind,Tree.den_leaf,ae] at e;obtain ⟨⟨t,h1⟩,e1,⟨q,h2⟩,e2,rfl,rfl⟩:=e;simp only [mW,tQ,TI g w _ h t h1 e1,TJ g r u (i+1) h1 q h2 e2,jm]
end
end Go.Mid
namespace Go.Mid
abbrev wI (k:IntKind) (n:Int):W:=.v (.int k) n
abbrev wB (b:Bool):W:=.v .bool b
abbrev wS (s:ByteArray):W:=.v .str s
def isC:W→Bool
 | .c _=>true
 | _=>false
def Ds (w:W) (b:Bool):Tree Unit:=match w with
 | .c _=>Tree.Jy b
 | _=>Tree.ask b
@[simp] theorem Od (w:W) (b:Bool) (r:Unit):(Ds w b).den=some r↔b=true:=by cases w<;>simp [Ds]
def o5 (k:IntKind) (x y:Int):Int:=k.wrap (cl k.bits x &&& cl k.bits y).toNat
def ta (k:IntKind) (x y:Int):Int:=k.wrap (cl k.bits x ||| cl k.bits y).toNat
def D4l (k:IntKind) (x y:Int):Int:=k.wrap (cl k.bits x ^^^ cl k.bits y).toNat
def zR (k:IntKind) (x y:Int):Int:=k.wrap (cl k.bits x &&& ~~~ cl k.bits y).toNat
def nW (k:IntKind) (x y:Int):Int:=k.wrap (x*2 ^ min y.toNat k.bits)
def jW (k:IntKind) (x y:Int):Int:=x.fdiv (2 ^ min y.toNat k.bits)
def JY (a b:ByteArray):Bool:=a.toList==b.toList
def Oe (a b:ByteArray):Bool:=Op.bytesLess a.toList b.toList
def TK (op:BinOp) (k:IntKind) (x y:Int) (b:W):Tree W :=
 match op with
 | .add=>.leaf (wI k (k.wrap (x+y)))
 | .sub=>.leaf (wI k (k.wrap (x-y)))
 | .mul=>.leaf (wI k (k.wrap (x*y)))
 | .quo=>(Ds b (y != 0)).bind fun _=>.leaf (wI k (k.wrap (x.tdiv y)))
 | .rem=>(Ds b (y != 0)).bind fun _=>.leaf (wI k (x.tmod y))
 | .eql=>.leaf (wB (x==y))
 | .neq=>.leaf (wB (x != y))
 | .lss=>.leaf (wB (decide (x<y)))
 | .leq=>.leaf (wB (decide (x≤y)))
 | .gtr=>.leaf (wB (decide (x>y)))
 | .geq=>.leaf (wB (decide (x ≥ y)))
 | .and=>.leaf (wI k (o5 k x y))
 | .or=>.leaf (wI k (ta k x y))
 | .xor=>.leaf (wI k (D4l k x y))
 | .andNot=>.leaf (wI k (zR k x y))
 | _=>.fail
def TL (op:BinOp) (k:IntKind) (x y:Int) (b:W):Tree W :=
 match op with
 | .shl=>(Ds b (decide (0≤y))).bind fun _=>.leaf (wI k (nW k x y))
 | .shr=>(Ds b (decide (0≤y))).bind fun _=>.leaf (wI k (jW k x y))
 | _=>.fail
def TM (op:BinOp) (a b:ByteArray):Tree W :=
 match op with
 | .add=>(Tree.ask (cV (a.size+b.size) 9223372036854775807)).bind fun _=>.leaf (wS (a++b))
 | .eql=>.leaf (wB (JY a b))
 | .neq=>.leaf (wB !(JY a b))
 | .lss=>.leaf (wB (Oe a b))
 | .leq=>.leaf (wB (Oe a b || JY a b))
 | .gtr=>.leaf (wB !(Oe a b || JY a b))
 | .geq=>.leaf (wB !(Oe a b))
 | _=>.fail
def TN (op:BinOp) (a b:Bool):Tree W :=
 match op with
 | .eql=>.leaf (wB (a==b))
 | .neq=>.leaf (wB !(a==b))
 | _=>.fail
def TO:BinOp→Bool
 | .shl=>true
 | .shr=>true
 | _=>false
def TP (bl:Bool) (op:BinOp) (a b:W):Tree W :=
 match bl with
 | true=>match JD a,JD b with | some x,some y=>TN op x y | _,_=>.fail
 | false=>match vS a,vS b with
   | some (k,x),some (k',y)=>match TO op with
     | true=>TL op k x y b
     | false=>if k==k' then TK op k x y b else .fail
   | _,_=>match Dm a,Dm b with | some x,some y=>TM op x y | _,_=>.fail
theorem C9b {op:BinOp} {k:IntKind} {x y:Int} {b w:W} (hs:TO op=false) (h:(TK op k x y b).den=some w):∃ v,jT op (.int k x) (.int k y)=some v∧cW w=.p v:=by
 cases op<;>simp only [TO,Bool.true_eq_false,reduceCtorEq] at hs <;>
  simp only [TK,Tree.den_leaf,Tree.den_bind,Od,Tree.me] at h
 case quo =>
  obtain ⟨_,h1,rfl⟩:=h;exact ⟨_,by simp only [jT,ne_eq,not_true_eq_false,if_false];rw [if_neg (by simpa using h1)];rfl,rfl⟩
 case rem =>
  obtain ⟨_,h1,rfl⟩:=h;exact ⟨_,by simp only [jT,ne_eq,not_true_eq_false,if_false];rw [if_neg (by simpa using h1)];rfl,rfl⟩
 all_goals
  subst h;exact ⟨_,by simp only [jT,ne_eq,not_true_eq_false,if_false,Ig];rfl,rfl⟩
theorem C7t {op:BinOp} {k k':IntKind} {x y:Int} {b w:W} (h:(TL op k x y b).den=some w):∃ v,jT op (.int k x) (.int k' y)=some v∧cW w=.p v:=by
 cases op<;>simp only [TL,Tree.den_leaf,Tree.den_bind,Od,Tree.me,decide_eq_true_eq] at h
 all_goals
  obtain ⟨_,h1,rfl⟩:=h;exact ⟨_,by simp only [jT];rw [if_neg (by omega)];rfl,rfl⟩
theorem C9c {op:BinOp} {x y:ByteArray} {w:W} (h:(TM op x y).den=some w):∃ v,jT op (.str x) (.str y)=some v∧cW w=.p v:=by
 cases op<;>simp only [TM,Tree.den_leaf,Tree.den_bind,Tree.dE,Tree.me] at h
 case add =>
  obtain ⟨_,h1,rfl⟩:=h;exact ⟨_,by simp only [jT];rw [if_pos (cC.mp h1)];rfl,rfl⟩
 all_goals
  subst h;exact ⟨_,by simp only [jT];rfl,rfl⟩
theorem C7u {op:BinOp} {x y:Bool} {w:W} (h:(TN op x y).den=some w):∃ v,jT op (.bool x) (.bool y)=some v∧cW w=.p v:=by
 cases op<;>simp only [TN,Tree.den_leaf,Tree.me] at h
 all_goals
  subst h;exact ⟨_,by simp only [jT];rfl,rfl⟩
def Fi (bl:Bool) (op:BinOp) (a b:MV):Option MV:=match a,b with
 | .p a,.p b=>if D2 a=bl then (match jT op a b with | some v=>some (.p v) | none=>none) else none
 | _,_=>none
theorem D26 {bl:Bool} {op:BinOp} {a b w:W} (h:(TP bl op a b).den=some w):Fi bl op (cW a) (cW b)=some (cW w):=by
 unfold TP at h;split at h
 · split at h
   · rename_i x y hx hy;rw [Tl hx,Tl hy];obtain ⟨v,h1,h2⟩:=C7u h;simp only [Fi,h1,h2,D2,if_true]
   · simp at h
 · split at h
   · rename_i k x k' y hx hy;rw [xC hx,xC hy];split at h
     · obtain ⟨v,h1,h2⟩:=C7t (k':=k') h;simp only [Fi,h1,h2,D2,if_true]
     · rename_i hs;split at h
       · rename_i hk;simp only [beq_iff_eq] at hk;subst hk;obtain ⟨v,h1,h2⟩:=C9b hs h;simp only [Fi,h1,h2,D2,if_true]
       · simp at h
   · split at h
     · rename_i x y hx hy;rw [GW hx,GW hy];obtain ⟨v,h1,h2⟩:=C9c h;simp only [Fi,h1,h2,D2,if_true]
     · simp at h
mutual
def uD:TD→Ty
 | .int k=>.int k
 | .bool=>.bool
 | .str=>.str
 | .agg l=>.agg (qj l)
def qj:List TD→List Ty
 | []=>[]
 | t::r=>uD t::qj r
end
mutual
def Ck:(td:TD)→El (uD td)→El (uD td)→Bool
 | .int _,x,y=>(show Int from x)==y
 | .bool,x,y=>(show Bool from x)==y
 | .str,x,y=>JY x y
 | .agg l,x,y=>Of l x y
def Of:(l:List TD)→gV (qj l)→gV (qj l)→Bool
 | [],_,_=>true
 | [t],x,y=>Ck t (oe [] x) (oe [] y)
 | t::u::r,x,y=>Ck t (oe (qj (u::r)) x) (oe (qj (u::r)) y)&&Of (u::r) (pT (qj (u::r)) x) (pT (qj (u::r)) y)
end
mutual
theorem TQ:∀ (td:TD) (x y:El (uD td)),vm (enc (uD td) x) (enc (uD td) y)=Ck td x y
 | .int _,x,y=>rfl
 | .bool,x,y=>rfl
 | .str,x,y=>rfl
 | .agg l,x,y=>C6a l x y
theorem C6a:∀ (l:List TD) (x y:gV (qj l)),xe (kL (qj l) x) (kL (qj l) y)=Of l x y
 | [],x,y=>rfl
 | [t],x,y=>by
   have h:vm (enc (uD t) (oe [] x)) (enc (uD t) (oe [] y))=Ck t (oe [] x) (oe [] y):=TQ t _ _;show (vm (enc (uD t) (oe [] x)) (enc (uD t) (oe [] y))&&true)=Ck t (oe [] x) (oe [] y);rw [h,Bool.and_true]
 | t::u::r,x,y=>by
   have h1:=TQ t (oe (qj (u::r)) x) (oe (qj (u::r)) y);have h2:=C6a (u::r) (pT (qj (u::r)) x) (pT (qj (u::r)) y);show (vm (enc (uD t) (oe (qj (u::r)) x)) (enc (uD t) (oe (qj (u::r)) y))&&xe (kL (qj (u::r)) (pT (qj (u::r)) x)) (kL (qj (u::r)) (pT (qj (u::r)) y)))=(Ck t (oe (qj (u::r)) x) (oe (qj (u::r)) y)&&Of (u::r) (pT (qj (u::r)) x) (pT (qj (u::r)) y));rw [h1,h2]
end
mutual
theorem C6b:∀ (td:TD) (x:El (uD td)),pH td (enc (uD td) x)=true
 | .int _,x=>by simp [uD,enc,pH]
 | .bool,x=>rfl
 | .str,x=>rfl
 | .agg l,x=>C3J l x
theorem C3J:∀ (l:List TD) (x:gV (qj l)),sr l (kL (qj l) x)=true
 | [],x=>rfl
 | t::r,x=>by
   simp only [qj,kL,sr,ak];exact ⟨C6b t _,C3J r _⟩
end
def TR (neg:Bool) (td:TD) (a b:W):Tree W:=match Cd (uD td) a,Cd (uD td) b with
 | some x,some y=>.leaf (wB (match neg with | false=>Ck td x y | true=>!(Ck td x y)))
 | _,_=>.fail
def Og (neg:Bool) (td:TD) (a b:MV):Option MV:=match a,b with
 | .p a,.p b=>if pH td a&&pH td b then some (Au (vm a b != neg)) else none
 | _,_=>none
theorem D27 {neg:Bool} {td:TD} {a b w:W} (h:(TR neg td a b).den=some w):Og neg td (cW a) (cW b)=some (cW w):=by
 unfold TR at h;split at h
 · rename_i x y hx hy;simp only [Tree.den_leaf] at h;subst h;rw [GV hx,GV hy];simp only [Og,C6b,Bool.and_self,if_true,TQ];cases neg<;>cases Ck td x y<;>rfl
 · simp at h
def TS:W→Bool
 | .dead _=>false
 | _=>true
def Oh:su→W→Tree W
 | .not _,w=>match w with
   | .c (.bool b)=>.leaf (.c (.bool !b))
   | w=>match JD w with | some b=>.leaf (wB !b) | none=>.fail
 | .neg _,w=>match vS w with | some (k,n)=>.leaf (wI k (k.wrap (0-n))) | none=>.fail
 | .inv _,w=>match vS w with | some (k,n)=>.leaf (wI k (D4l k (if k.signed then -1 else k.max) n)) | none=>.fail
 | .convI k _,w=>match vS w with | some (_,n)=>.leaf (wI k (k.wrap n)) | none=>.fail
 | .convS _,w=>match Dm w with | some s=>.leaf (wS s) | none=>.fail
 | .convR _,w=>match vS w with | some (_,n)=>.leaf (wS (Utf8.encode n)) | none=>.fail
 | .lenS _,w=>match Dm w with | some s=>.leaf (wI .i64 (s.size:Nat)) | none=>.fail
 | .capn _,w=>match w with | .nil _=>.leaf (wI .i64 (0:Nat)) | _=>.fail
 | .isnil fk neg _,w=>match fk,w with
   | false,.c .eY=>.leaf (.c (.bool (true != neg)))
   | true,.c .fg=>.leaf (.c (.bool (true != neg)))
   | false,.v .eY _=>.leaf (.c (.bool (true != neg)))
   | true,.v .fg _=>.leaf (.c (.bool (true != neg)))
   | false,.v (.ref _) _=>.leaf (.c (.bool (false != neg)))
   | false,.v (.mS t) x=>.leaf (.v .bool (Option.isNone (α:=El t) x != neg))
   | false,.ptr ..=>.leaf (.c (.bool (false != neg)))
   | true,.v (.fn _ _) _=>.leaf (.c (.bool (false != neg)))
   | true,.c (.fn _ _)=>.leaf (.c (.bool (false != neg)))
   | true,.fn _ _=>.leaf (.c (.bool (false != neg)))
   | _,_=>.fail
 | .nilc _,w=>match w with
   | .v (.ref t) x=>.leaf (.v (.ref t) x)
   | .v (.mS t) x=>.opt (A:=El t) (Dk t) x fun y=>.leaf (.v (.ref t) y)
   | .ptr id np rp g=>.leaf (.ptr id np rp g)
   | _=>.fail
 | .len _,w=>match w with
   | .v (.sl t) l=>.leaf (wI .i64 (cE (α:=El t) l:Nat))
   | .c (.sl l)=>.leaf (.c (.int .i64 (l.length:Nat)))
   | .nil _=>.leaf (.c (.int .i64 0))
   | .own _ _ _ n _=>.leaf (wI .i64 (n:Nat))
   | _=>.fail
 | .cut0 z _,w=>match w with
   | .v (.sl _) _=>.leaf (.nil z)
   | .c (.sl _)=>.leaf (.nil z)
   | .nil _=>.leaf (.nil z)
   | .own ..=>.leaf (.nil z)
   | _=>.fail
 | .ext _ i,w=>match w with
   | .eO l=>Tree.lN l[i]?
   | _=>.fail
 | .fld agg n o _ i,w=>match w with
   | .v (.agg ts) x=>match Dn ts x i with
     | some v=>if Ty.dm (ts.take i)==o&&v.1.cs==n&&v.1.isAgg==agg then .leaf (.v v.1 v.2) else .fail
     | none=>.fail
   | .c (.agg l)=>match l[i]? with
     | some v=>if PV.dm (l.take i)==o&&v.cs==n&&v.isAgg==agg then .leaf (.c v) else .fail
     | none=>.fail
   | .agg l=>match l[i]? with
     | some v=>if JB (l.take i)==o&&GP v==n&&NW v==agg&&TS v then .leaf v else .fail
     | none=>.fail
   | _=>.fail
 | .faddr _ i o,w=>match w with
   | .v (.ref (.agg ts)) x=>match Dn ts x i with
     | some v=>if Ty.dm (ts.take i)==o then .leaf (.v (.ref v.1) v.2) else .fail
     | none=>.fail
   | .ptr id np rp g=>.leaf (.ptr id np (rp++[.f i o]) g)
   | _=>.fail
 | _,_=>.fail
def Cl:su→Option dQ
 | .not x | .neg x | .inv x | .convI _ x | .convS x | .convR x | .lenS x | .capn x | .isnil _ _ x | .nilc x | .len x | .cut0 _ x | .ext x _ | .fld _ _ _ x _ | .faddr x _ _=>some x
 | _=>none
theorem C1C (v:W) (h:TS v=true):Mt (cW v)=false:=by
 cases v<;>first | rfl | cases h
theorem D4m (K:jE) (g:Nat) (d:Option Nat) (s:S2) (h:cq) (op:su) (x:dQ) (w w':W) (ho:Cl op=some x) (hw:cQ (cS s) x=cW w) (e:(Oh op w).den=some w'):cf K g d (cS s) h op=some (cW w',h):=by
 cases op<;>simp only [Cl,aa,reduceCtorEq] at ho<;>subst ho<;>simp only [Oh] at e<;>simp only [cf,hw]
 case not =>
  split at e
  · simp only [Tree.den_leaf] at e;subst e;rfl
  · split at e
    · rename_i b hb;simp only [Tree.den_leaf] at e;subst e;rw [Tl hb];rfl
    · simp at e
 case neg =>
  split at e
  · rename_i b hb;simp only [Tree.den_leaf] at e;subst e;rw [xC hb];rfl
  · simp at e
 case inv =>
  split at e
  · rename_i b hb;simp only [Tree.den_leaf] at e;subst e;rw [xC hb];rfl
  · simp at e
 case convI =>
  split at e
  · rename_i b hb;simp only [Tree.den_leaf] at e;subst e;rw [xC hb];rfl
  · simp at e
 case convS =>
  split at e
  · rename_i b hb;simp only [Tree.den_leaf] at e;subst e;rw [GW hb];rfl
  · simp at e
 case convR =>
  split at e
  · rename_i b hb;simp only [Tree.den_leaf] at e;subst e;rw [xC hb];rfl
  · simp at e
 case lenS =>
  split at e
  · rename_i b hb;simp only [Tree.den_leaf] at e;subst e;rw [GW hb];rfl
  · simp at e
 case capn =>
  split at e
  · simp only [Tree.den_leaf] at e;subst e;rfl
  · simp at e
 case isnil =>
  split at e<;>first | (simp only [Tree.den_leaf] at e;subst e;rfl) | (simp only [Tree.den_leaf] at e;subst e;rename_i t x;change Option (El t) at x;cases x<;>rfl) | simp at e
 case nilc =>
  split at e
  · simp only [Tree.den_leaf] at e;subst e;rfl
  · rename_i t x;obtain ⟨y,hy,e2⟩:=(Tree.lU (A:=El t) (Dk t) x _ _).1 e;simp only [Tree.den_leaf] at e2;subst e2;have hx:x=(show El (.mS t) from some y):=hy;subst hx;rfl
  · simp only [Tree.den_leaf] at e;subst e;rfl
  · simp at e
 case len =>
  split at e
  · rename_i t l;simp only [Tree.den_leaf] at e;subst e
    have:∀ l:List (El t),(match yL (.p (.sl (l.map (enc t)))) with | some n=>some (wj n,h) | none=>none)=some (.p (.int .i64 (l.length:Nat)),h):=by intro l;simp [yL,wj]
    exact this l
  · simp only [Tree.den_leaf] at e;subst e;rfl
  · simp only [Tree.den_leaf] at e;subst e;rfl
  · simp only [Tree.den_leaf] at e;subst e;rfl
  · simp at e
 case cut0 =>
  split at e<;>first | (simp only [Tree.den_leaf] at e;subst e;rfl) | simp at e
 case ext =>
  split at e
  · rename_i l;simp only [Tree.den_ofO] at e;simp only [cW,s8,aN,e];rfl
  · simp at e
 case fld =>
  split at e
  · rename_i ts x;split at e
    · rename_i v hv;obtain ⟨t,y⟩:=v;split at e
      · rename_i hc;simp only [ak,beq_iff_eq] at hc;simp only [Tree.den_leaf] at e;subst e;have vA:=(JF 0 ts x _ t y hv).1;have fh:=JH ts x;simp only [cW,enc];rw [vA];simp only;rw [if_pos ⟨(fh _).trans hc.1.1,(zJ _ _).trans hc.1.2,(NQ _ _).trans hc.2⟩]
      · simp at e
    · simp at e
  · rename_i l;split at e
    · rename_i v hv;split at e
      · rename_i hc;simp only [ak,beq_iff_eq] at hc;simp only [Tree.den_leaf] at e;subst e;simp only [cW];rw [hv];simp only;rw [if_pos ⟨hc.1.1,hc.1.2,hc.2⟩]
      · simp at e
    · simp at e
  · rename_i l;split at e
    · rename_i v hv;split at e
      · rename_i hc;simp only [ak,beq_iff_eq] at hc;simp only [Tree.den_leaf] at e;subst e;simp only [cW,s8,aN,hv,ar,← bP];rw [← s8,Ti,NV,C53,if_pos ⟨hc.1.1.1,hc.1.1.2,hc.1.2,C1C _ hc.2⟩]
      · simp at e
    · simp at e
  · simp at e
 case faddr =>
  split at e
  · rename_i ts x;split at e
    · rename_i v hv;obtain ⟨t,y⟩:=v;split at e
      · rename_i hc;simp only [beq_iff_eq] at hc;simp only [Tree.den_leaf] at e;subst e;have vA:=(JF 0 ts x _ t y hv).1;have fh:=JH ts x;simp only [cW,enc];rw [vA];simp only;rw [if_pos ((fh _).trans hc)]
      · simp at e
    · simp at e
  · simp only [Tree.den_leaf] at e;subst e;simp only [cW];rw [Jz,Td];rfl
  · simp at e
end Go.Mid
namespace Go.Mid
def Fj (np:Option (List Step)) (rp:List Step):List Step:=match np with | none=>rp | some p=>p++rp
theorem Oi (np:Option (List Step)) (rp:List Step):rH (xA np) (jf rp)=jf (Fj np rp):=by
 cases np with
 | none=>rfl
 | some p=>simp only [rH,xA,Option.getD_some,Fj,Jz]
def Oj (h:H2) (agg:Bool) (n:Nat):W→Tree W
 | .v (.ref t) x=>if t.cs==n&&t.isAgg==agg then .leaf (.v t x) else .fail
 | .ptr id np rp g=>(Tree.lN (oS h id)).bind fun o=>(Fb o np rp).bind fun x=>if x.2==g&&zN x.1==n then
    (Ff id (Fj np rp) x.1).bind fun v=>if NW v==agg&&TS v then .leaf v else .fail else .fail
 | _=>.fail
theorem C3K {h:H2} {agg:Bool} {n:Nat} {a w:W} (e:(Oj h agg n a).den=some w):tV (cH h) agg n (cW a)=some (cW w):=by
 unfold Oj at e;split at e
 · rename_i t x;split at e
   · rename_i hc;simp only [ak,beq_iff_eq] at hc;simp only [Tree.den_leaf] at e;subst e;show (if (enc t x).cs=n∧(enc t x).isAgg=agg then some (MV.p (enc t x)) else none)=_
     rw [if_pos ⟨(zJ _ _).trans hc.1,(NQ _ _).trans hc.2⟩];rfl
   · simp at e
 · rename_i id np rp g;simp only [Tree.den_bind,Tree.den_ofO] at e;obtain ⟨o,h1,⟨t,s⟩,h2,e⟩:=e;split at e
   · rename_i hc;simp only [ak,beq_iff_eq] at hc;simp only [Tree.den_bind] at e;obtain ⟨v,h3,e⟩:=e;split at e
     · rename_i hd;simp only [ak,beq_iff_eq] at hd;simp only [Tree.den_leaf] at e;subst e;simp only [cW,tV];rw [q0 h1,JK h2];simp only;rw [Oi,C59 _ _ _ _ h3,C53,G0,if_pos ⟨hc.1,trivial,hc.2⟩,if_pos ⟨hd.1,C1C _ hd.2⟩]
     · simp at e
   · simp at e
 · simp at e
mutual
def TT:T2→Ty
 | .e _ t _=>t
 | .vec _ z (.base _ t _) _=>.vec z t
 | .agg l=>.agg (D4n l)
 | _=>.bool
def D4n:List T2→List Ty
 | []=>[]
 | t::r=>TT t::D4n r
end
def Cm:T2→Option (Nat×Nat×SL×Nat)
 | .vec g z l n=>some (g,z,l,n)
 | .e s (.vec z t) l=>some (s,z,.base s t l,cE (α:=El t) l)
 | _=>none
theorem Fk {t:T2} {g z n:Nat} {l:SL} (h:Cm t=some (g,z,l,n)):cT t=.vec g z (eX l) n:=by
 unfold Cm at h;split at h
 · simp only [aa,ae] at h;obtain ⟨rfl,rfl,rfl,rfl⟩:=h;rfl
 · simp only [aa,ae] at h;obtain ⟨rfl,rfl,rfl,rfl⟩:=h;rfl
 · cases h
def zS:List Step→List Step→Tree Unit
 | [],[]=>.leaf ()
 | .f i _::r,.f j _::q=>(Tree.Jy (i==j)).bind fun _=>zS r q
 | .k i _::r,.k j _::q=>(Tree.ask (jc i j)).bind fun _=>zS r q
 | _,_=>.fail
theorem TU:∀ {p q:List Step} {u:Unit},(zS p q).den=some u→jf p=jf q
 | [],[],_,_=>rfl
 | .f i _::r,.f j _::q,u,h=>by
   simp only [zS,Tree.den_bind,Tree.wQ,beq_iff_eq] at h;obtain ⟨_,h1,h2⟩:=h;simp only [jf,Step.ix,h1,TU h2]
 | .k i _::r,.k j _::q,u,h=>by
   simp only [zS,Tree.den_bind,Tree.dE] at h;obtain ⟨_,h1,h2⟩:=h;simp only [jf,Step.ix,eA h1,TU h2]
 | [],_::_,_,h=>by simp [zS] at h
 | .f _ _::_,[],_,h=>by simp [zS] at h
 | .k _ _::_,[],_,h=>by simp [zS] at h
 | .k _ _::_,.f _ _::_,_,h=>by simp [zS] at h
 | .f _ _::_,.k _ _::_,_,h=>by simp [zS] at h
def SL.cut (n:Nat):SL→Tree SL
 | .base s t l=>.leaf (.base s t (l.take n))
 | a=>(Tree.ask (jc n a.len)).bind fun _=>.leaf a
theorem SL.Fl {n:Nat} {a b:SL} (h:(SL.cut n a).den=some b):eX b=(eX a).take n:=by
 have key:∀ a:SL,((Tree.ask (jc n a.len)).bind fun _=>Tree.leaf a).den=some b→eX b=(eX a).take n:=by
  intro a h;simp only [Tree.den_bind,Tree.dE,Tree.den_leaf] at h;obtain ⟨_,h1,rfl⟩:=h;rw [eA h1,aZ (by rw [SL.j4];exact au _)]
 cases a with
 | base s t l=>simp only [SL.cut,Tree.den_leaf] at h;subst h;simp only [eX,bP]
 | set a i u=>exact key _ h
 | app a u=>exact key _ h
def Ol (g:Nat) (h:H2) (n id:Nat) (p:List Step) (u:Ty) (x:W):Tree (W×H2) :=
 (wT g (some u) h x).bind fun y=>if zN y.1==n then (Tree.lN (oS y.2 id)).bind fun o=>(zO y.1 o p).bind fun o'=>.leaf (.dead 0,e7 y.2 id o') else .fail
theorem C1D {g:Nat} {h:H2} {n id:Nat} {p:List Step} {u:Ty} {x w:W} {h':H2} (e:(Ol g h n id p u x).den=some (w,h')):yK g (cH h) n id (jf p) (cW x)=some (cW w,cH h'):=by
 unfold Ol at e;simp only [Tree.den_bind] at e;obtain ⟨⟨t,h1⟩,e1,e⟩:=e;split at e
 · rename_i hc;simp only [beq_iff_eq] at hc;simp only [Tree.den_bind,Tree.den_ofO,Tree.den_leaf,ae] at e;obtain ⟨o,e2,o',e3,rfl,rfl⟩:=e;unfold yK;rw [TI g x _ h t h1 e1];simp only;rw [G0,if_pos hc,q0 e2,Cf e3];simp only;rw [qi];rfl
 · simp at e
def TW (g:Nat) (h:H2) (n:Nat) (a x:W):Tree (W×H2) :=
 match a with
 | .ptr id np rp g0=>(Tree.lN (oS h id)).bind fun o=>(Fb o np rp).bind fun y=>if y.2==g0&&zN y.1==n then
    (match x with
    | .own uV ra off len g'=>if uV==id then (match Cm y.1 with
       | some (a,z,l,n')=>if off.isNone&&g'==a then (zS ra (Fj np rp)).bind fun _ =>
          (Tree.ask (cV len n')).bind fun _=>(SL.cut len l).bind fun l'=>(zO (.vec a z l' len) o (Fj np rp)).bind fun o'=>.leaf (.dead 0,e7 h id o')
         else .fail
       | none=>.fail)
      else Ol g h n id (Fj np rp) (TT y.1) x
    | x=>Ol g h n id (Fj np rp) (TT y.1) x)
    else .fail
 | _=>.fail
theorem C9d {g:Nat} {h:H2} {n:Nat} {a x w:W} {h':H2} (e:(TW g h n a x).den=some (w,h')):Gb g (cH h) n (cW a) (cW x)=some (cW w,cH h'):=by
 unfold TW at e;split at e
 · rename_i id np rp g0;simp only [Tree.den_bind,Tree.den_ofO] at e;obtain ⟨o,h1,⟨t,s⟩,h2,e⟩:=e;split at e
   · rename_i hc;simp only [ak,beq_iff_eq] at hc;have hl:=JK h2;simp only [cW,Gb];rw [q0 h1,hl];simp only;rw [if_pos ⟨hc.1,trivial,(G0 t).trans hc.2⟩];split at e
     · rename_i uV ra off len g';split at e
       · rename_i gx;simp only [beq_iff_eq] at gx;subst gx;split at e
         · rename_i a z l n' ht;split at e
           · rename_i hq;simp only [ak,beq_iff_eq,Option.isNone_iff_eq_none] at hq;simp only [Tree.den_bind,Tree.dE,Tree.den_leaf,ae] at e;obtain ⟨_,h8,_,h3,l',h9,o',h4,rfl,rfl⟩:=e;have h3:=cC.mp h3;have hp:=Cf h4;rw [Fk ht];simp only [cW];rw [Oi,hq.1,if_pos ⟨trivial,TU h8,rfl,hq.2,h3⟩];simp only [cT,SL.Fl h9] at hp;rw [hp,← qi]
           · simp at e
         · simp at e
       · rename_i gx;have gx:¬ uV=id:=by simpa using gx
         have e:=C1D e;rw [Oi];simp only [cW] at e ⊢;split
         · rw [if_neg (fun hh=>gx (by simp_all))]
           exact e
         · exact e
     · rename_i mG;have e:=C1D e;rw [Oi];have hx:∀ i p o l g,cW x=.own i p o l g→False:=by
        intro i p o l g hh;cases x with
        | own a b c d f=>exact mG _ _ _ _ _ rfl
        | _=>cases hh
       split
       · rename_i hh _;exact (hx _ _ _ _ _ hh).elim
       · exact e
   · simp at e
 · simp at e
def zU (w:W):Tree Nat:=match vS w with
 | some (_,i)=>(Ds w (decide (0≤i))).bind fun _=>.leaf i.toNat
 | none=>.fail
theorem C6c {w:W} {k:Nat} (h:(zU w).den=some k):wk (cW w)=some (k:Int):=by
 unfold zU at h;split at h
 · rename_i k' i hi;simp only [Tree.den_bind,Od,decide_eq_true_eq,Tree.den_leaf] at h;obtain ⟨_,h1,rfl⟩:=h;rw [xC hi];simp only [wk,aa];omega
 · simp at h
theorem Fm {w:W} {k n:Nat} (h:(zU w).den=some k) (hk:k<n):xU n (cW w)=some k:=by
 unfold xU;rw [C6c h];simp only;rw [if_pos ⟨by omega,by omega⟩]
 simp
theorem D28 {w:W} {k n:Nat} (h:(zU w).den=some k) (hk:k≤n):xf n (cW w)=some k:=by
 unfold xf;rw [C6c h];simp only;rw [if_pos ⟨by omega,by omega⟩]
 simp
def zV (n:Nat):Option W→Tree (Option Nat)
 | none=>.leaf none
 | some w=>(zU w).bind fun k=>(Tree.ask (cV k n)).bind fun _=>.leaf (some k)
theorem Hd {n:Nat} {m:Nat} {w:Option W} {k:Option Nat} (h:(zV n w).den=some k):CJ n m (w.map cW)=some (k.getD m):=by
 cases w with
 | none=>simp only [zV,Tree.den_leaf] at h;subst h;rfl
 | some w =>
   simp only [zV,Tree.den_bind,Tree.dE,Tree.den_leaf] at h;obtain ⟨j,h1,_,h2,rfl⟩:=h;exact D28 h1 (cC.mp h2)
def Fo (n:Nat) (lo hi:Option W):Tree (Option Nat×Option Nat) :=
 (zV n hi).bind fun b=>(zV (b.getD n) lo).bind fun a=>.leaf (a,b)
theorem Om {n:Nat} {lo hi:Option W} {a b:Option Nat} (h:(Fo n lo hi).den=some (a,b)):Bs n (lo.map cW) (hi.map cW)=some (a.getD 0,b.getD n):=by
 simp only [Fo,Tree.den_bind,Tree.den_leaf,ae] at h;obtain ⟨b',h1,a',h2,rfl,rfl⟩:=h;unfold Bs;rw [Hd (m:=n) h1];simp only;rw [Hd (m:=0) h2]
def On {A:Type} (a b:Option Nat) (l:List A):List A :=
 let m:=match b with | none=>l | some b=>l.take b
 match a with | none=>m | some a=>m.drop a
theorem D29 {A B:Type} (f:A→B) (a b:Option Nat) (l:List A):(On a b l).map f=((l.map f).take (b.getD l.length)).drop (a.getD 0):=by
 unfold On;cases a<;>cases b<;>simp [bP,fq]
def TX (h:H2) (z:Nat) (w:W) (lo hi:Option W):Tree W:=match w with
 | .v (.sl t) l=>if t.cs==z then (Fo (cE (α:=El t) l) lo hi).bind fun x=>.leaf (.v (.sl t) (On (A:=El t) x.1 x.2 l)) else .fail
 | .nil z=>(Fo 0 lo hi).bind fun _=>.leaf (.nil z)
 | .own id path off len g=>(Tree.lN (oS h id)).bind fun o=>(xE o path).bind fun y=>if y.1==g&&y.2.1==z then
    (Fo len lo hi).bind fun x=>.leaf (.own id path (match x.1 with | none=>off | some a=>some (match off with | none=>a | some o=>o+a)) (match x.1 with | none=>x.2.getD len | some a=>x.2.getD len-a) g) else .fail
 | _=>.fail
theorem JZ (t:Ty) (z:Nat) (h:t.cs=z) (l:List (El t)):((l.map (enc t)).all fun v=>v.cs==z)=true:=by
 rw [List.all_eq_true];intro v hv;obtain ⟨x,_,rfl⟩:=bh.1 hv;simp [zJ,h]
theorem C9e {h:H2} {z:Nat} {w w':W} {lo hi:Option W} (e:(TX h z w lo hi).den=some w'):Ax (cH h) z (cW w) (lo.map cW) (hi.map cW)=some (cW w'):=by
 unfold TX at e;split at e
 · rename_i t l;split at e
   · rename_i hz;simp only [beq_iff_eq] at hz;simp only [Tree.den_bind,Tree.den_leaf] at e;obtain ⟨⟨a,b⟩,h1,rfl⟩:=e;have key:∀ l:List (El t),(Fo l.length lo hi).den=some (a,b)→Ax (cH h) z (.p (.sl (l.map (enc t)))) (lo.map cW) (hi.map cW)=some (.p (.sl ((On a b l).map (enc t)))):=by
      intro l h1;simp only [Ax,aD];rw [Om h1];simp only;rw [if_pos (JZ t z hz l),D29]
     exact key l h1
   · simp at e
 · simp only [Tree.den_bind,Tree.den_leaf] at e;obtain ⟨⟨a,b⟩,h1,rfl⟩:=e;simp only [cW,Ax];rw [Om h1]
 · rename_i id path off len g;simp only [Tree.den_bind,Tree.den_ofO] at e;obtain ⟨o,h1,⟨g',z',a'⟩,h2,e⟩:=e;split at e
   · rename_i hc;simp only [ak,beq_iff_eq] at hc;simp only [Tree.den_bind,Tree.den_leaf] at e;obtain ⟨⟨a,b⟩,h3,rfl⟩:=e;simp only [cW,Ax];rw [Om h3,q0 h1,ym h2];simp only;rw [if_pos hc];cases a<;>cases off<;>simp
   · simp at e
 · simp at e
def TY (w:W) (lo hi:Option W):Tree W:=match Dm w with
 | some b=>(Fo b.size lo hi).bind fun x=>.leaf (wS (b.extract (x.1.getD 0) (x.2.getD b.size)))
 | none=>.fail
abbrev D7o {A:Type} (l:List A) (k:Nat):Option A:=l[k]?
def TZ (h:H2) (z:Nat) (w i:W):Tree W:=match w with
 | .v (.sl t) l=>if t.cs==z then (zU i).bind fun k=>.opt (Dk t) (D7o (A:=El t) l k) fun x=>.leaf (.v (.ref t) x) else .fail
 | .own id path off len g=>(Tree.lN (oS h id)).bind fun o=>(xE o path).bind fun y=>if y.1==g&&y.2.1==z then
    (zU i).bind fun k=>(Tree.ask (cZ k len)).bind fun _=>.leaf (.ptr id (some path) [match off with | none=>JE z k i | some o=>.k (o+k) z] g) else .fail
 | _=>.fail
theorem C9f {h:H2} {z:Nat} {w i w':W} (e:(TZ h z w i).den=some w'):Ay (cH h) z (cW w) (cW i)=some (cW w'):=by
 unfold TZ at e;split at e
 · rename_i t l;split at e
   · rename_i hz;simp only [beq_iff_eq] at hz;simp only [Tree.den_bind,Tree.lU,Tree.den_leaf] at e;obtain ⟨k,h1,x,h2,rfl⟩:=e;have key:∀ l:List (El t),l[k]?=some x→Ay (cH h) z (.p (.sl (l.map (enc t)))) (cW i)=some (.p (.ref (enc t x))):=by
      intro l h2;have hk:=(aL.1 h2).1;simp only [Ay,aD];rw [Fm h1 hk];simp only [aN,h2,ar];rw [if_pos ((zJ _ _).trans hz)]
     exact key l h2
   · simp at e
 · rename_i id path off len g;simp only [Tree.den_bind,Tree.den_ofO] at e;obtain ⟨o,h1,⟨g',z',a'⟩,h2,e⟩:=e;split at e
   · rename_i hc;simp only [ak,beq_iff_eq] at hc;simp only [Tree.den_bind,Tree.dE,Tree.den_leaf] at e;obtain ⟨k,h3,_,h4,rfl⟩:=e;simp only [cW,Ay];rw [Fm h3 (iF.mp h4),q0 h1];simp only;rw [ym h2];simp only;rw [if_pos hc];cases off with
     | none =>
       simp only [cU,bS];cases i<;>simp [JE,xA,jf,vR,Step.ix,Step.of]
     | some o=>simp [xA,jf,vR,Step.ix,Step.of]
   · simp at e
 · simp at e
def Oo (n z:Nat) (ts:List Ty) (x:gV ts) (i:W):Tree TV :=
 (zU i).bind fun k=>match isC i with
   | true=>if cZ k n&&Ty.dm (ts.take k)==k*z then Tree.lN (Dn ts x k) else .fail
   | false=>match N0 ts z with
     | some t=>if ts.length==n then (Tree.ask (cZ k n)).bind fun _=>(Tree.lN (GY t k ts x 0)).bind fun y=>.leaf ⟨t,y⟩ else .fail
     | none=>.fail
theorem C6d {n z:Nat} {ts:List Ty} {x:gV ts} {i:W} {v:TV} (h:(Oo n z ts x i).den=some v) :
 ∃ k,xU n (cW i)=some k∧(kL ts x)[k]?=some (enc v.1 v.2)∧PV.dm ((kL ts x).take k)=k*z:=by
 unfold Oo at h;simp only [Tree.den_bind] at h;obtain ⟨k,h1,h⟩:=h;refine ⟨k,?_⟩;split at h
 · split at h
   · rename_i hc;simp only [ak,beq_iff_eq] at hc;rw [Tree.den_ofO] at h;obtain ⟨t,y⟩:=v;exact ⟨Fm h1 (iF.mp hc.1),(JF 0 ts x k t y h).1,(JH ts x k).trans hc.2⟩
   · simp at h
 · split at h
   · rename_i t ht;split at h
     · rename_i hn;simp only [beq_iff_eq] at hn;simp only [Tree.den_bind,Tree.dE,Tree.den_ofO,Tree.den_leaf] at h;obtain ⟨_,h2,y,h3,rfl⟩:=h;have h2:=iF.mp h2;have hs:=(Tm 0 t k ts x 0 y h3 (dt _) (by omega)).1
       rw [gB] at hs;refine ⟨Fm h1 h2,hs,(JH ts x k).trans ?_⟩;unfold N0 at ht;split at ht
       · cases ht
       · split at ht
         · rename_i hc;cases ht;simp only [ak,beq_iff_eq] at hc;rw [← hc.2];exact Tn hc.1 (by omega)
         · cases ht
     · simp at h
   · simp at h
def J0 (k:IntKind):List PV→Option (List Int)
 | []=>some []
 | .int l x::r=>if l==k then (match J0 k r with | some m=>some (x::m) | none=>none) else none
 | _=>none
theorem C6e {k:IntKind}:∀ {l:List PV} {m:List Int},J0 k l=some m→l=m.map (PV.int k)
 | [],m,h=>by simp only [J0,aa] at h;subst h;rfl
 | v::r,m,h=>by
   cases v with
   | int l x =>
     simp only [J0] at h;split at h
     · rename_i hk;split at h
       · rename_i q hq;simp only [aa] at h;subst h;simp only [beq_iff_eq] at hk;subst hk;rw [C6e hq];rfl
       · cases h
     · cases h
   | _=>cases h
theorem C3P (k:IntKind):∀ m:List Int,PV.dm (m.map (PV.int k))=m.length
 | []=>rfl
 | x::r=>by simp only [aG,PV.dm,PV.cs,C3P k r,ba];omega
def D7p:List PV→Option IntKind
 | .int k _::_=>some k
 | _=>none
def T0 (n z:Nat) (w i:W):Tree W:=match w with
 | .c (.ref (.agg l))=>match D7p l with
   | some k=>match J0 k l with
     | some m=>if z==1 then (zU i).bind fun j=>(Tree.ask (cZ j n)).bind fun _=>.opt (0:Int) m[j]? fun v=>.leaf (.v (.ref (.int k)) v) else .fail
     | none=>.fail
   | none=>.fail
 | .v (.ref (.agg ts)) x=>(Oo n z ts x i).bind fun v=>.leaf (.v (.ref v.1) v.2)
 | .ptr id np rp g=>(zU i).bind fun k=>(Tree.ask (cZ k n)).bind fun _=>.leaf (.ptr id np (rp++[JE z k i]) g)
 | _=>.fail
def T1 (agg:Bool) (z n:Nat) (w i:W):Tree W:=match zM w with
 | some ⟨.agg ts,x⟩=>(Oo n z ts x i).bind fun v=>if v.1.cs==z&&v.1.isAgg==agg then .leaf (.v v.1 v.2) else .fail
 | _=>.fail
def T4 (w i:W):Tree W:=match Dm w with
 | some b=>(zU i).bind fun k=>.opt (0:UInt8) b.data[k]? fun c=>.leaf (wI .u8 c.toNat)
 | none=>.fail
def J1 (t:Ty):(ts:List Ty)→gV ts→Option (List (El t))
 | [],_=>some []
 | u::r,x=>match rR t (oe r x) with
   | some y=>match J1 t r (pT r x) with
     | some l=>some (y::l)
     | none=>none
   | none=>none
theorem C3Q {t:Ty}:∀ {ts:List Ty} {x:gV ts} {l:List (El t)},J1 t ts x=some l→kL ts x=l.map (enc t)∧ts.length=l.length
 | [],_,l,h=>by
   simp only [J1,aa] at h;subst h;exact ⟨rfl,rfl⟩
 | u::r,x,l,h=>by
   simp only [J1] at h;split at h
   · rename_i y hy;split at h
     · rename_i m hm;simp only [aa] at h;subst h;obtain ⟨h1,h2⟩:=C3Q hm;refine ⟨?_,by simp [h2]⟩
       simp only [kL,aG,h1,(vQ hy).2.2]
     · cases h
   · cases h
def T5 (n z:Nat) (w:W):Tree W:=match w with
 | .v (.ref (.agg (t::ts))) x=>if t.cs==z&&(t::ts).length==n then (Tree.lN (J1 t (t::ts) x)).bind fun l=>.leaf (.v (.sl t) l) else .fail
 | _=>.fail
theorem D3a {K:jE} {g:Nat} {d:Option Nat} {s:S2} {h:cq} {n z:Nat} {x:dQ} {w w':W} (hw:cQ (cS s) x=cW w) (e:(T5 n z w).den=some w') :
 cf K g d (cS s) h (.Bp n z x)=some (cW w',h):=by
 unfold T5 at e;split at e
 · rename_i t ts q;split at e
   · rename_i hc;simp only [ak,beq_iff_eq] at hc;simp only [Tree.den_bind,Tree.den_ofO,Tree.den_leaf] at e;obtain ⟨l,h1,rfl⟩:=e;obtain ⟨h2,h3⟩:=C3Q h1;simp only [cf,hw,cW,enc];rw [h2,if_pos ⟨by rw [aD,← h3,hc.2],JZ t z hc.1 l⟩]
   · simp at e
 · simp at e
theorem C7A {K:jE} {g:Nat} {d:Option Nat} {s:S2} {h:cq} {x:dQ} {lo hi:Option dQ} {w w':W} {wl wh:Option W}
 (hw:cQ (cS s) x=cW w) (hl:lo.map (cQ (cS s))=wl.map cW) (hh:hi.map (cQ (cS s))=wh.map cW) (e:(TY w wl wh).den=some w') :
 cf K g d (cS s) h (.nz x lo hi)=some (cW w',h):=by
 unfold TY at e;split at e
 · rename_i b hb;simp only [Tree.den_bind,Tree.den_leaf] at e;obtain ⟨⟨i,j⟩,h1,rfl⟩:=e;simp only [cf,hw,hl,hh,GW hb];rw [Om h1];rfl
 · simp at e
theorem C7B {K:jE} {g:Nat} {d:Option Nat} {s:S2} {h:cq} {n z:Nat} {x y:dQ} {w i w':W} (hw:cQ (cS s) x=cW w) (hi:cQ (cS s) y=cW i) (e:(T0 n z w i).den=some w') :
 cf K g d (cS s) h (.nA n z x y)=some (cW w',h):=by
 unfold T0 at e;split at e
 · rename_i l;split at e
   · rename_i k hk;split at e
     · rename_i m hm;split at e
       · rename_i hz;simp only [beq_iff_eq] at hz;subst hz;simp only [Tree.den_bind,Tree.dE,Tree.lU,Tree.den_leaf] at e;obtain ⟨j,h1,_,h2,v,h3,rfl⟩:=e;have hl:=C6e hm;subst hl;simp only [cf,hw,hi,Fm h1 (iF.mp h2),cW];have hj:j<m.length:=(aL.1 h3).1;rw [aN,h3];simp only [ar,← bP,C3P,List.length_take];rw [if_pos (by omega)]
         rfl
       · simp at e
     · simp at e
   · simp at e
 · rename_i ts q;simp only [Tree.den_bind,Tree.den_leaf] at e;obtain ⟨v,h1,rfl⟩:=e;obtain ⟨k,h2,h3,h4⟩:=C6d h1;simp only [cf,hw,hi,h2,cW,enc];rw [h3];simp only;rw [if_pos h4]
 · simp only [Tree.den_bind,Tree.dE,Tree.den_leaf] at e;obtain ⟨k,h1,_,h2,rfl⟩:=e;simp only [cf,hw,hi,Fm h1 (iF.mp h2),cW];rw [Jz,Td];simp only [jf,vR,C85,C86,Nat.add_zero]
 · simp at e
theorem D3b {K:jE} {g:Nat} {d:Option Nat} {s:S2} {h:cq} {agg:Bool} {n z:Nat} {x y:dQ} {w i w':W} (hw:cQ (cS s) x=cW w) (hi:cQ (cS s) y=cW i) (e:(T1 agg z n w i).den=some w') :
 cf K g d (cS s) h (.idx agg z n x y)=some (cW w',h):=by
 unfold T1 at e;split at e
 · rename_i ts q hp;simp only [Tree.den_bind] at e;obtain ⟨v,h1,e⟩:=e;split at e
   · rename_i hc;simp only [ak,beq_iff_eq] at hc;simp only [Tree.den_leaf] at e;subst e;obtain ⟨k,h2,h3,h4⟩:=C6d h1;simp only [cf,hw,hi,GU hp,enc,h2];rw [h3];simp only;rw [if_pos ⟨h4,(zJ _ _).trans hc.1,(NQ _ _).trans hc.2⟩];rfl
   · simp at e
 · simp at e
theorem D1f {K:jE} {g:Nat} {d:Option Nat} {s:S2} {h:cq} {x y:dQ} {w i w':W} (hw:cQ (cS s) x=cW w) (hi:cQ (cS s) y=cW i) (e:(T4 w i).den=some w') :
 cf K g d (cS s) h (.sR x y)=some (cW w',h):=by
 unfold T4 at e;split at e
 · rename_i b hb;simp only [Tree.den_bind,Tree.lU,Tree.den_leaf] at e;obtain ⟨k,h1,c,h2,rfl⟩:=e;have hk:k<b.size:=by
    obtain ⟨hk,_⟩:=Array.getElem?_eq_some_iff.1 h2;exact hk
   simp only [cf,hw,hi,GW hb,Fm h1 hk,h2];rfl
 · simp at e
end Go.Mid
