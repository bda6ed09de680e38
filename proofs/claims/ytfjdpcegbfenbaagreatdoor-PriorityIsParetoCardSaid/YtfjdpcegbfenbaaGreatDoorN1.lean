/- Typed values: codes of types, their values in Lean, and their pure values; decision trees. -/
import Derived.Test.YtfjdpcegbfenbaaGreatDoorM7
set_option linter.unusedSimpArgs false
set_option linter.unusedVariables false
open BitVec renaming ofInt → cl
open Bool renaming and_eq_true → ak, or_eq_true → cI
open List renaming map → fv, cons_append → aS, map_cons → aH, length → cF, take_of_length_le → aZ, nil_append → a7, map_map → cu, length_cons → bf, mem_map → bj, getElem?_cons_succ → bK, set_cons_zero → dY, set_cons_succ → eG, take_succ_cons → bV, getElem?_map → aN, map_take → bO, getElem?_eq_some_iff → aL, map_set → gD, map_append → b8, map_nil → cr, map_drop → fp, length_map → aE
open Nat renaming sub_self → gE, le_refl → au, blt → cZ, blt_eq → iD, zero_le → dq, sub_zero → gC, zero_add → bS, ble → cP, ble_eq → cC, beq → iZ, eq_of_beq_eq_true → eA
open Option renaming map → pD, map_some → ar, getD_none → cV
open Option.some renaming injEq → aa
open Prod.mk renaming injEq → ae
namespace Go.Mid
inductive Ty where
 | int (k:IntKind) | bool | str | sl (t:Ty) | agg (ts:List Ty) | ref (t:Ty) | fn (f:Nat) (ts:List Ty) | mp (k v:Ty) | eX | ff | vec (z:Nat) (t:Ty) | mR (t:Ty)
 deriving Inhabited
def D6x (A R:Type):List Ty→Type
 | []=>A
 | _::_=>A×R
mutual
def El:Ty→Type
 | .int _=>Int
 | .bool=>Bool
 | .str=>ByteArray
 | .sl t=>List (El t)
 | .agg ts=>gW ts
 | .ref t=>El t
 | .fn _ ts=>gW ts
 | .mp k v=>List (El k×El v)
 | .eX=>Unit
 | .ff=>Unit
 | .vec _ t=>List (El t)
 | .mR t=>Option (El t)
def gW:List Ty→Type
 | []=>Unit
 | t::r=>D6x (El t) (gW r) r
end
def od {t:Ty}:(r:List Ty)→gW (t::r)→El t
 | [],x=>x
 | _::_,x=>x.1
def pT {t:Ty}:(r:List Ty)→gW (t::r)→gW r
 | [],_=>()
 | _::_,x=>x.2
def sd {t:Ty}:(r:List Ty)→El t→gW r→gW (t::r)
 | [],a,_=>a
 | _::_,a,b=>(a,b)
@[simp] theorem ux {t:Ty} (r:List Ty) (a:El t) (b:gW r):od r (sd r a b)=a:=by cases r<;>rfl
@[simp] theorem uy {t:Ty} (r:List Ty) (a:El t) (b:gW r):pT r (sd r a b)=b:=by cases r<;>rfl
def S7:Option PV→PV
 | none=>.eX
 | some v=>.ref v
mutual
def enc:(t:Ty)→El t→PV
 | .mR t,x=>S7 (pD (enc t) x)
 | .int k,x=>.int k x
 | .bool,x=>.bool x
 | .str,x=>.str x
 | .sl t,x=>.sl (fv (enc t) x)
 | .agg ts,x=>.agg (kL ts x)
 | .ref t,x=>.ref (enc t x)
 | .fn f ts,x=>.fn f (kL ts x)
 | .mp k v,x=>.mp (fv (fun p=>enc k p.1) x) (fv (fun p=>enc v p.2) x)
 | .eX,_=>.eX
 | .ff,_=>.ff
 | .vec _ t,x=>.sl (fv (enc t) x)
def kL:(ts:List Ty)→gW ts→List PV
 | [],_=>[]
 | t::r,x=>enc t (od r x)::kL r (pT r x)
end
mutual
def Di:(t:Ty)→El t
 | .int _=>(0:Int)
 | .bool=>false
 | .str=>(⟨#[]⟩:ByteArray)
 | .sl _=>[]
 | .agg ts=>NS ts
 | .ref t=>Di t
 | .fn _ ts=>NS ts
 | .mp _ _=>[]
 | .eX=>()
 | .ff=>()
 | .vec _ _=>[]
 | .mR _=>none
def NS:(ts:List Ty)→gW ts
 | []=>()
 | t::r=>sd r (Di t) (NS r)
end
mutual
def Ty.cs:Ty→Nat
 | .agg l=>Ty.dm l
 | _=>1
def Ty.dm:List Ty→Nat
 | []=>0
 | x::xs=>x.cs+Ty.dm xs
end
def Ty.isAgg:Ty→Bool | .agg _=>true | _=>false
mutual
def Ty.pure:Ty→Bool
 | .vec ..=>false
 | .agg l=>Ty.uz l
 | _=>true
def Ty.uz:List Ty→Bool
 | []=>true
 | x::xs=>x.pure&&Ty.uz xs
end
mutual
theorem zI:∀ (t:Ty) (x:El t),(enc t x).cs=t.cs
 | .mR t,x=>by
   have h:∀ y:Option (El t),(S7 (y.map (enc t))).cs=1:=fun y=>by cases y<;>rfl
   exact h x
 | .agg ts,x=>by simp only [enc,PV.cs,Ty.cs];exact C59 ts x
 | .int _,_ | .bool,_ | .str,_ | .sl _,_ | .ref _,_ | .fn _ _,_ | .mp _ _,_ | .eX,_ | .ff,_ | .vec _ _,_=>rfl
theorem C59:∀ (ts:List Ty) (x:gW ts),PV.dm (kL ts x)=Ty.dm ts
 | [],_=>rfl
 | t::r,x=>by simp only [kL,PV.dm,Ty.dm];rw [zI t,C59 r]
end
@[simp] theorem NT:∀ (t:Ty) (x:El t),(enc t x).isAgg=t.isAgg
  | .mR t,x=>by
    have h:∀ y:Option (El t),(S7 (y.map (enc t))).isAgg=false:=fun y=>by cases y<;>rfl
    exact h x
  | .agg ts,x=>rfl
  | .int _,_ | .bool,_ | .str,_ | .sl _,_ | .ref _,_ | .fn _ _,_ | .mp _ _,_ | .eX,_ | .ff,_ | .vec _ _,_=>rfl
mutual
def Ty.eq:Ty→Ty→Bool
 | .int k,.int l=>k==l
 | .bool,.bool=>true
 | .str,.str=>true
 | .sl t,.sl u=>Ty.eq t u
 | .agg l,.agg m=>Ty.eqs l m
 | .ref t,.ref u=>Ty.eq t u
 | .fn f l,.fn g m=>f==g&&Ty.eqs l m
 | .mp k v,.mp l w=>Ty.eq k l&&Ty.eq v w
 | .eX,.eX=>true
 | .ff,.ff=>true
 | .vec z t,.vec y u=>z==y&&Ty.eq t u
 | .mR t,.mR u=>Ty.eq t u
 | _,_=>false
def Ty.eqs:List Ty→List Ty→Bool
 | [],[]=>true
 | t::r,u::q=>Ty.eq t u&&Ty.eqs r q
 | _,_=>false
end
mutual
theorem Ty.o5:∀ t u,Ty.eq t u=true→t=u
 | .int k,u,h=>by cases u<;>simp [Ty.eq] at h;rw [h]
 | .bool,u,h=>by cases u<;>simp [Ty.eq] at h;rfl
 | .str,u,h=>by cases u<;>simp [Ty.eq] at h;rfl
 | .eX,u,h=>by cases u<;>simp [Ty.eq] at h;rfl
 | .ff,u,h=>by cases u<;>simp [Ty.eq] at h;rfl
 | .sl t,u,h=>by cases u<;>simp [Ty.eq] at h;rw [Ty.o5 t _ h]
 | .ref t,u,h=>by cases u<;>simp [Ty.eq] at h;rw [Ty.o5 t _ h]
 | .mR t,u,h=>by cases u<;>simp [Ty.eq] at h;rw [Ty.o5 t _ h]
 | .agg l,u,h=>by cases u<;>simp [Ty.eq] at h;rw [Ty.vN l _ h]
 | .fn f l,u,h=>by cases u<;>simp [Ty.eq] at h;rw [h.1,Ty.vN l _ h.2]
 | .mp k v,u,h=>by cases u<;>simp [Ty.eq] at h;rw [Ty.o5 k _ h.1,Ty.o5 v _ h.2]
 | .vec z t,u,h=>by cases u<;>simp [Ty.eq] at h;rw [h.1,Ty.o5 t _ h.2]
theorem Ty.vN:∀ t u,Ty.eqs t u=true→t=u
 | [],u,h=>by cases u<;>simp [Ty.eqs] at h;rfl
 | t::r,u,h=>by cases u<;>simp [Ty.eqs] at h;rw [Ty.o5 t _ h.1,Ty.vN r _ h.2]
end
def rQ {t:Ty}(u:Ty)(x:El t):Option (El u):=if h:Ty.eq t u=true then some (cast (congrArg El (Ty.o5 t u h)) x) else none
theorem vO {t u:Ty}{x:El t}{y:El u}(h:rQ u x=some y):t=u∧HEq x y∧enc t x=enc u y:=by
 unfold rQ at h;split at h
 · rename_i e;have e:=Ty.o5 t u e;subst e;simp only [cast_eq,aa] at h;subst h;exact ⟨rfl,HEq.rfl,rfl⟩
 · cases h
def S8 (k:IntKind):PV→Option Int | .int l n=>if k==l then some n else none | _=>none
def S9:PV→Option Bool | .bool b=>some b | _=>none
def Ta:PV→Option ByteArray | .str b=>some b | _=>none
mutual
def dec:(t:Ty)→PV→Option (El t)
 | .int k,v=>S8 k v
 | .bool,v=>S9 v
 | .str,v=>Ta v
 | .sl t,v=>match v with | .sl []=>some ([]:List (El t)) | _=>none
 | .agg ts,v=>match v with | .agg l=>Ca ts l | _=>none
 | .eX,v=>match v with | .eX=>some () | _=>none
 | .ff,v=>match v with | .ff=>some () | _=>none
 | .fn f ts,v=>match v with | .fn g l=>if f==g then Ca ts l else none | _=>none
 | .mp k w,v=>match v with | .mp [] []=>some ([]:List (El k×El w)) | _=>none
 | .ref _,_=>none
 | .vec _ _,_=>none
 | .mR t,v=>match v with | .eX=>some (none:Option (El t)) | _=>none
def Ca:(ts:List Ty)→List PV→Option (gW ts)
 | [],l=>match l with | []=>some () | _::_=>none
 | t::r,l=>match l with
   | []=>none
   | v::q=>match dec t v,Ca r q with | some a,some b=>some (sd r a b) | _,_=>none
end
theorem D25 (k:IntKind)(v:PV):dec (.int k) v=S8 k v:=by rfl
theorem D1c (v:PV):dec .bool v=S9 v:=by rfl
theorem D26 (v:PV):dec .str v=Ta v:=by rfl
mutual
theorem E7:∀ (t:Ty) (v:PV) (x:El t),dec t v=some x→enc t x=v
 | .int k,v,x,h=>by
   rw [D25] at h;cases v<;>simp only [S8,reduceCtorEq] at h;split at h
   · rename_i e;cases h;simp only [beq_iff_eq] at e;subst e;rfl
   · cases h
 | .bool,v,x,h=>by rw [D1c] at h;cases v<;>simp only [S9,reduceCtorEq] at h;cases h;rfl
 | .str,v,x,h=>by rw [D26] at h;cases v<;>simp only [Ta,reduceCtorEq] at h;cases h;rfl
 | .eX,v,x,h=>by cases v<;>first | rfl | cases h
 | .ff,v,x,h=>by cases v<;>first | rfl | cases h
 | .ref t,v,x,h=>by cases h
 | .mR t,v,x,h=>by cases v<;>first | (cases h;rfl) | cases h
 | .vec z t,v,x,h=>by cases h
 | .sl t,v,x,h=>by
   cases v<;>first | cases h | skip
   rename_i l;cases l<;>cases h;rfl
 | .mp k w,v,x,h=>by
   cases v<;>first | cases h | skip
   rename_i l m;cases l<;>cases m<;>cases h;rfl
 | .agg ts,v,x,h=>by
   cases v<;>first | cases h | skip
   rename_i l;have h:Ca ts l=some x:=h;show PV.agg (kL ts x)=_;rw [Tb ts _ x h]
 | .fn f ts,v,x,h=>by
   cases v<;>first | cases h | skip
   rename_i g l;by_cases e:(f==g)=true
   · have h1:dec (.fn f ts) (.fn g l)=Ca ts l:=if_pos e;have h2:Ca ts l=some x:=h1.symm.trans h;simp only [beq_iff_eq] at e;subst e;show PV.fn f (kL ts x)=_;rw [Tb ts _ x h2]
   · have h1:dec (.fn f ts) (.fn g l)=none:=if_neg e;rw [h1] at h;cases h
theorem Tb:∀ (ts:List Ty) (l:List PV) (x:gW ts),Ca ts l=some x→kL ts x=l
 | [],l,x,h=>by
   cases l with
   | nil=>rfl
   | cons v q=>cases h
 | t::r,l,x,h=>by
   cases l with
   | nil=>cases h
   | cons v q =>
     have h:(match dec t v,Ca r q with | some a,some b=>some (sd r a b) | _,_=>none)=some x:=h
     cases h1:dec t v with
     | none=>rw [h1] at h;cases h
     | some a =>
       cases h2:Ca r q with
       | none=>rw [h1,h2] at h;cases h
       | some b =>
         rw [h1,h2] at h;cases h;show enc t (od r (sd r a b))::kL r (pT r (sd r a b))=_;rw [ux,uy,E7 t v a h1,Tb r q b h2]
end
def Tc:PV→Option Ty
 | .int k _=>some (.int k)
 | .bool _=>some .bool
 | .str _=>some .str
 | .agg l=>match E8 l with | some ts=>some (.agg ts) | none=>none
 | .fn f l=>match E8 l with | some ts=>some (.fn f ts) | none=>none
 | .eX=>some .eX
 | .ff=>some .ff
 | _=>none
where E8:List PV→Option (List Ty)
 | []=>some []
 | x::r=>match Tc x,E8 r with | some t,some ts=>some (t::ts) | _,_=>none
inductive Tree (α:Type):Type 1 where
 | fail
 | leaf (a:α)
 | ite (c:Bool) (x y:Tree α)
 | opt {A:Type} (d:A) (o:Option A) (k:A→Tree α)
 | sum {A B:Type} (d:A) (e:B) (o:A ⊕ B) (k:A→Tree α) (l:B→Tree α)
namespace Tree
def den {α:Type}:Tree α→Option α
 | fail=>none
 | leaf a=>some a
 | ite c x y=>bif c then x.den else y.den
 | opt _ o k=>o.bind fun a=>(k a).den
 | sum _ _ o k l=>Sum.elim (fun a=>(k a).den) (fun b=>(l b).den) o
def bind {α β:Type}:Tree α→(α→Tree β)→Tree β
 | fail,_=>fail
 | leaf a,f=>f a
 | ite c x y,f=>ite c (x.bind f) (y.bind f)
 | opt d o k,f=>opt d o (fun a=>(k a).bind f)
 | sum d e o k l,f=>sum d e o (fun a=>(k a).bind f) (fun b=>(l b).bind f)
theorem den_bind {α β:Type}(t:Tree α)(f:α→Tree β)(r:β):(t.bind f).den=some r↔∃ a,t.den=some a∧(f a).den=some r:=by
 induction t with
 | fail=>simp [bind,den]
 | leaf a=>simp [bind,den]
 | ite c x y hx hy=>cases c<;>simp [bind,den,hx,hy]
 | opt d o k ih=>cases o<;>simp [bind,den,ih]
 | sum d e o k l ih1 QT=>cases o<;>simp [bind,den,ih1,QT]
def leaves {α:Type}:Tree α→List α
 | fail=>[]
 | leaf a=>[a]
 | ite _ x y=>x.leaves++y.leaves
 | opt d _ k=>(k d).leaves
 | sum d e _ k l=>(k d).leaves++(l e).leaves
def Jx (b:Bool):Tree Unit:=match b with | true=>leaf () | false=>fail
def ask (b:Bool):Tree Unit:=ite b (leaf ()) fail
def lM {α:Type}:Option α→Tree α
 | none=>fail
 | some a=>leaf a
@[simp] theorem den_leaf {α:Type} (a r:α):(leaf a).den=some r↔a=r:=by simp [den]
@[simp] theorem ma {α:Type} (r:α):(fail:Tree α).den=some r↔False:=by simp [den]
@[simp] theorem wO (b:Bool) (r:Unit):(Jx b).den=some r↔b=true:=by cases b<;>simp [Jx,den]
@[simp] theorem dE (b:Bool) (r:Unit):(ask b).den=some r↔b=true:=by cases b<;>simp [ask,den]
@[simp] theorem den_ofO {α:Type} (o:Option α) (r:α):(lM o).den=some r↔o=some r:=by cases o<;>simp [lM,den]
theorem oI {α:Type}(c:Bool)(x y:Tree α)(r:α):(ite c x y).den=some r↔(c=true∧x.den=some r)∨(c=false∧y.den=some r):=by cases c<;>simp [den]
theorem lT {α A:Type}(d:A)(o:Option A)(k:A→Tree α)(r:α):(opt d o k).den=some r↔∃ a,o=some a∧(k a).den=some r:=by cases o<;>simp [den]
end Tree
end Go.Mid
namespace Go.Mid
inductive Step where
 | f (i o:Nat) | k (i z:Nat)
def Step.ix:Step→Nat | .f i _=>i | .k i _=>i
def Step.of:Step→Nat | .f _ o=>o | .k i z=>i*z
def jc:List Step→List Nat
 | []=>[]
 | x::r=>x.ix::jc r
def vP:List Step→Nat
 | []=>0
 | x::r=>x.of+vP r
theorem Jy:∀ p q:List Step,jc (p++q)=jc p++jc q
 | [],q=>rfl
 | x::r,q=>by simp only [aS,jc,Jy r q]
theorem Td:∀ p q:List Step,vP (p++q)=vP p+vP q
 | [],q=>by simp [vP]
 | x::r,q=>by simp only [aS,vP,Td r q];omega
inductive W where
 | c (v:PV)
 | v (t:Ty) (x:El t)
 | nil (z:Nat)
 | own (id:Nat) (path:List Step) (off:Option Nat) (len g:Nat)
 | ptr (id:Nat) (np:Option (List Step)) (rp:List Step) (g:Nat)
 | fC (id:Nat) (path:List Step) (g:Nat)
 | agg (l:List W)
 | fn (f:Nat) (jf:List W)
 | eO (l:List W)
 | dead (n:Nat)
instance:Inhabited W:=⟨.dead 0⟩
def xA:Option (List Step)→Option (List Nat)
 | none=>none
 | some p=>some (jc p)
mutual
def cW:W→MV
 | .c v=>.p v
 | .v t x=>.p (enc t x)
 | .nil z=>.nil z
 | .own id path off len g=>.own id (jc path) (off.getD 0) len g
 | .ptr id np rp g=>.ptr id (xA np) (jc rp) g (vP rp)
 | .fC id path g=>.fC id (jc path) g
 | .agg l=>.agg (mW l)
 | .fn f l=>.fn f (mW l)
 | .eO l=>.eO (mW l)
 | .dead n=>.dead n
def mW:List W→List MV
 | []=>[]
 | x::r=>cW x::mW r
end
theorem s6:∀ l:List W,mW l=l.map cW
 | []=>rfl
 | x::r=>by simp only [mW,aH,s6 r]
mutual
def ju (s:Nat):(t:Ty)→El t→T Nat
 | .vec z t,x=>.vec s z (fv (ju s t) x) (cF x)
 | .agg ts,x=>ke (mA s ts x)
 | .int k,x=>.p (enc (.int k) x)
 | .bool,x=>.p (enc .bool x)
 | .str,x=>.p (enc .str x)
 | .sl t,x=>.p (enc (.sl t) x)
 | .ref t,x=>.p (enc (.ref t) x)
 | .mR t,x=>.p (enc (.mR t) x)
 | .fn f ts,x=>.p (enc (.fn f ts) x)
 | .mp k v,x=>.p (enc (.mp k v) x)
 | .eX,x=>.p (enc .eX x)
 | .ff,x=>.p (enc .ff x)
def mA (s:Nat):(ts:List Ty)→gW ts→List (T Nat)
 | [],_=>[]
 | t::r,x=>ju s t (od r x)::mA s r (pT r x)
end
theorem Te {α:Type}:∀ {l:List (T α)} {vs:List PV},mu l=some vs→l=vs.map T.p
 | [],vs,h=>by simp only [mu,aa] at h;subst h;rfl
 | .p v::r,vs,h=>by
   simp only [mu] at h;cases h1:mu r with
   | none=>rw [h1] at h;cases h
   | some l=>rw [h1] at h;cases h;rw [Te h1];rfl
 | .m _::_,vs,h | .agg _::_,vs,h | .vec ..::_,vs,h | .mp ..::_,vs,h | .hole _::_,vs,h=>by simp [mu] at h
theorem Tf {α:Type}:∀ vs:List PV,mu (vs.map (T.p (α:=α)))=some vs
 | []=>rfl
 | v::r=>by simp only [aH,mu,Tf r]
theorem yj {α:Type}(l:List (T α)):(∃ vs,l=vs.map T.p∧ke l=.p (.agg vs))∨ke l=.agg l:=by
 unfold ke;cases h:mu l with
 | none=>exact .inr rfl
 | some vs=>exact .inl ⟨vs,Te h,rfl⟩
theorem Tg {α:Type}:∀ vs:List PV,T.dm (vs.map (T.p (α:=α)))=PV.dm vs
 | []=>rfl
 | v::r=>by simp only [aH,T.dm,T.cs,PV.dm,Tg r]
theorem B81 {α:Type}(l:List (T α)):(ke l).cs=T.dm l:=by
 rcases yj l with ⟨vs,rfl,h⟩ | h
 · rw [h,Tg];rfl
 · rw [h];rfl
mutual
theorem Jz (s:Nat):∀ (t:Ty) (x:El t),(ju s t x).cs=t.cs
 | .mR t,x=>zI (.mR t) x
 | .agg ts,x=>by simp only [ju,B81,Ty.cs];exact C3y s ts x
 | .int _,_ | .bool,_ | .str,_ | .sl _,_ | .ref _,_ | .fn _ _,_ | .mp _ _,_ | .eX,_ | .ff,_ | .vec _ _,_=>rfl
theorem C3y (s:Nat):∀ (ts:List Ty) (x:gW ts),T.dm (mA s ts x)=Ty.dm ts
 | [],_=>rfl
 | t::r,x=>by simp only [mA,T.dm,Ty.dm];rw [Jz s t,C3y s r]
end
mutual
theorem rR (s:Nat):∀ (t:Ty) (x:El t),t.pure=true→ju s t x=.p (enc t x)
 | .agg ts,x,h=>by
   simp only [ju,enc];rw [B82 s ts x h];simp only [ke,Tf]
 | .int _,_,_ | .bool,_,_ | .str,_,_ | .sl _,_,_ | .ref _,_,_ | .fn _ _,_,_ | .mp _ _,_,_ | .eX,_,_ | .ff,_,_ | .mR _,_,_=>rfl
 | .vec _ _,_,h=>by simp [Ty.pure] at h
theorem B82 (s:Nat):∀ (ts:List Ty) (x:gW ts),Ty.uz ts=true→mA s ts x=(kL ts x).map T.p
 | [],_,_=>rfl
 | t::r,x,h=>by
   simp only [Ty.uz,ak] at h;simp only [mA,kL,aH];rw [rR s t _ h.1,B82 s r _ h.2]
end
theorem B83:∀ vs:List PV,lv (vs.map T.p)=some vs
 | []=>rfl
 | v::r=>by simp only [aH,lv,sO,B83 r]
theorem C3z (l:List (T Nat)):sO (ke l)=match lv l with | some vs=>some (.agg vs) | none=>none:=by
 rcases yj l with ⟨vs,rfl,h⟩ | h
 · rw [h,B83];rfl
 · rw [h];rfl
mutual
theorem NU (s:Nat):∀ (t:Ty) (x:El t),sO (ju s t x)=some (enc t x)
 | .agg ts,x=>by simp only [ju,C3z,B7j s ts x];rfl
 | .vec z t,x=>by
   have h:∀ l:List (El t),lv (l.map (ju s t))=some (l.map (enc t)):=by
    intro l
    induction l with
    | nil=>rfl
    | cons a r ih=>simp only [aH,lv,NU s t a,ih]
   have key:∀ l:List (El t),(match lv (l.map (ju s t)) with | some vs=>some (PV.sl (vs.take l.length)) | none=>none)=some (PV.sl (l.map (enc t))):=by
    intro l;rw [h];simp only;rw [aZ (by simp)]
   exact key x
 | .int _,_ | .bool,_ | .str,_ | .sl _,_ | .ref _,_ | .fn _ _,_ | .mp _ _,_ | .eX,_ | .ff,_ | .mR _,_=>rfl
theorem B7j (s:Nat):∀ (ts:List Ty) (x:gW ts),lv (mA s ts x)=some (kL ts x)
 | [],_=>rfl
 | t::r,x=>by simp only [mA,kL,lv];rw [NU s t,B7j s r]
end
theorem zJ (φ:MV→MV)(ζ:Nat→Nat):∀ l:List (T Nat),jO φ ζ l=l.map (jg φ ζ)
 | []=>rfl
 | x::r=>by simp only [jO,aH,zJ φ ζ r]
theorem D27 (φ:MV→MV)(ζ:Nat→Nat)(l:List (T Nat))(h:∀ t∈l,∀ v,t≠.m v):jg φ ζ (ke l)=ke (l.map (jg φ ζ)):=by
 have hp:∀ l:List (T Nat),(∀ t∈l,∀ v,t≠T.m v)→mu (l.map (jg φ ζ))=mu l:=by
  intro l h
  induction l with
  | nil=>rfl
  | cons a r ih =>
    have ih:=ih (fun t ht=>h t (by simp [ht]))
    cases a with
    | p v=>simp only [aH,jg,mu,ih]
    | m v=>exact absurd rfl (h _ (by simp) v)
    | _=>rfl
 unfold ke;rw [hp l h];cases mu l with
 | none=>simp only [jg,zJ]
 | some vs=>rfl
mutual
theorem D28 (s:Nat):∀ (t:Ty) (x:El t) (v:MV),ju s t x≠.m v
 | .agg ts,x,v=>by
   simp only [ju];rcases yj (mA s ts x) with ⟨vs,_,h⟩ | h<;>rw [h]<;>simp
 | .int _,_,_ | .bool,_,_ | .str,_,_ | .sl _,_,_ | .ref _,_,_ | .fn _ _,_,_ | .mp _ _,_,_ | .eX,_,_ | .ff,_,_ | .vec _ _,_,_ | .mR _,_,_=>by simp [ju]
end
theorem C3A (s:Nat):∀ (ts:List Ty) (x:gW ts),∀ u∈mA s ts x,∀ v,u≠.m v
 | [],_,u,h=>by simp [mA] at h
 | t::r,x,u,h=>by
   simp only [mA,List.mem_cons] at h;rcases h with rfl | h
   · exact D28 s t _
   · exact C3A s r _ u h
mutual
theorem NV (φ:MV→MV)(ζ:Nat→Nat)(s:Nat):∀ (t:Ty) (x:El t),jg φ ζ (ju s t x)=ju (ζ s) t x
 | .agg ts,x=>by
   simp only [ju];rw [D27 _ _ _ (C3A s ts x),← zJ,B84 φ ζ s ts x]
 | .vec z t,x=>by
   have h:∀ l:List (El t),jO φ ζ (l.map (ju s t))=l.map (ju (ζ s) t):=by
    intro l
    induction l with
    | nil=>rfl
    | cons a r ih=>simp only [aH,jO,NV φ ζ s t a,ih]
   have key:∀ l:List (El t),T.vec (ζ s) z (jO φ ζ (l.map (ju s t))) l.length=T.vec (ζ s) z (l.map (ju (ζ s) t)) l.length:=by
    intro l;rw [h]
   exact key x
 | .int _,_ | .bool,_ | .str,_ | .sl _,_ | .ref _,_ | .fn _ _,_ | .mp _ _,_ | .eX,_ | .ff,_ | .mR _,_=>rfl
theorem B84 (φ:MV→MV)(ζ:Nat→Nat)(s:Nat):∀ (ts:List Ty) (x:gW ts),jO φ ζ (mA s ts x)=mA (ζ s) ts x
 | [],_=>rfl
 | t::r,x=>by simp only [mA,jO];rw [NV φ ζ s t,B84 φ ζ s r]
end
theorem Th:∀ vs:List PV,oV (vs.map (T.p (α:=Nat)))=[]
 | []=>rfl
 | v::r=>by simp only [aH,oV,tq,Th r,a7]
theorem C3B (l:List (T Nat)):tq (ke l)=oV l:=by
 rcases yj l with ⟨vs,rfl,h⟩ | h
 · rw [h,Th];rfl
 · rw [h];rfl
mutual
theorem NW (s:Nat):∀ (t:Ty) (x:El t),tq (ju s t x)=[]
 | .agg ts,x=>by simp only [ju,C3B];exact B7k s ts x
 | .vec z t,x=>by
   have h:∀ l:List (El t),oV (l.map (ju s t))=[]:=by
    intro l
    induction l with
    | nil=>rfl
    | cons a r ih=>simp only [aH,oV,NW s t a,ih,a7]
   show oV (fv (ju s t) x)=_;exact h x
 | .int _,_ | .bool,_ | .str,_ | .sl _,_ | .ref _,_ | .fn _ _,_ | .mp _ _,_ | .eX,_ | .ff,_ | .mR _,_=>rfl
theorem B7k (s:Nat):∀ (ts:List Ty) (x:gW ts),oV (mA s ts x)=[]
 | [],_=>rfl
 | t::r,x=>by simp only [mA,oV];rw [NW s t,B7k s r];rfl
end
theorem B7l (s:Nat)(t:Ty):∀ l:List (El t),oV (l.map (ju s t))=[]
 | []=>rfl
 | a::r=>by simp only [aH,oV,NW s t a,B7l s t r,a7]
theorem C7w (φ:MV→MV)(ζ:Nat→Nat)(s:Nat)(t:Ty)(l:List (El t)):jO φ ζ (l.map (ju s t))=l.map (ju (ζ s) t):=by
 rw [zJ,cu];congr 1;funext x;exact NV φ ζ s t x
theorem NX (s:Nat)(t:Ty):∀ l:List (El t),lv (l.map (ju s t))=some (l.map (enc t))
 | []=>rfl
 | a::r=>by simp only [aH,lv,NU s t a,NX s t r]
mutual
inductive T2 where
 | e (s:Nat) (t:Ty) (x:El t)
 | w (v:W)
 | agg (l:List T2)
 | vec (g z:Nat) (l:SL) (n:Nat)
 | hole (n:Nat)
inductive SL where
 | base (s:Nat) (t:Ty) (l:List (El t))
 | set (a:SL) (i:Nat) (u:T2)
 | app (a:SL) (u:T2)
end
instance:Inhabited T2:=⟨.hole 0⟩
inductive O2 where
 | cell (g:Nat) (t:T2)
 | vec (g z:Nat) (l:SL)
 | mp (g:Nat) (k v:Ty) (l:List (El k×El v))
 | gone
instance:Inhabited O2:=⟨.gone⟩
mutual
def cT:T2→T Nat
 | .e s t x=>ju s t x
 | .w v=>.m (cW v)
 | .agg l=>ke (ji l)
 | .vec g z l n=>.vec g z (eW l) n
 | .hole n=>.hole n
def ji:List T2→List (T Nat)
 | []=>[]
 | x::r=>cT x::ji r
def eW:SL→List (T Nat)
 | .base s t l=>l.map (ju s t)
 | .set a i u=>(eW a).set i (cT u)
 | .app a u=>eW a++[cT u]
end
def cO:O2→Obj Nat
 | .cell g t=>.cell g (cT t)
 | .vec g z l=>.vec g z (eW l)
 | .mp g k v l=>.mp g (l.map fun p=>enc k p.1) (l.map fun p=>.p (enc v p.2))
 | .gone=>.gone
theorem zK:∀ l:List T2,ji l=l.map cT
 | []=>rfl
 | x::r=>by simp only [ji,aH,zK r]
def SL.len:SL→Nat
 | .base _ _ l=>l.length
 | .set a _ _=>a.len
 | .app a _=>a.len+1
theorem SL.j2:∀ a:SL,(eW a).length=a.len
 | .base _ _ l=>by simp [eW,SL.len]
 | .set a i u=>by simp only [eW,List.length_set,SL.len];exact SL.j2 a
 | .app a u=>by simp only [eW,List.length_append,bf,List.length_nil,SL.len];rw [SL.j2 a]
abbrev S2:=List (Nat×W)
abbrev H2:=List (Nat×O2)
def uA:S2→Nat→W
 | [],_=>.dead 0
 | (j,v)::r,k=>if k==j then v else uA r k
def oT:H2→Nat→Option O2
 | [],_=>none
 | (j,v)::r,k=>if k==j then some v else oT r k
def eZ {α:Type}:List (Nat×α)→Nat→α→List (Nat×α)
 | [],k,v=>[(k,v)]
 | (j,u)::r,k,v=>if k==j then (k,v)::r else (j,u)::eZ r k v
def sG:S2→List (Nat×MV)
 | []=>[]
 | (j,v)::r=>(j,cW v)::sG r
def oJ:H2→List (Nat×Obj Nat)
 | []=>[]
 | (j,v)::r=>(j,cO v)::oJ r
abbrev cS (s:S2):gJ:=qT (sG s)
abbrev cH (h:H2):cq:=mw (oJ h)
theorem A6:∀ (s:S2) (k:Nat),cS s k=cW (uA s k)
 | [],k=>rfl
 | (j,v)::r,k=>by
   show qT ((j,cW v)::sG r) k=cW (if k==j then v else uA r k)
   rw [D05];by_cases h:k=j
   · simp [h]
   · rw [if_neg h,if_neg (by simpa using h)];exact A6 r k
theorem Cb:∀ (h:H2) (k:Nat),cH h k=(oT h k).map cO
 | [],k=>rfl
 | (j,v)::r,k=>by
   show mw ((j,cO v)::oJ r) k=pD cO (if k==j then some v else oT r k)
   rw [zH];by_cases h:k=j
   · simp [h]
   · rw [if_neg h,if_neg (by simpa using h)];exact Cb r k
theorem C6a:∀ (s:S2) (k:Nat) (v:W),sG (eZ s k v)=wN (sG s) k (cW v)
 | [],k,v=>rfl
 | (j,u)::r,k,v=>by
   simp only [eZ,sG,wN];by_cases h:k=j
   · simp [h,sG]
   · rw [if_neg h,if_neg (by simpa using h)];simp only [sG,C6a r k v]
theorem C6b:∀ (s:H2) (k:Nat) (v:O2),oJ (eZ s k v)=wN (oJ s) k (cO v)
 | [],k,v=>rfl
 | (j,u)::r,k,v=>by
   simp only [eZ,oJ,wN];by_cases h:k=j
   · simp [h,oJ]
   · rw [if_neg h,if_neg (by simpa using h)];simp only [oJ,C6b r k v]
theorem qg (h:H2)(k:Nat)(o:O2):cD (cH h) k (some (cO o))=cH (eZ h k o):=by
 rw [C58,← C6b]
theorem Dj (s:S2)(k:Nat)(v:W):cD (cS s) k (cW v)=cS (eZ s k v):=by
 rw [D22,← C6a]
mutual
def GQ:W→Nat
 | .c p=>p.cs
 | .v t _=>t.cs
 | .agg l=>JA l
 | .eO _=>0
 | .dead n=>n
 | .nil _ | .own .. | .ptr .. | .fC .. | .fn ..=>1
def JA:List W→Nat
 | []=>0
 | x::r=>GQ x+JA r
end
mutual
theorem NY:∀ w:W,(cW w).cs=GQ w
 | .c p=>rfl
 | .v t x=>zI t x
 | .agg l=>by simp only [cW,MV.cs,GQ];exact Ti l
 | .eO _=>rfl
 | .dead n=>rfl
 | .nil _ | .own .. | .ptr .. | .fC .. | .fn ..=>rfl
theorem Ti:∀ l:List W,MV.dm (mW l)=JA l
 | []=>rfl
 | x::r=>by simp only [mW,MV.dm,JA];rw [NY x,Ti r]
end
def D2t:W→Bool
 | .dead _ | .eO _=>false
 | _=>true
theorem D1d (w:W):rX (cW w)=D2t w:=by cases w<;>rfl
def NZ:W→Bool
 | .c p=>p.isAgg
 | .v t _=>t.isAgg
 | .agg _=>true
 | _=>false
theorem C6c (w:W):(cW w).isAgg=NZ w:=by
 cases w<;>simp only [cW,NZ]<;>first | rfl | exact NT _ _
mutual
def GR:W→List Nat
 | .own id .. | .ptr id .. | .fC id ..=>[id]
 | .agg l | .fn _ l | .eO l=>yk l
 | _=>[]
def yk:List W→List Nat
 | []=>[]
 | x::r=>GR x++yk r
end
mutual
theorem Tj:∀ w:W,kf (cW w)=GR w
 | .own .. | .ptr .. | .fC .. | .c _ | .v _ _ | .nil _ | .dead _=>rfl
 | .agg l | .fn _ l | .eO l=>by simp only [cW,kf,GR];exact GS l
theorem GS:∀ l:List W,mC (mW l)=yk l
 | []=>rfl
 | x::r=>by simp only [mW,mC,yk];rw [Tj x,GS r]
end
mutual
def xB:T2→Option (List Nat)
 | .e ..=>some []
 | .hole _=>some []
 | .w v=>some (GR v)
 | .agg l=>GU l
 | .vec _ _ l _=>if E9 l then some [] else none
def GU:List T2→Option (List Nat)
 | []=>some []
 | x::r=>match xB x,GU r with | some a,some b=>some (a++b) | _,_=>none
def E9:SL→Bool
 | .base ..=>true
 | .set a _ u=>E9 a&&(match xB u with | some []=>true | _=>false)
 | .app a u=>E9 a&&(match xB u with | some []=>true | _=>false)
end
def JB:O2→Option (List Nat)
 | .cell _ t=>xB t
 | .vec _ _ l=>if E9 l then some [] else none
 | .mp ..=>some []
 | .gone=>some []
theorem Tk {l:List (T Nat)}:oV l=[]↔∀ t∈l,tq t=[]:=by
 induction l with
 | nil=>simp [oV]
 | cons a r ih=>simp [oV,ih]
mutual
theorem N0:∀ (t:T2) (l:List Nat),xB t=some l→tq (cT t)=l
 | .e s t x,l,h=>by simp only [xB,aa] at h;subst h;exact NW s t x
 | .hole _,l,h=>by simp only [xB,aa] at h;subst h;rfl
 | .w v,l,h=>by simp only [xB,aa] at h;subst h;exact Tj v
 | .agg q,l,h=>by
   simp only [xB] at h;simp only [cT,C3B];exact C1K q l h
 | .vec g z q n,l,h=>by
   simp only [xB] at h;split at h
   · rename_i hf;cases h;exact N1 q hf
   · cases h
theorem C1K:∀ (q:List T2) (l:List Nat),GU q=some l→oV (ji q)=l
 | [],l,h=>by simp only [GU,aa] at h;subst h;rfl
 | x::r,l,h=>by
   simp only [GU] at h;cases h1:xB x with
   | none=>rw [h1] at h;cases h
   | some a =>
     cases h2:GU r with
     | none=>rw [h1,h2] at h;cases h
     | some b =>
       rw [h1,h2] at h;cases h;simp only [ji,oV];rw [N0 x a h1,C1K r b h2]
theorem N1:∀ q:SL,E9 q=true→oV (eW q)=[]
 | .base s t l,_=>B7l s t l
 | .set a i u,h=>by
   simp only [E9,ak] at h;obtain ⟨h1,h2⟩:=h;have h3:=N1 a h1;have h4:tq (cT u)=[]:=by
    cases hu:xB u with
    | none=>rw [hu] at h2;cases h2
    | some l =>
      cases l with
      | nil=>exact N0 u [] hu
      | cons _ _=>rw [hu] at h2;cases h2
   rw [Tk] at h3 ⊢;intro t ht;simp only [eW] at ht;rcases List.mem_or_eq_of_mem_set ht with ht | ht
   · exact h3 t ht
   · rw [ht,h4]
 | .app a u,h=>by
   simp only [E9,ak] at h;obtain ⟨h1,h2⟩:=h;have h3:=N1 a h1;have h4:tq (cT u)=[]:=by
    cases hu:xB u with
    | none=>rw [hu] at h2;cases h2
    | some l =>
      cases l with
      | nil=>exact N0 u [] hu
      | cons _ _=>rw [hu] at h2;cases h2
   rw [Tk] at h3 ⊢;intro t ht;simp only [eW,List.mem_append,List.mem_singleton] at ht;rcases ht with ht | ht
   · exact h3 t ht
   · rw [ht,h4]
end
theorem D1e (o:O2)(l:List Nat)(h:JB o=some l):yE (some (cO o))=l:=by
 cases o with
 | cell g t=>exact N0 t l h
 | vec g z q =>
   simp only [JB] at h;split at h
   · rename_i hf;cases h;exact N1 q hf
   · cases h
 | mp g k v m =>
   simp only [JB,aa] at h;subst h;show oV (m.map fun p=>T.p (enc v p.2))=[]
   rw [Tk];intro t ht;simp only [bj] at ht;obtain ⟨p,_,rfl⟩:=ht;rfl
 | gone=>simp only [JB,aa] at h;subst h;rfl
abbrev TV:=(t:Ty)×El t
def zL:W→Option TV
 | .v t x=>some ⟨t,x⟩
 | .c p=>match Tc p with
   | some t=>match dec t p with | some x=>some ⟨t,x⟩ | none=>none
   | none=>none
 | _=>none
theorem GV {w:W}{t:Ty}{x:El t}(h:zL w=some ⟨t,x⟩):cW w=.p (enc t x):=by
 cases w<;>simp only [zL,reduceCtorEq] at h
 case v=>cases h;rfl
 case c p =>
  cases h1:Tc p with
  | none=>rw [h1] at h;cases h
  | some u =>
    rw [h1] at h;simp only at h;cases h2:dec u p with
    | none=>rw [h2] at h;cases h
    | some y=>rw [h2] at h;cases h;rw [E7 _ _ _ h2];rfl
def Cc (t:Ty):W→Option (El t)
 | .v _ x=>rQ t x
 | .c p=>dec t p
 | _=>none
theorem GW {t:Ty}{w:W}{x:El t}(h:Cc t w=some x):cW w=.p (enc t x):=by
 cases w<;>simp only [Cc,reduceCtorEq] at h
 case v u y=>rw [← (vO h).2.2];rfl
 case c p=>rw [E7 _ _ _ h];rfl
def vQ:W→Option (IntKind×Int)
 | .v (.int k) x=>some (k,x)
 | .c (.int k n)=>some (k,n)
 | _=>none
theorem xC {w:W}{k:IntKind}{n:Int}(h:vQ w=some (k,n)):cW w=.p (.int k n):=by
 unfold vQ at h;split at h<;>cases h<;>rfl
def JC:W→Option Bool
 | .v .bool x=>some x
 | .c (.bool b)=>some b
 | _=>none
theorem Tl {w:W}{b:Bool}(h:JC w=some b):cW w=.p (.bool b):=by
 unfold JC at h;split at h<;>cases h<;>rfl
def Dk:W→Option ByteArray
 | .v .str x=>some x
 | .c (.str b)=>some b
 | _=>none
theorem GX {w:W}{b:ByteArray}(h:Dk w=some b):cW w=.p (.str b):=by
 unfold Dk at h;split at h<;>cases h<;>rfl
def JD (z:Nat)(n:Nat):W→Step
 | .c _=>.f n (n*z)
 | _=>.k n z
theorem C9e (z n:Nat)(w:W):(JD z n w).ix=n:=by cases w<;>rfl
theorem C9f (z n:Nat)(w:W):(JD z n w).of=n*z:=by cases w<;>rfl
end Go.Mid
namespace Go.Mid
def Dl:(ts:List Ty)→gW ts→Nat→Option TV
 | [],_,_=>none
 | t::r,x,i=>match i with
   | 0=>some ⟨t,od r x⟩
   | i+1=>Dl r (pT r x) i
theorem JE (s:Nat):∀ (ts:List Ty) (x:gW ts) (i:Nat) (t:Ty) (y:El t),Dl ts x i=some ⟨t,y⟩ →
 (kL ts x)[i]?=some (enc t y)∧(mA s ts x)[i]?=some (ju s t y)
 | [],_,_,_,_,h=>by cases h
 | u::r,x,0,t,y,h=>by
   simp only [Dl,aa] at h;cases h;exact ⟨rfl,rfl⟩
 | u::r,x,i+1,t,y,h=>by
   simp only [Dl] at h
   have:=JE s r (pT r x) i t y h
   simpa only [kL,mA,bK] using this
def GY:(ts:List Ty)→gW ts→Nat→(t:Ty)→El t→Option (gW ts)
 | [],_,_,_,_=>none
 | u::r,x,i,t,y=>match i with
   | 0=>match rQ u y with | some z=>some (sd r z (pT r x)) | none=>none
   | i+1=>match GY r (pT r x) i t y with | some q=>some (sd r (od r x) q) | none=>none
theorem C6d (s:Nat):∀ (ts:List Ty) (x:gW ts) (i:Nat) (t:Ty) (y:El t) (x':gW ts),GY ts x i t y=some x' →
 mA s ts x'=(mA s ts x).set i (ju s t y)
 | [],_,_,_,_,_,h=>by cases h
 | u::r,x,0,t,y,x',h=>by
   simp only [GY] at h;cases hc:rQ u y with
   | none=>rw [hc] at h;cases h
   | some z =>
     rw [hc] at h;simp only [aa] at h;subst h;obtain ⟨rfl,he,_⟩:=vO hc;cases he;simp only [mA,ux,uy,dY]
 | u::r,x,i+1,t,y,x',h=>by
   simp only [GY] at h;cases hc:GY r (pT r x) i t y with
   | none=>rw [hc] at h;cases h
   | some z =>
     rw [hc] at h;simp only [aa] at h;subst h;simp only [mA,ux,uy,eG];rw [C6d s r _ i t y z hc]
def GZ (t:Ty)(i:Nat):(ts:List Ty)→gW ts→Nat→Option (El t)
 | [],_,_=>none
 | [_],x,_=>rQ t (od [] x)
 | _::u2::r,x,j=>match rQ t (od (u2::r) x),GZ t i (u2::r) (pT (u2::r) x) (j+1) with
    | some a,some b=>some (bif i==j then a else b)
    | _,_=>none
theorem Tm (s:Nat)(t:Ty)(i:Nat):∀ (ts:List Ty) (x:gW ts) (j:Nat) (y:El t),GZ t i ts x j=some y→j≤i→i<j+ts.length →
 (kL ts x)[i-j]?=some (enc t y)∧(mA s ts x)[i-j]?=some (ju s t y)
 | [],_,_,_,h,_,_=>by cases h
 | [u],x,j,y,h,h1,h2=>by
   have h:rQ t (od [] x)=some y:=h;have e:i-j=0:=by simp at h2;omega
   rw [e];obtain ⟨rfl,he,_⟩:=vO h;cases he;exact ⟨rfl,rfl⟩
 | u::u2::r,x,j,y,h,h1,h2=>by
   simp only [GZ] at h;cases hc:rQ t (od (u2::r) x) with
   | none=>rw [hc] at h;cases h
   | some a =>
     cases hd:GZ t i (u2::r) (pT (u2::r) x) (j+1) with
     | none=>rw [hc,hd] at h;cases h
     | some b =>
       rw [hc,hd] at h;simp only [aa] at h;by_cases e:i=j
       · subst e;simp only [beq_self_eq_true,cond_true] at h;subst h;obtain ⟨rfl,he,_⟩:=vO hc;cases he;rw [gE];exact ⟨rfl,rfl⟩
       · have e2:(i==j)=false:=by simpa using e
         rw [e2] at h;simp only [cond_false] at h;subst h
         have:=Tm s t i (u2::r) (pT (u2::r) x) (j+1) b hd (by omega) (by simp only [bf] at h2 ⊢;omega)
         have e3:i-j=(i-(j+1))+1:=by omega
         rw [e3];simpa only [kL,mA,bK] using this
def JF (t:Ty)(y:El t)(i:Nat):(ts:List Ty)→gW ts→Nat→Option (gW ts)
 | [],_,_=>some ()
 | u::r,x,j=>match rQ u y,JF t y i r (pT r x) (j+1) with
   | some a,some b=>some (sd r (bif i==j then a else od r x) b)
   | _,_=>none
theorem C6e (s:Nat)(t:Ty)(y:El t)(i:Nat):∀ (ts:List Ty) (x:gW ts) (j:Nat) (x':gW ts),JF t y i ts x j=some x' →
 mA s ts x'=if j≤i then (mA s ts x).set (i-j) (ju s t y) else mA s ts x
 | [],_,_,_,h=>by simp [mA]
 | u::r,x,j,x',h=>by
   simp only [JF] at h;cases hc:rQ u y with
   | none=>rw [hc] at h;cases h
   | some a =>
     cases hd:JF t y i r (pT r x) (j+1) with
     | none=>rw [hc,hd] at h;cases h
     | some b =>
       rw [hc,hd] at h;simp only [aa] at h;subst h;obtain ⟨rfl,he,_⟩:=vO hc;cases he;have ih:=C6e s t y i r (pT r x) (j+1) b hd;simp only [mA,ux,uy];rw [ih];by_cases e:i=j
       · subst e;simp only [beq_self_eq_true,cond_true,au,if_true,gE,dY];rw [if_neg (by omega)]
       · have e2:(i==j)=false:=by simpa using e
         rw [e2];simp only [cond_false];by_cases h1:j≤i
         · rw [if_pos (by omega),if_pos h1]
           have e3:i-j=(i-(j+1))+1:=by omega
           rw [e3,eG]
         · rw [if_neg (by omega),if_neg h1]
def N2 (t:Ty):List Ty→Bool
 | []=>true
 | u::r=>Ty.eq t u&&N2 t r
theorem Tn {t:Ty}:∀ {ts:List Ty} {i:Nat},N2 t ts=true→i≤ts.length→Ty.dm (ts.take i)=i*t.cs
 | [],i,_,h=>by simp at h;subst h;simp [Ty.dm]
 | u::r,0,_,_=>by simp [Ty.dm]
 | u::r,i+1,h,h1=>by
   simp only [N2,ak] at h;have e:=Ty.o5 _ _ h.1;subst e;simp only [bV,Ty.dm];rw [Tn h.2 (by simpa using h1),Nat.succ_mul];omega
theorem To (s:Nat):∀ (ts:List Ty) (x:gW ts) (i:Nat),T.dm ((mA s ts x).take i)=Ty.dm (ts.take i)
 | [],_,i=>by simp [mA,T.dm,Ty.dm]
 | t::r,x,0=>by simp [T.dm,Ty.dm]
 | t::r,x,i+1=>by
   simp only [mA,bV,T.dm,Ty.dm];rw [Jz,To s r]
theorem JG:∀ (ts:List Ty) (x:gW ts) (i:Nat),PV.dm ((kL ts x).take i)=Ty.dm (ts.take i)
 | [],_,i=>by simp [kL,PV.dm,Ty.dm]
 | t::r,x,0=>by simp [PV.dm,Ty.dm]
 | t::r,x,i+1=>by
   simp only [kL,bV,PV.dm,Ty.dm];rw [zI,JG r]
theorem pn:∀ l m:List PV,PV.dm (l++m)=PV.dm l+PV.dm m
 | [],m=>by simp [PV.dm]
 | x::r,m=>by simp only [aS,PV.dm,pn r m];omega
theorem D1f (L:List (T Nat))(i:Nat)(r:List Nat)(o:Nat):lX (ke L) (i::r) o=match L[i]? with | some t=>lX t r (o+T.dm (L.take i)) | none=>none:=by
 rcases yj L with ⟨vs,rfl,h⟩ | h
 · rw [h];simp only [lX,aN];cases hv:vs[i]? with
   | none=>rfl
   | some v =>
     simp only [ar];rw [← bO,Tg]
 · rw [h];simp only [lX];cases L[i]? <;> rfl
theorem D29 (L:List (T Nat))(i:Nat)(r:List Nat):c6 (ke L) (i::r)=match L[i]? with | some t=>c6 t r | none=>none:=by
 rcases yj L with ⟨vs,rfl,h⟩ | h
 · rw [h];simp only [c6,aN];cases vs[i]? with
   | none=>rfl
   | some v=>rfl
 · rw [h];simp only [c6];cases L[i]? <;> rfl
theorem D3a (L:List (T Nat))(i:Nat)(r:List Nat)(u:T Nat):dg (ke L) (i::r) u=match L[i]? with
 | some t=>match dg t r u with | some w=>some (ke (L.set i w)) | none=>none
 | none=>none:=by
 rcases yj L with ⟨vs,rfl,h⟩ | h
 · rw [h];simp only [dg,aN];cases vs[i]? with
   | none=>rfl
   | some v=>simp only [ar];cases dg (T.p v) r u<;>rfl
 · rw [h];simp only [dg];cases L[i]? with
   | none=>rfl
   | some v=>simp only;cases dg v r u<;>rfl
def SL.get:SL→Nat→Tree T2
 | .base s t l,i=>.opt (Di t) l[i]? fun x=>.leaf (.e s t x)
 | .set a j u,i=>.ite (i==j) ((Tree.ask (cZ j a.len)).bind fun _=>.leaf u) (a.get i)
 | .app a u,i=>.ite (i==a.len) (.leaf u) (a.get i)
theorem SL.get_eq:∀ (a:SL) (i:Nat) (u:T2),(a.get i).den=some u→(eW a)[i]?=some (cT u)
 | .base s t l,i,u,h=>by
   simp only [SL.get,Tree.lT,Tree.den_leaf] at h;obtain ⟨x,h1,rfl⟩:=h;simp only [eW,aN,h1];rfl
 | .set a j v,i,u,h=>by
   simp only [SL.get,Tree.oI,Tree.den_bind,Tree.dE,Tree.den_leaf] at h;rcases h with ⟨h1,_,h2,rfl⟩ | ⟨h1,h2⟩
   · simp only [beq_iff_eq] at h1;subst h1;have h3:i<a.len:=iD.mp h2;simp only [eW];rw [List.getElem?_set_self (by rw [SL.j2];exact h3)]
   · have h1:¬ i=j:=by simpa using h1
     simp only [eW];rw [List.getElem?_set_ne (Ne.symm h1)];exact SL.get_eq a i u h2
 | .app a v,i,u,h=>by
   simp only [SL.get,Tree.oI,Tree.den_leaf] at h;rcases h with ⟨h1,rfl⟩ | ⟨h1,h2⟩
   · simp only [beq_iff_eq] at h1;subst h1;simp only [eW];rw [List.getElem?_append_right (by rw [SL.j2];exact au _),SL.j2,gE];rfl
   · have:=SL.get_eq a i u h2
     simp only [eW];rw [List.getElem?_append_left (aL.1 this).1];exact this
def G0 (s:Nat)(t:Ty):T2→Option (El t)
 | .e s' _ x=>if s'==s || t.pure then rQ t x else none
 | _=>none
theorem C6f {s:Nat}{t:Ty}{u:T2}{x:El t}(h:G0 s t u=some x):cT u=ju s t x:=by
 cases u<;>simp only [G0,reduceCtorEq] at h;rename_i s' t' y;split at h
 · rename_i hc;obtain ⟨rfl,he,_⟩:=vO h;cases he;simp only [cI,beq_iff_eq] at hc;rcases hc with rfl | hc
   · rfl
   · simp only [cT];rw [rR _ _ _ hc,rR _ _ _ hc]
 · cases h
def SL.put:SL→Nat→T2→SL
 | .base s t l,i,u=>match G0 s t u with | some x=>.base s t (l.set i x) | none=>.set (.base s t l) i u
 | a,i,u=>.set a i u
theorem SL.put_eq (a:SL)(i:Nat)(u:T2):eW (a.put i u)=(eW a).set i (cT u):=by
 cases a with
 | base s t l =>
   simp only [SL.put];cases h:G0 s t u with
   | none=>rfl
   | some x=>simp only [eW];rw [gD,C6f h]
 | set a j v=>rfl
 | app a v=>rfl
def SL.dg (i:Nat)(u:T2):SL→Tree SL
 | .set a j v=>.ite (i==j) (.leaf (a.put i u)) (.leaf (.set (.set a j v) i u))
 | a=>.leaf (a.put i u)
theorem SL.wP {i:Nat}{u:T2}{a b:SL}(h:(SL.dg i u a).den=some b):eW b=(eW a).set i (cT u):=by
 cases a with
 | set a j v =>
   simp only [SL.dg,Tree.oI,Tree.den_leaf] at h;rcases h with ⟨h1,rfl⟩ | ⟨_,rfl⟩
   · simp only [beq_iff_eq] at h1;subst h1;rw [SL.put_eq];simp only [eW,List.set_set]
   · rfl
 | base s t l=>simp only [SL.dg,Tree.den_leaf] at h;subst h;exact SL.put_eq _ _ _
 | app a v=>simp only [SL.dg,Tree.den_leaf] at h;subst h;exact SL.put_eq _ _ _
def SL.push:SL→T2→SL
 | .base s t l,u=>match G0 s t u with | some x=>.base s t (l++[x]) | none=>.app (.base s t l) u
 | a,u=>.app a u
theorem SL.Cd (a:SL)(u:T2):eW (a.push u)=eW a++[cT u]:=by
 cases a with
 | base s t l =>
   simp only [SL.push];cases h:G0 s t u with
   | none=>rfl
   | some x=>simp only [eW,b8,aH,cr];rw [C6f h]
 | set a j v=>rfl
 | app a v=>rfl
mutual
def zM:T2→Nat
 | .e _ t _=>t.cs
 | .w v=>GQ v
 | .agg l=>JH l
 | .vec ..=>1
 | .hole n=>n
def JH:List T2→Nat
 | []=>0
 | x::r=>zM x+JH r
end
mutual
theorem G1:∀ t:T2,(cT t).cs=zM t
 | .e s t x=>Jz s t x
 | .w v=>NY v
 | .agg l=>by simp only [cT,B81,zM];exact Tp l
 | .vec ..=>rfl
 | .hole n=>rfl
theorem Tp:∀ l:List T2,T.dm (ji l)=JH l
 | []=>rfl
 | x::r=>by simp only [ji,T.dm,JH];rw [G1 x,Tp r]
end
def N3:List Ty→Nat→Option Ty
 | [],_=>none
 | t::r,z=>if N2 t (t::r)&&t.cs==z then some t else none
def JI:T2→Step→Tree T2
 | .e s (.agg ts) x,st=>match st with
   | .f i o=>if Ty.dm (ts.take i)==o then (Tree.lM (Dl ts x i)).bind fun p=>.leaf (.e s p.1 p.2) else .fail
   | .k i z=>match N3 ts z with
     | some t=>(Tree.ask (cZ i ts.length)).bind fun _=>(Tree.lM (GZ t i ts x 0)).bind fun y=>.leaf (.e s t y)
     | none=>.fail
 | .agg l,.f i o=>if JH (l.take i)==o then Tree.lM l[i]? else .fail
 | _,_=>.fail
theorem Tq {t:T2}{st:Step}{u:T2}(h:(JI t st).den=some u):∃ L,cT t=ke L∧L[st.ix]?=some (cT u)∧T.dm (L.take st.ix)=st.of:=by
 unfold JI at h;split at h
 · rename_i s ts x;refine ⟨mA s ts x,rfl,?_⟩;split at h
   · rename_i i o;split at h
     · rename_i ho;simp only [Tree.den_bind,Tree.den_ofO,Tree.den_leaf] at h;obtain ⟨⟨t,y⟩,h1,rfl⟩:=h;exact ⟨(JE s ts x i t y h1).2,(To s ts x i).trans (beq_iff_eq.mp ho)⟩
     · simp at h
   · rename_i i z;split at h
     · rename_i t ht;simp only [Tree.den_bind,Tree.dE,Tree.den_ofO,Tree.den_leaf] at h;obtain ⟨_,h1,y,h2,rfl⟩:=h;have h1:i<ts.length:=iD.mp h1
       have:=(Tm s t i ts x 0 y h2 (dq _) (by omega)).2
       rw [gC] at this;refine ⟨this,(To s ts x i).trans ?_⟩;unfold N3 at ht;split at ht
       · cases ht
       · split at ht
         · rename_i hc;cases ht;simp only [ak,beq_iff_eq] at hc;rw [← hc.2];exact Tn hc.1 (by show i≤_;omega)
         · cases ht
     · simp at h
 · rename_i l i o;split at h
   · rename_i ho;rw [Tree.den_ofO] at h;refine ⟨ji l,rfl,?_,?_⟩
     · rw [zK,aN];show pD cT l[i]?=_;rw [h];rfl
     · show T.dm ((ji l).take i)=o;rw [zK,← bO,← zK,Tp];simpa using ho
   · simp at h
 · simp at h
def G2 (s:Nat):(ts:List Ty)→gW ts→List T2
 | [],_=>[]
 | t::r,x=>.e s t (od r x)::G2 s r (pT r x)
theorem N4 (s:Nat):∀ (ts:List Ty) (x:gW ts),ji (G2 s ts x)=mA s ts x
 | [],_=>rfl
 | t::r,x=>by simp only [G2,ji,mA,N4 s r];rfl
def Tr:T2→Step→T2→Tree T2
 | .e s (.agg ts) x,st,u=>match st with
   | .f i _=>match (match u with | .e s' t y=>if s'==s || t.pure then GY ts x i t y else none | _=>none) with
     | some x'=>.leaf (.e s (.agg ts) x')
     | none=>.leaf (.agg ((G2 s ts x).set i u))
   | .k i _=>match u with
     | .e s' t y=>if s'==s || t.pure then (Tree.lM (JF t y i ts x 0)).bind fun x'=>.leaf (.e s (.agg ts) x') else .fail
     | _=>.fail
 | .agg l,.f i _,u=>.leaf (.agg (l.set i u))
 | _,_,_=>.fail
theorem D3b {t:T2}{st:Step}{u t':T2}(h:(Tr t st u).den=some t'):∃ L,cT t=ke L∧cT t'=ke (L.set st.ix (cT u)):=by
 have hs:∀ (s s':Nat) (t:Ty) (y:El t),(s'==s || t.pure)=true→ju s t y=ju s' t y:=by
  intro s s' t y hc;simp only [cI,beq_iff_eq] at hc;rcases hc with rfl | hc
  · rfl
  · rw [rR _ _ _ hc,rR _ _ _ hc]
 unfold Tr at h;split at h
 · rename_i s ts x;refine ⟨mA s ts x,rfl,?_⟩;split at h
   · rename_i i o;split at h
     · rename_i x' hx;simp only [Tree.den_leaf] at h;subst h;split at hx
       · rename_i s' t y;split at hx
         · rename_i hc;simp only [cT,ju,Step.ix];rw [C6d s ts x i t y x' hx,hs s s' t y hc]
         · cases hx
       · cases hx
     · simp only [Tree.den_leaf] at h;subst h;simp only [cT,Step.ix];rw [zK,gD,← zK];exact congrArg (fun q=>ke (List.set q i (cT u))) (N4 s ts x)
   · rename_i i z;split at h
     · rename_i s' t y;split at h
       · rename_i hc;simp only [Tree.den_bind,Tree.den_ofO,Tree.den_leaf] at h;obtain ⟨x',h1,rfl⟩:=h
         have:=C6e s t y i ts x 0 x' h1
         simp only [dq,if_true,gC] at this;simp only [cT,ju,Step.ix];rw [this,hs s s' t y hc]
       · simp at h
     · simp at h
 · rename_i l i o;simp only [Tree.den_leaf] at h;subst h;refine ⟨ji l,rfl,?_⟩;simp only [cT,Step.ix];rw [zK,gD,← zK]
 · simp at h
def G3:List Step→T2→Tree T2
 | [],t=>.leaf t
 | s::r,t=>(JI t s).bind (G3 r)
theorem Tt:∀ {p:List Step} {t u:T2} {o:Nat},(G3 p t).den=some u→lX (cT t) (jc p) o=some (cT u,o+vP p)
 | [],t,u,o,h=>by
   simp only [G3,Tree.den_leaf] at h;subst h;cases hc:cT t<;>rfl
 | s::r,t,u,o,h=>by
   simp only [G3,Tree.den_bind] at h;obtain ⟨v,h1,h2⟩:=h;obtain ⟨L,e1,e2,e3⟩:=Tq h1;simp only [jc,vP];rw [e1,D1f,e2];simp only;rw [e3,Tt h2,Nat.add_assoc]
def G4:T2→Step→Tree T2
 | .vec _ _ l _,st=>l.get st.ix
 | .e s (.vec z t) l,st=>SL.get (.base s t l) st.ix
 | t,st=>JI t st
theorem D3c {t:T2}{st:Step}{u:T2}(h:(G4 t st).den=some u)(r:List Nat):c6 (cT t) (st.ix::r)=c6 (cT u) r:=by
 unfold G4 at h;split at h
 · rename_i g z l n
   have:=SL.get_eq _ _ _ h
   simp only [cT,c6,this]
 · rename_i s z t l
   have:=SL.get_eq _ _ _ h
   have e:cT (.e s (.vec z t) l)=.vec s z (eW (.base s t l)) (cF (α:=El t) l):=rfl;rw [e];simp only [c6,this]
 · obtain ⟨L,e1,e2,_⟩:=Tq h;rw [e1,D29,e2]
def Tu:T2→Step→T2→Tree T2
 | .vec g z l n,st,u=>(SL.dg st.ix u l).bind fun l'=>.leaf (.vec g z l' n)
 | .e s (.vec z t) l,st,u=>.leaf (.vec s z (SL.put (.base s t l) st.ix u) (cF (α:=El t) l))
 | t,st,u=>Tr t st u
theorem D3d {t:T2}{st:Step}{u v t':T2}{r:List Nat}{w:T Nat}(hk:(G4 t st).den=some u)(hp:dg (cT u) r w=some (cT v))(h:(Tu t st v).den=some t'):dg (cT t) (st.ix::r) w=some (cT t'):=by
 unfold Tu at h;split at h
 · rename_i g z l n
   have:=SL.get_eq _ _ _ hk
   simp only [Tree.den_bind,Tree.den_leaf] at h;obtain ⟨l',hl,rfl⟩:=h;simp only [cT,dg,this,hp,SL.wP hl]
 · rename_i s z t l
   have:=SL.get_eq _ _ _ hk
   simp only [Tree.den_leaf] at h;subst h;have e:cT (.e s (.vec z t) l)=.vec s z (eW (.base s t l)) (cF (α:=El t) l):=rfl;rw [e];simp only [dg,this,hp,cT,SL.put_eq]
 · rename_i uW hx2;have hk:(JI t st).den=some u:=by
    unfold G4 at hk;split at hk
    · exact absurd rfl (uW _ _ _ _)
    · exact absurd rfl (hx2 _ _ _ _)
    · exact hk
   obtain ⟨L,e1,e2,_⟩:=Tq hk;obtain ⟨L',e3,e4⟩:=D3b h;have hL:L=L':=by
    have e:ke L=ke L':=by rw [← e1,← e3]
    rcases yj L with ⟨vs,rfl,h1⟩ | h1<;>rcases yj L' with ⟨yc,rfl,h2⟩ | h2<;>rw [h1,h2] at e
    · simp only [T.p.injEq,PV.agg.injEq] at e;rw [e]
    · cases e
    · cases e
    · simpa using e
   subst hL;rw [e1,D3a,e2];simp only [hp];rw [e4]
def G5:List Step→T2→Tree T2
 | [],t=>.leaf t
 | s::r,t=>(G4 t s).bind (G5 r)
theorem Tv:∀ {p:List Step} {t u:T2},(G5 p t).den=some u→c6 (cT t) (jc p)=some (cT u)
 | [],t,u,h=>by
   simp only [G5,Tree.den_leaf] at h;subst h;cases hc:cT t<;>rfl
 | s::r,t,u,h=>by
   simp only [G5,Tree.den_bind] at h;obtain ⟨v,h1,h2⟩:=h;simp only [jc];rw [D3c h1,Tv h2]
def G6 (u:T2):List Step→T2→Tree T2
 | [],_=>.leaf u
 | s::r,t=>(G4 t s).bind fun c=>(G6 u r c).bind fun c'=>Tu t s c'
theorem Tw:∀ {p:List Step} {t u t':T2},(G6 u p t).den=some t'→dg (cT t) (jc p) (cT u)=some (cT t')
 | [],t,u,t',h=>by
   simp only [G6,Tree.den_leaf] at h;subst h;cases hc:cT t<;>rfl
 | s::r,t,u,t',h=>by
   simp only [G6,Tree.den_bind] at h;obtain ⟨c,h1,c',h2,h3⟩:=h;simp only [jc];exact D3d h1 (Tw h2) h3
def xD:O2→List Step→Tree T2
 | .cell _ t,p=>G5 p t
 | .vec _ _ l,s::r=>(l.get s.ix).bind (G5 r)
 | _,_=>.fail
theorem Dm {o:O2}{p:List Step}{u:T2}(h:(xD o p).den=some u):ew (some (cO o)) (jc p)=some (cT u):=by
 unfold xD at h;split at h
 · exact Tv h
 · simp only [Tree.den_bind] at h;obtain ⟨v,h1,h2⟩:=h;simp only [cO,jc,ew,SL.get_eq _ _ _ h1];exact Tv h2
 · simp at h
def zN (u:T2):O2→List Step→Tree O2
 | .cell g t,p=>(G6 u p t).bind fun t'=>.leaf (.cell g t')
 | .vec g z l,s::r=>(l.get s.ix).bind fun c=>(G6 u r c).bind fun c'=>(SL.dg s.ix c' l).bind fun l'=>.leaf (.vec g z l')
 | _,_=>.fail
theorem Ce {o o':O2}{p:List Step}{u:T2}(h:(zN u o p).den=some o'):put (some (cO o)) (jc p) (cT u)=some (cO o'):=by
 unfold zN at h;split at h
 · simp only [Tree.den_bind,Tree.den_leaf] at h;obtain ⟨t',h1,rfl⟩:=h;simp only [cO,put,Tw h1]
 · simp only [Tree.den_bind,Tree.den_leaf] at h;obtain ⟨c,h1,c',h2,l',h3,rfl⟩:=h;simp only [cO,jc,put,SL.get_eq _ _ _ h1,Tw h2,SL.wP h3]
 · simp at h
def N5:T2→Tree (Nat×Nat×SL)
 | .vec g z l _=>.leaf (g,z,l)
 | .e s (.vec z t) l=>.leaf (s,z,.base s t l)
 | _=>.fail
theorem C3G {t:T2}{g z:Nat}{l:SL}(h:(N5 t).den=some (g,z,l)):∃ n,cT t=.vec g z (eW l) n:=by
 unfold N5 at h;split at h
 · simp only [Tree.den_leaf,ae] at h;obtain ⟨rfl,rfl,rfl⟩:=h;exact ⟨_,rfl⟩
 · simp only [Tree.den_leaf,ae] at h;obtain ⟨rfl,rfl,rfl⟩:=h;exact ⟨_,rfl⟩
 · simp at h
def xE:O2→List Step→Tree (Nat×Nat×SL)
 | .vec g z l,[]=>.leaf (g,z,l)
 | o,p=>(xD o p).bind N5
theorem C7y {o:Obj Nat}{p:List Nat}{a z:Nat}{l:List (T Nat)}{n:Nat}(h:ew (some o) p=some (.vec a z l n)):jG (some o) p=some (a,z,l):=by
 unfold jG;split
 · rename_i h1;cases h1;simp [ew] at h
 · rw [h]
theorem yl {o:O2}{p:List Step}{g z:Nat}{l:SL}(h:(xE o p).den=some (g,z,l)):jG (some (cO o)) (jc p)=some (g,z,eW l):=by
 unfold xE at h;split at h
 · simp only [Tree.den_leaf,ae] at h;obtain ⟨rfl,rfl,rfl⟩:=h;rfl
 · simp only [Tree.den_bind] at h;obtain ⟨u,h1,h2⟩:=h;obtain ⟨n,h3⟩:=C3G h2
   have:=Dm h1
   rw [h3] at this;exact C7y this
def N6 (s:Step)(z:Nat):Bool:=match s with | .f i o=>i*z==o | .k _ y=>y==z
theorem C9g {s:Step}{z:Nat}(h:N6 s z=true):s.ix*z=s.of:=by
 cases s with
 | f i o=>simpa [Step.ix,Step.of,N6] using h
 | k i y=>simp only [N6,beq_iff_eq] at h;subst h;rfl
def Fa (o:O2)(np:Option (List Step))(rp:List Step):Tree (T2×Nat) :=
 match np with
 | none=>match o with
   | .cell a t=>(G3 rp t).bind fun u=>.leaf (u,a)
   | _=>.fail
 | some p=>match rp with
   | s::r=>(xE o p).bind fun x=>if N6 s x.2.1 then (x.2.2.get s.ix).bind fun t=>(G3 r t).bind fun u=>.leaf (u,x.1) else .fail
   | []=>.fail
theorem JJ {o:O2}{np:Option (List Step)}{rp:List Step}{u:T2}{g:Nat}(h:(Fa o np rp).den=some (u,g)):look (some (cO o)) (xA np) (jc rp)=some (cT u,g,vP rp):=by
 unfold Fa at h;split at h
 · split at h
   · simp only [Tree.den_bind,Tree.den_leaf,ae] at h;obtain ⟨v,h1,rfl,rfl⟩:=h;simp only [cO,xA,look];rw [Tt h1,bS]
   · simp at h
 · split at h
   · rename_i p s r;simp only [Tree.den_bind] at h;obtain ⟨⟨a,z,l⟩,h1,h⟩:=h;split at h
     · rename_i hc;simp only [Tree.den_bind,Tree.den_leaf,ae] at h;obtain ⟨t,h2,v,h3,rfl,rfl⟩:=h;have e:=C9g hc;simp only [xA,jc,look,yl h1,SL.get_eq _ _ _ h2];rw [Tt h3,e];rfl
     · simp at h
   · simp at h
end Go.Mid
namespace Go.Mid
def Fb:List W→Option ((ts:List Ty)×gW ts)
 | []=>some ⟨[],()⟩
 | w::r=>match zL w,Fb r with | some p,some q=>some ⟨p.1::q.1,sd q.1 p.2 q.2⟩ | _,_=>none
theorem Tx:∀ {l:List W} {ts:List Ty} {x:gW ts},Fb l=some ⟨ts,x⟩→l.map cW=(kL ts x).map .p
 | [],ts,x,h=>by simp only [Fb,aa] at h;cases h;rfl
 | w::r,ts,x,h=>by
   simp only [Fb] at h;cases h1:zL w with
   | none=>rw [h1] at h;cases h
   | some p =>
     cases h2:Fb r with
     | none=>rw [h1,h2] at h;cases h
     | some q =>
       rw [h1,h2] at h;obtain ⟨t,y⟩:=p;obtain ⟨us,z⟩:=q;simp only [aa] at h;cases h;simp only [aH,kL,ux,uy];rw [GV h1,Tx h2]
theorem JK:∀ l:List PV,pF (l.map .p)=some l
 | []=>rfl
 | x::r=>by simp only [aH,pF,JK r]
def Fc:W→Bool
 | .c _=>false
 | .v _ _=>false
 | _=>true
theorem N7:∀ {l:List W},l.any Fc=true→pF (l.map cW)=none
 | w::r,h=>by
   simp only [List.any_cons,cI] at h;simp only [aH];rcases h with h | h
   · cases w<;>simp only [Fc,Bool.false_eq_true] at h<;>rfl
   · have:=N7 h
     cases hw:cW w<;>simp only [pF,this]
def G7 (l:List W):Tree W:=match Fb l with
 | some q=>.leaf (.v (.agg q.1) q.2)
 | none=>if l.any Fc then .leaf (.agg l) else .fail
theorem N8 {l:List W}{w:W}(h:(G7 l).den=some w):uO (l.map cW)=cW w:=by
 unfold G7 at h;split at h
 · rename_i q hq;obtain ⟨ts,x⟩:=q;simp only [Tree.den_leaf] at h;subst h;unfold uO;rw [Tx hq,JK];rfl
 · split at h
   · rename_i hn;simp only [Tree.den_leaf] at h;subst h;unfold uO;rw [N7 hn,cW,s6]
   · simp at h
mutual
def vR (s id:Nat)(p:List Step):(t:Ty)→El t→Tree W
 | .vec _ t,x=>.leaf (.own id p none (cF (α:=El t) x) s)
 | .agg ts,x=>if Ty.uz ts then .leaf (.v (.agg ts) x) else (JL s id p 0 0 ts x).bind G7
 | t,x=>.leaf (.v t x)
def JL (s id:Nat)(p:List Step)(i o:Nat):(ts:List Ty)→gW ts→Tree (List W)
 | [],_=>.leaf []
 | t::r,x=>(vR s id (p++[.f i o]) t (od r x)).bind fun w=>(JL s id p (i+1) (o+t.cs) r (pT r x)).bind fun l=>.leaf (w::l)
end
mutual
def Fe (id:Nat)(p:List Step):T2→Tree W
 | .e s t x=>vR s id p t x
 | .w v=>.leaf v
 | .agg l=>(JM id p 0 0 l).bind G7
 | .vec g _ _ n=>.leaf (.own id p none n g)
 | .hole n=>.leaf (.dead n)
def JM (id:Nat)(p:List Step)(i o:Nat):List T2→Tree (List W)
 | []=>.leaf []
 | t::r=>(Fe id (p++[.f i o]) t).bind fun w=>(JM id p (i+1) (o+zM t) r).bind fun l=>.leaf (w::l)
end
theorem C3H (id:Nat):∀ (vs:List PV) (p:List Nat) (i:Nat),w9 id p i (vs.map T.p)=vs.map .p
 | [],_,_=>rfl
 | v::r,p,i=>by simp only [aH,w9,vk,C3H id r]
theorem C6g (id:Nat)(p:List Nat)(L:List (T Nat)):vk id p (ke L)=uO (w9 id p 0 L):=by
 rcases yj L with ⟨vs,rfl,h⟩ | h
 · rw [h,C3H];unfold uO;rw [JK];rfl
 · rw [h];rfl
theorem C3I (p:List Step)(i o:Nat):jc (p++[.f i o])=jc p++[i]:=by rw [Jy];rfl
mutual
theorem C6h (s id:Nat):∀ (t:Ty) (p:List Step) (x:El t) (w:W),(vR s id p t x).den=some w→vk id (jc p) (ju s t x)=cW w
 | .vec z t,p,x,w,h=>by
   simp only [vR,Tree.den_leaf] at h;subst h;rfl
 | .agg ts,p,x,w,h=>by
   simp only [vR] at h;split at h
   · rename_i hp;simp only [Tree.den_leaf] at h;subst h;rw [rR s (.agg ts) x (by simpa only [Ty.pure] using hp)]
     rfl
   · simp only [Tree.den_bind] at h;obtain ⟨l,h1,h2⟩:=h;simp only [ju];rw [C6g]
     have:=C3J s id ts p 0 0 x l h1
     rw [this];exact N8 h2
 | .int k,p,x,w,h=>by simp only [vR,Tree.den_leaf] at h;subst h;rfl
 | .bool,p,x,w,h=>by simp only [vR,Tree.den_leaf] at h;subst h;rfl
 | .str,p,x,w,h=>by simp only [vR,Tree.den_leaf] at h;subst h;rfl
 | .sl t,p,x,w,h=>by simp only [vR,Tree.den_leaf] at h;subst h;rfl
 | .ref t,p,x,w,h=>by simp only [vR,Tree.den_leaf] at h;subst h;rfl
 | .mR t,p,x,w,h=>by simp only [vR,Tree.den_leaf] at h;subst h;rfl
 | .fn f ts,p,x,w,h=>by simp only [vR,Tree.den_leaf] at h;subst h;rfl
 | .mp k v,p,x,w,h=>by simp only [vR,Tree.den_leaf] at h;subst h;rfl
 | .eX,p,x,w,h=>by simp only [vR,Tree.den_leaf] at h;subst h;rfl
 | .ff,p,x,w,h=>by simp only [vR,Tree.den_leaf] at h;subst h;rfl
theorem C3J (s id:Nat):∀ (ts:List Ty) (p:List Step) (i o:Nat) (x:gW ts) (l:List W),(JL s id p i o ts x).den=some l→w9 id (jc p) i (mA s ts x)=l.map cW
 | [],p,i,o,x,l,h=>by simp only [JL,Tree.den_leaf] at h;subst h;rfl
 | t::r,p,i,o,x,l,h=>by
   simp only [JL,Tree.den_bind,Tree.den_leaf] at h;obtain ⟨w,h1,l',h2,rfl⟩:=h;simp only [mA,w9,aH]
   have:=C6h s id t _ _ w h1
   rw [C3I] at this;rw [this,C3J s id r p (i+1) _ _ l' h2]
end
mutual
theorem C6i (id:Nat):∀ (t:T2) (p:List Step) (w:W),(Fe id p t).den=some w→vk id (jc p) (cT t)=cW w
 | .e s t x,p,w,h=>C6h s id t p x w h
 | .w v,p,w,h=>by simp only [Fe,Tree.den_leaf] at h;subst h;rfl
 | .agg l,p,w,h=>by
   simp only [Fe,Tree.den_bind] at h;obtain ⟨ws,h1,h2⟩:=h;simp only [cT];rw [C6g,C3K id l p 0 0 ws h1];exact N8 h2
 | .vec g z l n,p,w,h=>by simp only [Fe,Tree.den_leaf] at h;subst h;rfl
 | .hole n,p,w,h=>by simp only [Fe,Tree.den_leaf] at h;subst h;rfl
theorem C3K (id:Nat):∀ (l:List T2) (p:List Step) (i o:Nat) (ws:List W),(JM id p i o l).den=some ws→w9 id (jc p) i (ji l)=ws.map cW
 | [],p,i,o,ws,h=>by simp only [JM,Tree.den_leaf] at h;subst h;rfl
 | t::r,p,i,o,ws,h=>by
   simp only [JM,Tree.den_bind,Tree.den_leaf] at h;obtain ⟨w,h1,l',h2,rfl⟩:=h;simp only [ji,w9,aH]
   have:=C6i id t _ w h1
   rw [C3I] at this;rw [this,C3K id r p (i+1) _ l' h2]
end
mutual
def ym:Ty→Ty
 | .vec _ t=>.sl (ym t)
 | .agg ts=>.agg (G8 ts)
 | .int k=>.int k
 | .bool=>.bool
 | .str=>.str
 | .sl t=>.sl t
 | .ref t=>.ref t
 | .mR t=>.mR t
 | .fn f ts=>.fn f ts
 | .mp k v=>.mp k v
 | .eX=>.eX
 | .ff=>.ff
def G8:List Ty→List Ty
 | []=>[]
 | t::r=>ym t::G8 r
end
mutual
def s8:(t:Ty)→El t→El (ym t)
 | .vec _ t,x=>fv (s8 t) x
 | .agg ts,x=>N9 ts x
 | .int _,x=>x
 | .bool,x=>x
 | .str,x=>x
 | .sl _,x=>x
 | .ref _,x=>x
 | .mR _,x=>x
 | .fn _ _,x=>x
 | .mp _ _,x=>x
 | .eX,x=>x
 | .ff,x=>x
def N9:(ts:List Ty)→gW ts→gW (G8 ts)
 | [],_=>()
 | t::r,x=>sd (G8 r) (s8 t (od r x)) (N9 r (pT r x))
end
mutual
theorem JN:∀ (t:Ty) (x:El t),enc (ym t) (s8 t x)=enc t x
 | .vec z t,x=>by
   have h:∀ l:List (El t),(l.map (s8 t)).map (enc (ym t))=l.map (enc t):=by
    intro l
    induction l with
    | nil=>rfl
    | cons a r ih=>simp only [aH,JN t a,ih]
   exact congrArg PV.sl (h x)
 | .agg ts,x=>congrArg PV.agg (C3L ts x)
 | .int _,_ | .bool,_ | .str,_ | .sl _,_ | .ref _,_ | .fn _ _,_ | .mp _ _,_ | .eX,_ | .ff,_ | .mR _,_=>rfl
theorem C3L:∀ (ts:List Ty) (x:gW ts),kL (G8 ts) (N9 ts x)=kL ts x
 | [],_=>rfl
 | t::r,x=>by
   simp only [G8,N9,kL,ux,uy];rw [JN t,C3L r]
end
def Ff (t:Ty)(l:List (El t)):TV:=if t.pure then ⟨.sl t,l⟩ else ⟨.sl (ym t),fv (s8 t) l⟩
theorem Tz (t:Ty)(l:List (El t)):enc (Ff t l).1 (Ff t l).2=.sl (l.map (enc t)):=by
 by_cases hp:t.pure=true
 · rw [show Ff t l=⟨.sl t,l⟩ from if_pos hp];rfl
 · rw [show Ff t l=⟨.sl (ym t),fv (s8 t) l⟩ from if_neg hp];show PV.sl ((l.map (s8 t)).map (enc (ym t)))=_;rw [cu];congr 2;funext x;exact JN t x
def toQ:(t:Ty)→El t→TV
 | .vec _ u,l=>Ff u l
 | t,x=>⟨ym t,s8 t x⟩
theorem D4r (t:Ty)(x:El t):enc (toQ t x).1 (toQ t x).2=enc t x:=by
 cases t with
 | vec z u=>exact Tz _ _
 | _=>exact JN _ _
def JO (t:Ty)(x:El t):TV:=if t.pure then ⟨t,x⟩ else toQ t x
theorem D4s (t:Ty)(x:El t):enc (JO t x).1 (JO t x).2=enc t x:=by
 by_cases hp:t.pure=true
 · rw [show JO t x=⟨t,x⟩ from if_pos hp]
 · rw [show JO t x=toQ t x from if_neg hp];exact D4r t x
def JP (t:Ty)(l:List (El t)):(t:Ty)×List (El t):=if t.pure then ⟨t,l⟩ else ⟨ym t,fv (s8 t) l⟩
theorem D1i (t:Ty)(l:List (El t)):(JP t l).2.map (enc (JP t l).1)=l.map (enc t):=by
 by_cases hp:t.pure=true
 · rw [show JP t l=⟨t,l⟩ from if_pos hp]
 · rw [show JP t l=⟨ym t,fv (s8 t) l⟩ from if_neg hp];show (l.map (s8 t)).map (enc (ym t))=_;rw [cu];congr 1;funext x;exact JN t x
def Oa (n:Nat)(o:Tree ((t:Ty)×List (El t))):SL→Tree TV
 | .base _ t l=>.leaf (Ff t (l.take n))
 | _=>o.bind fun q=>.leaf ⟨.sl q.1,q.2.take n⟩
mutual
def tP:T2→Tree TV
 | .e _ t x=>.leaf (JO t x)
 | .agg l=>(JQ l).bind fun q=>.leaf ⟨.agg q.1,q.2⟩
 | .vec _ _ a n=>Oa n (Cf a) a
 | .w _=>.fail
 | .hole _=>.fail
def JQ:List T2→Tree ((ts:List Ty)×gW ts)
 | []=>.leaf ⟨[],()⟩
 | t::r=>(tP t).bind fun p=>(JQ r).bind fun q=>.leaf ⟨p.1::q.1,sd q.1 p.2 q.2⟩
def Cf:SL→Tree ((t:Ty)×List (El t))
 | .base _ t l=>.leaf (JP t l)
 | .set a i u=>(Cf a).bind fun q=>(tP u).bind fun v=>(Tree.lM (rQ q.1 v.2)).bind fun x=>.leaf ⟨q.1,q.2.set i x⟩
 | .app a u=>(Cf a).bind fun q=>(tP u).bind fun v=>(Tree.lM (rQ q.1 v.2)).bind fun x=>.leaf ⟨q.1,q.2++[x]⟩
end
theorem B9c:∀ {l:List (T Nat)} {vs:List PV} {i:Nat} {t:T Nat} {v:PV},lv l=some vs→sO t=some v→lv (l.set i t)=some (vs.set i v)
 | [],vs,i,t,v,h,_=>by simp only [lv,aa] at h;subst h;rfl
 | a::r,vs,i,t,v,h,hv=>by
   simp only [lv] at h;cases h1:sO a with
   | none=>rw [h1] at h;cases h
   | some x =>
     cases h2:lv r with
     | none=>rw [h1,h2] at h;cases h
     | some q =>
       rw [h1,h2] at h;simp only [aa] at h;subst h;cases i with
       | zero=>simp only [dY,lv,hv,h2]
       | succ i=>simp only [eG,lv,h1,B9c h2 hv]
theorem B7m:∀ {l:List (T Nat)} {vs:List PV} {t:T Nat} {v:PV},lv l=some vs→sO t=some v→lv (l++[t])=some (vs++[v])
 | [],vs,t,v,h,hv=>by simp only [lv,aa] at h;subst h;simp only [a7,lv,hv]
 | a::r,vs,t,v,h,hv=>by
   simp only [lv] at h;cases h1:sO a with
   | none=>rw [h1] at h;cases h
   | some x =>
     cases h2:lv r with
     | none=>rw [h1,h2] at h;cases h
     | some q =>
       rw [h1,h2] at h;simp only [aa] at h;subst h;simp only [aS,lv,h1,B7m h2 hv]
theorem D3e {n:Nat}{o:Tree ((t:Ty)×List (El t))}{a:SL}(ho:∀ q,o.den=some q→lv (eW a)=some (q.2.map (enc q.1))){v:TV}(h:(Oa n o a).den=some v):∃ vs,lv (eW a)=some vs∧enc v.1 v.2=.sl (vs.take n):=by
 cases a with
 | base s t l =>
   simp only [Oa,Tree.den_leaf] at h;subst h;refine ⟨l.map (enc t),by simp only [eW,NX],?_⟩
   rw [Tz,bO]
 | _ =>
   simp only [Oa,Tree.den_bind,Tree.den_leaf] at h;obtain ⟨q,h1,rfl⟩:=h;refine ⟨_,ho q h1,?_⟩;show PV.sl ((q.2.take n).map (enc q.1))=_;rw [bO]
mutual
theorem Ob:∀ (t:T2) (v:TV),(tP t).den=some v→sO (cT t)=some (enc v.1 v.2)
 | .e s t x,v,h=>by
   simp only [tP,Tree.den_leaf] at h;subst h;rw [D4s];exact NU s t x
 | .agg l,v,h=>by
   simp only [tP,Tree.den_bind,Tree.den_leaf] at h;obtain ⟨q,h1,rfl⟩:=h;simp only [cT,C3z];rw [C9h l q h1];rfl
 | .vec g z a n,v,h=>by
   simp only [tP] at h;obtain ⟨vs,h1,h2⟩:=D3e (fun q hq=>JR a q hq) h
   simp only [cT,sO,h1,h2]
 | .w _,v,h=>by simp [tP,Tree.den] at h
 | .hole _,v,h=>by simp [tP,Tree.den] at h
theorem C9h:∀ (l:List T2) (q:(ts:List Ty)×gW ts),(JQ l).den=some q→lv (ji l)=some (kL q.1 q.2)
 | [],q,h=>by simp only [JQ,Tree.den_leaf] at h;subst h;rfl
 | t::r,q,h=>by
   simp only [JQ,Tree.den_bind,Tree.den_leaf] at h;obtain ⟨p,h1,q',h2,rfl⟩:=h;simp only [ji,lv,kL,ux,uy];rw [Ob t p h1,C9h r q' h2]
theorem JR:∀ (a:SL) (q:(t:Ty)×List (El t)),(Cf a).den=some q→lv (eW a)=some (q.2.map (enc q.1))
 | .base s t l,q,h=>by
   simp only [Cf,Tree.den_leaf] at h;subst h;rw [D1i];simp only [eW,NX]
 | .set a i u,q,h=>by
   simp only [Cf,Tree.den_bind,Tree.den_ofO,Tree.den_leaf] at h;obtain ⟨q',h1,v,h2,x,h3,rfl⟩:=h;obtain ⟨e1,e2,e3⟩:=vO h3;simp only [eW,gD];exact B9c (JR a q' h1) (by rw [Ob u v h2,e3])
 | .app a u,q,h=>by
   simp only [Cf,Tree.den_bind,Tree.den_ofO,Tree.den_leaf] at h;obtain ⟨q',h1,v,h2,x,h3,rfl⟩:=h;obtain ⟨e1,e2,e3⟩:=vO h3;simp only [eW,b8,aH,cr];exact B7m (JR a q' h1) (by rw [Ob u v h2,e3])
end
def Oc (off:Option Nat)(len:Nat):SL→Tree TV
 | .base _ t l=>.leaf (Ff t ((match off with | none=>l | some o=>l.drop o).take len))
 | a=>(Cf a).bind fun q=>.leaf ⟨.sl q.1,(match off with | none=>q.2 | some o=>q.2.drop o).take len⟩
theorem D4t {off:Option Nat}{len:Nat}{a:SL}{v:TV}(h:(Oc off len a).den=some v):∃ vs,lv (eW a)=some vs∧enc v.1 v.2=.sl ((vs.drop (off.getD 0)).take len):=by
 cases a with
 | base s t l =>
   simp only [Oc,Tree.den_leaf] at h;subst h;refine ⟨l.map (enc t),by simp only [eW,NX],?_⟩
   rw [Tz];cases off with
   | none=>simp [bO]
   | some o=>simp [bO,fp]
 | _ =>
   simp only [Oc,Tree.den_bind,Tree.den_leaf] at h;obtain ⟨q,h1,rfl⟩:=h;refine ⟨_,JR _ q h1,?_⟩;cases off with
   | none=>exact congrArg PV.sl (by simp [bO])
   | some o=>exact congrArg PV.sl (by simp [bO,fp])
def Od:Option Ty→Nat→Option Ty
 | some (.agg ts),i=>ts[i]?
 | some (.fn _ ts),i=>ts[i]?
 | _,_=>none
def A7:Option Ty→Option Ty
 | some (.sl t)=>some t
 | some (.vec _ t)=>some t
 | _=>none
mutual
def sH (h:H2):Option Ty→W→Tree TV
 | _,.v t x=>.leaf ⟨t,x⟩
 | u,.c p=>match zL (.c p) with
   | some x=>.leaf x
   | none=>match u with
     | some u=>match dec u p with | some x=>.leaf ⟨u,x⟩ | none=>.fail
     | none=>.fail
 | u,.nil _=>match A7 u with | some t=>.leaf ⟨.sl t,([]:List (El t))⟩ | none=>.fail
 | _,.own id path off len g=>(Tree.lM (oT h id)).bind fun o=>(xE o path).bind fun x=>if x.1==g then (Tree.ask (cP (match off with | none=>len | some o=>o+len) x.2.2.len)).bind fun _=>Oc off len x.2.2 else .fail
 | _,.ptr id np rp g=>(Tree.lM (oT h id)).bind fun o=>(Fa o np rp).bind fun x=>if x.2==g then (tP x.1).bind fun v=>.leaf ⟨.ref v.1,v.2⟩ else .fail
 | u,.agg l=>(Cg h u 0 l).bind fun q=>.leaf ⟨.agg q.1,q.2⟩
 | u,.fn f l=>(Cg h u 0 l).bind fun q=>.leaf ⟨.fn f q.1,q.2⟩
 | _,.fC ..=>.fail
 | _,.eO _=>.fail
 | _,.dead _=>.fail
def Cg (h:H2)(u:Option Ty)(i:Nat):List W→Tree ((ts:List Ty)×gW ts)
 | []=>.leaf ⟨[],()⟩
 | w::r=>(sH h (Od u i) w).bind fun p=>(Cg h u (i+1) r).bind fun q=>.leaf ⟨p.1::q.1,sd q.1 p.2 q.2⟩
end
theorem qY {h:H2}{id:Nat}{o:O2}(e:oT h id=some o):cH h id=some (cO o):=by rw [Cb,e];rfl
mutual
theorem A8 (h:H2):∀ (w:W) (u:Option Ty) (v:TV),(sH h u w).den=some v→mB (cH h) (cW w)=some (enc v.1 v.2)
 | .v t x,u,v,e=>by simp only [sH,Tree.den_leaf] at e;subst e;rfl
 | .c p,u,v,e=>by
   simp only [sH] at e;split at e
   · rename_i x hx;simp only [Tree.den_leaf] at e;subst e
     have:=GV hx
     rw [this];rfl
   · split at e
     · split at e
       · rename_i hd;simp only [Tree.den_leaf] at e;subst e;show some p=_;rw [E7 _ _ _ hd]
       · simp at e
     · simp at e
 | .nil z,u,v,e=>by
   simp only [sH] at e;split at e
   · simp only [Tree.den_leaf] at e;subst e;rfl
   · simp at e
 | .own id path off len g,u,v,e=>by
   simp only [sH,Tree.den_bind,Tree.den_ofO] at e;obtain ⟨o,h1,⟨g',z,a⟩,h2,e⟩:=e;split at e
   · rename_i hg;simp only [beq_iff_eq] at hg;simp only [Tree.den_bind,Tree.dE] at e;obtain ⟨_,h3,h4⟩:=e;obtain ⟨vs,h5,h6⟩:=D4t h4;have h3:off.getD 0+len≤a.len:=by
      cases off with
      | none=>simpa using cC.mp h3
      | some o=>exact cC.mp h3
     simp only [cW,mB];rw [qY h1,yl h2];simp only [hg,true_and,SL.j2,h3,if_true,h5,h6]
   · simp at e
 | .ptr id np rp g,u,v,e=>by
   simp only [sH,Tree.den_bind,Tree.den_ofO] at e;obtain ⟨o,h1,⟨t,g'⟩,h2,e⟩:=e;split at e
   · rename_i hg;simp only [beq_iff_eq] at hg;simp only [Tree.den_bind,Tree.den_leaf] at e;obtain ⟨x,h3,rfl⟩:=e;simp only [cW,mB];rw [qY h1,JJ h2];simp only [hg,true_and,if_true,Ob _ _ h3];rfl
   · simp at e
 | .agg l,u,v,e=>by
   simp only [sH,Tree.den_bind,Tree.den_leaf] at e;obtain ⟨q,h1,rfl⟩:=e;simp only [cW,mB];rw [G9 h l u 0 q h1];rfl
 | .fn f l,u,v,e=>by
   simp only [sH,Tree.den_bind,Tree.den_leaf] at e;obtain ⟨q,h1,rfl⟩:=e;simp only [cW,mB];rw [G9 h l u 0 q h1];rfl
 | .fC ..,u,v,e=>by simp [sH,Tree.den] at e
 | .eO _,u,v,e=>by simp [sH,Tree.den] at e
 | .dead _,u,v,e=>by simp [sH,Tree.den] at e
theorem G9 (h:H2):∀ (l:List W) (u:Option Ty) (i:Nat) (q:(ts:List Ty)×gW ts),(Cg h u i l).den=some q→rH (cH h) (mW l)=some (kL q.1 q.2)
 | [],u,i,q,e=>by simp only [Cg,Tree.den_leaf] at e;subst e;rfl
 | w::r,u,i,q,e=>by
   simp only [Cg,Tree.den_bind,Tree.den_leaf] at e;obtain ⟨p,h1,q',h2,rfl⟩:=e;simp only [mW,rH,kL,ux,uy];rw [A8 h w _ p h1,G9 h r u (i+1) q' h2]
end
end Go.Mid
namespace Go.Mid
theorem TA (φ:MV→MV)(ζ:Nat→Nat):∀ l:List (T Nat),mu (l.map (jg φ ζ))=mu l
 | []=>rfl
 | .p v::r=>by simp only [aH,jg,mu,TA φ ζ r]
 | .m _::r | .agg _::r | .vec ..::r | .mp ..::r | .hole _::r=>rfl
theorem D1j (φ:MV→MV)(ζ:Nat→Nat)(l:List (T Nat)):jg φ ζ (ke l)=ke (jO φ ζ l):=by
 unfold ke;rw [zJ,TA];cases mu l with
 | none=>simp only [jg,zJ]
 | some vs=>rfl
section
variable (φ:W→Tree W)(ζ:Nat→Nat)
mutual
def zO:T2→Tree T2
 | .e s t x=>.leaf (.e (ζ s) t x)
 | .w v=>(φ v).bind fun v'=>.leaf (.w v')
 | .agg l=>(Ha l).bind fun l'=>.leaf (.agg l')
 | .vec g z a n=>(Ch a).bind fun a'=>.leaf (.vec (ζ g) z a' n)
 | .hole n=>.leaf (.hole n)
def Ha:List T2→Tree (List T2)
 | []=>.leaf []
 | t::r=>(zO t).bind fun t'=>(Ha r).bind fun r'=>.leaf (t'::r')
def Ch:SL→Tree SL
 | .base s t l=>.leaf (.base (ζ s) t l)
 | .set a i u=>(Ch a).bind fun a'=>(zO u).bind fun u'=>.leaf (.set a' i u')
 | .app a u=>(Ch a).bind fun a'=>(zO u).bind fun u'=>.leaf (.app a' u')
end
def Dn:O2→Tree O2
 | .cell g t=>(zO φ ζ t).bind fun t'=>.leaf (.cell (ζ g) t')
 | .vec g z a=>(Ch φ ζ a).bind fun a'=>.leaf (.vec (ζ g) z a')
 | .mp g k v l=>.leaf (.mp (ζ g) k v l)
 | .gone=>.leaf .gone
end
section
variable (ζ:Nat→Nat){φ:W→Tree W}{φ':MV→MV}
mutual
theorem JS (hφ:∀ w w',(φ w).den=some w'→φ' (cW w)=cW w'):∀ (t t':T2),(zO φ ζ t).den=some t'→jg φ' ζ (cT t)=cT t'
 | .e s t x,t',h=>by
   simp only [zO,Tree.den_leaf] at h;subst h;exact NV φ' ζ s t x
 | .w v,t',h=>by
   simp only [zO,Tree.den_bind,Tree.den_leaf] at h;obtain ⟨v',h1,rfl⟩:=h;simp only [cT,jg,hφ _ _ h1]
 | .agg l,t',h=>by
   simp only [zO,Tree.den_bind,Tree.den_leaf] at h;obtain ⟨l',h1,rfl⟩:=h;simp only [cT,D1j,TE hφ l l' h1]
 | .vec g z a n,t',h=>by
   simp only [zO,Tree.den_bind,Tree.den_leaf] at h;obtain ⟨a',h1,rfl⟩:=h;simp only [cT,jg,JT hφ a a' h1]
 | .hole n,t',h=>by simp only [zO,Tree.den_leaf] at h;subst h;rfl
theorem TE (hφ:∀ w w',(φ w).den=some w'→φ' (cW w)=cW w'):∀ (l l':List T2),(Ha φ ζ l).den=some l'→jO φ' ζ (ji l)=ji l'
 | [],l',h=>by simp only [Ha,Tree.den_leaf] at h;subst h;rfl
 | t::r,l',h=>by
   simp only [Ha,Tree.den_bind,Tree.den_leaf] at h;obtain ⟨t',h1,r',h2,rfl⟩:=h;simp only [ji,jO,JS hφ t t' h1,TE hφ r r' h2]
theorem JT (hφ:∀ w w',(φ w).den=some w'→φ' (cW w)=cW w'):∀ (a a':SL),(Ch φ ζ a).den=some a'→jO φ' ζ (eW a)=eW a'
 | .base s t l,a',h=>by
   simp only [Ch,Tree.den_leaf] at h;subst h;exact C7w φ' ζ s t l
 | .set a i u,a',h=>by
   simp only [Ch,Tree.den_bind,Tree.den_leaf] at h;obtain ⟨b,h1,u',h2,rfl⟩:=h;simp only [eW];rw [zJ,gD,← zJ,JT hφ a b h1,JS hφ u u' h2]
 | .app a u,a',h=>by
   simp only [Ch,Tree.den_bind,Tree.den_leaf] at h;obtain ⟨b,h1,u',h2,rfl⟩:=h;simp only [eW];rw [zJ,b8,← zJ,JT hφ a b h1,aH,JS hφ u u' h2];rfl
end
theorem Oe (hφ:∀ w w',(φ w).den=some w'→φ' (cW w)=cW w')(o o':O2)(h:(Dn φ ζ o).den=some o'):kO φ' ζ (cO o)=cO o':=by
 cases o with
 | cell g t =>
   simp only [Dn,Tree.den_bind,Tree.den_leaf] at h;obtain ⟨t',h1,rfl⟩:=h;simp only [cO,kO,JS ζ hφ t t' h1]
 | vec g z a =>
   simp only [Dn,Tree.den_bind,Tree.den_leaf] at h;obtain ⟨a',h1,rfl⟩:=h;simp only [cO,kO,JT ζ hφ a a' h1]
 | mp g k v l =>
   simp only [Dn,Tree.den_leaf] at h;subst h
   have:∀ l:List (El k×El v),jO φ' ζ (l.map fun p=>T.p (enc v p.2))=l.map fun p=>T.p (enc v p.2):=by
    intro l
    induction l with
    | nil=>rfl
    | cons a r ih=>simp only [aH,jO,jg,ih]
   simp only [cO,kO,this]
 | gone=>simp only [Dn,Tree.den_leaf] at h;subst h;rfl
end
def C9i (g:Nat)(t:T2):Tree T2:=zO .leaf (fun _=>g) t
def xF (g:Nat)(a:SL):Tree SL:=Ch .leaf (fun _=>g) a
theorem JU (w w':W)(h:(Tree.leaf w).den=some w'):(fun v:MV=>v) (cW w)=cW w':=by simp only [Tree.den_leaf] at h;rw [h]
theorem C9j {g:Nat}{t t':T2}(h:(C9i g t).den=some t'):Ap g (cT t)=cT t':=JS _ JU t t' h
theorem Ci {g:Nat}{a a':SL}(h:(xF g a).den=some a'):nR g (eW a)=eW a':=JT _ JU a a' h
mutual
def A9 (s:Nat):T2→Tree TV
 | .e s' t x=>if s'==s || t.pure then .leaf ⟨t,x⟩ else .fail
 | .agg l=>(JV s l).bind fun q=>.leaf ⟨.agg q.1,q.2⟩
 | .vec g z a n=>if g==s then (zP a).bind fun b=>match b with
    | .base s' t l=>if s'==s || t.pure then (Tree.ask (n==l.length)).bind fun _=>.leaf ⟨.vec z t,l⟩ else .fail
    | _=>.fail
   else .fail
 | .w _=>.fail
 | .hole _=>.fail
def JV (s:Nat):List T2→Tree ((ts:List Ty)×gW ts)
 | []=>.leaf ⟨[],()⟩
 | t::r=>(A9 s t).bind fun p=>(JV s r).bind fun q=>.leaf ⟨p.1::q.1,sd q.1 p.2 q.2⟩
def zP:SL→Tree SL
 | .base s t l=>.leaf (.base s t l)
 | .set a i u=>(zP a).bind fun b=>match b with
   | .base s t l=>(A9 s u).bind fun v=>(Tree.lM (rQ t v.2)).bind fun x=>.leaf (.base s t (l.set i x))
   | _=>.fail
 | .app a u=>(zP a).bind fun b=>match b with
   | .base s t l=>(A9 s u).bind fun v=>(Tree.lM (rQ t v.2)).bind fun x=>.leaf (.base s t (l++[x]))
   | _=>.fail
end
theorem TF {s s':Nat}{t:Ty}(hc:(s'==s || t.pure)=true)(y:El t):ju s' t y=ju s t y:=by
 simp only [cI,beq_iff_eq] at hc;rcases hc with rfl | hc
 · rfl
 · rw [rR _ _ _ hc,rR _ _ _ hc]
mutual
theorem Of (s:Nat):∀ (t:T2) (v:TV),(A9 s t).den=some v→cT t=ju s v.1 v.2
 | .e s' t x,v,h=>by
   simp only [A9] at h;by_cases hc:(s'==s || t.pure)=true
   · rw [if_pos hc,Tree.den_leaf] at h;subst h;exact TF hc x
   · rw [if_neg hc] at h;simp at h
 | .agg l,v,h=>by
   simp only [A9,Tree.den_bind,Tree.den_leaf] at h;obtain ⟨q,h1,rfl⟩:=h;simp only [cT,ju,C3M s l q h1]
 | .vec g z a n,v,h=>by
   simp only [A9] at h;split at h
   · rename_i hg;simp only [beq_iff_eq] at hg;simp only [Tree.den_bind] at h;obtain ⟨b,h1,h⟩:=h;have hb:=Fg a b h1;split at h
     · rename_i s' t l;by_cases hc:(s'==s || t.pure)=true
       · rw [if_pos hc] at h;simp only [Tree.den_bind,Tree.dE,Tree.den_leaf,beq_iff_eq] at h;obtain ⟨_,h2,rfl⟩:=h;have e1:∀ l:List (El t),l.map (ju s' t)=l.map (ju s t):=by
          intro l;congr 1;funext y;exact TF hc y
         simp only [cT,hb,eW,hg,h2,ju,e1]
       · rw [if_neg hc] at h;simp at h
     · simp at h
   · simp at h
 | .w _,v,h=>by simp [A9,Tree.den] at h
 | .hole _,v,h=>by simp [A9,Tree.den] at h
theorem C3M (s:Nat):∀ (l:List T2) (q:(ts:List Ty)×gW ts),(JV s l).den=some q→ji l=mA s q.1 q.2
 | [],q,h=>by simp only [JV,Tree.den_leaf] at h;subst h;rfl
 | t::r,q,h=>by
   simp only [JV,Tree.den_bind,Tree.den_leaf] at h;obtain ⟨p,h1,q',h2,rfl⟩:=h;simp only [ji,mA,ux,uy];rw [Of s t p h1,C3M s r q' h2]
theorem Fg:∀ (a b:SL),(zP a).den=some b→eW a=eW b
 | .base s t l,b,h=>by simp only [zP,Tree.den_leaf] at h;subst h;rfl
 | .set a i u,b,h=>by
   simp only [zP,Tree.den_bind] at h;obtain ⟨b',h1,h⟩:=h;have hb:=Fg a b' h1;split at h
   · rename_i s t l;simp only [Tree.den_bind,Tree.den_ofO,Tree.den_leaf] at h;obtain ⟨v,h2,x,h3,rfl⟩:=h;have hu:=Of s u v h2;obtain ⟨t',y⟩:=v;obtain ⟨e,he,_⟩:=vO h3;simp only at e he;subst e;cases he;simp only [eW,hb,hu,gD]
   · simp at h
 | .app a u,b,h=>by
   simp only [zP,Tree.den_bind] at h;obtain ⟨b',h1,h⟩:=h;have hb:=Fg a b' h1;split at h
   · rename_i s t l;simp only [Tree.den_bind,Tree.den_ofO,Tree.den_leaf] at h;obtain ⟨v,h2,x,h3,rfl⟩:=h;have hu:=Of s u v h2;obtain ⟨t',y⟩:=v;obtain ⟨e,he,_⟩:=vO h3;simp only at e he;subst e;cases he;simp only [eW,hb,hu,b8,aH,cr]
   · simp at h
end
mutual
def Dp:T2→Tree T2
 | .vec g z a n=>(zP a).bind fun b=>.leaf (.vec g z b n)
 | .agg l=>(JW l).bind fun l'=>.leaf (.agg l')
 | .e s t x=>.leaf (.e s t x)
 | .w v=>.leaf (.w v)
 | .hole n=>.leaf (.hole n)
def JW:List T2→Tree (List T2)
 | []=>.leaf []
 | t::r=>(Dp t).bind fun t'=>(JW r).bind fun r'=>.leaf (t'::r')
end
mutual
theorem C3N:∀ (t t':T2),(Dp t).den=some t'→cT t=cT t'
 | .vec g z a n,t',h=>by
   simp only [Dp,Tree.den_bind,Tree.den_leaf] at h;obtain ⟨b,h1,rfl⟩:=h;simp only [cT,Fg a b h1]
 | .agg l,t',h=>by
   simp only [Dp,Tree.den_bind,Tree.den_leaf] at h;obtain ⟨l',h1,rfl⟩:=h;simp only [cT,C1L l l' h1]
 | .e s t x,t',h=>by simp only [Dp,Tree.den_leaf] at h;subst h;rfl
 | .w v,t',h=>by simp only [Dp,Tree.den_leaf] at h;subst h;rfl
 | .hole n,t',h=>by simp only [Dp,Tree.den_leaf] at h;subst h;rfl
theorem C1L:∀ (l l':List T2),(JW l).den=some l'→ji l=ji l'
 | [],l',h=>by simp only [JW,Tree.den_leaf] at h;subst h;rfl
 | t::r,l',h=>by
   simp only [JW,Tree.den_bind,Tree.den_leaf] at h;obtain ⟨t',h1,r',h2,rfl⟩:=h;simp only [ji,C3N t t' h1,C1L r r' h2]
end
def Hb:O2→Tree O2
 | .cell g t=>(Dp t).bind fun t'=>.leaf (.cell g t')
 | .vec g z a=>(zP a).bind fun b=>.leaf (.vec g z b)
 | o=>.leaf o
theorem D1k (o o':O2)(h:(Hb o).den=some o'):cO o=cO o':=by
 cases o with
 | cell g t =>
   simp only [Hb,Tree.den_bind,Tree.den_leaf] at h;obtain ⟨t',h1,rfl⟩:=h;simp only [cO,C3N t t' h1]
 | vec g z a =>
   simp only [Hb,Tree.den_bind,Tree.den_leaf] at h;obtain ⟨b,h1,rfl⟩:=h;simp only [cO,Fg a b h1]
 | mp g k v l=>simp only [Hb,Tree.den_leaf] at h;subst h;rfl
 | gone=>simp only [Hb,Tree.den_leaf] at h;subst h;rfl
def Hc (g:Nat)(u:Option Ty):SL:=match A7 u with | some t=>.base g t [] | none=>.base g .bool []
theorem TG (g:Nat)(u:Option Ty):eW (Hc g u)=[]:=by
 unfold Hc;split<;>rfl
mutual
def wQ (g:Nat)(u:Option Ty)(h:H2):W→Tree (T2×H2)
 | .v t x=>if t.pure then .leaf (.e g t x,h) else .fail
 | .c p=>match zL (.c p) with
   | some v=>if v.1.pure then .leaf (.e g v.1 v.2,h) else .fail
   | none=>match u with
     | some u=>match dec u p with | some x=>if u.pure then .leaf (.e g u x,h) else .fail | none=>.fail
     | none=>.fail
 | .own id path off len g'=>match off with
   | some _=>.fail
   | none=>(Tree.lM (oT h id)).bind fun o=>match o,path with
     | .vec uQ z a,[]=>if g'==uQ then (Tree.ask (cP len a.len)).bind fun _=>(xF g a).bind fun b=>.leaf (.vec g z b len,eZ h id .gone) else .fail
     | o,path=>(xD o path).bind fun t=>(N5 t).bind fun x=>if g'==x.1 then
        (Tree.ask (cP len x.2.2.len)).bind fun _=>(xF g x.2.2).bind fun b=>(zN (.hole 1) o path).bind fun o'=>.leaf (.vec g x.2.1 b len,eZ h id o') else .fail
 | .agg l=>(Hd g u 0 h l).bind fun x=>.leaf (.agg x.1,x.2)
 | .nil z=>.leaf (.vec g z (Hc g u) 0,h)
 | .ptr id np rp g'=>.leaf (.w (.ptr id np rp g'),h)
 | .fn f l=>.leaf (.w (.fn f l),h)
 | .fC ..=>.fail
 | .eO _=>.fail
 | .dead _=>.fail
def Hd (g:Nat)(u:Option Ty)(i:Nat)(h:H2):List W→Tree (List T2×H2)
 | []=>.leaf ([],h)
 | w::r=>(wQ g (Od u i) h w).bind fun x=>(Hd g u (i+1) x.2 r).bind fun y=>.leaf (x.1::y.1,y.2)
end
theorem TH {o:O2}{g z:Nat}{l:List (T Nat)}(h:cO o=.vec g z l):∃ a,o=.vec g z a:=by
 cases o with
 | vec g1 z1 a=>simp only [cO,Obj.vec.injEq] at h;obtain ⟨rfl,rfl,_⟩:=h;exact ⟨a,rfl⟩
 | _=>simp [cO] at h
theorem C5v {g id len g':Nat}{h:cq}{ob:Obj Nat}{p:List Nat}(ho:h id=some ob)(hn:∀ g1 z1 l1,ob=.vec g1 z1 l1→p=[]→False) :
 o9 g h (.own id p 0 len g')=match ew (some ob) p with
  | some (.vec uQ z l _)=>if g'=uQ∧len≤l.length then
     match put (some ob) p (.hole 1) with | some o=>some (.vec g z (nR g l) len,cD h id (some o)) | none=>none
    else none
  | _=>none:=by
 simp only [o9,ho,true_and];split
 · rename_i h1;simp only [aa] at h1;exact absurd rfl (hn _ _ _ h1)
 · rfl
mutual
theorem TI (g:Nat):∀ (w:W) (u:Option Ty) (h:H2) (t:T2) (h':H2),(wQ g u h w).den=some (t,h')→o9 g (cH h) (cW w)=some (cT t,cH h')
 | .v t x,u,h,t',h',e=>by
   simp only [wQ] at e;split at e
   · rename_i hp;simp only [Tree.den_leaf,ae] at e;obtain ⟨rfl,rfl⟩:=e;show some (T.p (enc t x),cH h)=some (ju g t x,cH h);rw [rR g t x hp]
   · simp at e
 | .c p,u,h,t',h',e=>by
   simp only [wQ] at e;split at e
   · rename_i v hv;split at e
     · rename_i hp;simp only [Tree.den_leaf,ae] at e;obtain ⟨rfl,rfl⟩:=e;rw [GV hv];show some (T.p (enc v.1 v.2),cH h)=some (ju g v.1 v.2,cH h);rw [rR g _ _ hp]
     · simp at e
   · split at e
     · rename_i u;split at e
       · rename_i x hx;split at e
         · rename_i hp;simp only [Tree.den_leaf,ae] at e;obtain ⟨rfl,rfl⟩:=e;show some (T.p p,cH h)=some (ju g u x,cH h);rw [rR g _ _ hp,E7 _ _ _ hx]
         · simp at e
       · simp at e
     · simp at e
 | .own id path off len g',u,h,t',h',e=>by
   simp only [wQ] at e;split at e
   · simp at e
   · simp only [Tree.den_bind,Tree.den_ofO] at e;obtain ⟨o,h1,e⟩:=e;have ho:=qY h1;split at e
     · rename_i uQ z a;split at e
       · rename_i hg;simp only [beq_iff_eq] at hg;subst hg;simp only [Tree.den_bind,Tree.dE,Tree.den_leaf,ae] at e;obtain ⟨_,h2,b,h3,rfl,rfl⟩:=e;have h2:=cC.mp h2;simp only [cW,jc,cV,o9,ho,cO];rw [if_pos ⟨trivial,trivial,by rw [SL.j2];exact h2⟩,Ci h3,← qg]
         rfl
       · simp at e
     · rename_i mF;simp only [Tree.den_bind] at e;obtain ⟨t,h2,⟨uQ,z,a⟩,h3,e⟩:=e;split at e
       · rename_i hg;simp only [beq_iff_eq] at hg;subst hg;simp only [Tree.den_bind,Tree.dE,Tree.den_leaf,ae] at e;obtain ⟨_,h4,b,h5,BH,h6,rfl,rfl⟩:=e;have h4:=cC.mp h4;have dP:=Dm h2;obtain ⟨n,hv⟩:=C3G h3;rw [hv] at dP;have eY:put (some (cO o)) (jc path) (.hole 1)=some (cO BH):=Ce h6;have key:=C5v (g:=g) (g':=g') (len:=len) ho (p:=jc path) (fun g1 z1 l1 e1 e2=>by
          obtain ⟨a1,ha⟩:=TH e1;cases path with
          | nil=>exact mF _ _ _ ha rfl
          | cons s r=>simp [jc] at e2)
         refine key.trans ?_;rw [dP];simp only;rw [if_pos ⟨trivial,by rw [SL.j2];exact h4⟩,eY,Ci h5,← qg]
         rfl
       · simp at e
 | .agg l,u,h,t',h',e=>by
   simp only [wQ,Tree.den_bind,Tree.den_leaf,ae] at e;obtain ⟨⟨ts,h1⟩,e1,rfl,rfl⟩:=e;simp only [cW,o9,TJ g l u 0 h ts h1 e1,cT]
 | .nil z,u,h,t',h',e=>by
   simp only [wQ,Tree.den_leaf,ae] at e;obtain ⟨rfl,rfl⟩:=e;simp only [cW,o9,cT,TG]
 | .ptr id np rp g',u,h,t',h',e=>by
   simp only [wQ,Tree.den_leaf,ae] at e;obtain ⟨rfl,rfl⟩:=e;rfl
 | .fn f l,u,h,t',h',e=>by
   simp only [wQ,Tree.den_leaf,ae] at e;obtain ⟨rfl,rfl⟩:=e;rfl
 | .fC ..,u,h,t',h',e=>by simp [wQ,Tree.den] at e
 | .eO _,u,h,t',h',e=>by simp [wQ,Tree.den] at e
 | .dead _,u,h,t',h',e=>by simp [wQ,Tree.den] at e
theorem TJ (g:Nat):∀ (l:List W) (u:Option Ty) (i:Nat) (h:H2) (ts:List T2) (h':H2),(Hd g u i h l).den=some (ts,h')→tN g (cH h) (mW l)=some (ji ts,cH h')
 | [],u,i,h,ts,h',e=>by
   simp only [Hd,Tree.den_leaf,ae] at e;obtain ⟨rfl,rfl⟩:=e;rfl
 | w::r,u,i,h,ts,h',e=>by
   simp only [Hd,Tree.den_bind,Tree.den_leaf,ae] at e;obtain ⟨⟨t,h1⟩,e1,⟨q,h2⟩,e2,rfl,rfl⟩:=e;simp only [mW,tN,TI g w _ h t h1 e1,TJ g r u (i+1) h1 q h2 e2,ji]
end
end Go.Mid
namespace Go.Mid
abbrev wI (k:IntKind) (n:Int):W:=.v (.int k) n
abbrev wB (b:Bool):W:=.v .bool b
abbrev wS (s:ByteArray):W:=.v .str s
def isC:W→Bool
 | .c _=>true
 | _=>false
def Dq (w:W)(b:Bool):Tree Unit:=match w with
 | .c _=>Tree.Jx b
 | _=>Tree.ask b
@[simp] theorem Og (w:W) (b:Bool) (r:Unit):(Dq w b).den=some r↔b=true:=by cases w<;>simp [Dq]
def oK (k:IntKind)(x y:Int):Int:=k.wrap (cl k.bits x &&& cl k.bits y).toNat
def s9 (k:IntKind)(x y:Int):Int:=k.wrap (cl k.bits x ||| cl k.bits y).toNat
def D4u (k:IntKind)(x y:Int):Int:=k.wrap (cl k.bits x ^^^ cl k.bits y).toNat
def wR (k:IntKind)(x y:Int):Int:=k.wrap (cl k.bits x &&& ~~~ cl k.bits y).toNat
def nV (k:IntKind)(x y:Int):Int:=k.wrap (x*2 ^ min y.toNat k.bits)
def jU (k:IntKind)(x y:Int):Int:=x.fdiv (2 ^ min y.toNat k.bits)
def JX (a b:ByteArray):Bool:=a.toList==b.toList
def Oh (a b:ByteArray):Bool:=Op.bytesLess a.toList b.toList
def TK (op:BinOp)(k:IntKind)(x y:Int)(b:W):Tree W :=
 match op with
 | .add=>.leaf (wI k (k.wrap (x+y)))
 | .sub=>.leaf (wI k (k.wrap (x-y)))
 | .mul=>.leaf (wI k (k.wrap (x*y)))
 | .quo=>(Dq b (y != 0)).bind fun _=>.leaf (wI k (k.wrap (x.tdiv y)))
 | .rem=>(Dq b (y != 0)).bind fun _=>.leaf (wI k (x.tmod y))
 | .eql=>.leaf (wB (x==y))
 | .neq=>.leaf (wB (x != y))
 | .lss=>.leaf (wB (decide (x<y)))
 | .leq=>.leaf (wB (decide (x≤y)))
 | .gtr=>.leaf (wB (decide (x>y)))
 | .geq=>.leaf (wB (decide (x ≥ y)))
 | .and=>.leaf (wI k (oK k x y))
 | .or=>.leaf (wI k (s9 k x y))
 | .xor=>.leaf (wI k (D4u k x y))
 | .andNot=>.leaf (wI k (wR k x y))
 | _=>.fail
def TL (op:BinOp)(k:IntKind)(x y:Int)(b:W):Tree W :=
 match op with
 | .shl=>(Dq b (decide (0≤y))).bind fun _=>.leaf (wI k (nV k x y))
 | .shr=>(Dq b (decide (0≤y))).bind fun _=>.leaf (wI k (jU k x y))
 | _=>.fail
def TM (op:BinOp)(a b:ByteArray):Tree W :=
 match op with
 | .add=>(Tree.ask (cP (a.size+b.size) 9223372036854775807)).bind fun _=>.leaf (wS (a++b))
 | .eql=>.leaf (wB (JX a b))
 | .neq=>.leaf (wB !(JX a b))
 | .lss=>.leaf (wB (Oh a b))
 | .leq=>.leaf (wB (Oh a b || JX a b))
 | .gtr=>.leaf (wB !(Oh a b || JX a b))
 | .geq=>.leaf (wB !(Oh a b))
 | _=>.fail
def TN (op:BinOp)(a b:Bool):Tree W :=
 match op with
 | .eql=>.leaf (wB (a==b))
 | .neq=>.leaf (wB !(a==b))
 | _=>.fail
def TO:BinOp→Bool
 | .shl=>true
 | .shr=>true
 | _=>false
def TP (bl:Bool)(op:BinOp)(a b:W):Tree W :=
 match bl with
 | true=>match JC a,JC b with | some x,some y=>TN op x y | _,_=>.fail
 | false=>match vQ a,vQ b with
   | some (k,x),some (k',y)=>match TO op with
     | true=>TL op k x y b
     | false=>if k==k' then TK op k x y b else .fail
   | _,_=>match Dk a,Dk b with | some x,some y=>TM op x y | _,_=>.fail
theorem C9k {op:BinOp}{k:IntKind}{x y:Int}{b w:W}(hs:TO op=false)(h:(TK op k x y b).den=some w):∃ v,jR op (.int k x) (.int k y)=some v∧cW w=.p v:=by
 cases op<;>simp only [TO,Bool.true_eq_false,reduceCtorEq] at hs <;>
  simp only [TK,Tree.den_leaf,Tree.den_bind,Og,Tree.ma] at h
 case quo =>
  obtain ⟨_,h1,rfl⟩:=h;exact ⟨_,by simp only [jR,ne_eq,not_true_eq_false,if_false];rw [if_neg (by simpa using h1)];rfl,rfl⟩
 case rem =>
  obtain ⟨_,h1,rfl⟩:=h;exact ⟨_,by simp only [jR,ne_eq,not_true_eq_false,if_false];rw [if_neg (by simpa using h1)];rfl,rfl⟩
 all_goals
  subst h;exact ⟨_,by simp only [jR,ne_eq,not_true_eq_false,if_false,Ig];rfl,rfl⟩
theorem C7C {op:BinOp}{k k':IntKind}{x y:Int}{b w:W}(h:(TL op k x y b).den=some w):∃ v,jR op (.int k x) (.int k' y)=some v∧cW w=.p v:=by
 cases op<;>simp only [TL,Tree.den_leaf,Tree.den_bind,Og,Tree.ma,decide_eq_true_eq] at h
 all_goals
  obtain ⟨_,h1,rfl⟩:=h;exact ⟨_,by simp only [jR];rw [if_neg (by omega)];rfl,rfl⟩
theorem C9l {op:BinOp}{x y:ByteArray}{w:W}(h:(TM op x y).den=some w):∃ v,jR op (.str x) (.str y)=some v∧cW w=.p v:=by
 cases op<;>simp only [TM,Tree.den_leaf,Tree.den_bind,Tree.dE,Tree.ma] at h
 case add =>
  obtain ⟨_,h1,rfl⟩:=h;exact ⟨_,by simp only [jR];rw [if_pos (cC.mp h1)];rfl,rfl⟩
 all_goals
  subst h;exact ⟨_,by simp only [jR];rfl,rfl⟩
theorem C7D {op:BinOp}{x y:Bool}{w:W}(h:(TN op x y).den=some w):∃ v,jR op (.bool x) (.bool y)=some v∧cW w=.p v:=by
 cases op<;>simp only [TN,Tree.den_leaf,Tree.ma] at h
 all_goals
  subst h;exact ⟨_,by simp only [jR];rfl,rfl⟩
def Fh (bl:Bool)(op:BinOp)(a b:MV):Option MV:=match a,b with
 | .p a,.p b=>if D1 a=bl then (match jR op a b with | some v=>some (.p v) | none=>none) else none
 | _,_=>none
theorem D3f {bl:Bool}{op:BinOp}{a b w:W}(h:(TP bl op a b).den=some w):Fh bl op (cW a) (cW b)=some (cW w):=by
 unfold TP at h;split at h
 · split at h
   · rename_i x y hx hy;rw [Tl hx,Tl hy];obtain ⟨v,h1,h2⟩:=C7D h;simp only [Fh,h1,h2,D1,if_true]
   · simp at h
 · split at h
   · rename_i k x k' y hx hy;rw [xC hx,xC hy];split at h
     · obtain ⟨v,h1,h2⟩:=C7C (k':=k') h;simp only [Fh,h1,h2,D1,if_true]
     · rename_i hs;split at h
       · rename_i hk;simp only [beq_iff_eq] at hk;subst hk;obtain ⟨v,h1,h2⟩:=C9k hs h;simp only [Fh,h1,h2,D1,if_true]
       · simp at h
   · split at h
     · rename_i x y hx hy;rw [GX hx,GX hy];obtain ⟨v,h1,h2⟩:=C9l h;simp only [Fh,h1,h2,D1,if_true]
     · simp at h
mutual
def uB:TD→Ty
 | .int k=>.int k
 | .bool=>.bool
 | .str=>.str
 | .agg l=>.agg (qh l)
def qh:List TD→List Ty
 | []=>[]
 | t::r=>uB t::qh r
end
mutual
def Cj:(td:TD)→El (uB td)→El (uB td)→Bool
 | .int _,x,y=>(show Int from x)==y
 | .bool,x,y=>(show Bool from x)==y
 | .str,x,y=>JX x y
 | .agg l,x,y=>Oi l x y
def Oi:(l:List TD)→gW (qh l)→gW (qh l)→Bool
 | [],_,_=>true
 | [t],x,y=>Cj t (od [] x) (od [] y)
 | t::u::r,x,y=>Cj t (od (qh (u::r)) x) (od (qh (u::r)) y)&&Oi (u::r) (pT (qh (u::r)) x) (pT (qh (u::r)) y)
end
mutual
theorem TQ:∀ (td:TD) (x y:El (uB td)),vl (enc (uB td) x) (enc (uB td) y)=Cj td x y
 | .int _,x,y=>rfl
 | .bool,x,y=>rfl
 | .str,x,y=>rfl
 | .agg l,x,y=>C6j l x y
theorem C6j:∀ (l:List TD) (x y:gW (qh l)),xd (kL (qh l) x) (kL (qh l) y)=Oi l x y
 | [],x,y=>rfl
 | [t],x,y=>by
   have h:vl (enc (uB t) (od [] x)) (enc (uB t) (od [] y))=Cj t (od [] x) (od [] y):=TQ t _ _;show (vl (enc (uB t) (od [] x)) (enc (uB t) (od [] y))&&true)=Cj t (od [] x) (od [] y);rw [h,Bool.and_true]
 | t::u::r,x,y=>by
   have h1:=TQ t (od (qh (u::r)) x) (od (qh (u::r)) y);have h2:=C6j (u::r) (pT (qh (u::r)) x) (pT (qh (u::r)) y);show (vl (enc (uB t) (od (qh (u::r)) x)) (enc (uB t) (od (qh (u::r)) y))&&xd (kL (qh (u::r)) (pT (qh (u::r)) x)) (kL (qh (u::r)) (pT (qh (u::r)) y)))=(Cj t (od (qh (u::r)) x) (od (qh (u::r)) y)&&Oi (u::r) (pT (qh (u::r)) x) (pT (qh (u::r)) y));rw [h1,h2]
end
mutual
theorem C6k:∀ (td:TD) (x:El (uB td)),pH td (enc (uB td) x)=true
 | .int _,x=>by simp [uB,enc,pH]
 | .bool,x=>rfl
 | .str,x=>rfl
 | .agg l,x=>C3S l x
theorem C3S:∀ (l:List TD) (x:gW (qh l)),sq l (kL (qh l) x)=true
 | [],x=>rfl
 | t::r,x=>by
   simp only [qh,kL,sq,ak];exact ⟨C6k t _,C3S r _⟩
end
def TR (neg:Bool)(td:TD)(a b:W):Tree W:=match Cc (uB td) a,Cc (uB td) b with
 | some x,some y=>.leaf (wB (match neg with | false=>Cj td x y | true=>!(Cj td x y)))
 | _,_=>.fail
def Oj (neg:Bool)(td:TD)(a b:MV):Option MV:=match a,b with
 | .p a,.p b=>if pH td a&&pH td b then some (Ar (vl a b != neg)) else none
 | _,_=>none
theorem D3g {neg:Bool}{td:TD}{a b w:W}(h:(TR neg td a b).den=some w):Oj neg td (cW a) (cW b)=some (cW w):=by
 unfold TR at h;split at h
 · rename_i x y hx hy;simp only [Tree.den_leaf] at h;subst h;rw [GW hx,GW hy];simp only [Oj,C6k,Bool.and_self,if_true,TQ];cases neg<;>cases Cj td x y<;>rfl
 · simp at h
def TS:W→Bool
 | .dead _=>false
 | _=>true
def Ol:sr→W→Tree W
 | .not _,w=>match w with
   | .c (.bool b)=>.leaf (.c (.bool !b))
   | w=>match JC w with | some b=>.leaf (wB !b) | none=>.fail
 | .neg _,w=>match vQ w with | some (k,n)=>.leaf (wI k (k.wrap (0-n))) | none=>.fail
 | .inv _,w=>match vQ w with | some (k,n)=>.leaf (wI k (D4u k (if k.signed then -1 else k.max) n)) | none=>.fail
 | .convI k _,w=>match vQ w with | some (_,n)=>.leaf (wI k (k.wrap n)) | none=>.fail
 | .convS _,w=>match Dk w with | some s=>.leaf (wS s) | none=>.fail
 | .convR _,w=>match vQ w with | some (_,n)=>.leaf (wS (Utf8.encode n)) | none=>.fail
 | .lenS _,w=>match Dk w with | some s=>.leaf (wI .i64 (s.size:Nat)) | none=>.fail
 | .capn _,w=>match w with | .nil _=>.leaf (wI .i64 (0:Nat)) | _=>.fail
 | .isnil fk neg _,w=>match fk,w with
   | false,.c .eX=>.leaf (.c (.bool (true != neg)))
   | true,.c .ff=>.leaf (.c (.bool (true != neg)))
   | false,.v .eX _=>.leaf (.c (.bool (true != neg)))
   | true,.v .ff _=>.leaf (.c (.bool (true != neg)))
   | false,.v (.ref _) _=>.leaf (.c (.bool (false != neg)))
   | false,.v (.mR t) x=>.leaf (.v .bool (Option.isNone (α:=El t) x != neg))
   | false,.ptr ..=>.leaf (.c (.bool (false != neg)))
   | true,.v (.fn _ _) _=>.leaf (.c (.bool (false != neg)))
   | true,.c (.fn _ _)=>.leaf (.c (.bool (false != neg)))
   | true,.fn _ _=>.leaf (.c (.bool (false != neg)))
   | _,_=>.fail
 | .nilc _,w=>match w with
   | .v (.ref t) x=>.leaf (.v (.ref t) x)
   | .v (.mR t) x=>.opt (A:=El t) (Di t) x fun y=>.leaf (.v (.ref t) y)
   | .ptr id np rp g=>.leaf (.ptr id np rp g)
   | _=>.fail
 | .len _,w=>match w with
   | .v (.sl t) l=>.leaf (wI .i64 (cF (α:=El t) l:Nat))
   | .c (.sl l)=>.leaf (.c (.int .i64 (l.length:Nat)))
   | .nil _=>.leaf (.c (.int .i64 0))
   | .own _ _ _ n _=>.leaf (wI .i64 (n:Nat))
   | _=>.fail
 | .cut0 z _,w=>match w with
   | .v (.sl _) _=>.leaf (.nil z)
   | .c (.sl _)=>.leaf (.nil z)
   | .nil _=>.leaf (.nil z)
   | .own ..=>.leaf (.nil z)
   | _=>.fail
 | .ext _ i,w=>match w with
   | .eO l=>Tree.lM l[i]?
   | _=>.fail
 | .fld agg n o _ i,w=>match w with
   | .v (.agg ts) x=>match Dl ts x i with
     | some v=>if Ty.dm (ts.take i)==o&&v.1.cs==n&&v.1.isAgg==agg then .leaf (.v v.1 v.2) else .fail
     | none=>.fail
   | .c (.agg l)=>match l[i]? with
     | some v=>if PV.dm (l.take i)==o&&v.cs==n&&v.isAgg==agg then .leaf (.c v) else .fail
     | none=>.fail
   | .agg l=>match l[i]? with
     | some v=>if JA (l.take i)==o&&GQ v==n&&NZ v==agg&&TS v then .leaf v else .fail
     | none=>.fail
   | _=>.fail
 | .faddr _ i o,w=>match w with
   | .v (.ref (.agg ts)) x=>match Dl ts x i with
     | some v=>if Ty.dm (ts.take i)==o then .leaf (.v (.ref v.1) v.2) else .fail
     | none=>.fail
   | .ptr id np rp g=>.leaf (.ptr id np (rp++[.f i o]) g)
   | _=>.fail
 | _,_=>.fail
def Ck:sr→Option dO
 | .not x | .neg x | .inv x | .convI _ x | .convS x | .convR x | .lenS x | .capn x | .isnil _ _ x | .nilc x | .len x | .cut0 _ x | .ext x _ | .fld _ _ _ x _ | .faddr x _ _=>some x
 | _=>none
theorem C1M (v:W)(h:TS v=true):Mv (cW v)=false:=by
 cases v<;>first | rfl | cases h
theorem D4v (K:jC)(g:Nat)(d:Option Nat)(s:S2)(h:cq)(op:sr)(x:dO)(w w':W)(ho:Ck op=some x)(hw:cR (cS s) x=cW w)(e:(Ol op w).den=some w'):cf K g d (cS s) h op=some (cW w',h):=by
 cases op<;>simp only [Ck,aa,reduceCtorEq] at ho<;>subst ho<;>simp only [Ol] at e<;>simp only [cf,hw]
 case not =>
  split at e
  · simp only [Tree.den_leaf] at e;subst e;rfl
  · split at e
    · rename_i b hb;simp only [Tree.den_leaf] at e;subst e;rw [Tl hb];rfl
    · simp at e
 case neg =>
  split at e
  · rename_i b hb;simp only [Tree.den_leaf] at e;subst e;rw [xC hb];rfl
  · simp at e
 case inv =>
  split at e
  · rename_i b hb;simp only [Tree.den_leaf] at e;subst e;rw [xC hb];rfl
  · simp at e
 case convI =>
  split at e
  · rename_i b hb;simp only [Tree.den_leaf] at e;subst e;rw [xC hb];rfl
  · simp at e
 case convS =>
  split at e
  · rename_i b hb;simp only [Tree.den_leaf] at e;subst e;rw [GX hb];rfl
  · simp at e
 case convR =>
  split at e
  · rename_i b hb;simp only [Tree.den_leaf] at e;subst e;rw [xC hb];rfl
  · simp at e
 case lenS =>
  split at e
  · rename_i b hb;simp only [Tree.den_leaf] at e;subst e;rw [GX hb];rfl
  · simp at e
 case capn =>
  split at e
  · simp only [Tree.den_leaf] at e;subst e;rfl
  · simp at e
 case isnil =>
  split at e<;>first | (simp only [Tree.den_leaf] at e;subst e;rfl) | (simp only [Tree.den_leaf] at e;subst e;rename_i t x;change Option (El t) at x;cases x<;>rfl) | simp at e
 case nilc =>
  split at e
  · simp only [Tree.den_leaf] at e;subst e;rfl
  · rename_i t x;obtain ⟨y,hy,e2⟩:=(Tree.lT (A:=El t) (Di t) x _ _).1 e;simp only [Tree.den_leaf] at e2;subst e2;have hx:x=(show El (.mR t) from some y):=hy;subst hx;rfl
  · simp only [Tree.den_leaf] at e;subst e;rfl
  · simp at e
 case len =>
  split at e
  · rename_i t l;simp only [Tree.den_leaf] at e;subst e
    have:∀ l:List (El t),(match yK (.p (.sl (l.map (enc t)))) with | some n=>some (wg n,h) | none=>none)=some (.p (.int .i64 (l.length:Nat)),h):=by intro l;simp [yK,wg]
    exact this l
  · simp only [Tree.den_leaf] at e;subst e;rfl
  · simp only [Tree.den_leaf] at e;subst e;rfl
  · simp only [Tree.den_leaf] at e;subst e;rfl
  · simp at e
 case cut0 =>
  split at e<;>first | (simp only [Tree.den_leaf] at e;subst e;rfl) | simp at e
 case ext =>
  split at e
  · rename_i l;simp only [Tree.den_ofO] at e;simp only [cW,s6,aN,e];rfl
  · simp at e
 case fld =>
  split at e
  · rename_i ts x;split at e
    · rename_i v hv;obtain ⟨t,y⟩:=v;split at e
      · rename_i hc;simp only [ak,beq_iff_eq] at hc;simp only [Tree.den_leaf] at e;subst e;have vz:=(JE 0 ts x _ t y hv).1;have fg:=JG ts x;simp only [cW,enc];rw [vz];simp only;rw [if_pos ⟨(fg _).trans hc.1.1,(zI _ _).trans hc.1.2,(NT _ _).trans hc.2⟩]
      · simp at e
    · simp at e
  · rename_i l;split at e
    · rename_i v hv;split at e
      · rename_i hc;simp only [ak,beq_iff_eq] at hc;simp only [Tree.den_leaf] at e;subst e;simp only [cW];rw [hv];simp only;rw [if_pos ⟨hc.1.1,hc.1.2,hc.2⟩]
      · simp at e
    · simp at e
  · rename_i l;split at e
    · rename_i v hv;split at e
      · rename_i hc;simp only [ak,beq_iff_eq] at hc;simp only [Tree.den_leaf] at e;subst e;simp only [cW,s6,aN,hv,ar,← bO];rw [← s6,Ti,NY,C6c,if_pos ⟨hc.1.1.1,hc.1.1.2,hc.1.2,C1M _ hc.2⟩]
      · simp at e
    · simp at e
  · simp at e
 case faddr =>
  split at e
  · rename_i ts x;split at e
    · rename_i v hv;obtain ⟨t,y⟩:=v;split at e
      · rename_i hc;simp only [beq_iff_eq] at hc;simp only [Tree.den_leaf] at e;subst e;have vz:=(JE 0 ts x _ t y hv).1;have fg:=JG ts x;simp only [cW,enc];rw [vz];simp only;rw [if_pos ((fg _).trans hc)]
      · simp at e
    · simp at e
  · simp only [Tree.den_leaf] at e;subst e;simp only [cW];rw [Jy,Td];rfl
  · simp at e
end Go.Mid
namespace Go.Mid
def Fi (np:Option (List Step))(rp:List Step):List Step:=match np with | none=>rp | some p=>p++rp
theorem Om (np:Option (List Step))(rp:List Step):rG (xA np) (jc rp)=jc (Fi np rp):=by
 cases np with
 | none=>rfl
 | some p=>simp only [rG,xA,Option.getD_some,Fi,Jy]
def On (h:H2)(agg:Bool)(n:Nat):W→Tree W
 | .v (.ref t) x=>if t.cs==n&&t.isAgg==agg then .leaf (.v t x) else .fail
 | .ptr id np rp g=>(Tree.lM (oT h id)).bind fun o=>(Fa o np rp).bind fun x=>if x.2==g&&zM x.1==n then
    (Fe id (Fi np rp) x.1).bind fun v=>if NZ v==agg&&TS v then .leaf v else .fail else .fail
 | _=>.fail
theorem C3T {h:H2}{agg:Bool}{n:Nat}{a w:W}(e:(On h agg n a).den=some w):tT (cH h) agg n (cW a)=some (cW w):=by
 unfold On at e;split at e
 · rename_i t x;split at e
   · rename_i hc;simp only [ak,beq_iff_eq] at hc;simp only [Tree.den_leaf] at e;subst e;show (if (enc t x).cs=n∧(enc t x).isAgg=agg then some (MV.p (enc t x)) else none)=_
     rw [if_pos ⟨(zI _ _).trans hc.1,(NT _ _).trans hc.2⟩];rfl
   · simp at e
 · rename_i id np rp g;simp only [Tree.den_bind,Tree.den_ofO] at e;obtain ⟨o,h1,⟨t,s⟩,h2,e⟩:=e;split at e
   · rename_i hc;simp only [ak,beq_iff_eq] at hc;simp only [Tree.den_bind] at e;obtain ⟨v,h3,e⟩:=e;split at e
     · rename_i hd;simp only [ak,beq_iff_eq] at hd;simp only [Tree.den_leaf] at e;subst e;simp only [cW,tT];rw [qY h1,JJ h2];simp only;rw [Om,C6i _ _ _ _ h3,C6c,G1,if_pos ⟨hc.1,trivial,hc.2⟩,if_pos ⟨hd.1,C1M _ hd.2⟩]
     · simp at e
   · simp at e
 · simp at e
mutual
def TT:T2→Ty
 | .e _ t _=>t
 | .vec _ z (.base _ t _) _=>.vec z t
 | .agg l=>.agg (D4w l)
 | _=>.bool
def D4w:List T2→List Ty
 | []=>[]
 | t::r=>TT t::D4w r
end
def Cl:T2→Option (Nat×Nat×SL×Nat)
 | .vec g z l n=>some (g,z,l,n)
 | .e s (.vec z t) l=>some (s,z,.base s t l,cF (α:=El t) l)
 | _=>none
theorem Fj {t:T2}{g z n:Nat}{l:SL}(h:Cl t=some (g,z,l,n)):cT t=.vec g z (eW l) n:=by
 unfold Cl at h;split at h
 · simp only [aa,ae] at h;obtain ⟨rfl,rfl,rfl,rfl⟩:=h;rfl
 · simp only [aa,ae] at h;obtain ⟨rfl,rfl,rfl,rfl⟩:=h;rfl
 · cases h
def zQ:List Step→List Step→Tree Unit
 | [],[]=>.leaf ()
 | .f i _::r,.f j _::q=>(Tree.Jx (i==j)).bind fun _=>zQ r q
 | .k i _::r,.k j _::q=>(Tree.ask (iZ i j)).bind fun _=>zQ r q
 | _,_=>.fail
theorem TU:∀ {p q:List Step} {u:Unit},(zQ p q).den=some u→jc p=jc q
 | [],[],_,_=>rfl
 | .f i _::r,.f j _::q,u,h=>by
   simp only [zQ,Tree.den_bind,Tree.wO,beq_iff_eq] at h;obtain ⟨_,h1,h2⟩:=h;simp only [jc,Step.ix,h1,TU h2]
 | .k i _::r,.k j _::q,u,h=>by
   simp only [zQ,Tree.den_bind,Tree.dE] at h;obtain ⟨_,h1,h2⟩:=h;simp only [jc,Step.ix,eA h1,TU h2]
 | [],_::_,_,h=>by simp [zQ] at h
 | .f _ _::_,[],_,h=>by simp [zQ] at h
 | .k _ _::_,[],_,h=>by simp [zQ] at h
 | .k _ _::_,.f _ _::_,_,h=>by simp [zQ] at h
 | .f _ _::_,.k _ _::_,_,h=>by simp [zQ] at h
def SL.cut (n:Nat):SL→Tree SL
 | .base s t l=>.leaf (.base s t (l.take n))
 | a=>(Tree.ask (iZ n a.len)).bind fun _=>.leaf a
theorem SL.Fk {n:Nat}{a b:SL}(h:(SL.cut n a).den=some b):eW b=(eW a).take n:=by
 have key:∀ a:SL,((Tree.ask (iZ n a.len)).bind fun _=>Tree.leaf a).den=some b→eW b=(eW a).take n:=by
  intro a h;simp only [Tree.den_bind,Tree.dE,Tree.den_leaf] at h;obtain ⟨_,h1,rfl⟩:=h;rw [eA h1,aZ (by rw [SL.j2];exact au _)]
 cases a with
 | base s t l=>simp only [SL.cut,Tree.den_leaf] at h;subst h;simp only [eW,bO]
 | set a i u=>exact key _ h
 | app a u=>exact key _ h
def Oo (g:Nat)(h:H2)(n id:Nat)(p:List Step)(u:Ty)(x:W):Tree (W×H2) :=
 (wQ g (some u) h x).bind fun y=>if zM y.1==n then (Tree.lM (oT y.2 id)).bind fun o=>(zN y.1 o p).bind fun o'=>.leaf (.dead 0,eZ y.2 id o') else .fail
theorem C1N {g:Nat}{h:H2}{n id:Nat}{p:List Step}{u:Ty}{x w:W}{h':H2}(e:(Oo g h n id p u x).den=some (w,h')):yJ g (cH h) n id (jc p) (cW x)=some (cW w,cH h'):=by
 unfold Oo at e;simp only [Tree.den_bind] at e;obtain ⟨⟨t,h1⟩,e1,e⟩:=e;split at e
 · rename_i hc;simp only [beq_iff_eq] at hc;simp only [Tree.den_bind,Tree.den_ofO,Tree.den_leaf,ae] at e;obtain ⟨o,e2,o',e3,rfl,rfl⟩:=e;unfold yJ;rw [TI g x _ h t h1 e1];simp only;rw [G1,if_pos hc,qY e2,Ce e3];simp only;rw [qg];rfl
 · simp at e
def TW (g:Nat)(h:H2)(n:Nat)(a x:W):Tree (W×H2) :=
 match a with
 | .ptr id np rp g0=>(Tree.lM (oT h id)).bind fun o=>(Fa o np rp).bind fun y=>if y.2==g0&&zM y.1==n then
    (match x with
    | .own uU q9 off len g'=>if uU==id then (match Cl y.1 with
       | some (a,z,l,n')=>if off.isNone&&g'==a then (zQ q9 (Fi np rp)).bind fun _ =>
          (Tree.ask (cP len n')).bind fun _=>(SL.cut len l).bind fun l'=>(zN (.vec a z l' len) o (Fi np rp)).bind fun o'=>.leaf (.dead 0,eZ h id o')
         else .fail
       | none=>.fail)
      else Oo g h n id (Fi np rp) (TT y.1) x
    | x=>Oo g h n id (Fi np rp) (TT y.1) x)
    else .fail
 | _=>.fail
theorem C9m {g:Nat}{h:H2}{n:Nat}{a x w:W}{h':H2}(e:(TW g h n a x).den=some (w,h')):Gc g (cH h) n (cW a) (cW x)=some (cW w,cH h'):=by
 unfold TW at e;split at e
 · rename_i id np rp g0;simp only [Tree.den_bind,Tree.den_ofO] at e;obtain ⟨o,h1,⟨t,s⟩,h2,e⟩:=e;split at e
   · rename_i hc;simp only [ak,beq_iff_eq] at hc;have hl:=JJ h2;simp only [cW,Gc];rw [qY h1,hl];simp only;rw [if_pos ⟨hc.1,trivial,(G1 t).trans hc.2⟩];split at e
     · rename_i uU q9 off len g';split at e
       · rename_i gx;simp only [beq_iff_eq] at gx;subst gx;split at e
         · rename_i a z l n' ht;split at e
           · rename_i hq;simp only [ak,beq_iff_eq,Option.isNone_iff_eq_none] at hq;simp only [Tree.den_bind,Tree.dE,Tree.den_leaf,ae] at e;obtain ⟨_,h8,_,h3,l',h9,o',h4,rfl,rfl⟩:=e;have h3:=cC.mp h3;have hp:=Ce h4;rw [Fj ht];simp only [cW];rw [Om,hq.1,if_pos ⟨trivial,TU h8,rfl,hq.2,h3⟩];simp only [cT,SL.Fk h9] at hp;rw [hp,← qg]
           · simp at e
         · simp at e
       · rename_i gx;have gx:¬ uU=id:=by simpa using gx
         have e:=C1N e;rw [Om];simp only [cW] at e ⊢;split
         · rw [if_neg (fun hh=>gx (by simp_all))]
           exact e
         · exact e
     · rename_i mF;have e:=C1N e;rw [Om];have hx:∀ i p o l g,cW x=.own i p o l g→False:=by
        intro i p o l g hh;cases x with
        | own a b c d f=>exact mF _ _ _ _ _ rfl
        | _=>cases hh
       split
       · rename_i hh _;exact (hx _ _ _ _ _ hh).elim
       · exact e
   · simp at e
 · simp at e
def zR (w:W):Tree Nat:=match vQ w with
 | some (_,i)=>(Dq w (decide (0≤i))).bind fun _=>.leaf i.toNat
 | none=>.fail
theorem C6l {w:W}{k:Nat}(h:(zR w).den=some k):wi (cW w)=some (k:Int):=by
 unfold zR at h;split at h
 · rename_i k' i hi;simp only [Tree.den_bind,Og,decide_eq_true_eq,Tree.den_leaf] at h;obtain ⟨_,h1,rfl⟩:=h;rw [xC hi];simp only [wi,aa];omega
 · simp at h
theorem Fl {w:W}{k n:Nat}(h:(zR w).den=some k)(hk:k<n):xT n (cW w)=some k:=by
 unfold xT;rw [C6l h];simp only;rw [if_pos ⟨by omega,by omega⟩]
 simp
theorem D3h {w:W}{k n:Nat}(h:(zR w).den=some k)(hk:k≤n):xe n (cW w)=some k:=by
 unfold xe;rw [C6l h];simp only;rw [if_pos ⟨by omega,by omega⟩]
 simp
def zS (n:Nat):Option W→Tree (Option Nat)
 | none=>.leaf none
 | some w=>(zR w).bind fun k=>(Tree.ask (cP k n)).bind fun _=>.leaf (some k)
theorem He {n:Nat}{m:Nat}{w:Option W}{k:Option Nat}(h:(zS n w).den=some k):CH n m (w.map cW)=some (k.getD m):=by
 cases w with
 | none=>simp only [zS,Tree.den_leaf] at h;subst h;rfl
 | some w =>
   simp only [zS,Tree.den_bind,Tree.dE,Tree.den_leaf] at h;obtain ⟨j,h1,_,h2,rfl⟩:=h;exact D3h h1 (cC.mp h2)
def Fm (n:Nat)(lo hi:Option W):Tree (Option Nat×Option Nat) :=
 (zS n hi).bind fun b=>(zS (b.getD n) lo).bind fun a=>.leaf (a,b)
theorem Oq {n:Nat}{lo hi:Option W}{a b:Option Nat}(h:(Fm n lo hi).den=some (a,b)):Bq n (lo.map cW) (hi.map cW)=some (a.getD 0,b.getD n):=by
 simp only [Fm,Tree.den_bind,Tree.den_leaf,ae] at h;obtain ⟨b',h1,a',h2,rfl,rfl⟩:=h;unfold Bq;rw [He (m:=n) h1];simp only;rw [He (m:=0) h2]
def Ot {A:Type}(a b:Option Nat)(l:List A):List A :=
 let m:=match b with | none=>l | some b=>l.take b
 match a with | none=>m | some a=>m.drop a
theorem D3i {A B:Type}(f:A→B)(a b:Option Nat)(l:List A):(Ot a b l).map f=((l.map f).take (b.getD l.length)).drop (a.getD 0):=by
 unfold Ot;cases a<;>cases b<;>simp [bO,fp]
def TX (h:H2)(z:Nat)(w:W)(lo hi:Option W):Tree W:=match w with
 | .v (.sl t) l=>if t.cs==z then (Fm (cF (α:=El t) l) lo hi).bind fun x=>.leaf (.v (.sl t) (Ot (A:=El t) x.1 x.2 l)) else .fail
 | .nil z=>(Fm 0 lo hi).bind fun _=>.leaf (.nil z)
 | .own id path off len g=>(Tree.lM (oT h id)).bind fun o=>(xE o path).bind fun y=>if y.1==g&&y.2.1==z then
    (Fm len lo hi).bind fun x=>.leaf (.own id path (match x.1 with | none=>off | some a=>some (match off with | none=>a | some o=>o+a)) (match x.1 with | none=>x.2.getD len | some a=>x.2.getD len-a) g) else .fail
 | _=>.fail
theorem JY (t:Ty)(z:Nat)(h:t.cs=z)(l:List (El t)):((l.map (enc t)).all fun v=>v.cs==z)=true:=by
 rw [List.all_eq_true];intro v hv;obtain ⟨x,_,rfl⟩:=bj.1 hv;simp [zI,h]
theorem C9n {h:H2}{z:Nat}{w w':W}{lo hi:Option W}(e:(TX h z w lo hi).den=some w'):Av (cH h) z (cW w) (lo.map cW) (hi.map cW)=some (cW w'):=by
 unfold TX at e;split at e
 · rename_i t l;split at e
   · rename_i hz;simp only [beq_iff_eq] at hz;simp only [Tree.den_bind,Tree.den_leaf] at e;obtain ⟨⟨a,b⟩,h1,rfl⟩:=e;have key:∀ l:List (El t),(Fm l.length lo hi).den=some (a,b)→Av (cH h) z (.p (.sl (l.map (enc t)))) (lo.map cW) (hi.map cW)=some (.p (.sl ((Ot a b l).map (enc t)))):=by
      intro l h1;simp only [Av,aE];rw [Oq h1];simp only;rw [if_pos (JY t z hz l),D3i]
     exact key l h1
   · simp at e
 · simp only [Tree.den_bind,Tree.den_leaf] at e;obtain ⟨⟨a,b⟩,h1,rfl⟩:=e;simp only [cW,Av];rw [Oq h1]
 · rename_i id path off len g;simp only [Tree.den_bind,Tree.den_ofO] at e;obtain ⟨o,h1,⟨g',z',a'⟩,h2,e⟩:=e;split at e
   · rename_i hc;simp only [ak,beq_iff_eq] at hc;simp only [Tree.den_bind,Tree.den_leaf] at e;obtain ⟨⟨a,b⟩,h3,rfl⟩:=e;simp only [cW,Av];rw [Oq h3,qY h1,yl h2];simp only;rw [if_pos hc];cases a<;>cases off<;>simp
   · simp at e
 · simp at e
def TY (w:W)(lo hi:Option W):Tree W:=match Dk w with
 | some b=>(Fm b.size lo hi).bind fun x=>.leaf (wS (b.extract (x.1.getD 0) (x.2.getD b.size)))
 | none=>.fail
abbrev D7x {A:Type} (l:List A) (k:Nat):Option A:=l[k]?
def TZ (h:H2)(z:Nat)(w i:W):Tree W:=match w with
 | .v (.sl t) l=>if t.cs==z then (zR i).bind fun k=>.opt (Di t) (D7x (A:=El t) l k) fun x=>.leaf (.v (.ref t) x) else .fail
 | .own id path off len g=>(Tree.lM (oT h id)).bind fun o=>(xE o path).bind fun y=>if y.1==g&&y.2.1==z then
    (zR i).bind fun k=>(Tree.ask (cZ k len)).bind fun _=>.leaf (.ptr id (some path) [match off with | none=>JD z k i | some o=>.k (o+k) z] g) else .fail
 | _=>.fail
theorem C9o {h:H2}{z:Nat}{w i w':W}(e:(TZ h z w i).den=some w'):Aw (cH h) z (cW w) (cW i)=some (cW w'):=by
 unfold TZ at e;split at e
 · rename_i t l;split at e
   · rename_i hz;simp only [beq_iff_eq] at hz;simp only [Tree.den_bind,Tree.lT,Tree.den_leaf] at e;obtain ⟨k,h1,x,h2,rfl⟩:=e;have key:∀ l:List (El t),l[k]?=some x→Aw (cH h) z (.p (.sl (l.map (enc t)))) (cW i)=some (.p (.ref (enc t x))):=by
      intro l h2;have hk:=(aL.1 h2).1;simp only [Aw,aE];rw [Fl h1 hk];simp only [aN,h2,ar];rw [if_pos ((zI _ _).trans hz)]
     exact key l h2
   · simp at e
 · rename_i id path off len g;simp only [Tree.den_bind,Tree.den_ofO] at e;obtain ⟨o,h1,⟨g',z',a'⟩,h2,e⟩:=e;split at e
   · rename_i hc;simp only [ak,beq_iff_eq] at hc;simp only [Tree.den_bind,Tree.dE,Tree.den_leaf] at e;obtain ⟨k,h3,_,h4,rfl⟩:=e;simp only [cW,Aw];rw [Fl h3 (iD.mp h4),qY h1];simp only;rw [yl h2];simp only;rw [if_pos hc];cases off with
     | none =>
       simp only [cV,bS];cases i<;>simp [JD,xA,jc,vP,Step.ix,Step.of]
     | some o=>simp [xA,jc,vP,Step.ix,Step.of]
   · simp at e
 · simp at e
def Ou (n z:Nat)(ts:List Ty)(x:gW ts)(i:W):Tree TV :=
 (zR i).bind fun k=>match isC i with
   | true=>if cZ k n&&Ty.dm (ts.take k)==k*z then Tree.lM (Dl ts x k) else .fail
   | false=>match N3 ts z with
     | some t=>if ts.length==n then (Tree.ask (cZ k n)).bind fun _=>(Tree.lM (GZ t k ts x 0)).bind fun y=>.leaf ⟨t,y⟩ else .fail
     | none=>.fail
theorem C6m {n z:Nat}{ts:List Ty}{x:gW ts}{i:W}{v:TV}(h:(Ou n z ts x i).den=some v) :
 ∃ k,xT n (cW i)=some k∧(kL ts x)[k]?=some (enc v.1 v.2)∧PV.dm ((kL ts x).take k)=k*z:=by
 unfold Ou at h;simp only [Tree.den_bind] at h;obtain ⟨k,h1,h⟩:=h;refine ⟨k,?_⟩;split at h
 · split at h
   · rename_i hc;simp only [ak,beq_iff_eq] at hc;rw [Tree.den_ofO] at h;obtain ⟨t,y⟩:=v;exact ⟨Fl h1 (iD.mp hc.1),(JE 0 ts x k t y h).1,(JG ts x k).trans hc.2⟩
   · simp at h
 · split at h
   · rename_i t ht;split at h
     · rename_i hn;simp only [beq_iff_eq] at hn;simp only [Tree.den_bind,Tree.dE,Tree.den_ofO,Tree.den_leaf] at h;obtain ⟨_,h2,y,h3,rfl⟩:=h;have h2:=iD.mp h2;have hs:=(Tm 0 t k ts x 0 y h3 (dq _) (by omega)).1
       rw [gC] at hs;refine ⟨Fl h1 h2,hs,(JG ts x k).trans ?_⟩;unfold N3 at ht;split at ht
       · cases ht
       · split at ht
         · rename_i hc;cases ht;simp only [ak,beq_iff_eq] at hc;rw [← hc.2];exact Tn hc.1 (by omega)
         · cases ht
     · simp at h
   · simp at h
def JZ (k:IntKind):List PV→Option (List Int)
 | []=>some []
 | .int l x::r=>if l==k then (match JZ k r with | some m=>some (x::m) | none=>none) else none
 | _=>none
theorem C6n {k:IntKind}:∀ {l:List PV} {m:List Int},JZ k l=some m→l=m.map (PV.int k)
 | [],m,h=>by simp only [JZ,aa] at h;subst h;rfl
 | v::r,m,h=>by
   cases v with
   | int l x =>
     simp only [JZ] at h;split at h
     · rename_i hk;split at h
       · rename_i q hq;simp only [aa] at h;subst h;simp only [beq_iff_eq] at hk;subst hk;rw [C6n hq];rfl
       · cases h
     · cases h
   | _=>cases h
theorem C3Y (k:IntKind):∀ m:List Int,PV.dm (m.map (PV.int k))=m.length
 | []=>rfl
 | x::r=>by simp only [aH,PV.dm,PV.cs,C3Y k r,bf];omega
def D7y:List PV→Option IntKind
 | .int k _::_=>some k
 | _=>none
def T0 (n z:Nat)(w i:W):Tree W:=match w with
 | .c (.ref (.agg l))=>match D7y l with
   | some k=>match JZ k l with
     | some m=>if z==1 then (zR i).bind fun j=>(Tree.ask (cZ j n)).bind fun _=>.opt (0:Int) m[j]? fun v=>.leaf (.v (.ref (.int k)) v) else .fail
     | none=>.fail
   | none=>.fail
 | .v (.ref (.agg ts)) x=>(Ou n z ts x i).bind fun v=>.leaf (.v (.ref v.1) v.2)
 | .ptr id np rp g=>(zR i).bind fun k=>(Tree.ask (cZ k n)).bind fun _=>.leaf (.ptr id np (rp++[JD z k i]) g)
 | _=>.fail
def T1 (agg:Bool)(z n:Nat)(w i:W):Tree W:=match zL w with
 | some ⟨.agg ts,x⟩=>(Ou n z ts x i).bind fun v=>if v.1.cs==z&&v.1.isAgg==agg then .leaf (.v v.1 v.2) else .fail
 | _=>.fail
def T4 (w i:W):Tree W:=match Dk w with
 | some b=>(zR i).bind fun k=>.opt (0:UInt8) b.data[k]? fun c=>.leaf (wI .u8 c.toNat)
 | none=>.fail
def J0 (t:Ty):(ts:List Ty)→gW ts→Option (List (El t))
 | [],_=>some []
 | u::r,x=>match rQ t (od r x) with
   | some y=>match J0 t r (pT r x) with
     | some l=>some (y::l)
     | none=>none
   | none=>none
theorem C3Z {t:Ty}:∀ {ts:List Ty} {x:gW ts} {l:List (El t)},J0 t ts x=some l→kL ts x=l.map (enc t)∧ts.length=l.length
 | [],_,l,h=>by
   simp only [J0,aa] at h;subst h;exact ⟨rfl,rfl⟩
 | u::r,x,l,h=>by
   simp only [J0] at h;split at h
   · rename_i y hy;split at h
     · rename_i m hm;simp only [aa] at h;subst h;obtain ⟨h1,h2⟩:=C3Z hm;refine ⟨?_,by simp [h2]⟩
       simp only [kL,aH,h1,(vO hy).2.2]
     · cases h
   · cases h
def T5 (n z:Nat)(w:W):Tree W:=match w with
 | .v (.ref (.agg (t::ts))) x=>if t.cs==z&&(t::ts).length==n then (Tree.lM (J0 t (t::ts) x)).bind fun l=>.leaf (.v (.sl t) l) else .fail
 | _=>.fail
theorem D3j {K:jC}{g:Nat}{d:Option Nat}{s:S2}{h:cq}{n z:Nat}{x:dO}{w w':W}(hw:cR (cS s) x=cW w)(e:(T5 n z w).den=some w') :
 cf K g d (cS s) h (.Bn n z x)=some (cW w',h):=by
 unfold T5 at e;split at e
 · rename_i t ts q;split at e
   · rename_i hc;simp only [ak,beq_iff_eq] at hc;simp only [Tree.den_bind,Tree.den_ofO,Tree.den_leaf] at e;obtain ⟨l,h1,rfl⟩:=e;obtain ⟨h2,h3⟩:=C3Z h1;simp only [cf,hw,cW,enc];rw [h2,if_pos ⟨by rw [aE,← h3,hc.2],JY t z hc.1 l⟩]
   · simp at e
 · simp at e
theorem C7J {K:jC}{g:Nat}{d:Option Nat}{s:S2}{h:cq}{x:dO}{lo hi:Option dO}{w w':W}{wl wh:Option W}
 (hw:cR (cS s) x=cW w) (hl:lo.map (cR (cS s))=wl.map cW) (hh:hi.map (cR (cS s))=wh.map cW) (e:(TY w wl wh).den=some w') :
 cf K g d (cS s) h (.ny x lo hi)=some (cW w',h):=by
 unfold TY at e;split at e
 · rename_i b hb;simp only [Tree.den_bind,Tree.den_leaf] at e;obtain ⟨⟨i,j⟩,h1,rfl⟩:=e;simp only [cf,hw,hl,hh,GX hb];rw [Oq h1];rfl
 · simp at e
theorem C7K {K:jC}{g:Nat}{d:Option Nat}{s:S2}{h:cq}{n z:Nat}{x y:dO}{w i w':W}(hw:cR (cS s) x=cW w)(hi:cR (cS s) y=cW i)(e:(T0 n z w i).den=some w') :
 cf K g d (cS s) h (.nz n z x y)=some (cW w',h):=by
 unfold T0 at e;split at e
 · rename_i l;split at e
   · rename_i k hk;split at e
     · rename_i m hm;split at e
       · rename_i hz;simp only [beq_iff_eq] at hz;subst hz;simp only [Tree.den_bind,Tree.dE,Tree.lT,Tree.den_leaf] at e;obtain ⟨j,h1,_,h2,v,h3,rfl⟩:=e;have hl:=C6n hm;subst hl;simp only [cf,hw,hi,Fl h1 (iD.mp h2),cW];have hj:j<m.length:=(aL.1 h3).1;rw [aN,h3];simp only [ar,← bO,C3Y,List.length_take];rw [if_pos (by omega)]
         rfl
       · simp at e
     · simp at e
   · simp at e
 · rename_i ts q;simp only [Tree.den_bind,Tree.den_leaf] at e;obtain ⟨v,h1,rfl⟩:=e;obtain ⟨k,h2,h3,h4⟩:=C6m h1;simp only [cf,hw,hi,h2,cW,enc];rw [h3];simp only;rw [if_pos h4]
 · simp only [Tree.den_bind,Tree.dE,Tree.den_leaf] at e;obtain ⟨k,h1,_,h2,rfl⟩:=e;simp only [cf,hw,hi,Fl h1 (iD.mp h2),cW];rw [Jy,Td];simp only [jc,vP,C9e,C9f,Nat.add_zero]
 · simp at e
theorem D3k {K:jC}{g:Nat}{d:Option Nat}{s:S2}{h:cq}{agg:Bool}{n z:Nat}{x y:dO}{w i w':W}(hw:cR (cS s) x=cW w)(hi:cR (cS s) y=cW i)(e:(T1 agg z n w i).den=some w') :
 cf K g d (cS s) h (.idx agg z n x y)=some (cW w',h):=by
 unfold T1 at e;split at e
 · rename_i ts q hp;simp only [Tree.den_bind] at e;obtain ⟨v,h1,e⟩:=e;split at e
   · rename_i hc;simp only [ak,beq_iff_eq] at hc;simp only [Tree.den_leaf] at e;subst e;obtain ⟨k,h2,h3,h4⟩:=C6m h1;simp only [cf,hw,hi,GV hp,enc,h2];rw [h3];simp only;rw [if_pos ⟨h4,(zI _ _).trans hc.1,(NT _ _).trans hc.2⟩];rfl
   · simp at e
 · simp at e
theorem D1p {K:jC}{g:Nat}{d:Option Nat}{s:S2}{h:cq}{x y:dO}{w i w':W}(hw:cR (cS s) x=cW w)(hi:cR (cS s) y=cW i)(e:(T4 w i).den=some w') :
 cf K g d (cS s) h (.sQ x y)=some (cW w',h):=by
 unfold T4 at e;split at e
 · rename_i b hb;simp only [Tree.den_bind,Tree.lT,Tree.den_leaf] at e;obtain ⟨k,h1,c,h2,rfl⟩:=e;have hk:k<b.size:=by
    obtain ⟨hk,_⟩:=Array.getElem?_eq_some_iff.1 h2;exact hk
   simp only [cf,hw,hi,GX hb,Fl h1 hk,h2];rfl
 · simp at e
end Go.Mid
