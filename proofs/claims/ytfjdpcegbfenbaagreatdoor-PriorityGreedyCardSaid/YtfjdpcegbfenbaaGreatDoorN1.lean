/- Typed values: codes of types, their values in Lean, and their pure values; decision trees. -/
import Derived.Test.YtfjdpcegbfenbaaGreatDoorM7
set_option linter.unusedSimpArgs false
set_option linter.unusedVariables false
open BitVec renaming ofInt → b8
open Bool renaming and_eq_true → aj, or_eq_true → cr
open List renaming map → ft, cons_append → aS, map_cons → aD, length → cq, take_of_length_le → a7, nil_append → a6, map_map → cm, length_cons → ba, mem_map → bj, getElem?_cons_succ → bJ, set_cons_zero → dN, set_cons_succ → ev, take_succ_cons → bS, getElem?_map → aH, map_take → bO, getElem?_eq_some_iff → aF, map_set → fa, map_append → b5, map_nil → cl, map_drop → fe, length_map → aB
open Nat renaming sub_self → gz, le_refl → ar, blt → cQ, blt_eq → ia, zero_le → dg, sub_zero → gy, zero_add → bR, ble → cR, ble_eq → cu, beq → iI, eq_of_beq_eq_true → ei
open Option renaming map → pn, map_some → ak, getD_none → cL
open Option.some renaming injEq → aa
open Prod.mk renaming injEq → ae
namespace Go.Mid
inductive Ty where
 | int (k:IntKind) | bool | str | sl (t:Ty) | agg (ts:List Ty) | ref (t:Ty) | fn (f:Nat) (ts:List Ty) | mp (k v:Ty) | eQ | ff | vec (z:Nat) (t:Ty) | mW (t:Ty)
 deriving Inhabited
def D49 (A R:Type):List Ty→Type
 | []=>A
 | _::_=>A×R
mutual
def El:Ty→Type
 | .int _=>Int
 | .bool=>Bool
 | .str=>ByteArray
 | .sl t=>List (El t)
 | .agg ts=>gM ts
 | .ref t=>El t
 | .fn _ ts=>gM ts
 | .mp k v=>List (El k×El v)
 | .eQ=>Unit
 | .ff=>Unit
 | .vec _ t=>List (El t)
 | .mW t=>Option (El t)
def gM:List Ty→Type
 | []=>Unit
 | t::r=>D49 (El t) (gM r) r
end
def n5 {t:Ty}:(r:List Ty)→gM (t::r)→El t
 | [],x=>x
 | _::_,x=>x.1
def pK {t:Ty}:(r:List Ty)→gM (t::r)→gM r
 | [],_=>()
 | _::_,x=>x.2
def r0 {t:Ty}:(r:List Ty)→El t→gM r→gM (t::r)
 | [],a,_=>a
 | _::_,a,b=>(a,b)
@[simp] theorem uh {t:Ty} (r:List Ty) (a:El t) (b:gM r):n5 r (r0 r a b)=a:=by cases r <;> rfl
@[simp] theorem ui {t:Ty} (r:List Ty) (a:El t) (b:gM r):pK r (r0 r a b)=b:=by cases r <;> rfl
def RP:Option PV→PV
 | none=>.eQ
 | some v=>.ref v
mutual
def enc:(t:Ty)→El t→PV
 | .mW t,x=>RP (pn (enc t) x)
 | .int k,x=>.int k x
 | .bool,x=>.bool x
 | .str,x=>.str x
 | .sl t,x=>.sl (ft (enc t) x)
 | .agg ts,x=>.agg (kz ts x)
 | .ref t,x=>.ref (enc t x)
 | .fn f ts,x=>.fn f (kz ts x)
 | .mp k v,x=>.mp (ft (fun p=>enc k p.1) x) (ft (fun p=>enc v p.2) x)
 | .eQ,_=>.eQ
 | .ff,_=>.ff
 | .vec _ t,x=>.sl (ft (enc t) x)
def kz:(ts:List Ty)→gM ts→List PV
 | [],_=>[]
 | t::r,x=>enc t (n5 r x)::kz r (pK r x)
end
mutual
def C7:(t:Ty)→El t
 | .int _=>(0:Int)
 | .bool=>false
 | .str=>(⟨#[]⟩:ByteArray)
 | .sl _=>[]
 | .agg ts=>MZ ts
 | .ref t=>C7 t
 | .fn _ ts=>MZ ts
 | .mp _ _=>[]
 | .eQ=>()
 | .ff=>()
 | .vec _ _=>[]
 | .mW _=>none
def MZ:(ts:List Ty)→gM ts
 | []=>()
 | t::r=>r0 r (C7 t) (MZ r)
end
mutual
def Ty.cs:Ty→Nat
 | .agg l=>Ty.da l
 | _=>1
def Ty.da:List Ty→Nat
 | []=>0
 | x::xs=>x.cs + Ty.da xs
end
def Ty.isAgg:Ty→Bool | .agg _=>true | _=>false
mutual
def Ty.pure:Ty→Bool
 | .vec ..=>false
 | .agg l=>Ty.uj l
 | _=>true
def Ty.uj:List Ty→Bool
 | []=>true
 | x::xs=>x.pure && Ty.uj xs
end
mutual
theorem zr:∀ (t:Ty) (x:El t),(enc t x).cs=t.cs
 | .mW t,x=>by
   have h:∀ y:Option (El t),(RP (y.map (enc t))).cs=1:=fun y=>by cases y <;> rfl
   exact h x
 | .agg ts,x=>by simp only [enc,PV.cs,Ty.cs]; exact YO ts x
 | .int _,_ | .bool,_ | .str,_ | .sl _,_ | .ref _,_ | .fn _ _,_ | .mp _ _,_ | .eQ,_ | .ff,_ | .vec _ _,_=>rfl
theorem YO:∀ (ts:List Ty) (x:gM ts),PV.da (kz ts x)=Ty.da ts
 | [],_=>rfl
 | t::r,x=>by simp only [kz,PV.da,Ty.da]; rw [zr t,YO r]
end
@[simp] theorem M0:∀ (t:Ty) (x:El t),(enc t x).isAgg=t.isAgg
  | .mW t,x=>by
    have h:∀ y:Option (El t),(RP (y.map (enc t))).isAgg=false:=fun y=>by cases y <;> rfl
    exact h x
  | .agg ts,x=>rfl
  | .int _,_ | .bool,_ | .str,_ | .sl _,_ | .ref _,_ | .fn _ _,_ | .mp _ _,_ | .eQ,_ | .ff,_ | .vec _ _,_=>rfl
mutual
def Ty.eq:Ty→Ty→Bool
 | .int k,.int l=>k == l
 | .bool,.bool=>true
 | .str,.str=>true
 | .sl t,.sl u=>Ty.eq t u
 | .agg l,.agg m=>Ty.eqs l m
 | .ref t,.ref u=>Ty.eq t u
 | .fn f l,.fn g m=>f == g && Ty.eqs l m
 | .mp k v,.mp l w=>Ty.eq k l && Ty.eq v w
 | .eQ,.eQ=>true
 | .ff,.ff=>true
 | .vec z t,.vec y u=>z == y && Ty.eq t u
 | .mW t,.mW u=>Ty.eq t u
 | _,_=>false
def Ty.eqs:List Ty→List Ty→Bool
 | [],[]=>true
 | t::r,u::q=>Ty.eq t u && Ty.eqs r q
 | _,_=>false
end
mutual
theorem Ty.oT:∀ t u,Ty.eq t u=true→t=u
 | .int k,u,h=>by cases u <;> simp [Ty.eq] at h; rw [h]
 | .bool,u,h=>by cases u <;> simp [Ty.eq] at h; rfl
 | .str,u,h=>by cases u <;> simp [Ty.eq] at h; rfl
 | .eQ,u,h=>by cases u <;> simp [Ty.eq] at h; rfl
 | .ff,u,h=>by cases u <;> simp [Ty.eq] at h; rfl
 | .sl t,u,h=>by cases u <;> simp [Ty.eq] at h; rw [Ty.oT t _ h]
 | .ref t,u,h=>by cases u <;> simp [Ty.eq] at h; rw [Ty.oT t _ h]
 | .mW t,u,h=>by cases u <;> simp [Ty.eq] at h; rw [Ty.oT t _ h]
 | .agg l,u,h=>by cases u <;> simp [Ty.eq] at h; rw [Ty.vB l _ h]
 | .fn f l,u,h=>by cases u <;> simp [Ty.eq] at h; rw [h.1,Ty.vB l _ h.2]
 | .mp k v,u,h=>by cases u <;> simp [Ty.eq] at h; rw [Ty.oT k _ h.1,Ty.oT v _ h.2]
 | .vec z t,u,h=>by cases u <;> simp [Ty.eq] at h; rw [h.1,Ty.oT t _ h.2]
theorem Ty.vB:∀ t u,Ty.eqs t u=true→t=u
 | [],u,h=>by cases u <;> simp [Ty.eqs] at h; rfl
 | t::r,u,h=>by cases u <;> simp [Ty.eqs] at h; rw [Ty.oT t _ h.1,Ty.vB r _ h.2]
end
def rI {t:Ty} (u:Ty) (x:El t):Option (El u):=if h:Ty.eq t u=true then some (cast (congrArg El (Ty.oT t u h)) x) else none
theorem vC {t u:Ty} {x:El t} {y:El u} (h:rI u x=some y):t=u∧HEq x y∧enc t x=enc u y:=by
 unfold rI at h;split at h
 · rename_i e;have e:=Ty.oT t u e;subst e;simp only [cast_eq,aa] at h;subst h;exact ⟨rfl,HEq.rfl,rfl⟩
 · cases h
def RQ (k:IntKind):PV→Option Int | .int l n=>if k == l then some n else none | _=>none
def RR:PV→Option Bool | .bool b=>some b | _=>none
def RS:PV→Option ByteArray | .str b=>some b | _=>none
mutual
def dec:(t:Ty)→PV→Option (El t)
 | .int k,v=>RQ k v
 | .bool,v=>RR v
 | .str,v=>RS v
 | .sl t,v=>match v with | .sl []=>some ([]:List (El t)) | _=>none
 | .agg ts,v=>match v with | .agg l=>BX ts l | _=>none
 | .eQ,v=>match v with | .eQ=>some () | _=>none
 | .ff,v=>match v with | .ff=>some () | _=>none
 | .fn f ts,v=>match v with | .fn g l=>if f == g then BX ts l else none | _=>none
 | .mp k w,v=>match v with | .mp [] []=>some ([]:List (El k×El w)) | _=>none
 | .ref _,_=>none
 | .vec _ _,_=>none
 | .mW t,v=>match v with | .eQ=>some (none:Option (El t)) | _=>none
def BX:(ts:List Ty)→List PV→Option (gM ts)
 | [],l=>match l with | []=>some () | _::_=>none
 | t::r,l=>match l with
   | []=>none
   | v::q=>match dec t v,BX r q with | some a,some b=>some (r0 r a b) | _,_=>none
end
theorem D1U (k:IntKind) (v:PV):dec (.int k) v=RQ k v:=by rfl
theorem C94 (v:PV):dec .bool v=RR v:=by rfl
theorem D1V (v:PV):dec .str v=RS v:=by rfl
mutual
theorem EP:∀ (t:Ty) (v:PV) (x:El t),dec t v=some x→enc t x=v
 | .int k,v,x,h=>by
   rw [D1U] at h;cases v <;> simp only [RQ,reduceCtorEq] at h;split at h
   · rename_i e; cases h; simp only [beq_iff_eq] at e; subst e; rfl
   · cases h
 | .bool,v,x,h=>by rw [C94] at h; cases v <;> simp only [RR,reduceCtorEq] at h; cases h; rfl
 | .str,v,x,h=>by rw [D1V] at h; cases v <;> simp only [RS,reduceCtorEq] at h; cases h; rfl
 | .eQ,v,x,h=>by cases v <;> first | rfl | cases h
 | .ff,v,x,h=>by cases v <;> first | rfl | cases h
 | .ref t,v,x,h=>by cases h
 | .mW t,v,x,h=>by cases v <;> first | (cases h; rfl) | cases h
 | .vec z t,v,x,h=>by cases h
 | .sl t,v,x,h=>by
   cases v <;> first | cases h | skip
   rename_i l;cases l <;> cases h;rfl
 | .mp k w,v,x,h=>by
   cases v <;> first | cases h | skip
   rename_i l m;cases l <;> cases m <;> cases h;rfl
 | .agg ts,v,x,h=>by
   cases v <;> first | cases h | skip
   rename_i l;have h:BX ts l=some x:=h;show PV.agg (kz ts x)=_;rw [RT ts _ x h]
 | .fn f ts,v,x,h=>by
   cases v <;> first | cases h | skip
   rename_i g l;by_cases e:(f == g)=true
   · have h1:dec (.fn f ts) (.fn g l)=BX ts l:=if_pos e;have h2:BX ts l=some x:=h1.symm.trans h;simp only [beq_iff_eq] at e; subst e;show PV.fn f (kz ts x)=_;rw [RT ts _ x h2]
   · have h1:dec (.fn f ts) (.fn g l)=none:=if_neg e;rw [h1] at h; cases h
theorem RT:∀ (ts:List Ty) (l:List PV) (x:gM ts),BX ts l=some x→kz ts x=l
 | [],l,x,h=>by
   cases l with
   | nil=>rfl
   | cons v q=>cases h
 | t::r,l,x,h=>by
   cases l with
   | nil=>cases h
   | cons v q =>
     have h:(match dec t v,BX r q with | some a,some b=>some (r0 r a b) | _,_=>none)=some x:=h
     cases h1:dec t v with
     | none=>rw [h1] at h; cases h
     | some a =>
       cases h2:BX r q with
       | none=>rw [h1,h2] at h; cases h
       | some b =>
         rw [h1,h2] at h;cases h;show enc t (n5 r (r0 r a b))::kz r (pK r (r0 r a b))=_;rw [uh,ui,EP t v a h1,RT r q b h2]
end
def RU:PV→Option Ty
 | .int k _=>some (.int k)
 | .bool _=>some .bool
 | .str _=>some .str
 | .agg l=>match ER l with | some ts=>some (.agg ts) | none=>none
 | .fn f l=>match ER l with | some ts=>some (.fn f ts) | none=>none
 | .eQ=>some .eQ
 | .ff=>some .ff
 | _=>none
where ER:List PV→Option (List Ty)
 | []=>some []
 | x::r=>match RU x,ER r with | some t,some ts=>some (t::ts) | _,_=>none
inductive Tree (α:Type):Type 1 where
 | fail
 | leaf (a:α)
 | ite (c:Bool) (x y:Tree α)
 | opt {A:Type} (d:A) (o:Option A) (k:A→Tree α)
 | sum {A B:Type} (d:A) (e:B) (o:A ⊕ B) (k:A→Tree α) (l:B→Tree α)
namespace Tree
def den {α:Type}:Tree α→Option α
 | fail=>none
 | leaf a=>some a
 | ite c x y=>bif c then x.den else y.den
 | opt _ o k=>o.bind fun a=>(k a).den
 | sum _ _ o k l=>Sum.elim (fun a=>(k a).den) (fun b=>(l b).den) o
def bind {α β:Type}:Tree α→(α→Tree β)→Tree β
 | fail,_=>fail
 | leaf a,f=>f a
 | ite c x y,f=>ite c (x.bind f) (y.bind f)
 | opt d o k,f=>opt d o (fun a=>(k a).bind f)
 | sum d e o k l,f=>sum d e o (fun a=>(k a).bind f) (fun b=>(l b).bind f)
theorem den_bind {α β:Type} (t:Tree α) (f:α→Tree β) (r:β):(t.bind f).den=some r↔∃ a,t.den=some a∧(f a).den=some r:=by
 induction t with
 | fail=>simp [bind,den]
 | leaf a=>simp [bind,den]
 | ite c x y hx hy=>cases c <;> simp [bind,den,hx,hy]
 | opt d o k ih=>cases o <;> simp [bind,den,ih]
 | sum d e o k l ih1 PK=>cases o <;> simp [bind,den,ih1,PK]
def leaves {α:Type}:Tree α→List α
 | fail=>[]
 | leaf a=>[a]
 | ite _ x y=>x.leaves++y.leaves
 | opt d _ k=>(k d).leaves
 | sum d e _ k l=>(k d).leaves++(l e).leaves
def Jh (b:Bool):Tree Unit:=match b with | true=>leaf () | false=>fail
def ask (b:Bool):Tree Unit:=ite b (leaf ()) fail
def lC {α:Type}:Option α→Tree α
 | none=>fail
 | some a=>leaf a
@[simp] theorem den_leaf {α:Type} (a r:α):(leaf a).den=some r↔a=r:=by simp [den]
@[simp] theorem lZ {α:Type} (r:α):(fail:Tree α).den=some r↔False:=by simp [den]
@[simp] theorem wD (b:Bool) (r:Unit):(Jh b).den=some r↔b=true:=by cases b <;> simp [Jh,den]
@[simp] theorem dB (b:Bool) (r:Unit):(ask b).den=some r↔b=true:=by cases b <;> simp [ask,den]
@[simp] theorem den_ofO {α:Type} (o:Option α) (r:α):(lC o).den=some r↔o=some r:=by cases o <;> simp [lC,den]
theorem oB {α:Type} (c:Bool) (x y:Tree α) (r:α):(ite c x y).den=some r↔(c=true∧x.den=some r)∨(c=false∧y.den=some r):=by cases c <;> simp [den]
theorem lJ {α A:Type} (d:A) (o:Option A) (k:A→Tree α) (r:α):(opt d o k).den=some r↔∃ a,o=some a∧(k a).den=some r:=by cases o <;> simp [den]
end Tree
end Go.Mid
namespace Go.Mid
inductive Step where
 | f (i o:Nat) | k (i z:Nat)
def Step.ix:Step→Nat | .f i _=>i | .k i _=>i
def Step.of:Step→Nat | .f _ o=>o | .k i z=>i * z
def iN:List Step→List Nat
 | []=>[]
 | x::r=>x.ix::iN r
def vD:List Step→Nat
 | []=>0
 | x::r=>x.of + vD r
theorem Ji:∀ p q:List Step,iN (p++q)=iN p++iN q
 | [],q=>rfl
 | x::r,q=>by simp only [aS,iN,Ji r q]
theorem RW:∀ p q:List Step,vD (p++q)=vD p + vD q
 | [],q=>by simp [vD]
 | x::r,q=>by simp only [aS,vD,RW r q]; omega
inductive W where
 | c (v:PV)
 | v (t:Ty) (x:El t)
 | nil (z:Nat)
 | own (id:Nat) (path:List Step) (off:Option Nat) (len g:Nat)
 | ptr (id:Nat) (np:Option (List Step)) (rp:List Step) (g:Nat)
 | fy (id:Nat) (path:List Step) (g:Nat)
 | agg (l:List W)
 | fn (f:Nat) (iR:List W)
 | eJ (l:List W)
 | dead (n:Nat)
instance:Inhabited W:=⟨.dead 0⟩
def xk:Option (List Step)→Option (List Nat)
 | none=>none
 | some p=>some (iN p)
mutual
def cW:W→MV
 | .c v=>.p v
 | .v t x=>.p (enc t x)
 | .nil z=>.nil z
 | .own id path off len g=>.own id (iN path) (off.getD 0) len g
 | .ptr id np rp g=>.ptr id (xk np) (iN rp) g (vD rp)
 | .fy id path g=>.fy id (iN path) g
 | .agg l=>.agg (mP l)
 | .fn f l=>.fn f (mP l)
 | .eJ l=>.eJ (mP l)
 | .dead n=>.dead n
def mP:List W→List MV
 | []=>[]
 | x::r=>cW x::mP r
end
theorem sU:∀ l:List W,mP l=l.map cW
 | []=>rfl
 | x::r=>by simp only [mP,aD,sU r]
mutual
def je (s:Nat):(t:Ty)→El t→T Nat
 | .vec z t,x=>.vec s z (ft (je s t) x) (cq x)
 | .agg ts,x=>jY (mo s ts x)
 | .int k,x=>.p (enc (.int k) x)
 | .bool,x=>.p (enc .bool x)
 | .str,x=>.p (enc .str x)
 | .sl t,x=>.p (enc (.sl t) x)
 | .ref t,x=>.p (enc (.ref t) x)
 | .mW t,x=>.p (enc (.mW t) x)
 | .fn f ts,x=>.p (enc (.fn f ts) x)
 | .mp k v,x=>.p (enc (.mp k v) x)
 | .eQ,x=>.p (enc .eQ x)
 | .ff,x=>.p (enc .ff x)
def mo (s:Nat):(ts:List Ty)→gM ts→List (T Nat)
 | [],_=>[]
 | t::r,x=>je s t (n5 r x)::mo s r (pK r x)
end
theorem RX {α:Type}:∀ {l:List (T α)} {vs:List PV},mh l=some vs→l=vs.map T.p
 | [],vs,h=>by simp only [mh,aa] at h; subst h; rfl
 | .p v::r,vs,h=>by
   simp only [mh] at h;cases h1:mh r with
   | none=>rw [h1] at h; cases h
   | some l=>rw [h1] at h; cases h; rw [RX h1]; rfl
 | .m _::_,vs,h | .agg _::_,vs,h | .vec ..::_,vs,h | .mp ..::_,vs,h | .hole _::_,vs,h=>by simp [mh] at h
theorem RY {α:Type}:∀ vs:List PV,mh (vs.map (T.p (α:=α)))=some vs
 | []=>rfl
 | v::r=>by simp only [aD,mh,RY r]
theorem xX {α:Type} (l:List (T α)):(∃ vs,l=vs.map T.p∧jY l=.p (.agg vs))∨jY l=.agg l:=by
 unfold jY;cases h:mh l with
 | none=>exact .inr rfl
 | some vs=>exact .inl ⟨vs,RX h,rfl⟩
theorem RZ {α:Type}:∀ vs:List PV,T.da (vs.map (T.p (α:=α)))=PV.da vs
 | []=>rfl
 | v::r=>by simp only [aD,T.da,T.cs,PV.da,RZ r]
theorem YP {α:Type} (l:List (T α)):(jY l).cs=T.da l:=by
 rcases xX l with ⟨vs,rfl,h⟩ | h
 · rw [h,RZ]; rfl
 · rw [h]; rfl
mutual
theorem Jj (s:Nat):∀ (t:Ty) (x:El t),(je s t x).cs=t.cs
 | .mW t,x=>zr (.mW t) x
 | .agg ts,x=>by simp only [je,YP,Ty.cs]; exact YQ s ts x
 | .int _,_ | .bool,_ | .str,_ | .sl _,_ | .ref _,_ | .fn _ _,_ | .mp _ _,_ | .eQ,_ | .ff,_ | .vec _ _,_=>rfl
theorem YQ (s:Nat):∀ (ts:List Ty) (x:gM ts),T.da (mo s ts x)=Ty.da ts
 | [],_=>rfl
 | t::r,x=>by simp only [mo,T.da,Ty.da]; rw [Jj s t,YQ s r]
end
mutual
theorem rJ (s:Nat):∀ (t:Ty) (x:El t),t.pure=true→je s t x=.p (enc t x)
 | .agg ts,x,h=>by
   simp only [je,enc];rw [YR s ts x h];simp only [jY,RY]
 | .int _,_,_ | .bool,_,_ | .str,_,_ | .sl _,_,_ | .ref _,_,_ | .fn _ _,_,_ | .mp _ _,_,_ | .eQ,_,_ | .ff,_,_ | .mW _,_,_=>rfl
 | .vec _ _,_,h=>by simp [Ty.pure] at h
theorem YR (s:Nat):∀ (ts:List Ty) (x:gM ts),Ty.uj ts=true→mo s ts x=(kz ts x).map T.p
 | [],_,_=>rfl
 | t::r,x,h=>by
   simp only [Ty.uj,aj] at h;simp only [mo,kz,aD];rw [rJ s t _ h.1,YR s r _ h.2]
end
theorem YS:∀ vs:List PV,kZ (vs.map T.p)=some vs
 | []=>rfl
 | v::r=>by simp only [aD,kZ,sG,YS r]
theorem YT (l:List (T Nat)):sG (jY l)=match kZ l with | some vs=>some (.agg vs) | none=>none:=by
 rcases xX l with ⟨vs,rfl,h⟩ | h
 · rw [h,YS]; rfl
 · rw [h]; rfl
mutual
theorem M1 (s:Nat):∀ (t:Ty) (x:El t),sG (je s t x)=some (enc t x)
 | .agg ts,x=>by simp only [je,YT,YU s ts x]; rfl
 | .vec z t,x=>by
   have h:∀ l:List (El t),kZ (l.map (je s t))=some (l.map (enc t)):=by
    intro l
    induction l with
    | nil=>rfl
    | cons a r ih=>simp only [aD,kZ,M1 s t a,ih]
   have key:∀ l:List (El t),(match kZ (l.map (je s t)) with | some vs=>some (PV.sl (vs.take l.length)) | none=>none)=some (PV.sl (l.map (enc t))):=by
    intro l;rw [h];simp only;rw [a7 (by simp)]
   exact key x
 | .int _,_ | .bool,_ | .str,_ | .sl _,_ | .ref _,_ | .fn _ _,_ | .mp _ _,_ | .eQ,_ | .ff,_ | .mW _,_=>rfl
theorem YU (s:Nat):∀ (ts:List Ty) (x:gM ts),kZ (mo s ts x)=some (kz ts x)
 | [],_=>rfl
 | t::r,x=>by simp only [mo,kz,kZ]; rw [M1 s t,YU s r]
end
theorem zu (φ:MV→MV) (ζ:Nat→Nat):∀ l:List (T Nat),jw φ ζ l=l.map (iS φ ζ)
 | []=>rfl
 | x::r=>by simp only [jw,aD,zu φ ζ r]
theorem D1W (φ:MV→MV) (ζ:Nat→Nat) (l:List (T Nat)) (h:∀ t ∈ l,∀ v,t ≠ .m v):iS φ ζ (jY l)=jY (l.map (iS φ ζ)):=by
 have hp:∀ l:List (T Nat),(∀ t ∈ l,∀ v,t ≠ T.m v)→mh (l.map (iS φ ζ))=mh l:=by
  intro l h
  induction l with
  | nil=>rfl
  | cons a r ih =>
    have ih:=ih (fun t ht=>h t (by simp [ht]))
    cases a with
    | p v=>simp only [aD,iS,mh,ih]
    | m v=>exact absurd rfl (h _ (by simp) v)
    | _=>rfl
 unfold jY;rw [hp l h];cases mh l with
 | none=>simp only [iS,zu]
 | some vs=>rfl
mutual
theorem D1X (s:Nat):∀ (t:Ty) (x:El t) (v:MV),je s t x ≠ .m v
 | .agg ts,x,v=>by
   simp only [je];rcases xX (mo s ts x) with ⟨vs,_,h⟩ | h <;> rw [h] <;> simp
 | .int _,_,_ | .bool,_,_ | .str,_,_ | .sl _,_,_ | .ref _,_,_ | .fn _ _,_,_ | .mp _ _,_,_ | .eQ,_,_ | .ff,_,_ | .vec _ _,_,_ | .mW _,_,_=>by simp [je]
end
theorem YV (s:Nat):∀ (ts:List Ty) (x:gM ts),∀ u ∈ mo s ts x,∀ v,u ≠ .m v
 | [],_,u,h=>by simp [mo] at h
 | t::r,x,u,h=>by
   simp only [mo,List.mem_cons] at h;rcases h with rfl | h
   · exact D1X s t _
   · exact YV s r _ u h
mutual
theorem M3 (φ:MV→MV) (ζ:Nat→Nat) (s:Nat):∀ (t:Ty) (x:El t),iS φ ζ (je s t x)=je (ζ s) t x
 | .agg ts,x=>by
   simp only [je];rw [D1W _ _ _ (YV s ts x),← zu,YW φ ζ s ts x]
 | .vec z t,x=>by
   have h:∀ l:List (El t),jw φ ζ (l.map (je s t))=l.map (je (ζ s) t):=by
    intro l
    induction l with
    | nil=>rfl
    | cons a r ih=>simp only [aD,jw,M3 φ ζ s t a,ih]
   have key:∀ l:List (El t),T.vec (ζ s) z (jw φ ζ (l.map (je s t))) l.length=T.vec (ζ s) z (l.map (je (ζ s) t)) l.length:=by
    intro l;rw [h]
   exact key x
 | .int _,_ | .bool,_ | .str,_ | .sl _,_ | .ref _,_ | .fn _ _,_ | .mp _ _,_ | .eQ,_ | .ff,_ | .mW _,_=>rfl
theorem YW (φ:MV→MV) (ζ:Nat→Nat) (s:Nat):∀ (ts:List Ty) (x:gM ts),jw φ ζ (mo s ts x)=mo (ζ s) ts x
 | [],_=>rfl
 | t::r,x=>by simp only [mo,jw]; rw [M3 φ ζ s t,YW φ ζ s r]
end
theorem R0:∀ vs:List PV,oN (vs.map (T.p (α:=Nat)))=[]
 | []=>rfl
 | v::r=>by simp only [aD,oN,tg,R0 r,a6]
theorem YX (l:List (T Nat)):tg (jY l)=oN l:=by
 rcases xX l with ⟨vs,rfl,h⟩ | h
 · rw [h,R0]; rfl
 · rw [h]; rfl
mutual
theorem M4 (s:Nat):∀ (t:Ty) (x:El t),tg (je s t x)=[]
 | .agg ts,x=>by simp only [je,YX]; exact YY s ts x
 | .vec z t,x=>by
   have h:∀ l:List (El t),oN (l.map (je s t))=[]:=by
    intro l
    induction l with
    | nil=>rfl
    | cons a r ih=>simp only [aD,oN,M4 s t a,ih,a6]
   show oN (ft (je s t) x)=_;exact h x
 | .int _,_ | .bool,_ | .str,_ | .sl _,_ | .ref _,_ | .fn _ _,_ | .mp _ _,_ | .eQ,_ | .ff,_ | .mW _,_=>rfl
theorem YY (s:Nat):∀ (ts:List Ty) (x:gM ts),oN (mo s ts x)=[]
 | [],_=>rfl
 | t::r,x=>by simp only [mo,oN]; rw [M4 s t,YY s r]; rfl
end
theorem YZ (s:Nat) (t:Ty):∀ l:List (El t),oN (l.map (je s t))=[]
 | []=>rfl
 | a::r=>by simp only [aD,oN,M4 s t a,YZ s t r,a6]
theorem C6w (φ:MV→MV) (ζ:Nat→Nat) (s:Nat) (t:Ty) (l:List (El t)):jw φ ζ (l.map (je s t))=l.map (je (ζ s) t):=by
 rw [zu,cm];congr 1;funext x;exact M3 φ ζ s t x
theorem M5 (s:Nat) (t:Ty):∀ l:List (El t),kZ (l.map (je s t))=some (l.map (enc t))
 | []=>rfl
 | a::r=>by simp only [aD,kZ,M1 s t a,M5 s t r]
mutual
inductive T2 where
 | e (s:Nat) (t:Ty) (x:El t)
 | w (v:W)
 | agg (l:List T2)
 | vec (g z:Nat) (l:SL) (n:Nat)
 | hole (n:Nat)
inductive SL where
 | base (s:Nat) (t:Ty) (l:List (El t))
 | set (a:SL) (i:Nat) (u:T2)
 | app (a:SL) (u:T2)
end
instance:Inhabited T2:=⟨.hole 0⟩
inductive O2 where
 | cell (g:Nat) (t:T2)
 | vec (g z:Nat) (l:SL)
 | mp (g:Nat) (k v:Ty) (l:List (El k×El v))
 | gone
instance:Inhabited O2:=⟨.gone⟩
mutual
def cT:T2→T Nat
 | .e s t x=>je s t x
 | .w v=>.m (cW v)
 | .agg l=>jY (iU l)
 | .vec g z l n=>.vec g z (eP l) n
 | .hole n=>.hole n
def iU:List T2→List (T Nat)
 | []=>[]
 | x::r=>cT x::iU r
def eP:SL→List (T Nat)
 | .base s t l=>l.map (je s t)
 | .set a i u=>(eP a).set i (cT u)
 | .app a u=>eP a++[cT u]
end
def cO:O2→Obj Nat
 | .cell g t=>.cell g (cT t)
 | .vec g z l=>.vec g z (eP l)
 | .mp g k v l=>.mp g (l.map fun p=>enc k p.1) (l.map fun p=>.p (enc v p.2))
 | .gone=>.gone
theorem zw:∀ l:List T2,iU l=l.map cT
 | []=>rfl
 | x::r=>by simp only [iU,aD,zw r]
def SL.len:SL→Nat
 | .base _ _ l=>l.length
 | .set a _ _=>a.len
 | .app a _=>a.len + 1
theorem SL.jN:∀ a:SL,(eP a).length=a.len
 | .base _ _ l=>by simp [eP,SL.len]
 | .set a i u=>by simp only [eP,List.length_set,SL.len]; exact SL.jN a
 | .app a u=>by simp only [eP,List.length_append,ba,List.length_nil,SL.len]; rw [SL.jN a]
abbrev S2:=List (Nat×W)
abbrev H2:=List (Nat×O2)
def uk:S2→Nat→W
 | [],_=>.dead 0
 | (j,v)::r,k=>if k == j then v else uk r k
def oJ:H2→Nat→Option O2
 | [],_=>none
 | (j,v)::r,k=>if k == j then some v else oJ r k
def eS {α:Type}:List (Nat×α)→Nat→α→List (Nat×α)
 | [],k,v=>[(k,v)]
 | (j,u)::r,k,v=>if k == j then (k,v)::r else (j,u)::eS r k v
def sA:S2→List (Nat×MV)
 | []=>[]
 | (j,v)::r=>(j,cW v)::sA r
def oC:H2→List (Nat×Obj Nat)
 | []=>[]
 | (j,v)::r=>(j,cO v)::oC r
abbrev cS (s:S2):gD:=qJ (sA s)
abbrev cH (h:H2):cj:=mi (oC h)
theorem AN:∀ (s:S2) (k:Nat),cS s k=cW (uk s k)
 | [],k=>rfl
 | (j,v)::r,k=>by
   show qJ ((j,cW v)::sA r) k=cW (if k == j then v else uk r k)
   rw [C9X];by_cases h:k=j
   · simp [h]
   · rw [if_neg h,if_neg (by simpa using h)]; exact AN r k
theorem BZ:∀ (h:H2) (k:Nat),cH h k=(oJ h k).map cO
 | [],k=>rfl
 | (j,v)::r,k=>by
   show mi ((j,cO v)::oC r) k=pn cO (if k == j then some v else oJ r k)
   rw [zq];by_cases h:k=j
   · simp [h]
   · rw [if_neg h,if_neg (by simpa using h)]; exact BZ r k
theorem Y0:∀ (s:S2) (k:Nat) (v:W),sA (eS s k v)=wC (sA s) k (cW v)
 | [],k,v=>rfl
 | (j,u)::r,k,v=>by
   simp only [eS,sA,wC];by_cases h:k=j
   · simp [h,sA]
   · rw [if_neg h,if_neg (by simpa using h)]; simp only [sA,Y0 r k v]
theorem Y1:∀ (s:H2) (k:Nat) (v:O2),oC (eS s k v)=wC (oC s) k (cO v)
 | [],k,v=>rfl
 | (j,u)::r,k,v=>by
   simp only [eS,oC,wC];by_cases h:k=j
   · simp [h,oC]
   · rw [if_neg h,if_neg (by simpa using h)]; simp only [oC,Y1 r k v]
theorem p6 (h:H2) (k:Nat) (o:O2):cz (cH h) k (some (cO o))=cH (eS h k o):=by
 rw [YJ,← Y1]
theorem C8 (s:S2) (k:Nat) (v:W):cz (cS s) k (cW v)=cS (eS s k v):=by
 rw [D1R,← Y0]
mutual
def GB:W→Nat
 | .c p=>p.cs
 | .v t _=>t.cs
 | .agg l=>Jk l
 | .eJ _=>0
 | .dead n=>n
 | .nil _ | .own .. | .ptr .. | .fy .. | .fn ..=>1
def Jk:List W→Nat
 | []=>0
 | x::r=>GB x + Jk r
end
mutual
theorem M6:∀ w:W,(cW w).cs=GB w
 | .c p=>rfl
 | .v t x=>zr t x
 | .agg l=>by simp only [cW,MV.cs,GB]; exact R1 l
 | .eJ _=>rfl
 | .dead n=>rfl
 | .nil _ | .own .. | .ptr .. | .fy .. | .fn ..=>rfl
theorem R1:∀ l:List W,MV.da (mP l)=Jk l
 | []=>rfl
 | x::r=>by simp only [mP,MV.da,Jk]; rw [M6 x,R1 r]
end
def Y2:W→Bool
 | .dead _ | .eJ _=>false
 | _=>true
theorem C95 (w:W):rQ (cW w)=Y2 w:=by cases w <;> rfl
def M7:W→Bool
 | .c p=>p.isAgg
 | .v t _=>t.isAgg
 | .agg _=>true
 | _=>false
theorem Y3 (w:W):(cW w).isAgg=M7 w:=by
 cases w <;> simp only [cW,M7] <;> first | rfl | exact M0 _ _
mutual
def GC:W→List Nat
 | .own id .. | .ptr id .. | .fy id ..=>[id]
 | .agg l | .fn _ l | .eJ l=>xY l
 | _=>[]
def xY:List W→List Nat
 | []=>[]
 | x::r=>GC x++xY r
end
mutual
theorem R3:∀ w:W,jZ (cW w)=GC w
 | .own .. | .ptr .. | .fy .. | .c _ | .v _ _ | .nil _ | .dead _=>rfl
 | .agg l | .fn _ l | .eJ l=>by simp only [cW,jZ,GC]; exact GD l
theorem GD:∀ l:List W,mu (mP l)=xY l
 | []=>rfl
 | x::r=>by simp only [mP,mu,xY]; rw [R3 x,GD r]
end
mutual
def xl:T2→Option (List Nat)
 | .e ..=>some []
 | .hole _=>some []
 | .w v=>some (GC v)
 | .agg l=>GF l
 | .vec _ _ l _=>if ES l then some [] else none
def GF:List T2→Option (List Nat)
 | []=>some []
 | x::r=>match xl x,GF r with | some a,some b=>some (a++b) | _,_=>none
def ES:SL→Bool
 | .base ..=>true
 | .set a _ u=>ES a && (match xl u with | some []=>true | _=>false)
 | .app a u=>ES a && (match xl u with | some []=>true | _=>false)
end
def Jl:O2→Option (List Nat)
 | .cell _ t=>xl t
 | .vec _ _ l=>if ES l then some [] else none
 | .mp ..=>some []
 | .gone=>some []
theorem R4 {l:List (T Nat)}:oN l=[]↔∀ t ∈ l,tg t=[]:=by
 induction l with
 | nil=>simp [oN]
 | cons a r ih=>simp [oN,ih]
mutual
theorem M8:∀ (t:T2) (l:List Nat),xl t=some l→tg (cT t)=l
 | .e s t x,l,h=>by simp only [xl,aa] at h; subst h; exact M4 s t x
 | .hole _,l,h=>by simp only [xl,aa] at h; subst h; rfl
 | .w v,l,h=>by simp only [xl,aa] at h; subst h; exact R3 v
 | .agg q,l,h=>by
   simp only [xl] at h;simp only [cT,YX]; exact Y4 q l h
 | .vec g z q n,l,h=>by
   simp only [xl] at h;split at h
   · rename_i hf; cases h; exact M9 q hf
   · cases h
theorem Y4:∀ (q:List T2) (l:List Nat),GF q=some l→oN (iU q)=l
 | [],l,h=>by simp only [GF,aa] at h; subst h; rfl
 | x::r,l,h=>by
   simp only [GF] at h;cases h1:xl x with
   | none=>rw [h1] at h; cases h
   | some a =>
     cases h2:GF r with
     | none=>rw [h1,h2] at h; cases h
     | some b =>
       rw [h1,h2] at h;cases h;simp only [iU,oN];rw [M8 x a h1,Y4 r b h2]
theorem M9:∀ q:SL,ES q=true→oN (eP q)=[]
 | .base s t l,_=>YZ s t l
 | .set a i u,h=>by
   simp only [ES,aj] at h;obtain ⟨h1,h2⟩:=h;have h3:=M9 a h1;have h4:tg (cT u)=[]:=by
    cases hu:xl u with
    | none=>rw [hu] at h2; cases h2
    | some l =>
      cases l with
      | nil=>exact M8 u [] hu
      | cons _ _=>rw [hu] at h2; cases h2
   rw [R4] at h3 ⊢;intro t ht;simp only [eP] at ht;rcases List.mem_or_eq_of_mem_set ht with ht | ht
   · exact h3 t ht
   · rw [ht,h4]
 | .app a u,h=>by
   simp only [ES,aj] at h;obtain ⟨h1,h2⟩:=h;have h3:=M9 a h1;have h4:tg (cT u)=[]:=by
    cases hu:xl u with
    | none=>rw [hu] at h2; cases h2
    | some l =>
      cases l with
      | nil=>exact M8 u [] hu
      | cons _ _=>rw [hu] at h2; cases h2
   rw [R4] at h3 ⊢;intro t ht;simp only [eP,List.mem_append,List.mem_singleton] at ht;rcases ht with ht | ht
   · exact h3 t ht
   · rw [ht,h4]
end
theorem C96 (o:O2) (l:List Nat) (h:Jl o=some l):yo (some (cO o))=l:=by
 cases o with
 | cell g t=>exact M8 t l h
 | vec g z q =>
   simp only [Jl] at h;split at h
   · rename_i hf; cases h; exact M9 q hf
   · cases h
 | mp g k v m =>
   simp only [Jl,aa] at h; subst h;show oN (m.map fun p=>T.p (enc v p.2))=[]
   rw [R4];intro t ht;simp only [bj] at ht;obtain ⟨p,_,rfl⟩:=ht;rfl
 | gone=>simp only [Jl,aa] at h; subst h; rfl
abbrev TV:=(t:Ty)×El t
def zx:W→Option TV
 | .v t x=>some ⟨t,x⟩
 | .c p=>match RU p with
   | some t=>match dec t p with | some x=>some ⟨t,x⟩ | none=>none
   | none=>none
 | _=>none
theorem GG {w:W} {t:Ty} {x:El t} (h:zx w=some ⟨t,x⟩):cW w=.p (enc t x):=by
 cases w <;> simp only [zx,reduceCtorEq] at h
 case v=>cases h; rfl
 case c p =>
  cases h1:RU p with
  | none=>rw [h1] at h; cases h
  | some u =>
    rw [h1] at h;simp only at h;cases h2:dec u p with
    | none=>rw [h2] at h; cases h
    | some y=>rw [h2] at h; cases h; rw [EP _ _ _ h2]; rfl
def B0 (t:Ty):W→Option (El t)
 | .v _ x=>rI t x
 | .c p=>dec t p
 | _=>none
theorem GH {t:Ty} {w:W} {x:El t} (h:B0 t w=some x):cW w=.p (enc t x):=by
 cases w <;> simp only [B0,reduceCtorEq] at h
 case v u y=>rw [← (vC h).2.2]; rfl
 case c p=>rw [EP _ _ _ h]; rfl
def vE:W→Option (IntKind×Int)
 | .v (.int k) x=>some (k,x)
 | .c (.int k n)=>some (k,n)
 | _=>none
theorem xm {w:W} {k:IntKind} {n:Int} (h:vE w=some (k,n)):cW w=.p (.int k n):=by
 unfold vE at h;split at h <;> cases h <;> rfl
def Jm:W→Option Bool
 | .v .bool x=>some x
 | .c (.bool b)=>some b
 | _=>none
theorem R5 {w:W} {b:Bool} (h:Jm w=some b):cW w=.p (.bool b):=by
 unfold Jm at h;split at h <;> cases h <;> rfl
def C9:W→Option ByteArray
 | .v .str x=>some x
 | .c (.str b)=>some b
 | _=>none
theorem GJ {w:W} {b:ByteArray} (h:C9 w=some b):cW w=.p (.str b):=by
 unfold C9 at h;split at h <;> cases h <;> rfl
def Jn (z:Nat) (n:Nat):W→Step
 | .c _=>.f n (n * z)
 | _=>.k n z
theorem C8a (z n:Nat) (w:W):(Jn z n w).ix=n:=by cases w <;> rfl
theorem C8b (z n:Nat) (w:W):(Jn z n w).of=n * z:=by cases w <;> rfl
end Go.Mid
namespace Go.Mid
def Da:(ts:List Ty)→gM ts→Nat→Option TV
 | [],_,_=>none
 | t::r,x,i=>match i with
   | 0=>some ⟨t,n5 r x⟩
   | i + 1=>Da r (pK r x) i
theorem Jo (s:Nat):∀ (ts:List Ty) (x:gM ts) (i:Nat) (t:Ty) (y:El t),Da ts x i=some ⟨t,y⟩ →
 (kz ts x)[i]?=some (enc t y)∧(mo s ts x)[i]?=some (je s t y)
 | [],_,_,_,_,h=>by cases h
 | u::r,x,0,t,y,h=>by
   simp only [Da,aa] at h;cases h;exact ⟨rfl,rfl⟩
 | u::r,x,i + 1,t,y,h=>by
   simp only [Da] at h
   have:=Jo s r (pK r x) i t y h
   simpa only [kz,mo,bJ] using this
def GK:(ts:List Ty)→gM ts→Nat→(t:Ty)→El t→Option (gM ts)
 | [],_,_,_,_=>none
 | u::r,x,i,t,y=>match i with
   | 0=>match rI u y with | some z=>some (r0 r z (pK r x)) | none=>none
   | i + 1=>match GK r (pK r x) i t y with | some q=>some (r0 r (n5 r x) q) | none=>none
theorem Y5 (s:Nat):∀ (ts:List Ty) (x:gM ts) (i:Nat) (t:Ty) (y:El t) (x':gM ts),GK ts x i t y=some x' →
 mo s ts x'=(mo s ts x).set i (je s t y)
 | [],_,_,_,_,_,h=>by cases h
 | u::r,x,0,t,y,x',h=>by
   simp only [GK] at h;cases hc:rI u y with
   | none=>rw [hc] at h; cases h
   | some z =>
     rw [hc] at h;simp only [aa] at h;subst h;obtain ⟨rfl,he,_⟩:=vC hc;cases he;simp only [mo,uh,ui,dN]
 | u::r,x,i + 1,t,y,x',h=>by
   simp only [GK] at h;cases hc:GK r (pK r x) i t y with
   | none=>rw [hc] at h; cases h
   | some z =>
     rw [hc] at h;simp only [aa] at h;subst h;simp only [mo,uh,ui,ev];rw [Y5 s r _ i t y z hc]
def GM (t:Ty) (i:Nat):(ts:List Ty)→gM ts→Nat→Option (El t)
 | [],_,_=>none
 | [_],x,_=>rI t (n5 [] x)
 | _::u2::r,x,j=>match rI t (n5 (u2::r) x),GM t i (u2::r) (pK (u2::r) x) (j + 1) with
    | some a,some b=>some (bif i == j then a else b)
    | _,_=>none
theorem R6 (s:Nat) (t:Ty) (i:Nat):∀ (ts:List Ty) (x:gM ts) (j:Nat) (y:El t),GM t i ts x j=some y→j ≤ i→i < j + ts.length →
 (kz ts x)[i - j]?=some (enc t y)∧(mo s ts x)[i - j]?=some (je s t y)
 | [],_,_,_,h,_,_=>by cases h
 | [u],x,j,y,h,h1,h2=>by
   have h:rI t (n5 [] x)=some y:=h;have e:i - j=0:=by simp at h2; omega
   rw [e];obtain ⟨rfl,he,_⟩:=vC h;cases he;exact ⟨rfl,rfl⟩
 | u::u2::r,x,j,y,h,h1,h2=>by
   simp only [GM] at h;cases hc:rI t (n5 (u2::r) x) with
   | none=>rw [hc] at h; cases h
   | some a =>
     cases hd:GM t i (u2::r) (pK (u2::r) x) (j + 1) with
     | none=>rw [hc,hd] at h; cases h
     | some b =>
       rw [hc,hd] at h;simp only [aa] at h;by_cases e:i=j
       · subst e;simp only [beq_self_eq_true,cond_true] at h;subst h;obtain ⟨rfl,he,_⟩:=vC hc;cases he;rw [gz];exact ⟨rfl,rfl⟩
       · have e2:(i == j)=false:=by simpa using e
         rw [e2] at h;simp only [cond_false] at h;subst h
         have:=R6 s t i (u2::r) (pK (u2::r) x) (j + 1) b hd (by omega) (by simp only [ba] at h2 ⊢; omega)
         have e3:i - j=(i - (j + 1)) + 1:=by omega
         rw [e3];simpa only [kz,mo,bJ] using this
def Jp (t:Ty) (y:El t) (i:Nat):(ts:List Ty)→gM ts→Nat→Option (gM ts)
 | [],_,_=>some ()
 | u::r,x,j=>match rI u y,Jp t y i r (pK r x) (j + 1) with
   | some a,some b=>some (r0 r (bif i == j then a else n5 r x) b)
   | _,_=>none
theorem Y6 (s:Nat) (t:Ty) (y:El t) (i:Nat):∀ (ts:List Ty) (x:gM ts) (j:Nat) (x':gM ts),Jp t y i ts x j=some x' →
 mo s ts x'=if j ≤ i then (mo s ts x).set (i - j) (je s t y) else mo s ts x
 | [],_,_,_,h=>by simp [mo]
 | u::r,x,j,x',h=>by
   simp only [Jp] at h;cases hc:rI u y with
   | none=>rw [hc] at h; cases h
   | some a =>
     cases hd:Jp t y i r (pK r x) (j + 1) with
     | none=>rw [hc,hd] at h; cases h
     | some b =>
       rw [hc,hd] at h;simp only [aa] at h;subst h;obtain ⟨rfl,he,_⟩:=vC hc;cases he;have ih:=Y6 s t y i r (pK r x) (j + 1) b hd;simp only [mo,uh,ui];rw [ih];by_cases e:i=j
       · subst e;simp only [beq_self_eq_true,cond_true,ar,if_true,gz,dN];rw [if_neg (by omega)]
       · have e2:(i == j)=false:=by simpa using e
         rw [e2];simp only [cond_false];by_cases h1:j ≤ i
         · rw [if_pos (by omega),if_pos h1]
           have e3:i - j=(i - (j + 1)) + 1:=by omega
           rw [e3,ev]
         · rw [if_neg (by omega),if_neg h1]
def Na (t:Ty):List Ty→Bool
 | []=>true
 | u::r=>Ty.eq t u && Na t r
theorem R7 {t:Ty}:∀ {ts:List Ty} {i:Nat},Na t ts=true→i ≤ ts.length→Ty.da (ts.take i)=i * t.cs
 | [],i,_,h=>by simp at h; subst h; simp [Ty.da]
 | u::r,0,_,_=>by simp [Ty.da]
 | u::r,i + 1,h,h1=>by
   simp only [Na,aj] at h;have e:=Ty.oT _ _ h.1;subst e;simp only [bS,Ty.da];rw [R7 h.2 (by simpa using h1),Nat.succ_mul]; omega
theorem R8 (s:Nat):∀ (ts:List Ty) (x:gM ts) (i:Nat),T.da ((mo s ts x).take i)=Ty.da (ts.take i)
 | [],_,i=>by simp [mo,T.da,Ty.da]
 | t::r,x,0=>by simp [T.da,Ty.da]
 | t::r,x,i + 1=>by
   simp only [mo,bS,T.da,Ty.da];rw [Jj,R8 s r]
theorem Jq:∀ (ts:List Ty) (x:gM ts) (i:Nat),PV.da ((kz ts x).take i)=Ty.da (ts.take i)
 | [],_,i=>by simp [kz,PV.da,Ty.da]
 | t::r,x,0=>by simp [PV.da,Ty.da]
 | t::r,x,i + 1=>by
   simp only [kz,bS,PV.da,Ty.da];rw [zr,Jq r]
theorem o7:∀ l m:List PV,PV.da (l++m)=PV.da l + PV.da m
 | [],m=>by simp [PV.da]
 | x::r,m=>by simp only [aS,PV.da,o7 r m]; omega
theorem C97 (L:List (T Nat)) (i:Nat) (r:List Nat) (o:Nat):lP (jY L) (i::r) o=match L[i]? with | some t=>lP t r (o + T.da (L.take i)) | none=>none:=by
 rcases xX L with ⟨vs,rfl,h⟩ | h
 · rw [h];simp only [lP,aH];cases hv:vs[i]? with
   | none=>rfl
   | some v =>
     simp only [ak];rw [← bO,RZ]
 · rw [h]; simp only [lP]; cases L[i]? <;> rfl
theorem D1Y (L:List (T Nat)) (i:Nat) (r:List Nat):cU (jY L) (i::r)=match L[i]? with | some t=>cU t r | none=>none:=by
 rcases xX L with ⟨vs,rfl,h⟩ | h
 · rw [h];simp only [cU,aH];cases vs[i]? with
   | none=>rfl
   | some v=>rfl
 · rw [h]; simp only [cU]; cases L[i]? <;> rfl
theorem D1Z (L:List (T Nat)) (i:Nat) (r:List Nat) (u:T Nat):c7 (jY L) (i::r) u=match L[i]? with
 | some t=>match c7 t r u with | some w=>some (jY (L.set i w)) | none=>none
 | none=>none:=by
 rcases xX L with ⟨vs,rfl,h⟩ | h
 · rw [h];simp only [c7,aH];cases vs[i]? with
   | none=>rfl
   | some v=>simp only [ak]; cases c7 (T.p v) r u <;> rfl
 · rw [h]; simp only [c7]; cases L[i]? with
   | none=>rfl
   | some v=>simp only; cases c7 v r u <;> rfl
def SL.get:SL→Nat→Tree T2
 | .base s t l,i=>.opt (C7 t) l[i]? fun x=>.leaf (.e s t x)
 | .set a j u,i=>.ite (i == j) ((Tree.ask (cQ j a.len)).bind fun _=>.leaf u) (a.get i)
 | .app a u,i=>.ite (i == a.len) (.leaf u) (a.get i)
theorem SL.get_eq:∀ (a:SL) (i:Nat) (u:T2),(a.get i).den=some u→(eP a)[i]?=some (cT u)
 | .base s t l,i,u,h=>by
   simp only [SL.get,Tree.lJ,Tree.den_leaf] at h;obtain ⟨x,h1,rfl⟩:=h;simp only [eP,aH,h1]; rfl
 | .set a j v,i,u,h=>by
   simp only [SL.get,Tree.oB,Tree.den_bind,Tree.dB,Tree.den_leaf] at h;rcases h with ⟨h1,_,h2,rfl⟩ | ⟨h1,h2⟩
   · simp only [beq_iff_eq] at h1; subst h1;have h3:i < a.len:=ia.mp h2;simp only [eP];rw [List.getElem?_set_self (by rw [SL.jN]; exact h3)]
   · have h1:¬ i=j:=by simpa using h1
     simp only [eP];rw [List.getElem?_set_ne (Ne.symm h1)];exact SL.get_eq a i u h2
 | .app a v,i,u,h=>by
   simp only [SL.get,Tree.oB,Tree.den_leaf] at h;rcases h with ⟨h1,rfl⟩ | ⟨h1,h2⟩
   · simp only [beq_iff_eq] at h1; subst h1;simp only [eP];rw [List.getElem?_append_right (by rw [SL.jN]; exact ar _),SL.jN,gz]; rfl
   · have:=SL.get_eq a i u h2
     simp only [eP];rw [List.getElem?_append_left (aF.1 this).1]; exact this
def GN (s:Nat) (t:Ty):T2→Option (El t)
 | .e s' _ x=>if s' == s || t.pure then rI t x else none
 | _=>none
theorem Y7 {s:Nat} {t:Ty} {u:T2} {x:El t} (h:GN s t u=some x):cT u=je s t x:=by
 cases u <;> simp only [GN,reduceCtorEq] at h;rename_i s' t' y;split at h
 · rename_i hc;obtain ⟨rfl,he,_⟩:=vC h;cases he;simp only [cr,beq_iff_eq] at hc;rcases hc with rfl | hc
   · rfl
   · simp only [cT]; rw [rJ _ _ _ hc,rJ _ _ _ hc]
 · cases h
def SL.put:SL→Nat→T2→SL
 | .base s t l,i,u=>match GN s t u with | some x=>.base s t (l.set i x) | none=>.set (.base s t l) i u
 | a,i,u=>.set a i u
theorem SL.put_eq (a:SL) (i:Nat) (u:T2):eP (a.put i u)=(eP a).set i (cT u):=by
 cases a with
 | base s t l =>
   simp only [SL.put];cases h:GN s t u with
   | none=>rfl
   | some x=>simp only [eP]; rw [fa,Y7 h]
 | set a j v=>rfl
 | app a v=>rfl
def SL.c7 (i:Nat) (u:T2):SL→Tree SL
 | .set a j v=>.ite (i == j) (.leaf (a.put i u)) (.leaf (.set (.set a j v) i u))
 | a=>.leaf (a.put i u)
theorem SL.wE {i:Nat} {u:T2} {a b:SL} (h:(SL.c7 i u a).den=some b):eP b=(eP a).set i (cT u):=by
 cases a with
 | set a j v =>
   simp only [SL.c7,Tree.oB,Tree.den_leaf] at h;rcases h with ⟨h1,rfl⟩ | ⟨_,rfl⟩
   · simp only [beq_iff_eq] at h1;subst h1;rw [SL.put_eq];simp only [eP,List.set_set]
   · rfl
 | base s t l=>simp only [SL.c7,Tree.den_leaf] at h; subst h; exact SL.put_eq _ _ _
 | app a v=>simp only [SL.c7,Tree.den_leaf] at h; subst h; exact SL.put_eq _ _ _
def SL.push:SL→T2→SL
 | .base s t l,u=>match GN s t u with | some x=>.base s t (l++[x]) | none=>.app (.base s t l) u
 | a,u=>.app a u
theorem SL.B1 (a:SL) (u:T2):eP (a.push u)=eP a++[cT u]:=by
 cases a with
 | base s t l =>
   simp only [SL.push];cases h:GN s t u with
   | none=>rfl
   | some x=>simp only [eP,b5,aD,cl]; rw [Y7 h]
 | set a j v=>rfl
 | app a v=>rfl
mutual
def zy:T2→Nat
 | .e _ t _=>t.cs
 | .w v=>GB v
 | .agg l=>Jr l
 | .vec ..=>1
 | .hole n=>n
def Jr:List T2→Nat
 | []=>0
 | x::r=>zy x + Jr r
end
mutual
theorem GO:∀ t:T2,(cT t).cs=zy t
 | .e s t x=>Jj s t x
 | .w v=>M6 v
 | .agg l=>by simp only [cT,YP,zy]; exact R9 l
 | .vec ..=>rfl
 | .hole n=>rfl
theorem R9:∀ l:List T2,T.da (iU l)=Jr l
 | []=>rfl
 | x::r=>by simp only [iU,T.da,Jr]; rw [GO x,R9 r]
end
def Nb:List Ty→Nat→Option Ty
 | [],_=>none
 | t::r,z=>if Na t (t::r) && t.cs == z then some t else none
def Js:T2→Step→Tree T2
 | .e s (.agg ts) x,st=>match st with
   | .f i o=>if Ty.da (ts.take i) == o then (Tree.lC (Da ts x i)).bind fun p=>.leaf (.e s p.1 p.2) else .fail
   | .k i z=>match Nb ts z with
     | some t=>(Tree.ask (cQ i ts.length)).bind fun _=>(Tree.lC (GM t i ts x 0)).bind fun y=>.leaf (.e s t y)
     | none=>.fail
 | .agg l,.f i o=>if Jr (l.take i) == o then Tree.lC l[i]? else .fail
 | _,_=>.fail
theorem Sa {t:T2} {st:Step} {u:T2} (h:(Js t st).den=some u):∃ L,cT t=jY L∧L[st.ix]?=some (cT u)∧T.da (L.take st.ix)=st.of:=by
 unfold Js at h;split at h
 · rename_i s ts x;refine ⟨mo s ts x,rfl,?_⟩;split at h
   · rename_i i o;split at h
     · rename_i ho;simp only [Tree.den_bind,Tree.den_ofO,Tree.den_leaf] at h;obtain ⟨⟨t,y⟩,h1,rfl⟩:=h;exact ⟨(Jo s ts x i t y h1).2,(R8 s ts x i).trans (beq_iff_eq.mp ho)⟩
     · simp at h
   · rename_i i z;split at h
     · rename_i t ht;simp only [Tree.den_bind,Tree.dB,Tree.den_ofO,Tree.den_leaf] at h;obtain ⟨_,h1,y,h2,rfl⟩:=h;have h1:i < ts.length:=ia.mp h1
       have:=(R6 s t i ts x 0 y h2 (dg _) (by omega)).2
       rw [gy] at this;refine ⟨this,(R8 s ts x i).trans ?_⟩;unfold Nb at ht;split at ht
       · cases ht
       · split at ht
         · rename_i hc;cases ht;simp only [aj,beq_iff_eq] at hc;rw [← hc.2];exact R7 hc.1 (by show i ≤ _; omega)
         · cases ht
     · simp at h
 · rename_i l i o;split at h
   · rename_i ho;rw [Tree.den_ofO] at h;refine ⟨iU l,rfl,?_,?_⟩
     · rw [zw,aH];show pn cT l[i]?=_;rw [h]; rfl
     · show T.da ((iU l).take i)=o;rw [zw,← bO,← zw,R9];simpa using ho
   · simp at h
 · simp at h
def GP (s:Nat):(ts:List Ty)→gM ts→List T2
 | [],_=>[]
 | t::r,x=>.e s t (n5 r x)::GP s r (pK r x)
theorem Nc (s:Nat):∀ (ts:List Ty) (x:gM ts),iU (GP s ts x)=mo s ts x
 | [],_=>rfl
 | t::r,x=>by simp only [GP,iU,mo,Nc s r]; rfl
def Sb:T2→Step→T2→Tree T2
 | .e s (.agg ts) x,st,u=>match st with
   | .f i _=>match (match u with | .e s' t y=>if s' == s || t.pure then GK ts x i t y else none | _=>none) with
     | some x'=>.leaf (.e s (.agg ts) x')
     | none=>.leaf (.agg ((GP s ts x).set i u))
   | .k i _=>match u with
     | .e s' t y=>if s' == s || t.pure then (Tree.lC (Jp t y i ts x 0)).bind fun x'=>.leaf (.e s (.agg ts) x') else .fail
     | _=>.fail
 | .agg l,.f i _,u=>.leaf (.agg (l.set i u))
 | _,_,_=>.fail
theorem D10 {t:T2} {st:Step} {u t':T2} (h:(Sb t st u).den=some t'):∃ L,cT t=jY L∧cT t'=jY (L.set st.ix (cT u)):=by
 have hs:∀ (s s':Nat) (t:Ty) (y:El t),(s' == s || t.pure)=true→je s t y=je s' t y:=by
  intro s s' t y hc;simp only [cr,beq_iff_eq] at hc;rcases hc with rfl | hc
  · rfl
  · rw [rJ _ _ _ hc,rJ _ _ _ hc]
 unfold Sb at h;split at h
 · rename_i s ts x;refine ⟨mo s ts x,rfl,?_⟩;split at h
   · rename_i i o;split at h
     · rename_i x' hx;simp only [Tree.den_leaf] at h;subst h;split at hx
       · rename_i s' t y;split at hx
         · rename_i hc;simp only [cT,je,Step.ix];rw [Y5 s ts x i t y x' hx,hs s s' t y hc]
         · cases hx
       · cases hx
     · simp only [Tree.den_leaf] at h;subst h;simp only [cT,Step.ix];rw [zw,fa,← zw];exact congrArg (fun q=>jY (List.set q i (cT u))) (Nc s ts x)
   · rename_i i z;split at h
     · rename_i s' t y;split at h
       · rename_i hc;simp only [Tree.den_bind,Tree.den_ofO,Tree.den_leaf] at h;obtain ⟨x',h1,rfl⟩:=h
         have:=Y6 s t y i ts x 0 x' h1
         simp only [dg,if_true,gy] at this;simp only [cT,je,Step.ix];rw [this,hs s s' t y hc]
       · simp at h
     · simp at h
 · rename_i l i o;simp only [Tree.den_leaf] at h;subst h;refine ⟨iU l,rfl,?_⟩;simp only [cT,Step.ix];rw [zw,fa,← zw]
 · simp at h
def GQ:List Step→T2→Tree T2
 | [],t=>.leaf t
 | s::r,t=>(Js t s).bind (GQ r)
theorem Sc:∀ {p:List Step} {t u:T2} {o:Nat},(GQ p t).den=some u→lP (cT t) (iN p) o=some (cT u,o + vD p)
 | [],t,u,o,h=>by
   simp only [GQ,Tree.den_leaf] at h;subst h;cases hc:cT t <;> rfl
 | s::r,t,u,o,h=>by
   simp only [GQ,Tree.den_bind] at h;obtain ⟨v,h1,h2⟩:=h;obtain ⟨L,e1,e2,e3⟩:=Sa h1;simp only [iN,vD];rw [e1,C97,e2];simp only;rw [e3,Sc h2,Nat.add_assoc]
def GR:T2→Step→Tree T2
 | .vec _ _ l _,st=>l.get st.ix
 | .e s (.vec z t) l,st=>SL.get (.base s t l) st.ix
 | t,st=>Js t st
theorem D11 {t:T2} {st:Step} {u:T2} (h:(GR t st).den=some u) (r:List Nat):cU (cT t) (st.ix::r)=cU (cT u) r:=by
 unfold GR at h;split at h
 · rename_i g z l n
   have:=SL.get_eq _ _ _ h
   simp only [cT,cU,this]
 · rename_i s z t l
   have:=SL.get_eq _ _ _ h
   have e:cT (.e s (.vec z t) l)=.vec s z (eP (.base s t l)) (cq (α:=El t) l):=rfl;rw [e];simp only [cU,this]
 · obtain ⟨L,e1,e2,_⟩:=Sa h;rw [e1,D1Y,e2]
def Sd:T2→Step→T2→Tree T2
 | .vec g z l n,st,u=>(SL.c7 st.ix u l).bind fun l'=>.leaf (.vec g z l' n)
 | .e s (.vec z t) l,st,u=>.leaf (.vec s z (SL.put (.base s t l) st.ix u) (cq (α:=El t) l))
 | t,st,u=>Sb t st u
theorem D12 {t:T2} {st:Step} {u v t':T2} {r:List Nat} {w:T Nat} (hk:(GR t st).den=some u) (hp:c7 (cT u) r w=some (cT v)) (h:(Sd t st v).den=some t'):c7 (cT t) (st.ix::r) w=some (cT t'):=by
 unfold Sd at h;split at h
 · rename_i g z l n
   have:=SL.get_eq _ _ _ hk
   simp only [Tree.den_bind,Tree.den_leaf] at h;obtain ⟨l',hl,rfl⟩:=h;simp only [cT,c7,this,hp,SL.wE hl]
 · rename_i s z t l
   have:=SL.get_eq _ _ _ hk
   simp only [Tree.den_leaf] at h;subst h;have e:cT (.e s (.vec z t) l)=.vec s z (eP (.base s t l)) (cq (α:=El t) l):=rfl;rw [e];simp only [c7,this,hp,cT,SL.put_eq]
 · rename_i uJ hx2;have hk:(Js t st).den=some u:=by
    unfold GR at hk;split at hk
    · exact absurd rfl (uJ _ _ _ _)
    · exact absurd rfl (hx2 _ _ _ _)
    · exact hk
   obtain ⟨L,e1,e2,_⟩:=Sa hk;obtain ⟨L',e3,e4⟩:=D10 h;have hL:L=L':=by
    have e:jY L=jY L':=by rw [← e1,← e3]
    rcases xX L with ⟨vs,rfl,h1⟩ | h1 <;> rcases xX L' with ⟨xP,rfl,h2⟩ | h2 <;> rw [h1,h2] at e
    · simp only [T.p.injEq,PV.agg.injEq] at e; rw [e]
    · cases e
    · cases e
    · simpa using e
   subst hL;rw [e1,D1Z,e2];simp only [hp];rw [e4]
def GS:List Step→T2→Tree T2
 | [],t=>.leaf t
 | s::r,t=>(GR t s).bind (GS r)
theorem Se:∀ {p:List Step} {t u:T2},(GS p t).den=some u→cU (cT t) (iN p)=some (cT u)
 | [],t,u,h=>by
   simp only [GS,Tree.den_leaf] at h;subst h;cases hc:cT t <;> rfl
 | s::r,t,u,h=>by
   simp only [GS,Tree.den_bind] at h;obtain ⟨v,h1,h2⟩:=h;simp only [iN];rw [D11 h1,Se h2]
def GU (u:T2):List Step→T2→Tree T2
 | [],_=>.leaf u
 | s::r,t=>(GR t s).bind fun c=>(GU u r c).bind fun c'=>Sd t s c'
theorem Sf:∀ {p:List Step} {t u t':T2},(GU u p t).den=some t'→c7 (cT t) (iN p) (cT u)=some (cT t')
 | [],t,u,t',h=>by
   simp only [GU,Tree.den_leaf] at h;subst h;cases hc:cT t <;> rfl
 | s::r,t,u,t',h=>by
   simp only [GU,Tree.den_bind] at h;obtain ⟨c,h1,c',h2,h3⟩:=h;simp only [iN];exact D12 h1 (Sf h2) h3
def xp:O2→List Step→Tree T2
 | .cell _ t,p=>GS p t
 | .vec _ _ l,s::r=>(l.get s.ix).bind (GS r)
 | _,_=>.fail
theorem Db {o:O2} {p:List Step} {u:T2} (h:(xp o p).den=some u):ef (some (cO o)) (iN p)=some (cT u):=by
 unfold xp at h;split at h
 · exact Se h
 · simp only [Tree.den_bind] at h;obtain ⟨v,h1,h2⟩:=h;simp only [cO,iN,ef,SL.get_eq _ _ _ h1];exact Se h2
 · simp at h
def zB (u:T2):O2→List Step→Tree O2
 | .cell g t,p=>(GU u p t).bind fun t'=>.leaf (.cell g t')
 | .vec g z l,s::r=>(l.get s.ix).bind fun c=>(GU u r c).bind fun c'=>(SL.c7 s.ix c' l).bind fun l'=>.leaf (.vec g z l')
 | _,_=>.fail
theorem B2 {o o':O2} {p:List Step} {u:T2} (h:(zB u o p).den=some o'):put (some (cO o)) (iN p) (cT u)=some (cO o'):=by
 unfold zB at h;split at h
 · simp only [Tree.den_bind,Tree.den_leaf] at h;obtain ⟨t',h1,rfl⟩:=h;simp only [cO,put,Sf h1]
 · simp only [Tree.den_bind,Tree.den_leaf] at h;obtain ⟨c,h1,c',h2,l',h3,rfl⟩:=h;simp only [cO,iN,put,SL.get_eq _ _ _ h1,Sf h2,SL.wE h3]
 · simp at h
def Nd:T2→Tree (Nat×Nat×SL)
 | .vec g z l _=>.leaf (g,z,l)
 | .e s (.vec z t) l=>.leaf (s,z,.base s t l)
 | _=>.fail
theorem Y8 {t:T2} {g z:Nat} {l:SL} (h:(Nd t).den=some (g,z,l)):∃ n,cT t=.vec g z (eP l) n:=by
 unfold Nd at h;split at h
 · simp only [Tree.den_leaf,ae] at h;obtain ⟨rfl,rfl,rfl⟩:=h;exact ⟨_,rfl⟩
 · simp only [Tree.den_leaf,ae] at h;obtain ⟨rfl,rfl,rfl⟩:=h;exact ⟨_,rfl⟩
 · simp at h
def xq:O2→List Step→Tree (Nat×Nat×SL)
 | .vec g z l,[]=>.leaf (g,z,l)
 | o,p=>(xp o p).bind Nd
theorem C6y {o:Obj Nat} {p:List Nat} {a z:Nat} {l:List (T Nat)} {n:Nat} (h:ef (some o) p=some (.vec a z l n)):jo (some o) p=some (a,z,l):=by
 unfold jo;split
 · rename_i h1; cases h1; simp [ef] at h
 · rw [h]
theorem xZ {o:O2} {p:List Step} {g z:Nat} {l:SL} (h:(xq o p).den=some (g,z,l)):jo (some (cO o)) (iN p)=some (g,z,eP l):=by
 unfold xq at h;split at h
 · simp only [Tree.den_leaf,ae] at h;obtain ⟨rfl,rfl,rfl⟩:=h;rfl
 · simp only [Tree.den_bind] at h;obtain ⟨u,h1,h2⟩:=h;obtain ⟨n,h3⟩:=Y8 h2
   have:=Db h1
   rw [h3] at this;exact C6y this
def Nf (s:Step) (z:Nat):Bool:=match s with | .f i o=>i * z == o | .k _ y=>y == z
theorem C8c {s:Step} {z:Nat} (h:Nf s z=true):s.ix * z=s.of:=by
 cases s with
 | f i o=>simpa [Step.ix,Step.of,Nf] using h
 | k i y=>simp only [Nf,beq_iff_eq] at h; subst h; rfl
def ET (o:O2) (np:Option (List Step)) (rp:List Step):Tree (T2×Nat) :=
 match np with
 | none=>match o with
   | .cell a t=>(GQ rp t).bind fun u=>.leaf (u,a)
   | _=>.fail
 | some p=>match rp with
   | s::r=>(xq o p).bind fun x=>if Nf s x.2.1 then (x.2.2.get s.ix).bind fun t=>(GQ r t).bind fun u=>.leaf (u,x.1) else .fail
   | []=>.fail
theorem Jt {o:O2} {np:Option (List Step)} {rp:List Step} {u:T2} {g:Nat} (h:(ET o np rp).den=some (u,g)):look (some (cO o)) (xk np) (iN rp)=some (cT u,g,vD rp):=by
 unfold ET at h;split at h
 · split at h
   · simp only [Tree.den_bind,Tree.den_leaf,ae] at h;obtain ⟨v,h1,rfl,rfl⟩:=h;simp only [cO,xk,look];rw [Sc h1,bR]
   · simp at h
 · split at h
   · rename_i p s r;simp only [Tree.den_bind] at h;obtain ⟨⟨a,z,l⟩,h1,h⟩:=h;split at h
     · rename_i hc;simp only [Tree.den_bind,Tree.den_leaf,ae] at h;obtain ⟨t,h2,v,h3,rfl,rfl⟩:=h;have e:=C8c hc;simp only [xk,iN,look,xZ h1,SL.get_eq _ _ _ h2];rw [Sc h3,e];rfl
     · simp at h
   · simp at h
end Go.Mid
namespace Go.Mid
def EU:List W→Option ((ts:List Ty)×gM ts)
 | []=>some ⟨[],()⟩
 | w::r=>match zx w,EU r with | some p,some q=>some ⟨p.1::q.1,r0 q.1 p.2 q.2⟩ | _,_=>none
theorem Sh:∀ {l:List W} {ts:List Ty} {x:gM ts},EU l=some ⟨ts,x⟩→l.map cW=(kz ts x).map .p
 | [],ts,x,h=>by simp only [EU,aa] at h; cases h; rfl
 | w::r,ts,x,h=>by
   simp only [EU] at h;cases h1:zx w with
   | none=>rw [h1] at h; cases h
   | some p =>
     cases h2:EU r with
     | none=>rw [h1,h2] at h; cases h
     | some q =>
       rw [h1,h2] at h;obtain ⟨t,y⟩:=p;obtain ⟨us,z⟩:=q;simp only [aa] at h;cases h;simp only [aD,kz,uh,ui];rw [GG h1,Sh h2]
theorem Ju:∀ l:List PV,pq (l.map .p)=some l
 | []=>rfl
 | x::r=>by simp only [aD,pq,Ju r]
def EV:W→Bool
 | .c _=>false
 | .v _ _=>false
 | _=>true
theorem Ng:∀ {l:List W},l.any EV=true→pq (l.map cW)=none
 | w::r,h=>by
   simp only [List.any_cons,cr] at h;simp only [aD];rcases h with h | h
   · cases w <;> simp only [EV,Bool.false_eq_true] at h <;> rfl
   · have:=Ng h
     cases hw:cW w <;> simp only [pq,this]
def GV (l:List W):Tree W:=match EU l with
 | some q=>.leaf (.v (.agg q.1) q.2)
 | none=>if l.any EV then .leaf (.agg l) else .fail
theorem Nh {l:List W} {w:W} (h:(GV l).den=some w):uB (l.map cW)=cW w:=by
 unfold GV at h;split at h
 · rename_i q hq;obtain ⟨ts,x⟩:=q;simp only [Tree.den_leaf] at h;subst h;unfold uB;rw [Sh hq,Ju];rfl
 · split at h
   · rename_i hn;simp only [Tree.den_leaf] at h;subst h;unfold uB;rw [Ng hn,cW,sU]
   · simp at h
mutual
def vF (s id:Nat) (p:List Step):(t:Ty)→El t→Tree W
 | .vec _ t,x=>.leaf (.own id p none (cq (α:=El t) x) s)
 | .agg ts,x=>if Ty.uj ts then .leaf (.v (.agg ts) x) else (Jv s id p 0 0 ts x).bind GV
 | t,x=>.leaf (.v t x)
def Jv (s id:Nat) (p:List Step) (i o:Nat):(ts:List Ty)→gM ts→Tree (List W)
 | [],_=>.leaf []
 | t::r,x=>(vF s id (p++[.f i o]) t (n5 r x)).bind fun w=>(Jv s id p (i + 1) (o + t.cs) r (pK r x)).bind fun l=>.leaf (w::l)
end
mutual
def EW (id:Nat) (p:List Step):T2→Tree W
 | .e s t x=>vF s id p t x
 | .w v=>.leaf v
 | .agg l=>(Jw id p 0 0 l).bind GV
 | .vec g _ _ n=>.leaf (.own id p none n g)
 | .hole n=>.leaf (.dead n)
def Jw (id:Nat) (p:List Step) (i o:Nat):List T2→Tree (List W)
 | []=>.leaf []
 | t::r=>(EW id (p++[.f i o]) t).bind fun w=>(Jw id p (i + 1) (o + zy t) r).bind fun l=>.leaf (w::l)
end
theorem Y9 (id:Nat):∀ (vs:List PV) (p:List Nat) (i:Nat),wT id p i (vs.map T.p)=vs.map .p
 | [],_,_=>rfl
 | v::r,p,i=>by simp only [aD,wT,u0,Y9 id r]
theorem Za (id:Nat) (p:List Nat) (L:List (T Nat)):u0 id p (jY L)=uB (wT id p 0 L):=by
 rcases xX L with ⟨vs,rfl,h⟩ | h
 · rw [h,Y9];unfold uB;rw [Ju];rfl
 · rw [h]; rfl
theorem Zb (p:List Step) (i o:Nat):iN (p++[.f i o])=iN p++[i]:=by rw [Ji]; rfl
mutual
theorem Zc (s id:Nat):∀ (t:Ty) (p:List Step) (x:El t) (w:W),(vF s id p t x).den=some w→u0 id (iN p) (je s t x)=cW w
 | .vec z t,p,x,w,h=>by
   simp only [vF,Tree.den_leaf] at h;subst h;rfl
 | .agg ts,p,x,w,h=>by
   simp only [vF] at h;split at h
   · rename_i hp;simp only [Tree.den_leaf] at h;subst h;rw [rJ s (.agg ts) x (by simpa only [Ty.pure] using hp)]
     rfl
   · simp only [Tree.den_bind] at h;obtain ⟨l,h1,h2⟩:=h;simp only [je];rw [Za]
     have:=Zd s id ts p 0 0 x l h1
     rw [this];exact Nh h2
 | .int k,p,x,w,h=>by simp only [vF,Tree.den_leaf] at h; subst h; rfl
 | .bool,p,x,w,h=>by simp only [vF,Tree.den_leaf] at h; subst h; rfl
 | .str,p,x,w,h=>by simp only [vF,Tree.den_leaf] at h; subst h; rfl
 | .sl t,p,x,w,h=>by simp only [vF,Tree.den_leaf] at h; subst h; rfl
 | .ref t,p,x,w,h=>by simp only [vF,Tree.den_leaf] at h; subst h; rfl
 | .mW t,p,x,w,h=>by simp only [vF,Tree.den_leaf] at h; subst h; rfl
 | .fn f ts,p,x,w,h=>by simp only [vF,Tree.den_leaf] at h; subst h; rfl
 | .mp k v,p,x,w,h=>by simp only [vF,Tree.den_leaf] at h; subst h; rfl
 | .eQ,p,x,w,h=>by simp only [vF,Tree.den_leaf] at h; subst h; rfl
 | .ff,p,x,w,h=>by simp only [vF,Tree.den_leaf] at h; subst h; rfl
theorem Zd (s id:Nat):∀ (ts:List Ty) (p:List Step) (i o:Nat) (x:gM ts) (l:List W),(Jv s id p i o ts x).den=some l→wT id (iN p) i (mo s ts x)=l.map cW
 | [],p,i,o,x,l,h=>by simp only [Jv,Tree.den_leaf] at h; subst h; rfl
 | t::r,p,i,o,x,l,h=>by
   simp only [Jv,Tree.den_bind,Tree.den_leaf] at h;obtain ⟨w,h1,l',h2,rfl⟩:=h;simp only [mo,wT,aD]
   have:=Zc s id t _ _ w h1
   rw [Zb] at this;rw [this,Zd s id r p (i + 1) _ _ l' h2]
end
mutual
theorem Ze (id:Nat):∀ (t:T2) (p:List Step) (w:W),(EW id p t).den=some w→u0 id (iN p) (cT t)=cW w
 | .e s t x,p,w,h=>Zc s id t p x w h
 | .w v,p,w,h=>by simp only [EW,Tree.den_leaf] at h; subst h; rfl
 | .agg l,p,w,h=>by
   simp only [EW,Tree.den_bind] at h;obtain ⟨ws,h1,h2⟩:=h;simp only [cT];rw [Za,Zf id l p 0 0 ws h1];exact Nh h2
 | .vec g z l n,p,w,h=>by simp only [EW,Tree.den_leaf] at h; subst h; rfl
 | .hole n,p,w,h=>by simp only [EW,Tree.den_leaf] at h; subst h; rfl
theorem Zf (id:Nat):∀ (l:List T2) (p:List Step) (i o:Nat) (ws:List W),(Jw id p i o l).den=some ws→wT id (iN p) i (iU l)=ws.map cW
 | [],p,i,o,ws,h=>by simp only [Jw,Tree.den_leaf] at h; subst h; rfl
 | t::r,p,i,o,ws,h=>by
   simp only [Jw,Tree.den_bind,Tree.den_leaf] at h;obtain ⟨w,h1,l',h2,rfl⟩:=h;simp only [iU,wT,aD]
   have:=Ze id t _ w h1
   rw [Zb] at this;rw [this,Zf id r p (i + 1) _ l' h2]
end
mutual
def yc:Ty→Ty
 | .vec _ t=>.sl (yc t)
 | .agg ts=>.agg (GW ts)
 | .int k=>.int k
 | .bool=>.bool
 | .str=>.str
 | .sl t=>.sl t
 | .ref t=>.ref t
 | .mW t=>.mW t
 | .fn f ts=>.fn f ts
 | .mp k v=>.mp k v
 | .eQ=>.eQ
 | .ff=>.ff
def GW:List Ty→List Ty
 | []=>[]
 | t::r=>yc t::GW r
end
mutual
def sV:(t:Ty)→El t→El (yc t)
 | .vec _ t,x=>ft (sV t) x
 | .agg ts,x=>Ni ts x
 | .int _,x=>x
 | .bool,x=>x
 | .str,x=>x
 | .sl _,x=>x
 | .ref _,x=>x
 | .mW _,x=>x
 | .fn _ _,x=>x
 | .mp _ _,x=>x
 | .eQ,x=>x
 | .ff,x=>x
def Ni:(ts:List Ty)→gM ts→gM (GW ts)
 | [],_=>()
 | t::r,x=>r0 (GW r) (sV t (n5 r x)) (Ni r (pK r x))
end
mutual
theorem Jx:∀ (t:Ty) (x:El t),enc (yc t) (sV t x)=enc t x
 | .vec z t,x=>by
   have h:∀ l:List (El t),(l.map (sV t)).map (enc (yc t))=l.map (enc t):=by
    intro l
    induction l with
    | nil=>rfl
    | cons a r ih=>simp only [aD,Jx t a,ih]
   exact congrArg PV.sl (h x)
 | .agg ts,x=>congrArg PV.agg (Zg ts x)
 | .int _,_ | .bool,_ | .str,_ | .sl _,_ | .ref _,_ | .fn _ _,_ | .mp _ _,_ | .eQ,_ | .ff,_ | .mW _,_=>rfl
theorem Zg:∀ (ts:List Ty) (x:gM ts),kz (GW ts) (Ni ts x)=kz ts x
 | [],_=>rfl
 | t::r,x=>by
   simp only [GW,Ni,kz,uh,ui];rw [Jx t,Zg r]
end
def EX (t:Ty) (l:List (El t)):TV:=if t.pure then ⟨.sl t,l⟩ else ⟨.sl (yc t),ft (sV t) l⟩
theorem Si (t:Ty) (l:List (El t)):enc (EX t l).1 (EX t l).2=.sl (l.map (enc t)):=by
 by_cases hp:t.pure=true
 · rw [show EX t l=⟨.sl t,l⟩ from if_pos hp];rfl
 · rw [show EX t l=⟨.sl (yc t),ft (sV t) l⟩ from if_neg hp];show PV.sl ((l.map (sV t)).map (enc (yc t)))=_;rw [cm];congr 2;funext x;exact Jx t x
def toQ:(t:Ty)→El t→TV
 | .vec _ u,l=>EX u l
 | t,x=>⟨yc t,sV t x⟩
theorem D3a (t:Ty) (x:El t):enc (toQ t x).1 (toQ t x).2=enc t x:=by
 cases t with
 | vec z u=>exact Si _ _
 | _=>exact Jx _ _
def Jy (t:Ty) (x:El t):TV:=if t.pure then ⟨t,x⟩ else toQ t x
theorem D3b (t:Ty) (x:El t):enc (Jy t x).1 (Jy t x).2=enc t x:=by
 by_cases hp:t.pure=true
 · rw [show Jy t x=⟨t,x⟩ from if_pos hp]
 · rw [show Jy t x=toQ t x from if_neg hp];exact D3a t x
def Jz (t:Ty) (l:List (El t)):(t:Ty)×List (El t):=if t.pure then ⟨t,l⟩ else ⟨yc t,ft (sV t) l⟩
theorem D0a (t:Ty) (l:List (El t)):(Jz t l).2.map (enc (Jz t l).1)=l.map (enc t):=by
 by_cases hp:t.pure=true
 · rw [show Jz t l=⟨t,l⟩ from if_pos hp]
 · rw [show Jz t l=⟨yc t,ft (sV t) l⟩ from if_neg hp];show (l.map (sV t)).map (enc (yc t))=_;rw [cm];congr 1;funext x;exact Jx t x
def Nj (n:Nat) (o:Tree ((t:Ty)×List (El t))):SL→Tree TV
 | .base _ t l=>.leaf (EX t (l.take n))
 | _=>o.bind fun q=>.leaf ⟨.sl q.1,q.2.take n⟩
mutual
def tP:T2→Tree TV
 | .e _ t x=>.leaf (Jy t x)
 | .agg l=>(JA l).bind fun q=>.leaf ⟨.agg q.1,q.2⟩
 | .vec _ _ a n=>Nj n (B3 a) a
 | .w _=>.fail
 | .hole _=>.fail
def JA:List T2→Tree ((ts:List Ty)×gM ts)
 | []=>.leaf ⟨[],()⟩
 | t::r=>(tP t).bind fun p=>(JA r).bind fun q=>.leaf ⟨p.1::q.1,r0 q.1 p.2 q.2⟩
def B3:SL→Tree ((t:Ty)×List (El t))
 | .base _ t l=>.leaf (Jz t l)
 | .set a i u=>(B3 a).bind fun q=>(tP u).bind fun v=>(Tree.lC (rI q.1 v.2)).bind fun x=>.leaf ⟨q.1,q.2.set i x⟩
 | .app a u=>(B3 a).bind fun q=>(tP u).bind fun v=>(Tree.lC (rI q.1 v.2)).bind fun x=>.leaf ⟨q.1,q.2++[x]⟩
end
theorem Zh:∀ {l:List (T Nat)} {vs:List PV} {i:Nat} {t:T Nat} {v:PV},kZ l=some vs→sG t=some v→kZ (l.set i t)=some (vs.set i v)
 | [],vs,i,t,v,h,_=>by simp only [kZ,aa] at h; subst h; rfl
 | a::r,vs,i,t,v,h,hv=>by
   simp only [kZ] at h;cases h1:sG a with
   | none=>rw [h1] at h; cases h
   | some x =>
     cases h2:kZ r with
     | none=>rw [h1,h2] at h; cases h
     | some q =>
       rw [h1,h2] at h;simp only [aa] at h;subst h;cases i with
       | zero=>simp only [dN,kZ,hv,h2]
       | succ i=>simp only [ev,kZ,h1,Zh h2 hv]
theorem Zi:∀ {l:List (T Nat)} {vs:List PV} {t:T Nat} {v:PV},kZ l=some vs→sG t=some v→kZ (l++[t])=some (vs++[v])
 | [],vs,t,v,h,hv=>by simp only [kZ,aa] at h; subst h; simp only [a6,kZ,hv]
 | a::r,vs,t,v,h,hv=>by
   simp only [kZ] at h;cases h1:sG a with
   | none=>rw [h1] at h; cases h
   | some x =>
     cases h2:kZ r with
     | none=>rw [h1,h2] at h; cases h
     | some q =>
       rw [h1,h2] at h;simp only [aa] at h;subst h;simp only [aS,kZ,h1,Zi h2 hv]
theorem D13 {n:Nat} {o:Tree ((t:Ty)×List (El t))} {a:SL} (ho:∀ q,o.den=some q→kZ (eP a)=some (q.2.map (enc q.1))) {v:TV} (h:(Nj n o a).den=some v):∃ vs,kZ (eP a)=some vs∧enc v.1 v.2=.sl (vs.take n):=by
 cases a with
 | base s t l =>
   simp only [Nj,Tree.den_leaf] at h;subst h;refine ⟨l.map (enc t),by simp only [eP,M5],?_⟩
   rw [Si,bO]
 | _ =>
   simp only [Nj,Tree.den_bind,Tree.den_leaf] at h;obtain ⟨q,h1,rfl⟩:=h;refine ⟨_,ho q h1,?_⟩;show PV.sl ((q.2.take n).map (enc q.1))=_;rw [bO]
mutual
theorem Nk:∀ (t:T2) (v:TV),(tP t).den=some v→sG (cT t)=some (enc v.1 v.2)
 | .e s t x,v,h=>by
   simp only [tP,Tree.den_leaf] at h;subst h;rw [D3b];exact M1 s t x
 | .agg l,v,h=>by
   simp only [tP,Tree.den_bind,Tree.den_leaf] at h;obtain ⟨q,h1,rfl⟩:=h;simp only [cT,YT];rw [Zj l q h1];rfl
 | .vec g z a n,v,h=>by
   simp only [tP] at h;obtain ⟨vs,h1,h2⟩:=D13 (fun q hq=>JB a q hq) h
   simp only [cT,sG,h1,h2]
 | .w _,v,h=>by simp [tP,Tree.den] at h
 | .hole _,v,h=>by simp [tP,Tree.den] at h
theorem Zj:∀ (l:List T2) (q:(ts:List Ty)×gM ts),(JA l).den=some q→kZ (iU l)=some (kz q.1 q.2)
 | [],q,h=>by simp only [JA,Tree.den_leaf] at h; subst h; rfl
 | t::r,q,h=>by
   simp only [JA,Tree.den_bind,Tree.den_leaf] at h;obtain ⟨p,h1,q',h2,rfl⟩:=h;simp only [iU,kZ,kz,uh,ui];rw [Nk t p h1,Zj r q' h2]
theorem JB:∀ (a:SL) (q:(t:Ty)×List (El t)),(B3 a).den=some q→kZ (eP a)=some (q.2.map (enc q.1))
 | .base s t l,q,h=>by
   simp only [B3,Tree.den_leaf] at h;subst h;rw [D0a];simp only [eP,M5]
 | .set a i u,q,h=>by
   simp only [B3,Tree.den_bind,Tree.den_ofO,Tree.den_leaf] at h;obtain ⟨q',h1,v,h2,x,h3,rfl⟩:=h;obtain ⟨e1,e2,e3⟩:=vC h3;simp only [eP,fa];exact Zh (JB a q' h1) (by rw [Nk u v h2,e3])
 | .app a u,q,h=>by
   simp only [B3,Tree.den_bind,Tree.den_ofO,Tree.den_leaf] at h;obtain ⟨q',h1,v,h2,x,h3,rfl⟩:=h;obtain ⟨e1,e2,e3⟩:=vC h3;simp only [eP,b5,aD,cl];exact Zi (JB a q' h1) (by rw [Nk u v h2,e3])
end
def Nl (off:Option Nat) (len:Nat):SL→Tree TV
 | .base _ t l=>.leaf (EX t ((match off with | none=>l | some o=>l.drop o).take len))
 | a=>(B3 a).bind fun q=>.leaf ⟨.sl q.1,(match off with | none=>q.2 | some o=>q.2.drop o).take len⟩
theorem D3c {off:Option Nat} {len:Nat} {a:SL} {v:TV} (h:(Nl off len a).den=some v):∃ vs,kZ (eP a)=some vs∧enc v.1 v.2=.sl ((vs.drop (off.getD 0)).take len):=by
 cases a with
 | base s t l =>
   simp only [Nl,Tree.den_leaf] at h;subst h;refine ⟨l.map (enc t),by simp only [eP,M5],?_⟩
   rw [Si];cases off with
   | none=>simp [bO]
   | some o=>simp [bO,fe]
 | _ =>
   simp only [Nl,Tree.den_bind,Tree.den_leaf] at h;obtain ⟨q,h1,rfl⟩:=h;refine ⟨_,JB _ q h1,?_⟩;cases off with
   | none=>exact congrArg PV.sl (by simp [bO])
   | some o=>exact congrArg PV.sl (by simp [bO,fe])
def Nn:Option Ty→Nat→Option Ty
 | some (.agg ts),i=>ts[i]?
 | some (.fn _ ts),i=>ts[i]?
 | _,_=>none
def AO:Option Ty→Option Ty
 | some (.sl t)=>some t
 | some (.vec _ t)=>some t
 | _=>none
mutual
def sB (h:H2):Option Ty→W→Tree TV
 | _,.v t x=>.leaf ⟨t,x⟩
 | u,.c p=>match zx (.c p) with
   | some x=>.leaf x
   | none=>match u with
     | some u=>match dec u p with | some x=>.leaf ⟨u,x⟩ | none=>.fail
     | none=>.fail
 | u,.nil _=>match AO u with | some t=>.leaf ⟨.sl t,([]:List (El t))⟩ | none=>.fail
 | _,.own id path off len g=>(Tree.lC (oJ h id)).bind fun o=>(xq o path).bind fun x=>if x.1 == g then (Tree.ask (cR (match off with | none=>len | some o=>o + len) x.2.2.len)).bind fun _=>Nl off len x.2.2 else .fail
 | _,.ptr id np rp g=>(Tree.lC (oJ h id)).bind fun o=>(ET o np rp).bind fun x=>if x.2 == g then (tP x.1).bind fun v=>.leaf ⟨.ref v.1,v.2⟩ else .fail
 | u,.agg l=>(B4 h u 0 l).bind fun q=>.leaf ⟨.agg q.1,q.2⟩
 | u,.fn f l=>(B4 h u 0 l).bind fun q=>.leaf ⟨.fn f q.1,q.2⟩
 | _,.fy ..=>.fail
 | _,.eJ _=>.fail
 | _,.dead _=>.fail
def B4 (h:H2) (u:Option Ty) (i:Nat):List W→Tree ((ts:List Ty)×gM ts)
 | []=>.leaf ⟨[],()⟩
 | w::r=>(sB h (Nn u i) w).bind fun p=>(B4 h u (i + 1) r).bind fun q=>.leaf ⟨p.1::q.1,r0 q.1 p.2 q.2⟩
end
theorem qP {h:H2} {id:Nat} {o:O2} (e:oJ h id=some o):cH h id=some (cO o):=by rw [BZ,e]; rfl
mutual
theorem AP (h:H2):∀ (w:W) (u:Option Ty) (v:TV),(sB h u w).den=some v→mq (cH h) (cW w)=some (enc v.1 v.2)
 | .v t x,u,v,e=>by simp only [sB,Tree.den_leaf] at e; subst e; rfl
 | .c p,u,v,e=>by
   simp only [sB] at e;split at e
   · rename_i x hx;simp only [Tree.den_leaf] at e;subst e
     have:=GG hx
     rw [this];rfl
   · split at e
     · split at e
       · rename_i hd;simp only [Tree.den_leaf] at e;subst e;show some p=_;rw [EP _ _ _ hd]
       · simp at e
     · simp at e
 | .nil z,u,v,e=>by
   simp only [sB] at e;split at e
   · simp only [Tree.den_leaf] at e; subst e; rfl
   · simp at e
 | .own id path off len g,u,v,e=>by
   simp only [sB,Tree.den_bind,Tree.den_ofO] at e;obtain ⟨o,h1,⟨g',z,a⟩,h2,e⟩:=e;split at e
   · rename_i hg;simp only [beq_iff_eq] at hg;simp only [Tree.den_bind,Tree.dB] at e;obtain ⟨_,h3,h4⟩:=e;obtain ⟨vs,h5,h6⟩:=D3c h4;have h3:off.getD 0 + len ≤ a.len:=by
      cases off with
      | none=>simpa using cu.mp h3
      | some o=>exact cu.mp h3
     simp only [cW,mq];rw [qP h1,xZ h2];simp only [hg,true_and,SL.jN,h3,if_true,h5,h6]
   · simp at e
 | .ptr id np rp g,u,v,e=>by
   simp only [sB,Tree.den_bind,Tree.den_ofO] at e;obtain ⟨o,h1,⟨t,g'⟩,h2,e⟩:=e;split at e
   · rename_i hg;simp only [beq_iff_eq] at hg;simp only [Tree.den_bind,Tree.den_leaf] at e;obtain ⟨x,h3,rfl⟩:=e;simp only [cW,mq];rw [qP h1,Jt h2];simp only [hg,true_and,if_true,Nk _ _ h3];rfl
   · simp at e
 | .agg l,u,v,e=>by
   simp only [sB,Tree.den_bind,Tree.den_leaf] at e;obtain ⟨q,h1,rfl⟩:=e;simp only [cW,mq];rw [GX h l u 0 q h1];rfl
 | .fn f l,u,v,e=>by
   simp only [sB,Tree.den_bind,Tree.den_leaf] at e;obtain ⟨q,h1,rfl⟩:=e;simp only [cW,mq];rw [GX h l u 0 q h1];rfl
 | .fy ..,u,v,e=>by simp [sB,Tree.den] at e
 | .eJ _,u,v,e=>by simp [sB,Tree.den] at e
 | .dead _,u,v,e=>by simp [sB,Tree.den] at e
theorem GX (h:H2):∀ (l:List W) (u:Option Ty) (i:Nat) (q:(ts:List Ty)×gM ts),(B4 h u i l).den=some q→rz (cH h) (mP l)=some (kz q.1 q.2)
 | [],u,i,q,e=>by simp only [B4,Tree.den_leaf] at e; subst e; rfl
 | w::r,u,i,q,e=>by
   simp only [B4,Tree.den_bind,Tree.den_leaf] at e;obtain ⟨p,h1,q',h2,rfl⟩:=e;simp only [mP,rz,kz,uh,ui];rw [AP h w _ p h1,GX h r u (i + 1) q' h2]
end
end Go.Mid
namespace Go.Mid
theorem Sj (φ:MV→MV) (ζ:Nat→Nat):∀ l:List (T Nat),mh (l.map (iS φ ζ))=mh l
 | []=>rfl
 | .p v::r=>by simp only [aD,iS,mh,Sj φ ζ r]
 | .m _::r | .agg _::r | .vec ..::r | .mp ..::r | .hole _::r=>rfl
theorem D0b (φ:MV→MV) (ζ:Nat→Nat) (l:List (T Nat)):iS φ ζ (jY l)=jY (jw φ ζ l):=by
 unfold jY;rw [zu,Sj];cases mh l with
 | none=>simp only [iS,zu]
 | some vs=>rfl
section
variable (φ:W→Tree W) (ζ:Nat→Nat)
mutual
def zC:T2→Tree T2
 | .e s t x=>.leaf (.e (ζ s) t x)
 | .w v=>(φ v).bind fun v'=>.leaf (.w v')
 | .agg l=>(GY l).bind fun l'=>.leaf (.agg l')
 | .vec g z a n=>(B5 a).bind fun a'=>.leaf (.vec (ζ g) z a' n)
 | .hole n=>.leaf (.hole n)
def GY:List T2→Tree (List T2)
 | []=>.leaf []
 | t::r=>(zC t).bind fun t'=>(GY r).bind fun r'=>.leaf (t'::r')
def B5:SL→Tree SL
 | .base s t l=>.leaf (.base (ζ s) t l)
 | .set a i u=>(B5 a).bind fun a'=>(zC u).bind fun u'=>.leaf (.set a' i u')
 | .app a u=>(B5 a).bind fun a'=>(zC u).bind fun u'=>.leaf (.app a' u')
end
def Dc:O2→Tree O2
 | .cell g t=>(zC φ ζ t).bind fun t'=>.leaf (.cell (ζ g) t')
 | .vec g z a=>(B5 φ ζ a).bind fun a'=>.leaf (.vec (ζ g) z a')
 | .mp g k v l=>.leaf (.mp (ζ g) k v l)
 | .gone=>.leaf .gone
end
section
variable (ζ:Nat→Nat) {φ:W→Tree W} {φ':MV→MV}
mutual
theorem JC (hφ:∀ w w',(φ w).den=some w'→φ' (cW w)=cW w'):∀ (t t':T2),(zC φ ζ t).den=some t'→iS φ' ζ (cT t)=cT t'
 | .e s t x,t',h=>by
   simp only [zC,Tree.den_leaf] at h;subst h;exact M3 φ' ζ s t x
 | .w v,t',h=>by
   simp only [zC,Tree.den_bind,Tree.den_leaf] at h;obtain ⟨v',h1,rfl⟩:=h;simp only [cT,iS,hφ _ _ h1]
 | .agg l,t',h=>by
   simp only [zC,Tree.den_bind,Tree.den_leaf] at h;obtain ⟨l',h1,rfl⟩:=h;simp only [cT,D0b,Sk hφ l l' h1]
 | .vec g z a n,t',h=>by
   simp only [zC,Tree.den_bind,Tree.den_leaf] at h;obtain ⟨a',h1,rfl⟩:=h;simp only [cT,iS,JD hφ a a' h1]
 | .hole n,t',h=>by simp only [zC,Tree.den_leaf] at h; subst h; rfl
theorem Sk (hφ:∀ w w',(φ w).den=some w'→φ' (cW w)=cW w'):∀ (l l':List T2),(GY φ ζ l).den=some l'→jw φ' ζ (iU l)=iU l'
 | [],l',h=>by simp only [GY,Tree.den_leaf] at h; subst h; rfl
 | t::r,l',h=>by
   simp only [GY,Tree.den_bind,Tree.den_leaf] at h;obtain ⟨t',h1,r',h2,rfl⟩:=h;simp only [iU,jw,JC hφ t t' h1,Sk hφ r r' h2]
theorem JD (hφ:∀ w w',(φ w).den=some w'→φ' (cW w)=cW w'):∀ (a a':SL),(B5 φ ζ a).den=some a'→jw φ' ζ (eP a)=eP a'
 | .base s t l,a',h=>by
   simp only [B5,Tree.den_leaf] at h;subst h;exact C6w φ' ζ s t l
 | .set a i u,a',h=>by
   simp only [B5,Tree.den_bind,Tree.den_leaf] at h;obtain ⟨b,h1,u',h2,rfl⟩:=h;simp only [eP];rw [zu,fa,← zu,JD hφ a b h1,JC hφ u u' h2]
 | .app a u,a',h=>by
   simp only [B5,Tree.den_bind,Tree.den_leaf] at h;obtain ⟨b,h1,u',h2,rfl⟩:=h;simp only [eP];rw [zu,b5,← zu,JD hφ a b h1,aD,JC hφ u u' h2];rfl
end
theorem Np (hφ:∀ w w',(φ w).den=some w'→φ' (cW w)=cW w') (o o':O2) (h:(Dc φ ζ o).den=some o'):kF φ' ζ (cO o)=cO o':=by
 cases o with
 | cell g t =>
   simp only [Dc,Tree.den_bind,Tree.den_leaf] at h;obtain ⟨t',h1,rfl⟩:=h;simp only [cO,kF,JC ζ hφ t t' h1]
 | vec g z a =>
   simp only [Dc,Tree.den_bind,Tree.den_leaf] at h;obtain ⟨a',h1,rfl⟩:=h;simp only [cO,kF,JD ζ hφ a a' h1]
 | mp g k v l =>
   simp only [Dc,Tree.den_leaf] at h;subst h
   have:∀ l:List (El k×El v),jw φ' ζ (l.map fun p=>T.p (enc v p.2))=l.map fun p=>T.p (enc v p.2):=by
    intro l
    induction l with
    | nil=>rfl
    | cons a r ih=>simp only [aD,jw,iS,ih]
   simp only [cO,kF,this]
 | gone=>simp only [Dc,Tree.den_leaf] at h; subst h; rfl
end
def Zk (g:Nat) (t:T2):Tree T2:=zC .leaf (fun _=>g) t
def xr (g:Nat) (a:SL):Tree SL:=B5 .leaf (fun _=>g) a
theorem JE (w w':W) (h:(Tree.leaf w).den=some w'):(fun v:MV=>v) (cW w)=cW w':=by simp only [Tree.den_leaf] at h; rw [h]
theorem C8f {g:Nat} {t t':T2} (h:(Zk g t).den=some t'):Ac g (cT t)=cT t':=JC _ JE t t' h
theorem B6 {g:Nat} {a a':SL} (h:(xr g a).den=some a'):nM g (eP a)=eP a':=JD _ JE a a' h
mutual
def AQ (s:Nat):T2→Tree TV
 | .e s' t x=>if s' == s || t.pure then .leaf ⟨t,x⟩ else .fail
 | .agg l=>(JF s l).bind fun q=>.leaf ⟨.agg q.1,q.2⟩
 | .vec g z a n=>if g == s then (zD a).bind fun b=>match b with
    | .base s' t l=>if s' == s || t.pure then (Tree.ask (n == l.length)).bind fun _=>.leaf ⟨.vec z t,l⟩ else .fail
    | _=>.fail
   else .fail
 | .w _=>.fail
 | .hole _=>.fail
def JF (s:Nat):List T2→Tree ((ts:List Ty)×gM ts)
 | []=>.leaf ⟨[],()⟩
 | t::r=>(AQ s t).bind fun p=>(JF s r).bind fun q=>.leaf ⟨p.1::q.1,r0 q.1 p.2 q.2⟩
def zD:SL→Tree SL
 | .base s t l=>.leaf (.base s t l)
 | .set a i u=>(zD a).bind fun b=>match b with
   | .base s t l=>(AQ s u).bind fun v=>(Tree.lC (rI t v.2)).bind fun x=>.leaf (.base s t (l.set i x))
   | _=>.fail
 | .app a u=>(zD a).bind fun b=>match b with
   | .base s t l=>(AQ s u).bind fun v=>(Tree.lC (rI t v.2)).bind fun x=>.leaf (.base s t (l++[x]))
   | _=>.fail
end
theorem Sl {s s':Nat} {t:Ty} (hc:(s' == s || t.pure)=true) (y:El t):je s' t y=je s t y:=by
 simp only [cr,beq_iff_eq] at hc;rcases hc with rfl | hc
 · rfl
 · rw [rJ _ _ _ hc,rJ _ _ _ hc]
mutual
theorem Nq (s:Nat):∀ (t:T2) (v:TV),(AQ s t).den=some v→cT t=je s v.1 v.2
 | .e s' t x,v,h=>by
   simp only [AQ] at h;by_cases hc:(s' == s || t.pure)=true
   · rw [if_pos hc,Tree.den_leaf] at h;subst h;exact Sl hc x
   · rw [if_neg hc] at h; simp at h
 | .agg l,v,h=>by
   simp only [AQ,Tree.den_bind,Tree.den_leaf] at h;obtain ⟨q,h1,rfl⟩:=h;simp only [cT,je,Zl s l q h1]
 | .vec g z a n,v,h=>by
   simp only [AQ] at h;split at h
   · rename_i hg;simp only [beq_iff_eq] at hg;simp only [Tree.den_bind] at h;obtain ⟨b,h1,h⟩:=h;have hb:=EY a b h1;split at h
     · rename_i s' t l;by_cases hc:(s' == s || t.pure)=true
       · rw [if_pos hc] at h;simp only [Tree.den_bind,Tree.dB,Tree.den_leaf,beq_iff_eq] at h;obtain ⟨_,h2,rfl⟩:=h;have e1:∀ l:List (El t),l.map (je s' t)=l.map (je s t):=by
          intro l; congr 1; funext y; exact Sl hc y
         simp only [cT,hb,eP,hg,h2,je,e1]
       · rw [if_neg hc] at h; simp at h
     · simp at h
   · simp at h
 | .w _,v,h=>by simp [AQ,Tree.den] at h
 | .hole _,v,h=>by simp [AQ,Tree.den] at h
theorem Zl (s:Nat):∀ (l:List T2) (q:(ts:List Ty)×gM ts),(JF s l).den=some q→iU l=mo s q.1 q.2
 | [],q,h=>by simp only [JF,Tree.den_leaf] at h; subst h; rfl
 | t::r,q,h=>by
   simp only [JF,Tree.den_bind,Tree.den_leaf] at h;obtain ⟨p,h1,q',h2,rfl⟩:=h;simp only [iU,mo,uh,ui];rw [Nq s t p h1,Zl s r q' h2]
theorem EY:∀ (a b:SL),(zD a).den=some b→eP a=eP b
 | .base s t l,b,h=>by simp only [zD,Tree.den_leaf] at h; subst h; rfl
 | .set a i u,b,h=>by
   simp only [zD,Tree.den_bind] at h;obtain ⟨b',h1,h⟩:=h;have hb:=EY a b' h1;split at h
   · rename_i s t l;simp only [Tree.den_bind,Tree.den_ofO,Tree.den_leaf] at h;obtain ⟨v,h2,x,h3,rfl⟩:=h;have hu:=Nq s u v h2;obtain ⟨t',y⟩:=v;obtain ⟨e,he,_⟩:=vC h3;simp only at e he;subst e;cases he;simp only [eP,hb,hu,fa]
   · simp at h
 | .app a u,b,h=>by
   simp only [zD,Tree.den_bind] at h;obtain ⟨b',h1,h⟩:=h;have hb:=EY a b' h1;split at h
   · rename_i s t l;simp only [Tree.den_bind,Tree.den_ofO,Tree.den_leaf] at h;obtain ⟨v,h2,x,h3,rfl⟩:=h;have hu:=Nq s u v h2;obtain ⟨t',y⟩:=v;obtain ⟨e,he,_⟩:=vC h3;simp only at e he;subst e;cases he;simp only [eP,hb,hu,b5,aD,cl]
   · simp at h
end
mutual
def Dd:T2→Tree T2
 | .vec g z a n=>(zD a).bind fun b=>.leaf (.vec g z b n)
 | .agg l=>(JG l).bind fun l'=>.leaf (.agg l')
 | .e s t x=>.leaf (.e s t x)
 | .w v=>.leaf (.w v)
 | .hole n=>.leaf (.hole n)
def JG:List T2→Tree (List T2)
 | []=>.leaf []
 | t::r=>(Dd t).bind fun t'=>(JG r).bind fun r'=>.leaf (t'::r')
end
mutual
theorem Zm:∀ (t t':T2),(Dd t).den=some t'→cT t=cT t'
 | .vec g z a n,t',h=>by
   simp only [Dd,Tree.den_bind,Tree.den_leaf] at h;obtain ⟨b,h1,rfl⟩:=h;simp only [cT,EY a b h1]
 | .agg l,t',h=>by
   simp only [Dd,Tree.den_bind,Tree.den_leaf] at h;obtain ⟨l',h1,rfl⟩:=h;simp only [cT,Zn l l' h1]
 | .e s t x,t',h=>by simp only [Dd,Tree.den_leaf] at h; subst h; rfl
 | .w v,t',h=>by simp only [Dd,Tree.den_leaf] at h; subst h; rfl
 | .hole n,t',h=>by simp only [Dd,Tree.den_leaf] at h; subst h; rfl
theorem Zn:∀ (l l':List T2),(JG l).den=some l'→iU l=iU l'
 | [],l',h=>by simp only [JG,Tree.den_leaf] at h; subst h; rfl
 | t::r,l',h=>by
   simp only [JG,Tree.den_bind,Tree.den_leaf] at h;obtain ⟨t',h1,r',h2,rfl⟩:=h;simp only [iU,Zm t t' h1,Zn r r' h2]
end
def GZ:O2→Tree O2
 | .cell g t=>(Dd t).bind fun t'=>.leaf (.cell g t')
 | .vec g z a=>(zD a).bind fun b=>.leaf (.vec g z b)
 | o=>.leaf o
theorem D0c (o o':O2) (h:(GZ o).den=some o'):cO o=cO o':=by
 cases o with
 | cell g t =>
   simp only [GZ,Tree.den_bind,Tree.den_leaf] at h;obtain ⟨t',h1,rfl⟩:=h;simp only [cO,Zm t t' h1]
 | vec g z a =>
   simp only [GZ,Tree.den_bind,Tree.den_leaf] at h;obtain ⟨b,h1,rfl⟩:=h;simp only [cO,EY a b h1]
 | mp g k v l=>simp only [GZ,Tree.den_leaf] at h; subst h; rfl
 | gone=>simp only [GZ,Tree.den_leaf] at h; subst h; rfl
def G0 (g:Nat) (u:Option Ty):SL:=match AO u with | some t=>.base g t [] | none=>.base g .bool []
theorem Sm (g:Nat) (u:Option Ty):eP (G0 g u)=[]:=by
 unfold G0;split <;> rfl
mutual
def wF (g:Nat) (u:Option Ty) (h:H2):W→Tree (T2×H2)
 | .v t x=>if t.pure then .leaf (.e g t x,h) else .fail
 | .c p=>match zx (.c p) with
   | some v=>if v.1.pure then .leaf (.e g v.1 v.2,h) else .fail
   | none=>match u with
     | some u=>match dec u p with | some x=>if u.pure then .leaf (.e g u x,h) else .fail | none=>.fail
     | none=>.fail
 | .own id path off len g'=>match off with
   | some _=>.fail
   | none=>(Tree.lC (oJ h id)).bind fun o=>match o,path with
     | .vec uD z a,[]=>if g' == uD then (Tree.ask (cR len a.len)).bind fun _=>(xr g a).bind fun b=>.leaf (.vec g z b len,eS h id .gone) else .fail
     | o,path=>(xp o path).bind fun t=>(Nd t).bind fun x=>if g' == x.1 then
        (Tree.ask (cR len x.2.2.len)).bind fun _=>(xr g x.2.2).bind fun b=>(zB (.hole 1) o path).bind fun o'=>.leaf (.vec g x.2.1 b len,eS h id o') else .fail
 | .agg l=>(G1 g u 0 h l).bind fun x=>.leaf (.agg x.1,x.2)
 | .nil z=>.leaf (.vec g z (G0 g u) 0,h)
 | .ptr id np rp g'=>.leaf (.w (.ptr id np rp g'),h)
 | .fn f l=>.leaf (.w (.fn f l),h)
 | .fy ..=>.fail
 | .eJ _=>.fail
 | .dead _=>.fail
def G1 (g:Nat) (u:Option Ty) (i:Nat) (h:H2):List W→Tree (List T2×H2)
 | []=>.leaf ([],h)
 | w::r=>(wF g (Nn u i) h w).bind fun x=>(G1 g u (i + 1) x.2 r).bind fun y=>.leaf (x.1::y.1,y.2)
end
theorem Sn {o:O2} {g z:Nat} {l:List (T Nat)} (h:cO o=.vec g z l):∃ a,o=.vec g z a:=by
 cases o with
 | vec g1 z1 a=>simp only [cO,Obj.vec.injEq] at h; obtain ⟨rfl,rfl,_⟩:=h; exact ⟨a,rfl⟩
 | _=>simp [cO] at h
theorem C4C {g id len g':Nat} {h:cj} {ob:Obj Nat} {p:List Nat} (ho:h id=some ob) (hn:∀ g1 z1 l1,ob=.vec g1 z1 l1→p=[]→False) :
 oW g h (.own id p 0 len g')=match ef (some ob) p with
  | some (.vec uD z l _)=>if g'=uD∧len ≤ l.length then
     match put (some ob) p (.hole 1) with | some o=>some (.vec g z (nM g l) len,cz h id (some o)) | none=>none
    else none
  | _=>none:=by
 simp only [oW,ho,true_and];split
 · rename_i h1;simp only [aa] at h1;exact absurd rfl (hn _ _ _ h1)
 · rfl
mutual
theorem Sp (g:Nat):∀ (w:W) (u:Option Ty) (h:H2) (t:T2) (h':H2),(wF g u h w).den=some (t,h')→oW g (cH h) (cW w)=some (cT t,cH h')
 | .v t x,u,h,t',h',e=>by
   simp only [wF] at e;split at e
   · rename_i hp;simp only [Tree.den_leaf,ae] at e;obtain ⟨rfl,rfl⟩:=e;show some (T.p (enc t x),cH h)=some (je g t x,cH h);rw [rJ g t x hp]
   · simp at e
 | .c p,u,h,t',h',e=>by
   simp only [wF] at e;split at e
   · rename_i v hv;split at e
     · rename_i hp;simp only [Tree.den_leaf,ae] at e;obtain ⟨rfl,rfl⟩:=e;rw [GG hv];show some (T.p (enc v.1 v.2),cH h)=some (je g v.1 v.2,cH h);rw [rJ g _ _ hp]
     · simp at e
   · split at e
     · rename_i u;split at e
       · rename_i x hx;split at e
         · rename_i hp;simp only [Tree.den_leaf,ae] at e;obtain ⟨rfl,rfl⟩:=e;show some (T.p p,cH h)=some (je g u x,cH h);rw [rJ g _ _ hp,EP _ _ _ hx]
         · simp at e
       · simp at e
     · simp at e
 | .own id path off len g',u,h,t',h',e=>by
   simp only [wF] at e;split at e
   · simp at e
   · simp only [Tree.den_bind,Tree.den_ofO] at e;obtain ⟨o,h1,e⟩:=e;have ho:=qP h1;split at e
     · rename_i uD z a;split at e
       · rename_i hg;simp only [beq_iff_eq] at hg;subst hg;simp only [Tree.den_bind,Tree.dB,Tree.den_leaf,ae] at e;obtain ⟨_,h2,b,h3,rfl,rfl⟩:=e;have h2:=cu.mp h2;simp only [cW,iN,cL,oW,ho,cO];rw [if_pos ⟨trivial,trivial,by rw [SL.jN]; exact h2⟩,B6 h3,← p6]
         rfl
       · simp at e
     · rename_i ng;simp only [Tree.den_bind] at e;obtain ⟨t,h2,⟨uD,z,a⟩,h3,e⟩:=e;split at e
       · rename_i hg;simp only [beq_iff_eq] at hg;subst hg;simp only [Tree.den_bind,Tree.dB,Tree.den_leaf,ae] at e;obtain ⟨_,h4,b,h5,Bu,h6,rfl,rfl⟩:=e;have h4:=cu.mp h4;have dJ:=Db h2;obtain ⟨n,hv⟩:=Y8 h3;rw [hv] at dJ;have eR:put (some (cO o)) (iN path) (.hole 1)=some (cO Bu):=B2 h6;have key:=C4C (g:=g) (g':=g') (len:=len) ho (p:=iN path) (fun g1 z1 l1 e1 e2=>by
          obtain ⟨a1,ha⟩:=Sn e1;cases path with
          | nil=>exact ng _ _ _ ha rfl
          | cons s r=>simp [iN] at e2)
         refine key.trans ?_;rw [dJ];simp only;rw [if_pos ⟨trivial,by rw [SL.jN]; exact h4⟩,eR,B6 h5,← p6]
         rfl
       · simp at e
 | .agg l,u,h,t',h',e=>by
   simp only [wF,Tree.den_bind,Tree.den_leaf,ae] at e;obtain ⟨⟨ts,h1⟩,e1,rfl,rfl⟩:=e;simp only [cW,oW,Sq g l u 0 h ts h1 e1,cT]
 | .nil z,u,h,t',h',e=>by
   simp only [wF,Tree.den_leaf,ae] at e;obtain ⟨rfl,rfl⟩:=e;simp only [cW,oW,cT,Sm]
 | .ptr id np rp g',u,h,t',h',e=>by
   simp only [wF,Tree.den_leaf,ae] at e;obtain ⟨rfl,rfl⟩:=e;rfl
 | .fn f l,u,h,t',h',e=>by
   simp only [wF,Tree.den_leaf,ae] at e;obtain ⟨rfl,rfl⟩:=e;rfl
 | .fy ..,u,h,t',h',e=>by simp [wF,Tree.den] at e
 | .eJ _,u,h,t',h',e=>by simp [wF,Tree.den] at e
 | .dead _,u,h,t',h',e=>by simp [wF,Tree.den] at e
theorem Sq (g:Nat):∀ (l:List W) (u:Option Ty) (i:Nat) (h:H2) (ts:List T2) (h':H2),(G1 g u i h l).den=some (ts,h')→tC g (cH h) (mP l)=some (iU ts,cH h')
 | [],u,i,h,ts,h',e=>by
   simp only [G1,Tree.den_leaf,ae] at e;obtain ⟨rfl,rfl⟩:=e;rfl
 | w::r,u,i,h,ts,h',e=>by
   simp only [G1,Tree.den_bind,Tree.den_leaf,ae] at e;obtain ⟨⟨t,h1⟩,e1,⟨q,h2⟩,e2,rfl,rfl⟩:=e;simp only [mP,tC,Sp g w _ h t h1 e1,Sq g r u (i + 1) h1 q h2 e2,iU]
end
end Go.Mid
namespace Go.Mid
abbrev wI (k:IntKind) (n:Int):W:=.v (.int k) n
abbrev wB (b:Bool):W:=.v .bool b
abbrev wS (s:ByteArray):W:=.v .str s
def isC:W→Bool
 | .c _=>true
 | _=>false
def De (w:W) (b:Bool):Tree Unit:=match w with
 | .c _=>Tree.Jh b
 | _=>Tree.ask b
@[simp] theorem Nr (w:W) (b:Bool) (r:Unit):(De w b).den=some r↔b=true:=by cases w <;> simp [De]
def pc (k:IntKind) (x y:Int):Int:=k.wrap (b8 k.bits x &&& b8 k.bits y).toNat
def sW (k:IntKind) (x y:Int):Int:=k.wrap (b8 k.bits x ||| b8 k.bits y).toNat
def Zo (k:IntKind) (x y:Int):Int:=k.wrap (b8 k.bits x ^^^ b8 k.bits y).toNat
def AR (k:IntKind) (x y:Int):Int:=k.wrap (b8 k.bits x &&& ~~~ b8 k.bits y).toNat
def qh (k:IntKind) (x y:Int):Int:=k.wrap (x * 2 ^ min y.toNat k.bits)
def jJ (k:IntKind) (x y:Int):Int:=x.fdiv (2 ^ min y.toNat k.bits)
def JH (a b:ByteArray):Bool:=a.toList == b.toList
def Ns (a b:ByteArray):Bool:=Op.bytesLess a.toList b.toList
def Sr (op:BinOp) (k:IntKind) (x y:Int) (b:W):Tree W :=
 match op with
 | .add=>.leaf (wI k (k.wrap (x + y)))
 | .sub=>.leaf (wI k (k.wrap (x - y)))
 | .mul=>.leaf (wI k (k.wrap (x * y)))
 | .quo=>(De b (y != 0)).bind fun _=>.leaf (wI k (k.wrap (x.tdiv y)))
 | .rem=>(De b (y != 0)).bind fun _=>.leaf (wI k (x.tmod y))
 | .eql=>.leaf (wB (x == y))
 | .neq=>.leaf (wB (x != y))
 | .lss=>.leaf (wB (decide (x < y)))
 | .leq=>.leaf (wB (decide (x ≤ y)))
 | .gtr=>.leaf (wB (decide (x > y)))
 | .geq=>.leaf (wB (decide (x ≥ y)))
 | .and=>.leaf (wI k (pc k x y))
 | .or=>.leaf (wI k (sW k x y))
 | .xor=>.leaf (wI k (Zo k x y))
 | .andNot=>.leaf (wI k (AR k x y))
 | _=>.fail
def Ss (op:BinOp) (k:IntKind) (x y:Int) (b:W):Tree W :=
 match op with
 | .shl=>(De b (decide (0 ≤ y))).bind fun _=>.leaf (wI k (qh k x y))
 | .shr=>(De b (decide (0 ≤ y))).bind fun _=>.leaf (wI k (jJ k x y))
 | _=>.fail
def Su (op:BinOp) (a b:ByteArray):Tree W :=
 match op with
 | .add=>(Tree.ask (cR (a.size + b.size) 9223372036854775807)).bind fun _=>.leaf (wS (a++b))
 | .eql=>.leaf (wB (JH a b))
 | .neq=>.leaf (wB !(JH a b))
 | .lss=>.leaf (wB (Ns a b))
 | .leq=>.leaf (wB (Ns a b || JH a b))
 | .gtr=>.leaf (wB !(Ns a b || JH a b))
 | .geq=>.leaf (wB !(Ns a b))
 | _=>.fail
def Sv (op:BinOp) (a b:Bool):Tree W :=
 match op with
 | .eql=>.leaf (wB (a == b))
 | .neq=>.leaf (wB !(a == b))
 | _=>.fail
def Sw:BinOp→Bool
 | .shl=>true
 | .shr=>true
 | _=>false
def Sx (bl:Bool) (op:BinOp) (a b:W):Tree W :=
 match bl with
 | true=>match Jm a,Jm b with | some x,some y=>Sv op x y | _,_=>.fail
 | false=>match vE a,vE b with
   | some (k,x),some (k',y)=>match Sw op with
     | true=>Ss op k x y b
     | false=>if k == k' then Sr op k x y b else .fail
   | _,_=>match C9 a,C9 b with | some x,some y=>Su op x y | _,_=>.fail
theorem C8g {op:BinOp} {k:IntKind} {x y:Int} {b w:W} (hs:Sw op=false) (h:(Sr op k x y b).den=some w):∃ v,jz op (.int k x) (.int k y)=some v∧cW w=.p v:=by
 cases op <;> simp only [Sw,Bool.true_eq_false,reduceCtorEq] at hs <;>
  simp only [Sr,Tree.den_leaf,Tree.den_bind,Nr,Tree.lZ] at h
 case quo =>
  obtain ⟨_,h1,rfl⟩:=h;exact ⟨_,by simp only [jz,ne_eq,not_true_eq_false,if_false]; rw [if_neg (by simpa using h1)]; rfl,rfl⟩
 case rem =>
  obtain ⟨_,h1,rfl⟩:=h;exact ⟨_,by simp only [jz,ne_eq,not_true_eq_false,if_false]; rw [if_neg (by simpa using h1)]; rfl,rfl⟩
 all_goals
  subst h;exact ⟨_,by simp only [jz,ne_eq,not_true_eq_false,if_false,HV]; rfl,rfl⟩
theorem C6C {op:BinOp} {k k':IntKind} {x y:Int} {b w:W} (h:(Ss op k x y b).den=some w):∃ v,jz op (.int k x) (.int k' y)=some v∧cW w=.p v:=by
 cases op <;> simp only [Ss,Tree.den_leaf,Tree.den_bind,Nr,Tree.lZ,decide_eq_true_eq] at h
 all_goals
  obtain ⟨_,h1,rfl⟩:=h;exact ⟨_,by simp only [jz]; rw [if_neg (by omega)]; rfl,rfl⟩
theorem C8h {op:BinOp} {x y:ByteArray} {w:W} (h:(Su op x y).den=some w):∃ v,jz op (.str x) (.str y)=some v∧cW w=.p v:=by
 cases op <;> simp only [Su,Tree.den_leaf,Tree.den_bind,Tree.dB,Tree.lZ] at h
 case add =>
  obtain ⟨_,h1,rfl⟩:=h;exact ⟨_,by simp only [jz]; rw [if_pos (cu.mp h1)]; rfl,rfl⟩
 all_goals
  subst h;exact ⟨_,by simp only [jz]; rfl,rfl⟩
theorem C6D {op:BinOp} {x y:Bool} {w:W} (h:(Sv op x y).den=some w):∃ v,jz op (.bool x) (.bool y)=some v∧cW w=.p v:=by
 cases op <;> simp only [Sv,Tree.den_leaf,Tree.lZ] at h
 all_goals
  subst h;exact ⟨_,by simp only [jz]; rfl,rfl⟩
def EZ (bl:Bool) (op:BinOp) (a b:MV):Option MV:=match a,b with
 | .p a,.p b=>if DN a=bl then (match jz op a b with | some v=>some (.p v) | none=>none) else none
 | _,_=>none
theorem D14 {bl:Bool} {op:BinOp} {a b w:W} (h:(Sx bl op a b).den=some w):EZ bl op (cW a) (cW b)=some (cW w):=by
 unfold Sx at h;split at h
 · split at h
   · rename_i x y hx hy;rw [R5 hx,R5 hy];obtain ⟨v,h1,h2⟩:=C6D h;simp only [EZ,h1,h2,DN,if_true]
   · simp at h
 · split at h
   · rename_i k x k' y hx hy;rw [xm hx,xm hy];split at h
     · obtain ⟨v,h1,h2⟩:=C6C (k':=k') h;simp only [EZ,h1,h2,DN,if_true]
     · rename_i hs;split at h
       · rename_i hk;simp only [beq_iff_eq] at hk;subst hk;obtain ⟨v,h1,h2⟩:=C8g hs h;simp only [EZ,h1,h2,DN,if_true]
       · simp at h
   · split at h
     · rename_i x y hx hy;rw [GJ hx,GJ hy];obtain ⟨v,h1,h2⟩:=C8h h;simp only [EZ,h1,h2,DN,if_true]
     · simp at h
mutual
def um:TD→Ty
 | .int k=>.int k
 | .bool=>.bool
 | .str=>.str
 | .agg l=>.agg (p7 l)
def p7:List TD→List Ty
 | []=>[]
 | t::r=>um t::p7 r
end
mutual
def B7:(td:TD)→El (um td)→El (um td)→Bool
 | .int _,x,y=>(show Int from x) == y
 | .bool,x,y=>(show Bool from x) == y
 | .str,x,y=>JH x y
 | .agg l,x,y=>Nt l x y
def Nt:(l:List TD)→gM (p7 l)→gM (p7 l)→Bool
 | [],_,_=>true
 | [t],x,y=>B7 t (n5 [] x) (n5 [] y)
 | t::u::r,x,y=>B7 t (n5 (p7 (u::r)) x) (n5 (p7 (u::r)) y) && Nt (u::r) (pK (p7 (u::r)) x) (pK (p7 (u::r)) y)
end
mutual
theorem Sy:∀ (td:TD) (x y:El (um td)),u5 (enc (um td) x) (enc (um td) y)=B7 td x y
 | .int _,x,y=>rfl
 | .bool,x,y=>rfl
 | .str,x,y=>rfl
 | .agg l,x,y=>Zp l x y
theorem Zp:∀ (l:List TD) (x y:gM (p7 l)),wU (kz (p7 l) x) (kz (p7 l) y)=Nt l x y
 | [],x,y=>rfl
 | [t],x,y=>by
   have h:u5 (enc (um t) (n5 [] x)) (enc (um t) (n5 [] y))=B7 t (n5 [] x) (n5 [] y):=Sy t _ _;show (u5 (enc (um t) (n5 [] x)) (enc (um t) (n5 [] y)) && true)=B7 t (n5 [] x) (n5 [] y);rw [h,Bool.and_true]
 | t::u::r,x,y=>by
   have h1:=Sy t (n5 (p7 (u::r)) x) (n5 (p7 (u::r)) y);have h2:=Zp (u::r) (pK (p7 (u::r)) x) (pK (p7 (u::r)) y);show (u5 (enc (um t) (n5 (p7 (u::r)) x)) (enc (um t) (n5 (p7 (u::r)) y)) && wU (kz (p7 (u::r)) (pK (p7 (u::r)) x)) (kz (p7 (u::r)) (pK (p7 (u::r)) y)))=(B7 t (n5 (p7 (u::r)) x) (n5 (p7 (u::r)) y) && Nt (u::r) (pK (p7 (u::r)) x) (pK (p7 (u::r)) y));rw [h1,h2]
end
mutual
theorem Zq:∀ (td:TD) (x:El (um td)),pt td (enc (um td) x)=true
 | .int _,x=>by simp [um,enc,pt]
 | .bool,x=>rfl
 | .str,x=>rfl
 | .agg l,x=>Zr l x
theorem Zr:∀ (l:List TD) (x:gM (p7 l)),sg l (kz (p7 l) x)=true
 | [],x=>rfl
 | t::r,x=>by
   simp only [p7,kz,sg,aj];exact ⟨Zq t _,Zr r _⟩
end
def Sz (neg:Bool) (td:TD) (a b:W):Tree W:=match B0 (um td) a,B0 (um td) b with
 | some x,some y=>.leaf (wB (match neg with | false=>B7 td x y | true=>!(B7 td x y)))
 | _,_=>.fail
def Nu (neg:Bool) (td:TD) (a b:MV):Option MV:=match a,b with
 | .p a,.p b=>if pt td a && pt td b then some (Ae (u5 a b != neg)) else none
 | _,_=>none
theorem D15 {neg:Bool} {td:TD} {a b w:W} (h:(Sz neg td a b).den=some w):Nu neg td (cW a) (cW b)=some (cW w):=by
 unfold Sz at h;split at h
 · rename_i x y hx hy;simp only [Tree.den_leaf] at h;subst h;rw [GH hx,GH hy];simp only [Nu,Zq,Bool.and_self,if_true,Sy];cases neg <;> cases B7 td x y <;> rfl
 · simp at h
def SA:W→Bool
 | .dead _=>false
 | _=>true
def Nv:si→W→Tree W
 | .not _,w=>match w with
   | .c (.bool b)=>.leaf (.c (.bool !b))
   | w=>match Jm w with | some b=>.leaf (wB !b) | none=>.fail
 | .neg _,w=>match vE w with | some (k,n)=>.leaf (wI k (k.wrap (0 - n))) | none=>.fail
 | .inv _,w=>match vE w with | some (k,n)=>.leaf (wI k (Zo k (if k.signed then -1 else k.max) n)) | none=>.fail
 | .convI k _,w=>match vE w with | some (_,n)=>.leaf (wI k (k.wrap n)) | none=>.fail
 | .convS _,w=>match C9 w with | some s=>.leaf (wS s) | none=>.fail
 | .convR _,w=>match vE w with | some (_,n)=>.leaf (wS (Utf8.encode n)) | none=>.fail
 | .lenS _,w=>match C9 w with | some s=>.leaf (wI .i64 (s.size:Nat)) | none=>.fail
 | .capn _,w=>match w with | .nil _=>.leaf (wI .i64 (0:Nat)) | _=>.fail
 | .isnil fk neg _,w=>match fk,w with
   | false,.c .eQ=>.leaf (.c (.bool (true != neg)))
   | true,.c .ff=>.leaf (.c (.bool (true != neg)))
   | false,.v .eQ _=>.leaf (.c (.bool (true != neg)))
   | true,.v .ff _=>.leaf (.c (.bool (true != neg)))
   | false,.v (.ref _) _=>.leaf (.c (.bool (false != neg)))
   | false,.v (.mW t) x=>.leaf (.v .bool (Option.isNone (α:=El t) x != neg))
   | false,.ptr ..=>.leaf (.c (.bool (false != neg)))
   | true,.v (.fn _ _) _=>.leaf (.c (.bool (false != neg)))
   | true,.c (.fn _ _)=>.leaf (.c (.bool (false != neg)))
   | true,.fn _ _=>.leaf (.c (.bool (false != neg)))
   | _,_=>.fail
 | .nilc _,w=>match w with
   | .v (.ref t) x=>.leaf (.v (.ref t) x)
   | .v (.mW t) x=>.opt (A:=El t) (C7 t) x fun y=>.leaf (.v (.ref t) y)
   | .ptr id np rp g=>.leaf (.ptr id np rp g)
   | _=>.fail
 | .len _,w=>match w with
   | .v (.sl t) l=>.leaf (wI .i64 (cq (α:=El t) l:Nat))
   | .c (.sl l)=>.leaf (.c (.int .i64 (l.length:Nat)))
   | .nil _=>.leaf (.c (.int .i64 0))
   | .own _ _ _ n _=>.leaf (wI .i64 (n:Nat))
   | _=>.fail
 | .cut0 z _,w=>match w with
   | .v (.sl _) _=>.leaf (.nil z)
   | .c (.sl _)=>.leaf (.nil z)
   | .nil _=>.leaf (.nil z)
   | .own ..=>.leaf (.nil z)
   | _=>.fail
 | .ext _ i,w=>match w with
   | .eJ l=>Tree.lC l[i]?
   | _=>.fail
 | .fld agg n o _ i,w=>match w with
   | .v (.agg ts) x=>match Da ts x i with
     | some v=>if Ty.da (ts.take i) == o && v.1.cs == n && v.1.isAgg == agg then .leaf (.v v.1 v.2) else .fail
     | none=>.fail
   | .c (.agg l)=>match l[i]? with
     | some v=>if PV.da (l.take i) == o && v.cs == n && v.isAgg == agg then .leaf (.c v) else .fail
     | none=>.fail
   | .agg l=>match l[i]? with
     | some v=>if Jk (l.take i) == o && GB v == n && M7 v == agg && SA v then .leaf v else .fail
     | none=>.fail
   | _=>.fail
 | .faddr _ i o,w=>match w with
   | .v (.ref (.agg ts)) x=>match Da ts x i with
     | some v=>if Ty.da (ts.take i) == o then .leaf (.v (.ref v.1) v.2) else .fail
     | none=>.fail
   | .ptr id np rp g=>.leaf (.ptr id np (rp++[.f i o]) g)
   | _=>.fail
 | _,_=>.fail
def B8:si→Option dI
 | .not x | .neg x | .inv x | .convI _ x | .convS x | .convR x | .lenS x | .capn x | .isnil _ _ x | .nilc x | .len x | .cut0 _ x | .ext x _ | .fld _ _ _ x _ | .faddr x _ _=>some x
 | _=>none
theorem Zs (v:W) (h:SA v=true):LG (cW v)=false:=by
 cases v <;> first | rfl | cases h
theorem D3e (K:jl) (g:Nat) (d:Option Nat) (s:S2) (h:cj) (op:si) (x:dI) (w w':W) (ho:B8 op=some x) (hw:cJ (cS s) x=cW w) (e:(Nv op w).den=some w'):b7 K g d (cS s) h op=some (cW w',h):=by
 cases op <;> simp only [B8,aa,reduceCtorEq] at ho <;> subst ho <;> simp only [Nv] at e <;> simp only [b7,hw]
 case not =>
  split at e
  · simp only [Tree.den_leaf] at e; subst e; rfl
  · split at e
    · rename_i b hb; simp only [Tree.den_leaf] at e; subst e; rw [R5 hb]; rfl
    · simp at e
 case neg =>
  split at e
  · rename_i b hb; simp only [Tree.den_leaf] at e; subst e; rw [xm hb]; rfl
  · simp at e
 case inv =>
  split at e
  · rename_i b hb; simp only [Tree.den_leaf] at e; subst e; rw [xm hb]; rfl
  · simp at e
 case convI =>
  split at e
  · rename_i b hb; simp only [Tree.den_leaf] at e; subst e; rw [xm hb]; rfl
  · simp at e
 case convS =>
  split at e
  · rename_i b hb; simp only [Tree.den_leaf] at e; subst e; rw [GJ hb]; rfl
  · simp at e
 case convR =>
  split at e
  · rename_i b hb; simp only [Tree.den_leaf] at e; subst e; rw [xm hb]; rfl
  · simp at e
 case lenS =>
  split at e
  · rename_i b hb; simp only [Tree.den_leaf] at e; subst e; rw [GJ hb]; rfl
  · simp at e
 case capn =>
  split at e
  · simp only [Tree.den_leaf] at e; subst e; rfl
  · simp at e
 case isnil =>
  split at e <;> first | (simp only [Tree.den_leaf] at e; subst e; rfl) | (simp only [Tree.den_leaf] at e; subst e; rename_i t x; change Option (El t) at x; cases x <;> rfl) | simp at e
 case nilc =>
  split at e
  · simp only [Tree.den_leaf] at e; subst e; rfl
  · rename_i t x;obtain ⟨y,hy,e2⟩:=(Tree.lJ (A:=El t) (C7 t) x _ _).1 e;simp only [Tree.den_leaf] at e2;subst e2;have hx:x=(show El (.mW t) from some y):=hy;subst hx;rfl
  · simp only [Tree.den_leaf] at e; subst e; rfl
  · simp at e
 case len =>
  split at e
  · rename_i t l;simp only [Tree.den_leaf] at e;subst e
    have:∀ l:List (El t),(match yA (.p (.sl (l.map (enc t)))) with | some n=>some (vW n,h) | none=>none)=some (.p (.int .i64 (l.length:Nat)),h):=by intro l; simp [yA,vW]
    exact this l
  · simp only [Tree.den_leaf] at e; subst e; rfl
  · simp only [Tree.den_leaf] at e; subst e; rfl
  · simp only [Tree.den_leaf] at e; subst e; rfl
  · simp at e
 case cut0 =>
  split at e <;> first | (simp only [Tree.den_leaf] at e; subst e; rfl) | simp at e
 case ext =>
  split at e
  · rename_i l;simp only [Tree.den_ofO] at e;simp only [cW,sU,aH,e];rfl
  · simp at e
 case fld =>
  split at e
  · rename_i ts x;split at e
    · rename_i v hv;obtain ⟨t,y⟩:=v;split at e
      · rename_i hc;simp only [aj,beq_iff_eq] at hc;simp only [Tree.den_leaf] at e;subst e;have vk:=(Jo 0 ts x _ t y hv).1;have eY:=Jq ts x;simp only [cW,enc];rw [vk];simp only;rw [if_pos ⟨(eY _).trans hc.1.1,(zr _ _).trans hc.1.2,(M0 _ _).trans hc.2⟩]
      · simp at e
    · simp at e
  · rename_i l;split at e
    · rename_i v hv;split at e
      · rename_i hc;simp only [aj,beq_iff_eq] at hc;simp only [Tree.den_leaf] at e;subst e;simp only [cW];rw [hv];simp only;rw [if_pos ⟨hc.1.1,hc.1.2,hc.2⟩]
      · simp at e
    · simp at e
  · rename_i l;split at e
    · rename_i v hv;split at e
      · rename_i hc;simp only [aj,beq_iff_eq] at hc;simp only [Tree.den_leaf] at e;subst e;simp only [cW,sU,aH,hv,ak,← bO];rw [← sU,R1,M6,Y3,if_pos ⟨hc.1.1.1,hc.1.1.2,hc.1.2,Zs _ hc.2⟩]
      · simp at e
    · simp at e
  · simp at e
 case faddr =>
  split at e
  · rename_i ts x;split at e
    · rename_i v hv;obtain ⟨t,y⟩:=v;split at e
      · rename_i hc;simp only [beq_iff_eq] at hc;simp only [Tree.den_leaf] at e;subst e;have vk:=(Jo 0 ts x _ t y hv).1;have eY:=Jq ts x;simp only [cW,enc];rw [vk];simp only;rw [if_pos ((eY _).trans hc)]
      · simp at e
    · simp at e
  · simp only [Tree.den_leaf] at e;subst e;simp only [cW];rw [Ji,RW];rfl
  · simp at e
end Go.Mid
namespace Go.Mid
def E4 (np:Option (List Step)) (rp:List Step):List Step:=match np with | none=>rp | some p=>p++rp
theorem Nw (np:Option (List Step)) (rp:List Step):ru (xk np) (iN rp)=iN (E4 np rp):=by
 cases np with
 | none=>rfl
 | some p=>simp only [ru,xk,Option.getD_some,E4,Ji]
def Nx (h:H2) (agg:Bool) (n:Nat):W→Tree W
 | .v (.ref t) x=>if t.cs == n && t.isAgg == agg then .leaf (.v t x) else .fail
 | .ptr id np rp g=>(Tree.lC (oJ h id)).bind fun o=>(ET o np rp).bind fun x=>if x.2 == g && zy x.1 == n then
    (EW id (E4 np rp) x.1).bind fun v=>if M7 v == agg && SA v then .leaf v else .fail else .fail
 | _=>.fail
theorem Zt {h:H2} {agg:Bool} {n:Nat} {a w:W} (e:(Nx h agg n a).den=some w):tG (cH h) agg n (cW a)=some (cW w):=by
 unfold Nx at e;split at e
 · rename_i t x;split at e
   · rename_i hc;simp only [aj,beq_iff_eq] at hc;simp only [Tree.den_leaf] at e;subst e;show (if (enc t x).cs=n∧(enc t x).isAgg=agg then some (MV.p (enc t x)) else none)=_
     rw [if_pos ⟨(zr _ _).trans hc.1,(M0 _ _).trans hc.2⟩];rfl
   · simp at e
 · rename_i id np rp g;simp only [Tree.den_bind,Tree.den_ofO] at e;obtain ⟨o,h1,⟨t,s⟩,h2,e⟩:=e;split at e
   · rename_i hc;simp only [aj,beq_iff_eq] at hc;simp only [Tree.den_bind] at e;obtain ⟨v,h3,e⟩:=e;split at e
     · rename_i hd;simp only [aj,beq_iff_eq] at hd;simp only [Tree.den_leaf] at e;subst e;simp only [cW,tG];rw [qP h1,Jt h2];simp only;rw [Nw,Ze _ _ _ _ h3,Y3,GO,if_pos ⟨hc.1,trivial,hc.2⟩,if_pos ⟨hd.1,Zs _ hd.2⟩]
     · simp at e
   · simp at e
 · simp at e
mutual
def SB:T2→Ty
 | .e _ t _=>t
 | .vec _ z (.base _ t _) _=>.vec z t
 | .agg l=>.agg (Zu l)
 | _=>.bool
def Zu:List T2→List Ty
 | []=>[]
 | t::r=>SB t::Zu r
end
def B9:T2→Option (Nat×Nat×SL×Nat)
 | .vec g z l n=>some (g,z,l,n)
 | .e s (.vec z t) l=>some (s,z,.base s t l,cq (α:=El t) l)
 | _=>none
theorem E5 {t:T2} {g z n:Nat} {l:SL} (h:B9 t=some (g,z,l,n)):cT t=.vec g z (eP l) n:=by
 unfold B9 at h;split at h
 · simp only [aa,ae] at h; obtain ⟨rfl,rfl,rfl,rfl⟩:=h; rfl
 · simp only [aa,ae] at h; obtain ⟨rfl,rfl,rfl,rfl⟩:=h; rfl
 · cases h
def zF:List Step→List Step→Tree Unit
 | [],[]=>.leaf ()
 | .f i _::r,.f j _::q=>(Tree.Jh (i == j)).bind fun _=>zF r q
 | .k i _::r,.k j _::q=>(Tree.ask (iI i j)).bind fun _=>zF r q
 | _,_=>.fail
theorem SC:∀ {p q:List Step} {u:Unit},(zF p q).den=some u→iN p=iN q
 | [],[],_,_=>rfl
 | .f i _::r,.f j _::q,u,h=>by
   simp only [zF,Tree.den_bind,Tree.wD,beq_iff_eq] at h;obtain ⟨_,h1,h2⟩:=h;simp only [iN,Step.ix,h1,SC h2]
 | .k i _::r,.k j _::q,u,h=>by
   simp only [zF,Tree.den_bind,Tree.dB] at h;obtain ⟨_,h1,h2⟩:=h;simp only [iN,Step.ix,ei h1,SC h2]
 | [],_::_,_,h=>by simp [zF] at h
 | .f _ _::_,[],_,h=>by simp [zF] at h
 | .k _ _::_,[],_,h=>by simp [zF] at h
 | .k _ _::_,.f _ _::_,_,h=>by simp [zF] at h
 | .f _ _::_,.k _ _::_,_,h=>by simp [zF] at h
def SL.cut (n:Nat):SL→Tree SL
 | .base s t l=>.leaf (.base s t (l.take n))
 | a=>(Tree.ask (iI n a.len)).bind fun _=>.leaf a
theorem SL.E6 {n:Nat} {a b:SL} (h:(SL.cut n a).den=some b):eP b=(eP a).take n:=by
 have key:∀ a:SL,((Tree.ask (iI n a.len)).bind fun _=>Tree.leaf a).den=some b→eP b=(eP a).take n:=by
  intro a h;simp only [Tree.den_bind,Tree.dB,Tree.den_leaf] at h;obtain ⟨_,h1,rfl⟩:=h;rw [ei h1,a7 (by rw [SL.jN]; exact ar _)]
 cases a with
 | base s t l=>simp only [SL.cut,Tree.den_leaf] at h; subst h; simp only [eP,bO]
 | set a i u=>exact key _ h
 | app a u=>exact key _ h
def Ny (g:Nat) (h:H2) (n id:Nat) (p:List Step) (u:Ty) (x:W):Tree (W×H2) :=
 (wF g (some u) h x).bind fun y=>if zy y.1 == n then (Tree.lC (oJ y.2 id)).bind fun o=>(zB y.1 o p).bind fun o'=>.leaf (.dead 0,eS y.2 id o') else .fail
theorem Zv {g:Nat} {h:H2} {n id:Nat} {p:List Step} {u:Ty} {x w:W} {h':H2} (e:(Ny g h n id p u x).den=some (w,h')):yw g (cH h) n id (iN p) (cW x)=some (cW w,cH h'):=by
 unfold Ny at e;simp only [Tree.den_bind] at e;obtain ⟨⟨t,h1⟩,e1,e⟩:=e;split at e
 · rename_i hc;simp only [beq_iff_eq] at hc;simp only [Tree.den_bind,Tree.den_ofO,Tree.den_leaf,ae] at e;obtain ⟨o,e2,o',e3,rfl,rfl⟩:=e;unfold yw;rw [Sp g x _ h t h1 e1];simp only;rw [GO,if_pos hc,qP e2,B2 e3];simp only;rw [p6];rfl
 · simp at e
def SD (g:Nat) (h:H2) (n:Nat) (a x:W):Tree (W×H2) :=
 match a with
 | .ptr id np rp g0=>(Tree.lC (oJ h id)).bind fun o=>(ET o np rp).bind fun y=>if y.2 == g0 && zy y.1 == n then
    (match x with
    | .own uH qU off len g'=>if uH == id then (match B9 y.1 with
       | some (a,z,l,n')=>if off.isNone && g' == a then (zF qU (E4 np rp)).bind fun _ =>
          (Tree.ask (cR len n')).bind fun _=>(SL.cut len l).bind fun l'=>(zB (.vec a z l' len) o (E4 np rp)).bind fun o'=>.leaf (.dead 0,eS h id o')
         else .fail
       | none=>.fail)
      else Ny g h n id (E4 np rp) (SB y.1) x
    | x=>Ny g h n id (E4 np rp) (SB y.1) x)
    else .fail
 | _=>.fail
theorem C8i {g:Nat} {h:H2} {n:Nat} {a x w:W} {h':H2} (e:(SD g h n a x).den=some (w,h')):FZ g (cH h) n (cW a) (cW x)=some (cW w,cH h'):=by
 unfold SD at e;split at e
 · rename_i id np rp g0;simp only [Tree.den_bind,Tree.den_ofO] at e;obtain ⟨o,h1,⟨t,s⟩,h2,e⟩:=e;split at e
   · rename_i hc;simp only [aj,beq_iff_eq] at hc;have hl:=Jt h2;simp only [cW,FZ];rw [qP h1,hl];simp only;rw [if_pos ⟨hc.1,trivial,(GO t).trans hc.2⟩];split at e
     · rename_i uH qU off len g';split at e
       · rename_i gq;simp only [beq_iff_eq] at gq;subst gq;split at e
         · rename_i a z l n' ht;split at e
           · rename_i hq;simp only [aj,beq_iff_eq,Option.isNone_iff_eq_none] at hq;simp only [Tree.den_bind,Tree.dB,Tree.den_leaf,ae] at e;obtain ⟨_,h8,_,h3,l',h9,o',h4,rfl,rfl⟩:=e;have h3:=cu.mp h3;have hp:=B2 h4;rw [E5 ht];simp only [cW];rw [Nw,hq.1,if_pos ⟨trivial,SC h8,rfl,hq.2,h3⟩];simp only [cT,SL.E6 h9] at hp;rw [hp,← p6]
           · simp at e
         · simp at e
       · rename_i gq;have gq:¬ uH=id:=by simpa using gq
         have e:=Zv e;rw [Nw];simp only [cW] at e ⊢;split
         · rw [if_neg (fun hh=>gq (by simp_all))]
           exact e
         · exact e
     · rename_i ng;have e:=Zv e;rw [Nw];have hx:∀ i p o l g,cW x=.own i p o l g→False:=by
        intro i p o l g hh;cases x with
        | own a b c d f=>exact ng _ _ _ _ _ rfl
        | _=>cases hh
       split
       · rename_i hh _; exact (hx _ _ _ _ _ hh).elim
       · exact e
   · simp at e
 · simp at e
def zG (w:W):Tree Nat:=match vE w with
 | some (_,i)=>(De w (decide (0 ≤ i))).bind fun _=>.leaf i.toNat
 | none=>.fail
theorem Zw {w:W} {k:Nat} (h:(zG w).den=some k):vX (cW w)=some (k:Int):=by
 unfold zG at h;split at h
 · rename_i k' i hi;simp only [Tree.den_bind,Nr,decide_eq_true_eq,Tree.den_leaf] at h;obtain ⟨_,h1,rfl⟩:=h;rw [xm hi];simp only [vX,aa];omega
 · simp at h
theorem E7 {w:W} {k n:Nat} (h:(zG w).den=some k) (hk:k < n):xH n (cW w)=some k:=by
 unfold xH;rw [Zw h];simp only;rw [if_pos ⟨by omega,by omega⟩]
 simp
theorem D16 {w:W} {k n:Nat} (h:(zG w).den=some k) (hk:k ≤ n):wV n (cW w)=some k:=by
 unfold wV;rw [Zw h];simp only;rw [if_pos ⟨by omega,by omega⟩]
 simp
def zH (n:Nat):Option W→Tree (Option Nat)
 | none=>.leaf none
 | some w=>(zG w).bind fun k=>(Tree.ask (cR k n)).bind fun _=>.leaf (some k)
theorem G2 {n:Nat} {m:Nat} {w:Option W} {k:Option Nat} (h:(zH n w).den=some k):Cu n m (w.map cW)=some (k.getD m):=by
 cases w with
 | none=>simp only [zH,Tree.den_leaf] at h; subst h; rfl
 | some w =>
   simp only [zH,Tree.den_bind,Tree.dB,Tree.den_leaf] at h;obtain ⟨j,h1,_,h2,rfl⟩:=h;exact D16 h1 (cu.mp h2)
def E8 (n:Nat) (lo hi:Option W):Tree (Option Nat×Option Nat) :=
 (zH n hi).bind fun b=>(zH (b.getD n) lo).bind fun a=>.leaf (a,b)
theorem Nz {n:Nat} {lo hi:Option W} {a b:Option Nat} (h:(E8 n lo hi).den=some (a,b)):Be n (lo.map cW) (hi.map cW)=some (a.getD 0,b.getD n):=by
 simp only [E8,Tree.den_bind,Tree.den_leaf,ae] at h;obtain ⟨b',h1,a',h2,rfl,rfl⟩:=h;unfold Be;rw [G2 (m:=n) h1];simp only;rw [G2 (m:=0) h2]
def NA {A:Type} (a b:Option Nat) (l:List A):List A :=
 let m:=match b with | none=>l | some b=>l.take b
 match a with | none=>m | some a=>m.drop a
theorem D17 {A B:Type} (f:A→B) (a b:Option Nat) (l:List A):(NA a b l).map f=((l.map f).take (b.getD l.length)).drop (a.getD 0):=by
 unfold NA;cases a <;> cases b <;> simp [bO,fe]
def SE (h:H2) (z:Nat) (w:W) (lo hi:Option W):Tree W:=match w with
 | .v (.sl t) l=>if t.cs == z then (E8 (cq (α:=El t) l) lo hi).bind fun x=>.leaf (.v (.sl t) (NA (A:=El t) x.1 x.2 l)) else .fail
 | .nil z=>(E8 0 lo hi).bind fun _=>.leaf (.nil z)
 | .own id path off len g=>(Tree.lC (oJ h id)).bind fun o=>(xq o path).bind fun y=>if y.1 == g && y.2.1 == z then
    (E8 len lo hi).bind fun x=>.leaf (.own id path (match x.1 with | none=>off | some a=>some (match off with | none=>a | some o=>o + a)) (match x.1 with | none=>x.2.getD len | some a=>x.2.getD len - a) g) else .fail
 | _=>.fail
theorem JI (t:Ty) (z:Nat) (h:t.cs=z) (l:List (El t)):((l.map (enc t)).all fun v=>v.cs == z)=true:=by
 rw [List.all_eq_true];intro v hv;obtain ⟨x,_,rfl⟩:=bj.1 hv;simp [zr,h]
theorem C8j {h:H2} {z:Nat} {w w':W} {lo hi:Option W} (e:(SE h z w lo hi).den=some w'):Ah (cH h) z (cW w) (lo.map cW) (hi.map cW)=some (cW w'):=by
 unfold SE at e;split at e
 · rename_i t l;split at e
   · rename_i hz;simp only [beq_iff_eq] at hz;simp only [Tree.den_bind,Tree.den_leaf] at e;obtain ⟨⟨a,b⟩,h1,rfl⟩:=e;have key:∀ l:List (El t),(E8 l.length lo hi).den=some (a,b)→Ah (cH h) z (.p (.sl (l.map (enc t)))) (lo.map cW) (hi.map cW)=some (.p (.sl ((NA a b l).map (enc t)))):=by
      intro l h1;simp only [Ah,aB];rw [Nz h1];simp only;rw [if_pos (JI t z hz l),D17]
     exact key l h1
   · simp at e
 · simp only [Tree.den_bind,Tree.den_leaf] at e;obtain ⟨⟨a,b⟩,h1,rfl⟩:=e;simp only [cW,Ah];rw [Nz h1]
 · rename_i id path off len g;simp only [Tree.den_bind,Tree.den_ofO] at e;obtain ⟨o,h1,⟨g',z',a'⟩,h2,e⟩:=e;split at e
   · rename_i hc;simp only [aj,beq_iff_eq] at hc;simp only [Tree.den_bind,Tree.den_leaf] at e;obtain ⟨⟨a,b⟩,h3,rfl⟩:=e;simp only [cW,Ah];rw [Nz h3,qP h1,xZ h2];simp only;rw [if_pos hc];cases a <;> cases off <;> simp
   · simp at e
 · simp at e
def SF (w:W) (lo hi:Option W):Tree W:=match C9 w with
 | some b=>(E8 b.size lo hi).bind fun x=>.leaf (wS (b.extract (x.1.getD 0) (x.2.getD b.size)))
 | none=>.fail
abbrev D55 {A:Type} (l:List A) (k:Nat):Option A:=l[k]?
def SG (h:H2) (z:Nat) (w i:W):Tree W:=match w with
 | .v (.sl t) l=>if t.cs == z then (zG i).bind fun k=>.opt (C7 t) (D55 (A:=El t) l k) fun x=>.leaf (.v (.ref t) x) else .fail
 | .own id path off len g=>(Tree.lC (oJ h id)).bind fun o=>(xq o path).bind fun y=>if y.1 == g && y.2.1 == z then
    (zG i).bind fun k=>(Tree.ask (cQ k len)).bind fun _=>.leaf (.ptr id (some path) [match off with | none=>Jn z k i | some o=>.k (o + k) z] g) else .fail
 | _=>.fail
theorem C8k {h:H2} {z:Nat} {w i w':W} (e:(SG h z w i).den=some w'):Ai (cH h) z (cW w) (cW i)=some (cW w'):=by
 unfold SG at e;split at e
 · rename_i t l;split at e
   · rename_i hz;simp only [beq_iff_eq] at hz;simp only [Tree.den_bind,Tree.lJ,Tree.den_leaf] at e;obtain ⟨k,h1,x,h2,rfl⟩:=e;have key:∀ l:List (El t),l[k]?=some x→Ai (cH h) z (.p (.sl (l.map (enc t)))) (cW i)=some (.p (.ref (enc t x))):=by
      intro l h2;have hk:=(aF.1 h2).1;simp only [Ai,aB];rw [E7 h1 hk];simp only [aH,h2,ak];rw [if_pos ((zr _ _).trans hz)]
     exact key l h2
   · simp at e
 · rename_i id path off len g;simp only [Tree.den_bind,Tree.den_ofO] at e;obtain ⟨o,h1,⟨g',z',a'⟩,h2,e⟩:=e;split at e
   · rename_i hc;simp only [aj,beq_iff_eq] at hc;simp only [Tree.den_bind,Tree.dB,Tree.den_leaf] at e;obtain ⟨k,h3,_,h4,rfl⟩:=e;simp only [cW,Ai];rw [E7 h3 (ia.mp h4),qP h1];simp only;rw [xZ h2];simp only;rw [if_pos hc];cases off with
     | none =>
       simp only [cL,bR];cases i <;> simp [Jn,xk,iN,vD,Step.ix,Step.of]
     | some o=>simp [xk,iN,vD,Step.ix,Step.of]
   · simp at e
 · simp at e
def NC (n z:Nat) (ts:List Ty) (x:gM ts) (i:W):Tree TV :=
 (zG i).bind fun k=>match isC i with
   | true=>if cQ k n && Ty.da (ts.take k) == k * z then Tree.lC (Da ts x k) else .fail
   | false=>match Nb ts z with
     | some t=>if ts.length == n then (Tree.ask (cQ k n)).bind fun _=>(Tree.lC (GM t k ts x 0)).bind fun y=>.leaf ⟨t,y⟩ else .fail
     | none=>.fail
theorem Zx {n z:Nat} {ts:List Ty} {x:gM ts} {i:W} {v:TV} (h:(NC n z ts x i).den=some v) :
 ∃ k,xH n (cW i)=some k∧(kz ts x)[k]?=some (enc v.1 v.2)∧PV.da ((kz ts x).take k)=k * z:=by
 unfold NC at h;simp only [Tree.den_bind] at h;obtain ⟨k,h1,h⟩:=h;refine ⟨k,?_⟩;split at h
 · split at h
   · rename_i hc;simp only [aj,beq_iff_eq] at hc;rw [Tree.den_ofO] at h;obtain ⟨t,y⟩:=v;exact ⟨E7 h1 (ia.mp hc.1),(Jo 0 ts x k t y h).1,(Jq ts x k).trans hc.2⟩
   · simp at h
 · split at h
   · rename_i t ht;split at h
     · rename_i hn;simp only [beq_iff_eq] at hn;simp only [Tree.den_bind,Tree.dB,Tree.den_ofO,Tree.den_leaf] at h;obtain ⟨_,h2,y,h3,rfl⟩:=h;have h2:=ia.mp h2;have hs:=(R6 0 t k ts x 0 y h3 (dg _) (by omega)).1
       rw [gy] at hs;refine ⟨E7 h1 h2,hs,(Jq ts x k).trans ?_⟩;unfold Nb at ht;split at ht
       · cases ht
       · split at ht
         · rename_i hc;cases ht;simp only [aj,beq_iff_eq] at hc;rw [← hc.2];exact R7 hc.1 (by omega)
         · cases ht
     · simp at h
   · simp at h
def JJ (k:IntKind):List PV→Option (List Int)
 | []=>some []
 | .int l x::r=>if l == k then (match JJ k r with | some m=>some (x::m) | none=>none) else none
 | _=>none
theorem Zy {k:IntKind}:∀ {l:List PV} {m:List Int},JJ k l=some m→l=m.map (PV.int k)
 | [],m,h=>by simp only [JJ,aa] at h; subst h; rfl
 | v::r,m,h=>by
   cases v with
   | int l x =>
     simp only [JJ] at h;split at h
     · rename_i hk;split at h
       · rename_i q hq;simp only [aa] at h;subst h;simp only [beq_iff_eq] at hk;subst hk;rw [Zy hq];rfl
       · cases h
     · cases h
   | _=>cases h
theorem Zz (k:IntKind):∀ m:List Int,PV.da (m.map (PV.int k))=m.length
 | []=>rfl
 | x::r=>by simp only [aD,PV.da,PV.cs,Zz k r,ba]; omega
def D56:List PV→Option IntKind
 | .int k _::_=>some k
 | _=>none
def SH (n z:Nat) (w i:W):Tree W:=match w with
 | .c (.ref (.agg l))=>match D56 l with
   | some k=>match JJ k l with
     | some m=>if z == 1 then (zG i).bind fun j=>(Tree.ask (cQ j n)).bind fun _=>.opt (0:Int) m[j]? fun v=>.leaf (.v (.ref (.int k)) v) else .fail
     | none=>.fail
   | none=>.fail
 | .v (.ref (.agg ts)) x=>(NC n z ts x i).bind fun v=>.leaf (.v (.ref v.1) v.2)
 | .ptr id np rp g=>(zG i).bind fun k=>(Tree.ask (cQ k n)).bind fun _=>.leaf (.ptr id np (rp++[Jn z k i]) g)
 | _=>.fail
def SI (agg:Bool) (z n:Nat) (w i:W):Tree W:=match zx w with
 | some ⟨.agg ts,x⟩=>(NC n z ts x i).bind fun v=>if v.1.cs == z && v.1.isAgg == agg then .leaf (.v v.1 v.2) else .fail
 | _=>.fail
def SJ (w i:W):Tree W:=match C9 w with
 | some b=>(zG i).bind fun k=>.opt (0:UInt8) b.data[k]? fun c=>.leaf (wI .u8 c.toNat)
 | none=>.fail
def JK (t:Ty):(ts:List Ty)→gM ts→Option (List (El t))
 | [],_=>some []
 | u::r,x=>match rI t (n5 r x) with
   | some y=>match JK t r (pK r x) with
     | some l=>some (y::l)
     | none=>none
   | none=>none
theorem ZA {t:Ty}:∀ {ts:List Ty} {x:gM ts} {l:List (El t)},JK t ts x=some l→kz ts x=l.map (enc t)∧ts.length=l.length
 | [],_,l,h=>by
   simp only [JK,aa] at h; subst h; exact ⟨rfl,rfl⟩
 | u::r,x,l,h=>by
   simp only [JK] at h;split at h
   · rename_i y hy;split at h
     · rename_i m hm;simp only [aa] at h;subst h;obtain ⟨h1,h2⟩:=ZA hm;refine ⟨?_,by simp [h2]⟩
       simp only [kz,aD,h1,(vC hy).2.2]
     · cases h
   · cases h
def SK (n z:Nat) (w:W):Tree W:=match w with
 | .v (.ref (.agg (t::ts))) x=>if t.cs == z && (t::ts).length == n then (Tree.lC (JK t (t::ts) x)).bind fun l=>.leaf (.v (.sl t) l) else .fail
 | _=>.fail
theorem D18 {K:jl} {g:Nat} {d:Option Nat} {s:S2} {h:cj} {n z:Nat} {x:dI} {w w':W} (hw:cJ (cS s) x=cW w) (e:(SK n z w).den=some w') :
 b7 K g d (cS s) h (.Bb n z x)=some (cW w',h):=by
 unfold SK at e;split at e
 · rename_i t ts q;split at e
   · rename_i hc;simp only [aj,beq_iff_eq] at hc;simp only [Tree.den_bind,Tree.den_ofO,Tree.den_leaf] at e;obtain ⟨l,h1,rfl⟩:=e;obtain ⟨h2,h3⟩:=ZA h1;simp only [b7,hw,cW,enc];rw [h2,if_pos ⟨by rw [aB,← h3,hc.2],JI t z hc.1 l⟩]
   · simp at e
 · simp at e
theorem C6J {K:jl} {g:Nat} {d:Option Nat} {s:S2} {h:cj} {x:dI} {lo hi:Option dI} {w w':W} {wl wh:Option W}
 (hw:cJ (cS s) x=cW w) (hl:lo.map (cJ (cS s))=wl.map cW) (hh:hi.map (cJ (cS s))=wh.map cW) (e:(SF w wl wh).den=some w') :
 b7 K g d (cS s) h (.nj x lo hi)=some (cW w',h):=by
 unfold SF at e;split at e
 · rename_i b hb;simp only [Tree.den_bind,Tree.den_leaf] at e;obtain ⟨⟨i,j⟩,h1,rfl⟩:=e;simp only [b7,hw,hl,hh,GJ hb];rw [Nz h1];rfl
 · simp at e
theorem C6K {K:jl} {g:Nat} {d:Option Nat} {s:S2} {h:cj} {n z:Nat} {x y:dI} {w i w':W} (hw:cJ (cS s) x=cW w) (hi:cJ (cS s) y=cW i) (e:(SH n z w i).den=some w') :
 b7 K g d (cS s) h (.nk n z x y)=some (cW w',h):=by
 unfold SH at e;split at e
 · rename_i l;split at e
   · rename_i k hk;split at e
     · rename_i m hm;split at e
       · rename_i hz;simp only [beq_iff_eq] at hz;subst hz;simp only [Tree.den_bind,Tree.dB,Tree.lJ,Tree.den_leaf] at e;obtain ⟨j,h1,_,h2,v,h3,rfl⟩:=e;have hl:=Zy hm;subst hl;simp only [b7,hw,hi,E7 h1 (ia.mp h2),cW];have hj:j < m.length:=(aF.1 h3).1;rw [aH,h3];simp only [ak,← bO,Zz,List.length_take];rw [if_pos (by omega)]
         rfl
       · simp at e
     · simp at e
   · simp at e
 · rename_i ts q;simp only [Tree.den_bind,Tree.den_leaf] at e;obtain ⟨v,h1,rfl⟩:=e;obtain ⟨k,h2,h3,h4⟩:=Zx h1;simp only [b7,hw,hi,h2,cW,enc];rw [h3];simp only;rw [if_pos h4]
 · simp only [Tree.den_bind,Tree.dB,Tree.den_leaf] at e;obtain ⟨k,h1,_,h2,rfl⟩:=e;simp only [b7,hw,hi,E7 h1 (ia.mp h2),cW];rw [Ji,RW];simp only [iN,vD,C8a,C8b,Nat.add_zero]
 · simp at e
theorem D19 {K:jl} {g:Nat} {d:Option Nat} {s:S2} {h:cj} {agg:Bool} {n z:Nat} {x y:dI} {w i w':W} (hw:cJ (cS s) x=cW w) (hi:cJ (cS s) y=cW i) (e:(SI agg z n w i).den=some w') :
 b7 K g d (cS s) h (.idx agg z n x y)=some (cW w',h):=by
 unfold SI at e;split at e
 · rename_i ts q hp;simp only [Tree.den_bind] at e;obtain ⟨v,h1,e⟩:=e;split at e
   · rename_i hc;simp only [aj,beq_iff_eq] at hc;simp only [Tree.den_leaf] at e;subst e;obtain ⟨k,h2,h3,h4⟩:=Zx h1;simp only [b7,hw,hi,GG hp,enc,h2];rw [h3];simp only;rw [if_pos ⟨h4,(zr _ _).trans hc.1,(M0 _ _).trans hc.2⟩];rfl
   · simp at e
 · simp at e
theorem D0h {K:jl} {g:Nat} {d:Option Nat} {s:S2} {h:cj} {x y:dI} {w i w':W} (hw:cJ (cS s) x=cW w) (hi:cJ (cS s) y=cW i) (e:(SJ w i).den=some w') :
 b7 K g d (cS s) h (.sK x y)=some (cW w',h):=by
 unfold SJ at e;split at e
 · rename_i b hb;simp only [Tree.den_bind,Tree.lJ,Tree.den_leaf] at e;obtain ⟨k,h1,c,h2,rfl⟩:=e;have hk:k < b.size:=by
    obtain ⟨hk,_⟩:=Array.getElem?_eq_some_iff.1 h2;exact hk
   simp only [b7,hw,hi,GJ hb,E7 h1 hk,h2];rfl
 · simp at e
end Go.Mid
