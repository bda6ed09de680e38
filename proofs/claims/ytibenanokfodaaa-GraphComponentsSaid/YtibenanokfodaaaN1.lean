/- Typed values: codes of types, their values in Lean, and their pure values; decision trees. -/
import Derived.Test.YtibenanokfodaaaM7
namespace Go.Mid
set_option linter.unusedSimpArgs false
set_option linter.unusedVariables false
inductive Ty where
 | int (k:IntKind) | bool | str | sl (t:Ty) | agg (ts:List Ty) | ref (t:Ty) | fn (f:Nat) (ts:List Ty) | mp (k v:Ty) | nilp | nilf | vec (z:Nat) (t:Ty) | opr (t:Ty)
 deriving Inhabited
def C9j (A R:Type):List Ty→Type
 | []=>A
 | _::_=>A×R
mutual
def El:Ty→Type
 | .int _=>Int
 | .bool=>Bool
 | .str=>ByteArray
 | .sl t=>List (El t)
 | .agg ts=>Els ts
 | .ref t=>El t
 | .fn _ ts=>Els ts
 | .mp k v=>List (El k×El v)
 | .nilp=>Unit
 | .nilf=>Unit
 | .vec _ t=>List (El t)
 | .opr t=>Option (El t)
def Els:List Ty→Type
 | []=>Unit
 | t::r=>C9j (El t) (Els r) r
end
def hdE {t:Ty}:(r:List Ty)→Els (t::r)→El t
 | [],x=>x
 | _::_,x=>x.1
def tlE {t:Ty}:(r:List Ty)→Els (t::r)→Els r
 | [],_=>()
 | _::_,x=>x.2
def mkE {t:Ty}:(r:List Ty)→El t→Els r→Els (t::r)
 | [],a,_=>a
 | _::_,a,b=>(a,b)
@[simp] theorem A4z {t:Ty} (r:List Ty) (a:El t) (b:Els r):hdE r (mkE r a b)=a:=by cases r <;> rfl
@[simp] theorem A4A {t:Ty} (r:List Ty) (a:El t) (b:Els r):tlE r (mkE r a b)=b:=by cases r <;> rfl
def C5z:Option PV→PV
 | none=>.nilp
 | some v=>.ref v
mutual
def enc:(t:Ty)→El t→PV
 | .opr t,x=>C5z (Option.map (enc t) x)
 | .int k,x=>.int k x
 | .bool,x=>.bool x
 | .str,x=>.str x
 | .sl t,x=>.sl (List.map (enc t) x)
 | .agg ts,x=>.agg (A01 ts x)
 | .ref t,x=>.ref (enc t x)
 | .fn f ts,x=>.fn f (A01 ts x)
 | .mp k v,x=>.mp (List.map (fun p=>enc k p.1) x) (List.map (fun p=>enc v p.2) x)
 | .nilp,_=>.nilp
 | .nilf,_=>.nilf
 | .vec _ t,x=>.sl (List.map (enc t) x)
def A01:(ts:List Ty)→Els ts→List PV
 | [],_=>[]
 | t::r,x=>enc t (hdE r x)::A01 r (tlE r x)
end
mutual
def B2K:(t:Ty)→El t
 | .int _=>(0:Int)
 | .bool=>false
 | .str=>(⟨#[]⟩:ByteArray)
 | .sl _=>[]
 | .agg ts=>B8V ts
 | .ref t=>B2K t
 | .fn _ ts=>B8V ts
 | .mp _ _=>[]
 | .nilp=>()
 | .nilf=>()
 | .vec _ _=>[]
 | .opr _=>none
def B8V:(ts:List Ty)→Els ts
 | []=>()
 | t::r=>mkE r (B2K t) (B8V r)
end
mutual
def Ty.cs:Ty→Nat
 | .agg l=>Ty.css l
 | _=>1
def Ty.css:List Ty→Nat
 | []=>0
 | x::xs=>x.cs + Ty.css xs
end
def Ty.isAgg:Ty→Bool | .agg _=>true | _=>false
mutual
def Ty.pure:Ty→Bool
 | .vec ..=>false
 | .agg l=>Ty.pures l
 | _=>true
def Ty.pures:List Ty→Bool
 | []=>true
 | x::xs=>x.pure && Ty.pures xs
end
mutual
theorem A5K:∀ (t:Ty) (x:El t),(enc t x).cs=t.cs
 | .opr t,x=>by
   have h:∀ y:Option (El t),(C5z (y.map (enc t))).cs=1:=fun y=>by cases y <;> rfl
   exact h x
 | .agg ts,x=>by simp only [enc,PV.cs,Ty.cs]; exact C1t ts x
 | .int _,_ | .bool,_ | .str,_ | .sl _,_ | .ref _,_ | .fn _ _,_ | .mp _ _,_ | .nilp,_ | .nilf,_ | .vec _ _,_=>rfl
theorem C1t:∀ (ts:List Ty) (x:Els ts),PV.css (A01 ts x)=Ty.css ts
 | [],_=>rfl
 | t::r,x=>by simp only [A01,PV.css,Ty.css]; rw [A5K t,C1t r]
end
@[simp] theorem A9P:∀ (t:Ty) (x:El t),(enc t x).isAgg=t.isAgg
  | .opr t,x=>by
    have h:∀ y:Option (El t),(C5z (y.map (enc t))).isAgg=false:=fun y=>by cases y <;> rfl
    exact h x
  | .agg ts,x=>rfl
  | .int _,_ | .bool,_ | .str,_ | .sl _,_ | .ref _,_ | .fn _ _,_ | .mp _ _,_ | .nilp,_ | .nilf,_ | .vec _ _,_=>rfl
mutual
def Ty.eq:Ty→Ty→Bool
 | .int k,.int l=>k == l
 | .bool,.bool=>true
 | .str,.str=>true
 | .sl t,.sl u=>Ty.eq t u
 | .agg l,.agg m=>Ty.eqs l m
 | .ref t,.ref u=>Ty.eq t u
 | .fn f l,.fn g m=>f == g && Ty.eqs l m
 | .mp k v,.mp l w=>Ty.eq k l && Ty.eq v w
 | .nilp,.nilp=>true
 | .nilf,.nilf=>true
 | .vec z t,.vec y u=>z == y && Ty.eq t u
 | .opr t,.opr u=>Ty.eq t u
 | _,_=>false
def Ty.eqs:List Ty→List Ty→Bool
 | [],[]=>true
 | t::r,u::q=>Ty.eq t u && Ty.eqs r q
 | _,_=>false
end
mutual
theorem Ty.eq_of:∀ t u,Ty.eq t u=true→t=u
 | .int k,u,h=>by cases u <;> simp [Ty.eq] at h; rw [h]
 | .bool,u,h=>by cases u <;> simp [Ty.eq] at h; rfl
 | .str,u,h=>by cases u <;> simp [Ty.eq] at h; rfl
 | .nilp,u,h=>by cases u <;> simp [Ty.eq] at h; rfl
 | .nilf,u,h=>by cases u <;> simp [Ty.eq] at h; rfl
 | .sl t,u,h=>by cases u <;> simp [Ty.eq] at h; rw [Ty.eq_of t _ h]
 | .ref t,u,h=>by cases u <;> simp [Ty.eq] at h; rw [Ty.eq_of t _ h]
 | .opr t,u,h=>by cases u <;> simp [Ty.eq] at h; rw [Ty.eq_of t _ h]
 | .agg l,u,h=>by cases u <;> simp [Ty.eq] at h; rw [Ty.eqs_of l _ h]
 | .fn f l,u,h=>by cases u <;> simp [Ty.eq] at h; rw [h.1,Ty.eqs_of l _ h.2]
 | .mp k v,u,h=>by cases u <;> simp [Ty.eq] at h; rw [Ty.eq_of k _ h.1,Ty.eq_of v _ h.2]
 | .vec z t,u,h=>by cases u <;> simp [Ty.eq] at h; rw [h.1,Ty.eq_of t _ h.2]
theorem Ty.eqs_of:∀ t u,Ty.eqs t u=true→t=u
 | [],u,h=>by cases u <;> simp [Ty.eqs] at h; rfl
 | t::r,u,h=>by cases u <;> simp [Ty.eqs] at h; rw [Ty.eq_of t _ h.1,Ty.eqs_of r _ h.2]
end
def A3n {t:Ty} (u:Ty) (x:El t):Option (El u):=if h:Ty.eq t u=true then some (cast (congrArg El (Ty.eq_of t u h)) x) else none
theorem A2s {t u:Ty} {x:El t} {y:El u} (h:A3n u x=some y):t=u∧HEq x y∧enc t x=enc u y:=by
 unfold A3n at h
 split at h
 · rename_i e
   have e:=Ty.eq_of t u e
   subst e
   simp only [cast_eq,Option.some.injEq] at h
   subst h
   exact ⟨rfl,HEq.rfl,rfl⟩
 · cases h
def C5A (k:IntKind):PV→Option Int | .int l n=>if k == l then some n else none | _=>none
def C5B:PV→Option Bool | .bool b=>some b | _=>none
def C5C:PV→Option ByteArray | .str b=>some b | _=>none
mutual
def dec:(t:Ty)→PV→Option (El t)
 | .int k,v=>C5A k v
 | .bool,v=>C5B v
 | .str,v=>C5C v
 | .sl t,v=>match v with | .sl []=>some ([]:List (El t)) | _=>none
 | .agg ts,v=>match v with | .agg l=>B1s ts l | _=>none
 | .nilp,v=>match v with | .nilp=>some () | _=>none
 | .nilf,v=>match v with | .nilf=>some () | _=>none
 | .fn f ts,v=>match v with | .fn g l=>if f == g then B1s ts l else none | _=>none
 | .mp k w,v=>match v with | .mp [] []=>some ([]:List (El k×El w)) | _=>none
 | .ref _,_=>none
 | .vec _ _,_=>none
 | .opr t,v=>match v with | .nilp=>some (none:Option (El t)) | _=>none
def B1s:(ts:List Ty)→List PV→Option (Els ts)
 | [],l=>match l with | []=>some () | _::_=>none
 | t::r,l=>match l with
   | []=>none
   | v::q=>match dec t v,B1s r q with | some a,some b=>some (mkE r a b) | _,_=>none
end
theorem C7a (k:IntKind) (v:PV):dec (.int k) v=C5A k v:=by rfl
theorem C5D (v:PV):dec .bool v=C5B v:=by rfl
theorem C7b (v:PV):dec .str v=C5C v:=by rfl
mutual
theorem A7I:∀ (t:Ty) (v:PV) (x:El t),dec t v=some x→enc t x=v
 | .int k,v,x,h=>by
   rw [C7a] at h
   cases v <;> simp only [C5A,reduceCtorEq] at h
   split at h
   · rename_i e; cases h; simp only [beq_iff_eq] at e; subst e; rfl
   · cases h
 | .bool,v,x,h=>by rw [C5D] at h; cases v <;> simp only [C5B,reduceCtorEq] at h; cases h; rfl
 | .str,v,x,h=>by rw [C7b] at h; cases v <;> simp only [C5C,reduceCtorEq] at h; cases h; rfl
 | .nilp,v,x,h=>by cases v <;> first | rfl | cases h
 | .nilf,v,x,h=>by cases v <;> first | rfl | cases h
 | .ref t,v,x,h=>by cases h
 | .opr t,v,x,h=>by cases v <;> first | (cases h; rfl) | cases h
 | .vec z t,v,x,h=>by cases h
 | .sl t,v,x,h=>by
   cases v <;> first | cases h | skip
   rename_i l
   cases l <;> cases h
   rfl
 | .mp k w,v,x,h=>by
   cases v <;> first | cases h | skip
   rename_i l m
   cases l <;> cases m <;> cases h
   rfl
 | .agg ts,v,x,h=>by
   cases v <;> first | cases h | skip
   rename_i l
   have h:B1s ts l=some x:=h
   show PV.agg (A01 ts x)=_
   rw [B4B ts _ x h]
 | .fn f ts,v,x,h=>by
   cases v <;> first | cases h | skip
   rename_i g l
   by_cases e:(f == g)=true
   · have h1:dec (.fn f ts) (.fn g l)=B1s ts l:=if_pos e
     have h2:B1s ts l=some x:=h1.symm.trans h
     simp only [beq_iff_eq] at e; subst e
     show PV.fn f (A01 ts x)=_
     rw [B4B ts _ x h2]
   · have h1:dec (.fn f ts) (.fn g l)=none:=if_neg e
     rw [h1] at h; cases h
theorem B4B:∀ (ts:List Ty) (l:List PV) (x:Els ts),B1s ts l=some x→A01 ts x=l
 | [],l,x,h=>by
   cases l with
   | nil=>rfl
   | cons v q=>cases h
 | t::r,l,x,h=>by
   cases l with
   | nil=>cases h
   | cons v q =>
     have h:(match dec t v,B1s r q with | some a,some b=>some (mkE r a b) | _,_=>none)=some x:=h
     cases h1:dec t v with
     | none=>rw [h1] at h; cases h
     | some a =>
       cases h2:B1s r q with
       | none=>rw [h1,h2] at h; cases h
       | some b =>
         rw [h1,h2] at h
         cases h
         show enc t (hdE r (mkE r a b))::A01 r (tlE r (mkE r a b))=_
         rw [A4z,A4A,A7I t v a h1,B4B r q b h2]
end
def tyP:PV→Option Ty
 | .int k _=>some (.int k)
 | .bool _=>some .bool
 | .str _=>some .str
 | .agg l=>match tyPs l with | some ts=>some (.agg ts) | none=>none
 | .fn f l=>match tyPs l with | some ts=>some (.fn f ts) | none=>none
 | .nilp=>some .nilp
 | .nilf=>some .nilf
 | _=>none
where tyPs:List PV→Option (List Ty)
 | []=>some []
 | x::r=>match tyP x,tyPs r with | some t,some ts=>some (t::ts) | _,_=>none
inductive Tree (α:Type):Type 1 where
 | fail
 | leaf (a:α)
 | ite (c:Bool) (x y:Tree α)
 | opt {A:Type} (d:A) (o:Option A) (k:A→Tree α)
 | sum {A B:Type} (d:A) (e:B) (o:A ⊕ B) (k:A→Tree α) (l:B→Tree α)
namespace Tree
def den {α:Type}:Tree α→Option α
 | fail=>none
 | leaf a=>some a
 | ite c x y=>bif c then x.den else y.den
 | opt _ o k=>o.bind fun a=>(k a).den
 | sum _ _ o k l=>Sum.elim (fun a=>(k a).den) (fun b=>(l b).den) o
def bind {α β:Type}:Tree α→(α→Tree β)→Tree β
 | fail,_=>fail
 | leaf a,f=>f a
 | ite c x y,f=>ite c (x.bind f) (y.bind f)
 | opt d o k,f=>opt d o (fun a=>(k a).bind f)
 | sum d e o k l,f=>sum d e o (fun a=>(k a).bind f) (fun b=>(l b).bind f)
theorem den_bind {α β:Type} (t:Tree α) (f:α→Tree β) (r:β):(t.bind f).den=some r↔∃ a,t.den=some a∧(f a).den=some r:=by
 induction t with
 | fail=>simp [bind,den]
 | leaf a=>simp [bind,den]
 | ite c x y hx hy=>cases c <;> simp [bind,den,hx,hy]
 | opt d o k ih=>cases o <;> simp [bind,den,ih]
 | sum d e o k l ih1 ih2=>cases o <;> simp [bind,den,ih1,ih2]
def leaves {α:Type}:Tree α→List α
 | fail=>[]
 | leaf a=>[a]
 | ite _ x y=>x.leaves++y.leaves
 | opt d _ k=>(k d).leaves
 | sum d e _ k l=>(k d).leaves++(l e).leaves
def chk (b:Bool):Tree Unit:=match b with | true=>leaf () | false=>fail
def ask (b:Bool):Tree Unit:=ite b (leaf ()) fail
def ofO {α:Type}:Option α→Tree α
 | none=>fail
 | some a=>leaf a
@[simp] theorem den_leaf {α:Type} (a r:α):(leaf a).den=some r↔a=r:=by simp [den]
@[simp] theorem den_fail {α:Type} (r:α):(fail:Tree α).den=some r↔False:=by simp [den]
@[simp] theorem den_chk (b:Bool) (r:Unit):(chk b).den=some r↔b=true:=by cases b <;> simp [chk,den]
@[simp] theorem den_ask (b:Bool) (r:Unit):(ask b).den=some r↔b=true:=by cases b <;> simp [ask,den]
@[simp] theorem den_ofO {α:Type} (o:Option α) (r:α):(ofO o).den=some r↔o=some r:=by cases o <;> simp [ofO,den]
theorem den_ite {α:Type} (c:Bool) (x y:Tree α) (r:α):(ite c x y).den=some r↔(c=true∧x.den=some r)∨(c=false∧y.den=some r):=by cases c <;> simp [den]
theorem den_opt {α A:Type} (d:A) (o:Option A) (k:A→Tree α) (r:α):(opt d o k).den=some r↔∃ a,o=some a∧(k a).den=some r:=by cases o <;> simp [den]
end Tree
end Go.Mid
/- Symbolic states: what is known about slots and owned memory,with typed values at the leaves; what they stand for. -/
namespace Go.Mid
set_option linter.unusedSimpArgs false
set_option linter.unusedVariables false
inductive Step where
 | f (i o:Nat) | k (i z:Nat)
def Step.ix:Step→Nat | .f i _=>i | .k i _=>i
def Step.of:Step→Nat | .f _ o=>o | .k i z=>i * z
def ixs:List Step→List Nat
 | []=>[]
 | x::r=>x.ix::ixs r
def ofs:List Step→Nat
 | []=>0
 | x::r=>x.of + ofs r
theorem A7h:∀ p q:List Step,ixs (p++q)=ixs p++ixs q
 | [],q=>rfl
 | x::r,q=>by simp only [List.cons_append,ixs,A7h r q]
theorem B1t:∀ p q:List Step,ofs (p++q)=ofs p + ofs q
 | [],q=>by simp [ofs]
 | x::r,q=>by simp only [List.cons_append,ofs,B1t r q]; omega
inductive W where
 | c (v:PV)
 | v (t:Ty) (x:El t)
 | nil (z:Nat)
 | own (id:Nat) (path:List Step) (off:Option Nat) (len g:Nat)
 | ptr (id:Nat) (np:Option (List Step)) (rp:List Step) (g:Nat)
 | mref (id:Nat) (path:List Step) (g:Nat)
 | agg (l:List W)
 | fn (f:Nat) (caps:List W)
 | tup (l:List W)
 | dead (n:Nat)
instance:Inhabited W:=⟨.dead 0⟩
def npI:Option (List Step)→Option (List Nat)
 | none=>none
 | some p=>some (ixs p)
mutual
def cW:W→MV
 | .c v=>.p v
 | .v t x=>.p (enc t x)
 | .nil z=>.nil z
 | .own id path off len g=>.own id (ixs path) (off.getD 0) len g
 | .ptr id np rp g=>.ptr id (npI np) (ixs rp) g (ofs rp)
 | .mref id path g=>.mref id (ixs path) g
 | .agg l=>.agg (cWs l)
 | .fn f l=>.fn f (cWs l)
 | .tup l=>.tup (cWs l)
 | .dead n=>.dead n
def cWs:List W→List MV
 | []=>[]
 | x::r=>cW x::cWs r
end
theorem A2f:∀ l:List W,cWs l=l.map cW
 | []=>rfl
 | x::r=>by simp only [cWs,List.map_cons,A2f r]
mutual
def A0M (s:Nat):(t:Ty)→El t→T Nat
 | .vec z t,x=>.vec s z (List.map (A0M s t) x) (List.length x)
 | .agg ts,x=>A0x (A0Z s ts x)
 | .int k,x=>.p (enc (.int k) x)
 | .bool,x=>.p (enc .bool x)
 | .str,x=>.p (enc .str x)
 | .sl t,x=>.p (enc (.sl t) x)
 | .ref t,x=>.p (enc (.ref t) x)
 | .opr t,x=>.p (enc (.opr t) x)
 | .fn f ts,x=>.p (enc (.fn f ts) x)
 | .mp k v,x=>.p (enc (.mp k v) x)
 | .nilp,x=>.p (enc .nilp x)
 | .nilf,x=>.p (enc .nilf x)
def A0Z (s:Nat):(ts:List Ty)→Els ts→List (T Nat)
 | [],_=>[]
 | t::r,x=>A0M s t (hdE r x)::A0Z s r (tlE r x)
end
theorem B1u {α:Type}:∀ {l:List (T α)} {vs:List PV},A02 l=some vs→l=vs.map T.p
 | [],vs,h=>by simp only [A02,Option.some.injEq] at h; subst h; rfl
 | .p v::r,vs,h=>by
   simp only [A02] at h
   cases h1:A02 r with
   | none=>rw [h1] at h; cases h
   | some l=>rw [h1] at h; cases h; rw [B1u h1]; rfl
 | .m _::_,vs,h | .agg _::_,vs,h | .vec ..::_,vs,h | .mp ..::_,vs,h | .hole _::_,vs,h=>by simp [A02] at h
theorem B4C {α:Type}:∀ vs:List PV,A02 (vs.map (T.p (α:=α)))=some vs
 | []=>rfl
 | v::r=>by simp only [List.map_cons,A02,B4C r]
theorem A1U {α:Type} (l:List (T α)):(∃ vs,l=vs.map T.p∧A0x l=.p (.agg vs))∨A0x l=.agg l:=by
 unfold A0x
 cases h:A02 l with
 | none=>exact .inr rfl
 | some vs=>exact .inl ⟨vs,B1u h,rfl⟩
theorem B2L {α:Type}:∀ vs:List PV,T.css (vs.map (T.p (α:=α)))=PV.css vs
 | []=>rfl
 | v::r=>by simp only [List.map_cons,T.css,T.cs,PV.css,B2L r]
theorem B5C {α:Type} (l:List (T α)):(A0x l).cs=T.css l:=by
 rcases A1U l with ⟨vs,rfl,h⟩ | h
 · rw [h,B2L]; rfl
 · rw [h]; rfl
mutual
theorem B0B (s:Nat):∀ (t:Ty) (x:El t),(A0M s t x).cs=t.cs
 | .opr t,x=>A5K (.opr t) x
 | .agg ts,x=>by simp only [A0M,B5C,Ty.cs]; exact B9M s ts x
 | .int _,_ | .bool,_ | .str,_ | .sl _,_ | .ref _,_ | .fn _ _,_ | .mp _ _,_ | .nilp,_ | .nilf,_ | .vec _ _,_=>rfl
theorem B9M (s:Nat):∀ (ts:List Ty) (x:Els ts),T.css (A0Z s ts x)=Ty.css ts
 | [],_=>rfl
 | t::r,x=>by simp only [A0Z,T.css,Ty.css]; rw [B0B s t,B9M s r]
end
mutual
theorem A1h (s:Nat):∀ (t:Ty) (x:El t),t.pure=true→A0M s t x=.p (enc t x)
 | .agg ts,x,h=>by
   simp only [A0M,enc]
   rw [B5D s ts x h]
   simp only [A0x,B4C]
 | .int _,_,_ | .bool,_,_ | .str,_,_ | .sl _,_,_ | .ref _,_,_ | .fn _ _,_,_ | .mp _ _,_,_ | .nilp,_,_ | .nilf,_,_ | .opr _,_,_=>rfl
 | .vec _ _,_,h=>by simp [Ty.pure] at h
theorem B5D (s:Nat):∀ (ts:List Ty) (x:Els ts),Ty.pures ts=true→A0Z s ts x=(A01 ts x).map T.p
 | [],_,_=>rfl
 | t::r,x,h=>by
   simp only [Ty.pures,Bool.and_eq_true] at h
   simp only [A0Z,A01,List.map_cons]
   rw [A1h s t _ h.1,B5D s r _ h.2]
end
theorem B1v:∀ vs:List PV,A0E (vs.map T.p)=some vs
 | []=>rfl
 | v::r=>by simp only [List.map_cons,A0E,A4e,B1v r]
theorem B9N (l:List (T Nat)):A4e (A0x l)=match A0E l with | some vs=>some (.agg vs) | none=>none:=by
 rcases A1U l with ⟨vs,rfl,h⟩ | h
 · rw [h,B1v]; rfl
 · rw [h]; rfl
mutual
theorem A9Q (s:Nat):∀ (t:Ty) (x:El t),A4e (A0M s t x)=some (enc t x)
 | .agg ts,x=>by simp only [A0M,B9N,B4b s ts x]; rfl
 | .vec z t,x=>by
   have h:∀ l:List (El t),A0E (l.map (A0M s t))=some (l.map (enc t)):=by
    intro l
    induction l with
    | nil=>rfl
    | cons a r ih=>simp only [List.map_cons,A0E,A9Q s t a,ih]
   have key:∀ l:List (El t),(match A0E (l.map (A0M s t)) with | some vs=>some (PV.sl (vs.take l.length)) | none=>none)=some (PV.sl (l.map (enc t))):=by
    intro l
    rw [h]
    simp only
    rw [List.take_of_length_le (by simp)]
   exact key x
 | .int _,_ | .bool,_ | .str,_ | .sl _,_ | .ref _,_ | .fn _ _,_ | .mp _ _,_ | .nilp,_ | .nilf,_ | .opr _,_=>rfl
theorem B4b (s:Nat):∀ (ts:List Ty) (x:Els ts),A0E (A0Z s ts x)=some (A01 ts x)
 | [],_=>rfl
 | t::r,x=>by simp only [A0Z,A01,A0E]; rw [A9Q s t,B4b s r]
end
theorem A3s (φ:MV→MV) (ζ:Nat→Nat):∀ l:List (T Nat),A0B φ ζ l=l.map (A0L φ ζ)
 | []=>rfl
 | x::r=>by simp only [A0B,List.map_cons,A3s φ ζ r]
theorem C7c (φ:MV→MV) (ζ:Nat→Nat) (l:List (T Nat)) (h:∀ t ∈ l,∀ v,t ≠ .m v):A0L φ ζ (A0x l)=A0x (l.map (A0L φ ζ)):=by
 have hp:∀ l:List (T Nat),(∀ t ∈ l,∀ v,t ≠ T.m v)→A02 (l.map (A0L φ ζ))=A02 l:=by
  intro l h
  induction l with
  | nil=>rfl
  | cons a r ih =>
    have ih:=ih (fun t ht=>h t (by simp [ht]))
    cases a with
    | p v=>simp only [List.map_cons,A0L,A02,ih]
    | m v=>exact absurd rfl (h _ (by simp) v)
    | _=>rfl
 unfold A0x
 rw [hp l h]
 cases A02 l with
 | none=>simp only [A0L,A3s]
 | some vs=>rfl
mutual
theorem C7d (s:Nat):∀ (t:Ty) (x:El t) (v:MV),A0M s t x ≠ .m v
 | .agg ts,x,v=>by
   simp only [A0M]
   rcases A1U (A0Z s ts x) with ⟨vs,_,h⟩ | h <;> rw [h] <;> simp
 | .int _,_,_ | .bool,_,_ | .str,_,_ | .sl _,_,_ | .ref _,_,_ | .fn _ _,_,_ | .mp _ _,_,_ | .nilp,_,_ | .nilf,_,_ | .vec _ _,_,_ | .opr _,_,_=>by simp [A0M]
end
theorem B9O (s:Nat):∀ (ts:List Ty) (x:Els ts),∀ u ∈ A0Z s ts x,∀ v,u ≠ .m v
 | [],_,u,h=>by simp [A0Z] at h
 | t::r,x,u,h=>by
   simp only [A0Z,List.mem_cons] at h
   rcases h with rfl | h
   · exact C7d s t _
   · exact B9O s r _ u h
mutual
theorem B1w (φ:MV→MV) (ζ:Nat→Nat) (s:Nat):∀ (t:Ty) (x:El t),A0L φ ζ (A0M s t x)=A0M (ζ s) t x
 | .agg ts,x=>by
   simp only [A0M]
   rw [C7c _ _ _ (B9O s ts x),← A3s,B5E φ ζ s ts x]
 | .vec z t,x=>by
   have h:∀ l:List (El t),A0B φ ζ (l.map (A0M s t))=l.map (A0M (ζ s) t):=by
    intro l
    induction l with
    | nil=>rfl
    | cons a r ih=>simp only [List.map_cons,A0B,B1w φ ζ s t a,ih]
   have key:∀ l:List (El t),T.vec (ζ s) z (A0B φ ζ (l.map (A0M s t))) l.length=T.vec (ζ s) z (l.map (A0M (ζ s) t)) l.length:=by
    intro l
    rw [h]
   exact key x
 | .int _,_ | .bool,_ | .str,_ | .sl _,_ | .ref _,_ | .fn _ _,_ | .mp _ _,_ | .nilp,_ | .nilf,_ | .opr _,_=>rfl
theorem B5E (φ:MV→MV) (ζ:Nat→Nat) (s:Nat):∀ (ts:List Ty) (x:Els ts),A0B φ ζ (A0Z s ts x)=A0Z (ζ s) ts x
 | [],_=>rfl
 | t::r,x=>by simp only [A0Z,A0B]; rw [B1w φ ζ s t,B5E φ ζ s r]
end
theorem B4D:∀ vs:List PV,A1k (vs.map (T.p (α:=Nat)))=[]
 | []=>rfl
 | v::r=>by simp only [List.map_cons,A1k,A4f,B4D r,List.nil_append]
theorem B9P (l:List (T Nat)):A4f (A0x l)=A1k l:=by
 rcases A1U l with ⟨vs,rfl,h⟩ | h
 · rw [h,B4D]; rfl
 · rw [h]; rfl
mutual
theorem A9R (s:Nat):∀ (t:Ty) (x:El t),A4f (A0M s t x)=[]
 | .agg ts,x=>by simp only [A0M,B9P]; exact B4c s ts x
 | .vec z t,x=>by
   have h:∀ l:List (El t),A1k (l.map (A0M s t))=[]:=by
    intro l
    induction l with
    | nil=>rfl
    | cons a r ih=>simp only [List.map_cons,A1k,A9R s t a,ih,List.nil_append]
   show A1k (List.map (A0M s t) x)=_
   exact h x
 | .int _,_ | .bool,_ | .str,_ | .sl _,_ | .ref _,_ | .fn _ _,_ | .mp _ _,_ | .nilp,_ | .nilf,_ | .opr _,_=>rfl
theorem B4c (s:Nat):∀ (ts:List Ty) (x:Els ts),A1k (A0Z s ts x)=[]
 | [],_=>rfl
 | t::r,x=>by simp only [A0Z,A1k]; rw [A9R s t,B4c s r]; rfl
end
theorem B4d (s:Nat) (t:Ty):∀ l:List (El t),A1k (l.map (A0M s t))=[]
 | []=>rfl
 | a::r=>by simp only [List.map_cons,A1k,A9R s t a,B4d s t r,List.nil_append]
theorem C2H (φ:MV→MV) (ζ:Nat→Nat) (s:Nat) (t:Ty) (l:List (El t)):A0B φ ζ (l.map (A0M s t))=l.map (A0M (ζ s) t):=by
 rw [A3s,List.map_map]
 congr 1
 funext x
 exact B1w φ ζ s t x
theorem A7Z (s:Nat) (t:Ty):∀ l:List (El t),A0E (l.map (A0M s t))=some (l.map (enc t))
 | []=>rfl
 | a::r=>by simp only [List.map_cons,A0E,A9Q s t a,A7Z s t r]
mutual
inductive T2 where
 | e (s:Nat) (t:Ty) (x:El t)
 | w (v:W)
 | agg (l:List T2)
 | vec (g z:Nat) (l:SL) (n:Nat)
 | hole (n:Nat)
inductive SL where
 | base (s:Nat) (t:Ty) (l:List (El t))
 | set (a:SL) (i:Nat) (u:T2)
 | app (a:SL) (u:T2)
end
instance:Inhabited T2:=⟨.hole 0⟩
inductive O2 where
 | cell (g:Nat) (t:T2)
 | vec (g z:Nat) (l:SL)
 | mp (g:Nat) (k v:Ty) (l:List (El k×El v))
 | gone
instance:Inhabited O2:=⟨.gone⟩
mutual
def cT:T2→T Nat
 | .e s t x=>A0M s t x
 | .w v=>.m (cW v)
 | .agg l=>A0x (cTs l)
 | .vec g z l n=>.vec g z (cSL l) n
 | .hole n=>.hole n
def cTs:List T2→List (T Nat)
 | []=>[]
 | x::r=>cT x::cTs r
def cSL:SL→List (T Nat)
 | .base s t l=>l.map (A0M s t)
 | .set a i u=>(cSL a).set i (cT u)
 | .app a u=>cSL a++[cT u]
end
def cO:O2→Obj Nat
 | .cell g t=>.cell g (cT t)
 | .vec g z l=>.vec g z (cSL l)
 | .mp g k v l=>.mp g (l.map fun p=>enc k p.1) (l.map fun p=>.p (enc v p.2))
 | .gone=>.gone
theorem A4S:∀ l:List T2,cTs l=l.map cT
 | []=>rfl
 | x::r=>by simp only [cTs,List.map_cons,A4S r]
def SL.len:SL→Nat
 | .base _ _ l=>l.length
 | .set a _ _=>a.len
 | .app a _=>a.len + 1
theorem SL.len_eq:∀ a:SL,(cSL a).length=a.len
 | .base _ _ l=>by simp [cSL,SL.len]
 | .set a i u=>by simp only [cSL,List.length_set,SL.len]; exact SL.len_eq a
 | .app a u=>by simp only [cSL,List.length_append,List.length_cons,List.length_nil,SL.len]; rw [SL.len_eq a]
abbrev S2:=List (Nat×W)
abbrev H2:=List (Nat×O2)
def A5L:S2→Nat→W
 | [],_=>.dead 0
 | (j,v)::r,k=>if k == j then v else A5L r k
def A2x:H2→Nat→Option O2
 | [],_=>none
 | (j,v)::r,k=>if k == j then some v else A2x r k
def setA {α:Type}:List (Nat×α)→Nat→α→List (Nat×α)
 | [],k,v=>[(k,v)]
 | (j,u)::r,k,v=>if k == j then (k,v)::r else (j,u)::setA r k v
def cSs:S2→List (Nat×MV)
 | []=>[]
 | (j,v)::r=>(j,cW v)::cSs r
def cHs:H2→List (Nat×Obj Nat)
 | []=>[]
 | (j,v)::r=>(j,cO v)::cHs r
abbrev cS (s:S2):A0m:=mkS (cSs s)
abbrev cH (h:H2):A0b:=mkH (cHs h)
theorem A6k:∀ (s:S2) (k:Nat),cS s k=cW (A5L s k)
 | [],k=>rfl
 | (j,v)::r,k=>by
   show mkS ((j,cW v)::cSs r) k=cW (if k == j then v else A5L r k)
   rw [C5w]
   by_cases h:k=j
   · simp [h]
   · rw [if_neg h,if_neg (by simpa using h)]; exact A6k r k
theorem A7i:∀ (h:H2) (k:Nat),cH h k=(A2x h k).map cO
 | [],k=>rfl
 | (j,v)::r,k=>by
   show mkH ((j,cO v)::cHs r) k=Option.map cO (if k == j then some v else A2x r k)
   rw [A37]
   by_cases h:k=j
   · simp [h]
   · rw [if_neg h,if_neg (by simpa using h)]; exact A7i r k
theorem C1u:∀ (s:S2) (k:Nat) (v:W),cSs (setA s k v)=A7f (cSs s) k (cW v)
 | [],k,v=>rfl
 | (j,u)::r,k,v=>by
   simp only [setA,cSs,A7f]
   by_cases h:k=j
   · simp [h,cSs]
   · rw [if_neg h,if_neg (by simpa using h)]; simp only [cSs,C1u r k v]
theorem C1v:∀ (s:H2) (k:Nat) (v:O2),cHs (setA s k v)=A7f (cHs s) k (cO v)
 | [],k,v=>rfl
 | (j,u)::r,k,v=>by
   simp only [setA,cHs,A7f]
   by_cases h:k=j
   · simp [h,cHs]
   · rw [if_neg h,if_neg (by simpa using h)]; simp only [cHs,C1v r k v]
theorem A1L (h:H2) (k:Nat) (o:O2):upd (cH h) k (some (cO o))=cH (setA h k o):=by
 rw [C1s,← C1v]
theorem A9b (s:S2) (k:Nat) (v:W):upd (cS s) k (cW v)=cS (setA s k v):=by
 rw [C67,← C1u]
mutual
def wcs:W→Nat
 | .c p=>p.cs
 | .v t _=>t.cs
 | .agg l=>B9Q l
 | .tup _=>0
 | .dead n=>n
 | .nil _ | .own .. | .ptr .. | .mref .. | .fn ..=>1
def B9Q:List W→Nat
 | []=>0
 | x::r=>wcs x + B9Q r
end
mutual
theorem B5F:∀ w:W,(cW w).cs=wcs w
 | .c p=>rfl
 | .v t x=>A5K t x
 | .agg l=>by simp only [cW,MV.cs,wcs]; exact B6T l
 | .tup _=>rfl
 | .dead n=>rfl
 | .nil _ | .own .. | .ptr .. | .mref .. | .fn ..=>rfl
theorem B6T:∀ l:List W,MV.css (cWs l)=B9Q l
 | []=>rfl
 | x::r=>by simp only [cWs,MV.css,B9Q]; rw [B5F x,B6T r]
end
def C6z:W→Bool
 | .dead _ | .tup _=>false
 | _=>true
theorem C5E (w:W):A3l (cW w)=C6z w:=by cases w <;> rfl
def C2I:W→Bool
 | .c p=>p.isAgg
 | .v t _=>t.isAgg
 | .agg _=>true
 | _=>false
theorem C1w (w:W):(cW w).isAgg=C2I w:=by
 cases w <;> simp only [cW,C2I] <;> first | rfl | exact A9P _ _
mutual
def B3z:W→List Nat
 | .own id .. | .ptr id .. | .mref id ..=>[id]
 | .agg l | .fn _ l | .tup l=>A5j l
 | _=>[]
def A5j:List W→List Nat
 | []=>[]
 | x::r=>B3z x++A5j r
end
mutual
theorem B4E:∀ w:W,A0G (cW w)=B3z w
 | .own .. | .ptr .. | .mref .. | .c _ | .v _ _ | .nil _ | .dead _=>rfl
 | .agg l | .fn _ l | .tup l=>by simp only [cW,A0G,B3z]; exact A6N l
theorem A6N:∀ l:List W,A0O (cWs l)=A5j l
 | []=>rfl
 | x::r=>by simp only [cWs,A0O,A5j]; rw [B4E x,A6N r]
end
mutual
def A54:T2→Option (List Nat)
 | .e ..=>some []
 | .hole _=>some []
 | .w v=>some (B3z v)
 | .agg l=>B0C l
 | .vec _ _ l _=>if A9c l then some [] else none
def B0C:List T2→Option (List Nat)
 | []=>some []
 | x::r=>match A54 x,B0C r with | some a,some b=>some (a++b) | _,_=>none
def A9c:SL→Bool
 | .base ..=>true
 | .set a _ u=>A9c a && (match A54 u with | some []=>true | _=>false)
 | .app a u=>A9c a && (match A54 u with | some []=>true | _=>false)
end
def B5G:O2→Option (List Nat)
 | .cell _ t=>A54 t
 | .vec _ _ l=>if A9c l then some [] else none
 | .mp ..=>some []
 | .gone=>some []
theorem B1x {l:List (T Nat)}:A1k l=[]↔∀ t ∈ l,A4f t=[]:=by
 induction l with
 | nil=>simp [A1k]
 | cons a r ih=>simp [A1k,ih]
mutual
theorem B1y:∀ (t:T2) (l:List Nat),A54 t=some l→A4f (cT t)=l
 | .e s t x,l,h=>by simp only [A54,Option.some.injEq] at h; subst h; exact A9R s t x
 | .hole _,l,h=>by simp only [A54,Option.some.injEq] at h; subst h; rfl
 | .w v,l,h=>by simp only [A54,Option.some.injEq] at h; subst h; exact B4E v
 | .agg q,l,h=>by
   simp only [A54] at h
   simp only [cT,B9P]; exact B73 q l h
 | .vec g z q n,l,h=>by
   simp only [A54] at h
   split at h
   · rename_i hf; cases h; exact A9S q hf
   · cases h
theorem B73:∀ (q:List T2) (l:List Nat),B0C q=some l→A1k (cTs q)=l
 | [],l,h=>by simp only [B0C,Option.some.injEq] at h; subst h; rfl
 | x::r,l,h=>by
   simp only [B0C] at h
   cases h1:A54 x with
   | none=>rw [h1] at h; cases h
   | some a =>
     cases h2:B0C r with
     | none=>rw [h1,h2] at h; cases h
     | some b =>
       rw [h1,h2] at h
       cases h
       simp only [cTs,A1k]
       rw [B1y x a h1,B73 r b h2]
theorem A9S:∀ q:SL,A9c q=true→A1k (cSL q)=[]
 | .base s t l,_=>B4d s t l
 | .set a i u,h=>by
   simp only [A9c,Bool.and_eq_true] at h
   obtain ⟨h1,h2⟩:=h
   have h3:=A9S a h1
   have h4:A4f (cT u)=[]:=by
    cases hu:A54 u with
    | none=>rw [hu] at h2; cases h2
    | some l =>
      cases l with
      | nil=>exact B1y u [] hu
      | cons _ _=>rw [hu] at h2; cases h2
   rw [B1x] at h3 ⊢
   intro t ht
   simp only [cSL] at ht
   rcases List.mem_or_eq_of_mem_set ht with ht | ht
   · exact h3 t ht
   · rw [ht,h4]
 | .app a u,h=>by
   simp only [A9c,Bool.and_eq_true] at h
   obtain ⟨h1,h2⟩:=h
   have h3:=A9S a h1
   have h4:A4f (cT u)=[]:=by
    cases hu:A54 u with
    | none=>rw [hu] at h2; cases h2
    | some l =>
      cases l with
      | nil=>exact B1y u [] hu
      | cons _ _=>rw [hu] at h2; cases h2
   rw [B1x] at h3 ⊢
   intro t ht
   simp only [cSL,List.mem_append,List.mem_singleton] at ht
   rcases ht with ht | ht
   · exact h3 t ht
   · rw [ht,h4]
end
theorem C5F (o:O2) (l:List Nat) (h:B5G o=some l):A6U (some (cO o))=l:=by
 cases o with
 | cell g t=>exact B1y t l h
 | vec g z q =>
   simp only [B5G] at h
   split at h
   · rename_i hf; cases h; exact A9S q hf
   · cases h
 | mp g k v m =>
   simp only [B5G,Option.some.injEq] at h; subst h
   show A1k (m.map fun p=>T.p (enc v p.2))=[]
   rw [B1x]
   intro t ht
   simp only [List.mem_map] at ht
   obtain ⟨p,_,rfl⟩:=ht
   rfl
 | gone=>simp only [B5G,Option.some.injEq] at h; subst h; rfl
abbrev TV:=(t:Ty)×El t
def pv?:W→Option TV
 | .v t x=>some ⟨t,x⟩
 | .c p=>match tyP p with
   | some t=>match dec t p with | some x=>some ⟨t,x⟩ | none=>none
   | none=>none
 | _=>none
theorem B0D {w:W} {t:Ty} {x:El t} (h:pv? w=some ⟨t,x⟩):cW w=.p (enc t x):=by
 cases w <;> simp only [pv?,reduceCtorEq] at h
 case v=>cases h; rfl
 case c p =>
  cases h1:tyP p with
  | none=>rw [h1] at h; cases h
  | some u =>
    rw [h1] at h
    simp only at h
    cases h2:dec u p with
    | none=>rw [h2] at h; cases h
    | some y=>rw [h2] at h; cases h; rw [A7I _ _ _ h2]; rfl
def as? (t:Ty):W→Option (El t)
 | .v _ x=>A3n t x
 | .c p=>dec t p
 | _=>none
theorem B0E {t:Ty} {w:W} {x:El t} (h:as? t w=some x):cW w=.p (enc t x):=by
 cases w <;> simp only [as?,reduceCtorEq] at h
 case v u y=>rw [← (A2s h).2.2]; rfl
 case c p=>rw [A7I _ _ _ h]; rfl
def A7j:W→Option (IntKind×Int)
 | .v (.int k) x=>some (k,x)
 | .c (.int k n)=>some (k,n)
 | _=>none
theorem A4p {w:W} {k:IntKind} {n:Int} (h:A7j w=some (k,n)):cW w=.p (.int k n):=by
 unfold A7j at h
 split at h <;> cases h <;> rfl
def B5H:W→Option Bool
 | .v .bool x=>some x
 | .c (.bool b)=>some b
 | _=>none
theorem B4F {w:W} {b:Bool} (h:B5H w=some b):cW w=.p (.bool b):=by
 unfold B5H at h
 split at h <;> cases h <;> rfl
def B2M:W→Option ByteArray
 | .v .str x=>some x
 | .c (.str b)=>some b
 | _=>none
theorem A8Q {w:W} {b:ByteArray} (h:B2M w=some b):cW w=.p (.str b):=by
 unfold B2M at h
 split at h <;> cases h <;> rfl
def B2N (z:Nat) (n:Nat):W→Step
 | .c _=>.f n (n * z)
 | _=>.k n z
theorem C37 (z n:Nat) (w:W):(B2N z n w).ix=n:=by cases w <;> rfl
theorem C38 (z n:Nat) (w:W):(B2N z n w).of=n * z:=by cases w <;> rfl
end Go.Mid
/- Ways through owned memory: reading and changing a place. -/
namespace Go.Mid
set_option linter.unusedSimpArgs false
set_option linter.unusedVariables false
def A9T:(ts:List Ty)→Els ts→Nat→Option TV
 | [],_,_=>none
 | t::r,x,i=>match i with
   | 0=>some ⟨t,hdE r x⟩
   | i + 1=>A9T r (tlE r x) i
theorem A9d (s:Nat):∀ (ts:List Ty) (x:Els ts) (i:Nat) (t:Ty) (y:El t),A9T ts x i=some ⟨t,y⟩ →
 (A01 ts x)[i]?=some (enc t y)∧(A0Z s ts x)[i]?=some (A0M s t y)
 | [],_,_,_,_,h=>by cases h
 | u::r,x,0,t,y,h=>by
   simp only [A9T,Option.some.injEq] at h
   cases h
   exact ⟨rfl,rfl⟩
 | u::r,x,i + 1,t,y,h=>by
   simp only [A9T] at h
   have:=A9d s r (tlE r x) i t y h
   simpa only [A01,A0Z,List.getElem?_cons_succ] using this
def B6U:(ts:List Ty)→Els ts→Nat→(t:Ty)→El t→Option (Els ts)
 | [],_,_,_,_=>none
 | u::r,x,i,t,y=>match i with
   | 0=>match A3n u y with | some z=>some (mkE r z (tlE r x)) | none=>none
   | i + 1=>match B6U r (tlE r x) i t y with | some q=>some (mkE r (hdE r x) q) | none=>none
theorem C1x (s:Nat):∀ (ts:List Ty) (x:Els ts) (i:Nat) (t:Ty) (y:El t) (x':Els ts),B6U ts x i t y=some x' →
 A0Z s ts x'=(A0Z s ts x).set i (A0M s t y)
 | [],_,_,_,_,_,h=>by cases h
 | u::r,x,0,t,y,x',h=>by
   simp only [B6U] at h
   cases hc:A3n u y with
   | none=>rw [hc] at h; cases h
   | some z =>
     rw [hc] at h
     simp only [Option.some.injEq] at h
     subst h
     obtain ⟨rfl,he,_⟩:=A2s hc
     cases he
     simp only [A0Z,A4z,A4A,List.set_cons_zero]
 | u::r,x,i + 1,t,y,x',h=>by
   simp only [B6U] at h
   cases hc:B6U r (tlE r x) i t y with
   | none=>rw [hc] at h; cases h
   | some z =>
     rw [hc] at h
     simp only [Option.some.injEq] at h
     subst h
     simp only [A0Z,A4z,A4A,List.set_cons_succ]
     rw [C1x s r _ i t y z hc]
def B6V (t:Ty) (i:Nat):(ts:List Ty)→Els ts→Nat→Option (El t)
 | [],_,_=>none
 | [_],x,_=>A3n t (hdE [] x)
 | _::u2::r,x,j=>match A3n t (hdE (u2::r) x),B6V t i (u2::r) (tlE (u2::r) x) (j + 1) with
    | some a,some b=>some (bif i == j then a else b)
    | _,_=>none
theorem B6W (s:Nat) (t:Ty) (i:Nat):∀ (ts:List Ty) (x:Els ts) (j:Nat) (y:El t),B6V t i ts x j=some y→j ≤ i→i < j + ts.length →
 (A01 ts x)[i - j]?=some (enc t y)∧(A0Z s ts x)[i - j]?=some (A0M s t y)
 | [],_,_,_,h,_,_=>by cases h
 | [u],x,j,y,h,h1,h2=>by
   have h:A3n t (hdE [] x)=some y:=h
   have e:i - j=0:=by simp at h2; omega
   rw [e]
   obtain ⟨rfl,he,_⟩:=A2s h
   cases he
   exact ⟨rfl,rfl⟩
 | u::u2::r,x,j,y,h,h1,h2=>by
   simp only [B6V] at h
   cases hc:A3n t (hdE (u2::r) x) with
   | none=>rw [hc] at h; cases h
   | some a =>
     cases hd:B6V t i (u2::r) (tlE (u2::r) x) (j + 1) with
     | none=>rw [hc,hd] at h; cases h
     | some b =>
       rw [hc,hd] at h
       simp only [Option.some.injEq] at h
       by_cases e:i=j
       · subst e
         simp only [beq_self_eq_true,cond_true] at h
         subst h
         obtain ⟨rfl,he,_⟩:=A2s hc
         cases he
         rw [Nat.sub_self]
         exact ⟨rfl,rfl⟩
       · have e2:(i == j)=false:=by simpa using e
         rw [e2] at h
         simp only [cond_false] at h
         subst h
         have:=B6W s t i (u2::r) (tlE (u2::r) x) (j + 1) b hd (by omega) (by simp only [List.length_cons] at h2 ⊢; omega)
         have e3:i - j=(i - (j + 1)) + 1:=by omega
         rw [e3]
         simpa only [A01,A0Z,List.getElem?_cons_succ] using this
def B9R (t:Ty) (y:El t) (i:Nat):(ts:List Ty)→Els ts→Nat→Option (Els ts)
 | [],_,_=>some ()
 | u::r,x,j=>match A3n u y,B9R t y i r (tlE r x) (j + 1) with
   | some a,some b=>some (mkE r (bif i == j then a else hdE r x) b)
   | _,_=>none
theorem C1y (s:Nat) (t:Ty) (y:El t) (i:Nat):∀ (ts:List Ty) (x:Els ts) (j:Nat) (x':Els ts),B9R t y i ts x j=some x' →
 A0Z s ts x'=if j ≤ i then (A0Z s ts x).set (i - j) (A0M s t y) else A0Z s ts x
 | [],_,_,_,h=>by simp [A0Z]
 | u::r,x,j,x',h=>by
   simp only [B9R] at h
   cases hc:A3n u y with
   | none=>rw [hc] at h; cases h
   | some a =>
     cases hd:B9R t y i r (tlE r x) (j + 1) with
     | none=>rw [hc,hd] at h; cases h
     | some b =>
       rw [hc,hd] at h
       simp only [Option.some.injEq] at h
       subst h
       obtain ⟨rfl,he,_⟩:=A2s hc
       cases he
       have ih:=C1y s t y i r (tlE r x) (j + 1) b hd
       simp only [A0Z,A4z,A4A]
       rw [ih]
       by_cases e:i=j
       · subst e
         simp only [beq_self_eq_true,cond_true,Nat.le_refl,if_true,Nat.sub_self,List.set_cons_zero]
         rw [if_neg (by omega)]
       · have e2:(i == j)=false:=by simpa using e
         rw [e2]
         simp only [cond_false]
         by_cases h1:j ≤ i
         · rw [if_pos (by omega),if_pos h1]
           have e3:i - j=(i - (j + 1)) + 1:=by omega
           rw [e3,List.set_cons_succ]
         · rw [if_neg (by omega),if_neg h1]
def B8W (t:Ty):List Ty→Bool
 | []=>true
 | u::r=>Ty.eq t u && B8W t r
theorem B2O {t:Ty}:∀ {ts:List Ty} {i:Nat},B8W t ts=true→i ≤ ts.length→Ty.css (ts.take i)=i * t.cs
 | [],i,_,h=>by simp at h; subst h; simp [Ty.css]
 | u::r,0,_,_=>by simp [Ty.css]
 | u::r,i + 1,h,h1=>by
   simp only [B8W,Bool.and_eq_true] at h
   have e:=Ty.eq_of _ _ h.1
   subst e
   simp only [List.take_succ_cons,Ty.css]
   rw [B2O h.2 (by simpa using h1),Nat.succ_mul]; omega
theorem A7J (s:Nat):∀ (ts:List Ty) (x:Els ts) (i:Nat),T.css ((A0Z s ts x).take i)=Ty.css (ts.take i)
 | [],_,i=>by simp [A0Z,T.css,Ty.css]
 | t::r,x,0=>by simp [T.css,Ty.css]
 | t::r,x,i + 1=>by
   simp only [A0Z,List.take_succ_cons,T.css,Ty.css]
   rw [B0B,A7J s r]
theorem A5k:∀ (ts:List Ty) (x:Els ts) (i:Nat),PV.css ((A01 ts x).take i)=Ty.css (ts.take i)
 | [],_,i=>by simp [A01,PV.css,Ty.css]
 | t::r,x,0=>by simp [PV.css,Ty.css]
 | t::r,x,i + 1=>by
   simp only [A01,List.take_succ_cons,PV.css,Ty.css]
   rw [A5K,A5k r]
theorem css_append:∀ l m:List PV,PV.css (l++m)=PV.css l + PV.css m
 | [],m=>by simp [PV.css]
 | x::r,m=>by simp only [List.cons_append,PV.css,css_append r m]; omega
theorem C5G (L:List (T Nat)) (i:Nat) (r:List Nat) (o:Nat):A0Y (A0x L) (i::r) o=match L[i]? with | some t=>A0Y t r (o + T.css (L.take i)) | none=>none:=by
 rcases A1U L with ⟨vs,rfl,h⟩ | h
 · rw [h]
   simp only [A0Y,List.getElem?_map]
   cases hv:vs[i]? with
   | none=>rfl
   | some v =>
     simp only [Option.map_some]
     rw [← List.map_take,B2L]
 · rw [h]; simp only [A0Y]; cases L[i]? <;> rfl
theorem C7e (L:List (T Nat)) (i:Nat) (r:List Nat):A0c (A0x L) (i::r)=match L[i]? with | some t=>A0c t r | none=>none:=by
 rcases A1U L with ⟨vs,rfl,h⟩ | h
 · rw [h]
   simp only [A0c,List.getElem?_map]
   cases vs[i]? with
   | none=>rfl
   | some v=>rfl
 · rw [h]; simp only [A0c]; cases L[i]? <;> rfl
theorem C7f (L:List (T Nat)) (i:Nat) (r:List Nat) (u:T Nat):putT (A0x L) (i::r) u=match L[i]? with
 | some t=>match putT t r u with | some w=>some (A0x (L.set i w)) | none=>none
 | none=>none:=by
 rcases A1U L with ⟨vs,rfl,h⟩ | h
 · rw [h]
   simp only [putT,List.getElem?_map]
   cases vs[i]? with
   | none=>rfl
   | some v=>simp only [Option.map_some]; cases putT (T.p v) r u <;> rfl
 · rw [h]; simp only [putT]; cases L[i]? with
   | none=>rfl
   | some v=>simp only; cases putT v r u <;> rfl
def SL.get:SL→Nat→Tree T2
 | .base s t l,i=>.opt (B2K t) l[i]? fun x=>.leaf (.e s t x)
 | .set a j u,i=>.ite (i == j) ((Tree.ask (Nat.blt j a.len)).bind fun _=>.leaf u) (a.get i)
 | .app a u,i=>.ite (i == a.len) (.leaf u) (a.get i)
theorem SL.get_eq:∀ (a:SL) (i:Nat) (u:T2),(a.get i).den=some u→(cSL a)[i]?=some (cT u)
 | .base s t l,i,u,h=>by
   simp only [SL.get,Tree.den_opt,Tree.den_leaf] at h
   obtain ⟨x,h1,rfl⟩:=h
   simp only [cSL,List.getElem?_map,h1]; rfl
 | .set a j v,i,u,h=>by
   simp only [SL.get,Tree.den_ite,Tree.den_bind,Tree.den_ask,Tree.den_leaf] at h
   rcases h with ⟨h1,_,h2,rfl⟩ | ⟨h1,h2⟩
   · simp only [beq_iff_eq] at h1; subst h1
     have h3:i < a.len:=Nat.blt_eq.mp h2
     simp only [cSL]
     rw [List.getElem?_set_self (by rw [SL.len_eq]; exact h3)]
   · have h1:¬ i=j:=by simpa using h1
     simp only [cSL]
     rw [List.getElem?_set_ne (Ne.symm h1)]
     exact SL.get_eq a i u h2
 | .app a v,i,u,h=>by
   simp only [SL.get,Tree.den_ite,Tree.den_leaf] at h
   rcases h with ⟨h1,rfl⟩ | ⟨h1,h2⟩
   · simp only [beq_iff_eq] at h1; subst h1
     simp only [cSL]
     rw [List.getElem?_append_right (by rw [SL.len_eq]; exact Nat.le_refl _),SL.len_eq,Nat.sub_self]; rfl
   · have:=SL.get_eq a i u h2
     simp only [cSL]
     rw [List.getElem?_append_left (List.getElem?_eq_some_iff.1 this).1]; exact this
def B6X (s:Nat) (t:Ty):T2→Option (El t)
 | .e s' _ x=>if s' == s || t.pure then A3n t x else none
 | _=>none
theorem C1z {s:Nat} {t:Ty} {u:T2} {x:El t} (h:B6X s t u=some x):cT u=A0M s t x:=by
 cases u <;> simp only [B6X,reduceCtorEq] at h
 rename_i s' t' y
 split at h
 · rename_i hc
   obtain ⟨rfl,he,_⟩:=A2s h
   cases he
   simp only [Bool.or_eq_true,beq_iff_eq] at hc
   rcases hc with rfl | hc
   · rfl
   · simp only [cT]; rw [A1h _ _ _ hc,A1h _ _ _ hc]
 · cases h
def SL.put:SL→Nat→T2→SL
 | .base s t l,i,u=>match B6X s t u with | some x=>.base s t (l.set i x) | none=>.set (.base s t l) i u
 | a,i,u=>.set a i u
theorem SL.put_eq (a:SL) (i:Nat) (u:T2):cSL (a.put i u)=(cSL a).set i (cT u):=by
 cases a with
 | base s t l =>
   simp only [SL.put]
   cases h:B6X s t u with
   | none=>rfl
   | some x=>simp only [cSL]; rw [List.map_set,C1z h]
 | set a j v=>rfl
 | app a v=>rfl
def SL.putT (i:Nat) (u:T2):SL→Tree SL
 | .set a j v=>.ite (i == j) (.leaf (a.put i u)) (.leaf (.set (.set a j v) i u))
 | a=>.leaf (a.put i u)
theorem SL.putT_eq {i:Nat} {u:T2} {a b:SL} (h:(SL.putT i u a).den=some b):cSL b=(cSL a).set i (cT u):=by
 cases a with
 | set a j v =>
   simp only [SL.putT,Tree.den_ite,Tree.den_leaf] at h
   rcases h with ⟨h1,rfl⟩ | ⟨_,rfl⟩
   · simp only [beq_iff_eq] at h1
     subst h1
     rw [SL.put_eq]
     simp only [cSL,List.set_set]
   · rfl
 | base s t l=>simp only [SL.putT,Tree.den_leaf] at h; subst h; exact SL.put_eq _ _ _
 | app a v=>simp only [SL.putT,Tree.den_leaf] at h; subst h; exact SL.put_eq _ _ _
def SL.push:SL→T2→SL
 | .base s t l,u=>match B6X s t u with | some x=>.base s t (l++[x]) | none=>.app (.base s t l) u
 | a,u=>.app a u
theorem SL.push_eq (a:SL) (u:T2):cSL (a.push u)=cSL a++[cT u]:=by
 cases a with
 | base s t l =>
   simp only [SL.push]
   cases h:B6X s t u with
   | none=>rfl
   | some x=>simp only [cSL,List.map_append,List.map_cons,List.map_nil]; rw [C1z h]
 | set a j v=>rfl
 | app a v=>rfl
mutual
def tcs:T2→Nat
 | .e _ t _=>t.cs
 | .w v=>wcs v
 | .agg l=>B9S l
 | .vec ..=>1
 | .hole n=>n
def B9S:List T2→Nat
 | []=>0
 | x::r=>tcs x + B9S r
end
mutual
theorem B0F:∀ t:T2,(cT t).cs=tcs t
 | .e s t x=>B0B s t x
 | .w v=>B5F v
 | .agg l=>by simp only [cT,B5C,tcs]; exact B6Y l
 | .vec ..=>rfl
 | .hole n=>rfl
theorem B6Y:∀ l:List T2,T.css (cTs l)=B9S l
 | []=>rfl
 | x::r=>by simp only [cTs,T.css,B9S]; rw [B0F x,B6Y r]
end
def B8X:List Ty→Nat→Option Ty
 | [],_=>none
 | t::r,z=>if B8W t (t::r) && t.cs == z then some t else none
def B9T:T2→Step→Tree T2
 | .e s (.agg ts) x,st=>match st with
   | .f i o=>if Ty.css (ts.take i) == o then (Tree.ofO (A9T ts x i)).bind fun p=>.leaf (.e s p.1 p.2) else .fail
   | .k i z=>match B8X ts z with
     | some t=>(Tree.ask (Nat.blt i ts.length)).bind fun _=>(Tree.ofO (B6V t i ts x 0)).bind fun y=>.leaf (.e s t y)
     | none=>.fail
 | .agg l,.f i o=>if B9S (l.take i) == o then Tree.ofO l[i]? else .fail
 | _,_=>.fail
theorem B6Z {t:T2} {st:Step} {u:T2} (h:(B9T t st).den=some u):∃ L,cT t=A0x L∧L[st.ix]?=some (cT u)∧T.css (L.take st.ix)=st.of:=by
 unfold B9T at h
 split at h
 · rename_i s ts x
   refine ⟨A0Z s ts x,rfl,?_⟩
   split at h
   · rename_i i o
     split at h
     · rename_i ho
       simp only [Tree.den_bind,Tree.den_ofO,Tree.den_leaf] at h
       obtain ⟨⟨t,y⟩,h1,rfl⟩:=h
       exact ⟨(A9d s ts x i t y h1).2,(A7J s ts x i).trans (beq_iff_eq.mp ho)⟩
     · simp at h
   · rename_i i z
     split at h
     · rename_i t ht
       simp only [Tree.den_bind,Tree.den_ask,Tree.den_ofO,Tree.den_leaf] at h
       obtain ⟨_,h1,y,h2,rfl⟩:=h
       have h1:i < ts.length:=Nat.blt_eq.mp h1
       have:=(B6W s t i ts x 0 y h2 (Nat.zero_le _) (by omega)).2
       rw [Nat.sub_zero] at this
       refine ⟨this,(A7J s ts x i).trans ?_⟩
       unfold B8X at ht
       split at ht
       · cases ht
       · split at ht
         · rename_i hc
           cases ht
           simp only [Bool.and_eq_true,beq_iff_eq] at hc
           rw [← hc.2]
           exact B2O hc.1 (by show i ≤ _; omega)
         · cases ht
     · simp at h
 · rename_i l i o
   split at h
   · rename_i ho
     rw [Tree.den_ofO] at h
     refine ⟨cTs l,rfl,?_,?_⟩
     · rw [A4S,List.getElem?_map]
       show Option.map cT l[i]?=_
       rw [h]; rfl
     · show T.css ((cTs l).take i)=o
       rw [A4S,← List.map_take,← A4S,B6Y]
       simpa using ho
   · simp at h
 · simp at h
def B3A (s:Nat):(ts:List Ty)→Els ts→List T2
 | [],_=>[]
 | t::r,x=>.e s t (hdE r x)::B3A s r (tlE r x)
theorem B1z (s:Nat):∀ (ts:List Ty) (x:Els ts),cTs (B3A s ts x)=A0Z s ts x
 | [],_=>rfl
 | t::r,x=>by simp only [B3A,cTs,A0Z,B1z s r]; rfl
def C5H:T2→Step→T2→Tree T2
 | .e s (.agg ts) x,st,u=>match st with
   | .f i _=>match (match u with | .e s' t y=>if s' == s || t.pure then B6U ts x i t y else none | _=>none) with
     | some x'=>.leaf (.e s (.agg ts) x')
     | none=>.leaf (.agg ((B3A s ts x).set i u))
   | .k i _=>match u with
     | .e s' t y=>if s' == s || t.pure then (Tree.ofO (B9R t y i ts x 0)).bind fun x'=>.leaf (.e s (.agg ts) x') else .fail
     | _=>.fail
 | .agg l,.f i _,u=>.leaf (.agg (l.set i u))
 | _,_,_=>.fail
theorem C7g {t:T2} {st:Step} {u t':T2} (h:(C5H t st u).den=some t'):∃ L,cT t=A0x L∧cT t'=A0x (L.set st.ix (cT u)):=by
 have hs:∀ (s s':Nat) (t:Ty) (y:El t),(s' == s || t.pure)=true→A0M s t y=A0M s' t y:=by
  intro s s' t y hc
  simp only [Bool.or_eq_true,beq_iff_eq] at hc
  rcases hc with rfl | hc
  · rfl
  · rw [A1h _ _ _ hc,A1h _ _ _ hc]
 unfold C5H at h
 split at h
 · rename_i s ts x
   refine ⟨A0Z s ts x,rfl,?_⟩
   split at h
   · rename_i i o
     split at h
     · rename_i x' hx
       simp only [Tree.den_leaf] at h
       subst h
       split at hx
       · rename_i s' t y
         split at hx
         · rename_i hc
           simp only [cT,A0M,Step.ix]
           rw [C1x s ts x i t y x' hx,hs s s' t y hc]
         · cases hx
       · cases hx
     · simp only [Tree.den_leaf] at h
       subst h
       simp only [cT,Step.ix]
       rw [A4S,List.map_set,← A4S]
       exact congrArg (fun q=>A0x (List.set q i (cT u))) (B1z s ts x)
   · rename_i i z
     split at h
     · rename_i s' t y
       split at h
       · rename_i hc
         simp only [Tree.den_bind,Tree.den_ofO,Tree.den_leaf] at h
         obtain ⟨x',h1,rfl⟩:=h
         have:=C1y s t y i ts x 0 x' h1
         simp only [Nat.zero_le,if_true,Nat.sub_zero] at this
         simp only [cT,A0M,Step.ix]
         rw [this,hs s s' t y hc]
       · simp at h
     · simp at h
 · rename_i l i o
   simp only [Tree.den_leaf] at h
   subst h
   refine ⟨cTs l,rfl,?_⟩
   simp only [cT,Step.ix]
   rw [A4S,List.map_set,← A4S]
 · simp at h
def B0G:List Step→T2→Tree T2
 | [],t=>.leaf t
 | s::r,t=>(B9T t s).bind (B0G r)
theorem B2P:∀ {p:List Step} {t u:T2} {o:Nat},(B0G p t).den=some u→A0Y (cT t) (ixs p) o=some (cT u,o + ofs p)
 | [],t,u,o,h=>by
   simp only [B0G,Tree.den_leaf] at h
   subst h
   cases hc:cT t <;> rfl
 | s::r,t,u,o,h=>by
   simp only [B0G,Tree.den_bind] at h
   obtain ⟨v,h1,h2⟩:=h
   obtain ⟨L,e1,e2,e3⟩:=B6Z h1
   simp only [ixs,ofs]
   rw [e1,C5G,e2]
   simp only
   rw [e3,B2P h2,Nat.add_assoc]
def B60:T2→Step→Tree T2
 | .vec _ _ l _,st=>l.get st.ix
 | .e s (.vec z t) l,st=>SL.get (.base s t l) st.ix
 | t,st=>B9T t st
theorem C7h {t:T2} {st:Step} {u:T2} (h:(B60 t st).den=some u) (r:List Nat):A0c (cT t) (st.ix::r)=A0c (cT u) r:=by
 unfold B60 at h
 split at h
 · rename_i g z l n
   have:=SL.get_eq _ _ _ h
   simp only [cT,A0c,this]
 · rename_i s z t l
   have:=SL.get_eq _ _ _ h
   have e:cT (.e s (.vec z t) l)=.vec s z (cSL (.base s t l)) (List.length (α:=El t) l):=rfl
   rw [e]
   simp only [A0c,this]
 · obtain ⟨L,e1,e2,_⟩:=B6Z h
   rw [e1,C7e,e2]
def C5I:T2→Step→T2→Tree T2
 | .vec g z l n,st,u=>(SL.putT st.ix u l).bind fun l'=>.leaf (.vec g z l' n)
 | .e s (.vec z t) l,st,u=>.leaf (.vec s z (SL.put (.base s t l) st.ix u) (List.length (α:=El t) l))
 | t,st,u=>C5H t st u
theorem C7i {t:T2} {st:Step} {u v t':T2} {r:List Nat} {w:T Nat} (hk:(B60 t st).den=some u) (hp:putT (cT u) r w=some (cT v)) (h:(C5I t st v).den=some t'):putT (cT t) (st.ix::r) w=some (cT t'):=by
 unfold C5I at h
 split at h
 · rename_i g z l n
   have:=SL.get_eq _ _ _ hk
   simp only [Tree.den_bind,Tree.den_leaf] at h
   obtain ⟨l',hl,rfl⟩:=h
   simp only [cT,putT,this,hp,SL.putT_eq hl]
 · rename_i s z t l
   have:=SL.get_eq _ _ _ hk
   simp only [Tree.den_leaf] at h
   subst h
   have e:cT (.e s (.vec z t) l)=.vec s z (cSL (.base s t l)) (List.length (α:=El t) l):=rfl
   rw [e]
   simp only [putT,this,hp,cT,SL.put_eq]
 · rename_i hx1 hx2
   have hk:(B9T t st).den=some u:=by
    unfold B60 at hk
    split at hk
    · exact absurd rfl (hx1 _ _ _ _)
    · exact absurd rfl (hx2 _ _ _ _)
    · exact hk
   obtain ⟨L,e1,e2,_⟩:=B6Z hk
   obtain ⟨L',e3,e4⟩:=C7g h
   have hL:L=L':=by
    have e:A0x L=A0x L':=by rw [← e1,← e3]
    rcases A1U L with ⟨vs,rfl,h1⟩ | h1 <;> rcases A1U L' with ⟨vs',rfl,h2⟩ | h2 <;> rw [h1,h2] at e
    · simp only [T.p.injEq,PV.agg.injEq] at e; rw [e]
    · cases e
    · cases e
    · simpa using e
   subst hL
   rw [e1,C7f,e2]
   simp only [hp]
   rw [e4]
def B3B:List Step→T2→Tree T2
 | [],t=>.leaf t
 | s::r,t=>(B60 t s).bind (B3B r)
theorem B4G:∀ {p:List Step} {t u:T2},(B3B p t).den=some u→A0c (cT t) (ixs p)=some (cT u)
 | [],t,u,h=>by
   simp only [B3B,Tree.den_leaf] at h
   subst h
   cases hc:cT t <;> rfl
 | s::r,t,u,h=>by
   simp only [B3B,Tree.den_bind] at h
   obtain ⟨v,h1,h2⟩:=h
   simp only [ixs]
   rw [C7h h1,B4G h2]
def B3C (u:T2):List Step→T2→Tree T2
 | [],_=>.leaf u
 | s::r,t=>(B60 t s).bind fun c=>(B3C u r c).bind fun c'=>C5I t s c'
theorem B4H:∀ {p:List Step} {t u t':T2},(B3C u p t).den=some t'→putT (cT t) (ixs p) (cT u)=some (cT t')
 | [],t,u,t',h=>by
   simp only [B3C,Tree.den_leaf] at h
   subst h
   cases hc:cT t <;> rfl
 | s::r,t,u,t',h=>by
   simp only [B3C,Tree.den_bind] at h
   obtain ⟨c,h1,c',h2,h3⟩:=h
   simp only [ixs]
   exact C7i h1 (B4H h2) h3
def A55:O2→List Step→Tree T2
 | .cell _ t,p=>B3B p t
 | .vec _ _ l,s::r=>(l.get s.ix).bind (B3B r)
 | _,_=>.fail
theorem A5M {o:O2} {p:List Step} {u:T2} (h:(A55 o p).den=some u):A0h (some (cO o)) (ixs p)=some (cT u):=by
 unfold A55 at h
 split at h
 · exact B4G h
 · simp only [Tree.den_bind] at h
   obtain ⟨v,h1,h2⟩:=h
   simp only [cO,ixs,A0h,SL.get_eq _ _ _ h1]
   exact B4G h2
 · simp at h
def A7k (u:T2):O2→List Step→Tree O2
 | .cell g t,p=>(B3C u p t).bind fun t'=>.leaf (.cell g t')
 | .vec g z l,s::r=>(l.get s.ix).bind fun c=>(B3C u r c).bind fun c'=>(SL.putT s.ix c' l).bind fun l'=>.leaf (.vec g z l')
 | _,_=>.fail
theorem A47 {o o':O2} {p:List Step} {u:T2} (h:(A7k u o p).den=some o'):put (some (cO o)) (ixs p) (cT u)=some (cO o'):=by
 unfold A7k at h
 split at h
 · simp only [Tree.den_bind,Tree.den_leaf] at h
   obtain ⟨t',h1,rfl⟩:=h
   simp only [cO,put,B4H h1]
 · simp only [Tree.den_bind,Tree.den_leaf] at h
   obtain ⟨c,h1,c',h2,l',h3,rfl⟩:=h
   simp only [cO,ixs,put,SL.get_eq _ _ _ h1,B4H h2,SL.putT_eq h3]
 · simp at h
def B8Y:T2→Tree (Nat×Nat×SL)
 | .vec g z l _=>.leaf (g,z,l)
 | .e s (.vec z t) l=>.leaf (s,z,.base s t l)
 | _=>.fail
theorem B9U {t:T2} {g z:Nat} {l:SL} (h:(B8Y t).den=some (g,z,l)):∃ n,cT t=.vec g z (cSL l) n:=by
 unfold B8Y at h
 split at h
 · simp only [Tree.den_leaf,Prod.mk.injEq] at h
   obtain ⟨rfl,rfl,rfl⟩:=h
   exact ⟨_,rfl⟩
 · simp only [Tree.den_leaf,Prod.mk.injEq] at h
   obtain ⟨rfl,rfl,rfl⟩:=h
   exact ⟨_,rfl⟩
 · simp at h
def A4T:O2→List Step→Tree (Nat×Nat×SL)
 | .vec g z l,[]=>.leaf (g,z,l)
 | o,p=>(A55 o p).bind B8Y
theorem C2J {o:Obj Nat} {p:List Nat} {a z:Nat} {l:List (T Nat)} {n:Nat} (h:A0h (some o) p=some (.vec a z l n)):A0D (some o) p=some (a,z,l):=by
 unfold A0D
 split
 · rename_i h1; cases h1; simp [A0h] at h
 · rw [h]
theorem A20 {o:O2} {p:List Step} {g z:Nat} {l:SL} (h:(A4T o p).den=some (g,z,l)):A0D (some (cO o)) (ixs p)=some (g,z,cSL l):=by
 unfold A4T at h
 split at h
 · simp only [Tree.den_leaf,Prod.mk.injEq] at h
   obtain ⟨rfl,rfl,rfl⟩:=h
   rfl
 · simp only [Tree.den_bind] at h
   obtain ⟨u,h1,h2⟩:=h
   obtain ⟨n,h3⟩:=B9U h2
   have:=A5M h1
   rw [h3] at this
   exact C2J this
def B5I (s:Step) (z:Nat):Bool:=match s with | .f i o=>i * z == o | .k _ y=>y == z
theorem C39 {s:Step} {z:Nat} (h:B5I s z=true):s.ix * z=s.of:=by
 cases s with
 | f i o=>simpa [Step.ix,Step.of,B5I] using h
 | k i y=>simp only [B5I,beq_iff_eq] at h; subst h; rfl
def B1A (o:O2) (np:Option (List Step)) (rp:List Step):Tree (T2×Nat) :=
 match np with
 | none=>match o with
   | .cell a t=>(B0G rp t).bind fun u=>.leaf (u,a)
   | _=>.fail
 | some p=>match rp with
   | s::r=>(A4T o p).bind fun x=>if B5I s x.2.1 then (x.2.2.get s.ix).bind fun t=>(B0G r t).bind fun u=>.leaf (u,x.1) else .fail
   | []=>.fail
theorem A9e {o:O2} {np:Option (List Step)} {rp:List Step} {u:T2} {g:Nat} (h:(B1A o np rp).den=some (u,g)):look (some (cO o)) (npI np) (ixs rp)=some (cT u,g,ofs rp):=by
 unfold B1A at h
 split at h
 · split at h
   · simp only [Tree.den_bind,Tree.den_leaf,Prod.mk.injEq] at h
     obtain ⟨v,h1,rfl,rfl⟩:=h
     simp only [cO,npI,look]
     rw [B2P h1,Nat.zero_add]
   · simp at h
 · split at h
   · rename_i p s r
     simp only [Tree.den_bind] at h
     obtain ⟨⟨a,z,l⟩,h1,h⟩:=h
     split at h
     · rename_i hc
       simp only [Tree.den_bind,Tree.den_leaf,Prod.mk.injEq] at h
       obtain ⟨t,h2,v,h3,rfl,rfl⟩:=h
       have e:=C39 hc
       simp only [npI,ixs,look,A20 h1,SL.get_eq _ _ _ h2]
       rw [B2P h3,e]
       rfl
     · simp at h
   · simp at h
end Go.Mid
/- Operations on symbolic states: values. -/
namespace Go.Mid
set_option linter.unusedSimpArgs false
set_option linter.unusedVariables false
def B4I:List W→Option ((ts:List Ty)×Els ts)
 | []=>some ⟨[],()⟩
 | w::r=>match pv? w,B4I r with | some p,some q=>some ⟨p.1::q.1,mkE q.1 p.2 q.2⟩ | _,_=>none
theorem B61:∀ {l:List W} {ts:List Ty} {x:Els ts},B4I l=some ⟨ts,x⟩→l.map cW=(A01 ts x).map .p
 | [],ts,x,h=>by simp only [B4I,Option.some.injEq] at h; cases h; rfl
 | w::r,ts,x,h=>by
   simp only [B4I] at h
   cases h1:pv? w with
   | none=>rw [h1] at h; cases h
   | some p =>
     cases h2:B4I r with
     | none=>rw [h1,h2] at h; cases h
     | some q =>
       rw [h1,h2] at h
       obtain ⟨t,y⟩:=p
       obtain ⟨us,z⟩:=q
       simp only [Option.some.injEq] at h
       cases h
       simp only [List.map_cons,A01,A4z,A4A]
       rw [B0D h1,B61 h2]
theorem B0H:∀ l:List PV,A2S (l.map .p)=some l
 | []=>rfl
 | x::r=>by simp only [List.map_cons,A2S,B0H r]
def B4J:W→Bool
 | .c _=>false
 | .v _ _=>false
 | _=>true
theorem A9U:∀ {l:List W},l.any B4J=true→A2S (l.map cW)=none
 | w::r,h=>by
   simp only [List.any_cons,Bool.or_eq_true] at h
   simp only [List.map_cons]
   rcases h with h | h
   · cases w <;> simp only [B4J,Bool.false_eq_true] at h <;> rfl
   · have:=A9U h
     cases hw:cW w <;> simp only [A2S,this]
def B0I (l:List W):Tree W:=match B4I l with
 | some q=>.leaf (.v (.agg q.1) q.2)
 | none=>if l.any B4J then .leaf (.agg l) else .fail
theorem A9V {l:List W} {w:W} (h:(B0I l).den=some w):A4L (l.map cW)=cW w:=by
 unfold B0I at h
 split at h
 · rename_i q hq
   obtain ⟨ts,x⟩:=q
   simp only [Tree.den_leaf] at h
   subst h
   unfold A4L
   rw [B61 hq,B0H]
   rfl
 · split at h
   · rename_i hn
     simp only [Tree.den_leaf] at h
     subst h
     unfold A4L
     rw [A9U hn,cW,A2f]
   · simp at h
mutual
def A6C (s id:Nat) (p:List Step):(t:Ty)→El t→Tree W
 | .vec _ t,x=>.leaf (.own id p none (List.length (α:=El t) x) s)
 | .agg ts,x=>if Ty.pures ts then .leaf (.v (.agg ts) x) else (B5J s id p 0 0 ts x).bind B0I
 | t,x=>.leaf (.v t x)
def B5J (s id:Nat) (p:List Step) (i o:Nat):(ts:List Ty)→Els ts→Tree (List W)
 | [],_=>.leaf []
 | t::r,x=>(A6C s id (p++[.f i o]) t (hdE r x)).bind fun w=>(B5J s id p (i + 1) (o + t.cs) r (tlE r x)).bind fun l=>.leaf (w::l)
end
mutual
def B4K (id:Nat) (p:List Step):T2→Tree W
 | .e s t x=>A6C s id p t x
 | .w v=>.leaf v
 | .agg l=>(B5K id p 0 0 l).bind B0I
 | .vec g _ _ n=>.leaf (.own id p none n g)
 | .hole n=>.leaf (.dead n)
def B5K (id:Nat) (p:List Step) (i o:Nat):List T2→Tree (List W)
 | []=>.leaf []
 | t::r=>(B4K id (p++[.f i o]) t).bind fun w=>(B5K id p (i + 1) (o + tcs t) r).bind fun l=>.leaf (w::l)
end
theorem B9V (id:Nat):∀ (vs:List PV) (p:List Nat) (i:Nat),A5U id p i (vs.map T.p)=vs.map .p
 | [],_,_=>rfl
 | v::r,p,i=>by simp only [List.map_cons,A5U,A6w,B9V id r]
theorem C1A (id:Nat) (p:List Nat) (L:List (T Nat)):A6w id p (A0x L)=A4L (A5U id p 0 L):=by
 rcases A1U L with ⟨vs,rfl,h⟩ | h
 · rw [h,B9V]
   unfold A4L
   rw [B0H]
   rfl
 · rw [h]; rfl
theorem B9W (p:List Step) (i o:Nat):ixs (p++[.f i o])=ixs p++[i]:=by rw [A7h]; rfl
mutual
theorem C1B (s id:Nat):∀ (t:Ty) (p:List Step) (x:El t) (w:W),(A6C s id p t x).den=some w→A6w id (ixs p) (A0M s t x)=cW w
 | .vec z t,p,x,w,h=>by
   simp only [A6C,Tree.den_leaf] at h
   subst h
   rfl
 | .agg ts,p,x,w,h=>by
   simp only [A6C] at h
   split at h
   · rename_i hp
     simp only [Tree.den_leaf] at h
     subst h
     rw [A1h s (.agg ts) x (by simpa only [Ty.pure] using hp)]
     rfl
   · simp only [Tree.den_bind] at h
     obtain ⟨l,h1,h2⟩:=h
     simp only [A0M]
     rw [C1A]
     have:=B9X s id ts p 0 0 x l h1
     rw [this]
     exact A9V h2
 | .int k,p,x,w,h=>by simp only [A6C,Tree.den_leaf] at h; subst h; rfl
 | .bool,p,x,w,h=>by simp only [A6C,Tree.den_leaf] at h; subst h; rfl
 | .str,p,x,w,h=>by simp only [A6C,Tree.den_leaf] at h; subst h; rfl
 | .sl t,p,x,w,h=>by simp only [A6C,Tree.den_leaf] at h; subst h; rfl
 | .ref t,p,x,w,h=>by simp only [A6C,Tree.den_leaf] at h; subst h; rfl
 | .opr t,p,x,w,h=>by simp only [A6C,Tree.den_leaf] at h; subst h; rfl
 | .fn f ts,p,x,w,h=>by simp only [A6C,Tree.den_leaf] at h; subst h; rfl
 | .mp k v,p,x,w,h=>by simp only [A6C,Tree.den_leaf] at h; subst h; rfl
 | .nilp,p,x,w,h=>by simp only [A6C,Tree.den_leaf] at h; subst h; rfl
 | .nilf,p,x,w,h=>by simp only [A6C,Tree.den_leaf] at h; subst h; rfl
theorem B9X (s id:Nat):∀ (ts:List Ty) (p:List Step) (i o:Nat) (x:Els ts) (l:List W),(B5J s id p i o ts x).den=some l→A5U id (ixs p) i (A0Z s ts x)=l.map cW
 | [],p,i,o,x,l,h=>by simp only [B5J,Tree.den_leaf] at h; subst h; rfl
 | t::r,p,i,o,x,l,h=>by
   simp only [B5J,Tree.den_bind,Tree.den_leaf] at h
   obtain ⟨w,h1,l',h2,rfl⟩:=h
   simp only [A0Z,A5U,List.map_cons]
   have:=C1B s id t _ _ w h1
   rw [B9W] at this
   rw [this,B9X s id r p (i + 1) _ _ l' h2]
end
mutual
theorem C1C (id:Nat):∀ (t:T2) (p:List Step) (w:W),(B4K id p t).den=some w→A6w id (ixs p) (cT t)=cW w
 | .e s t x,p,w,h=>C1B s id t p x w h
 | .w v,p,w,h=>by simp only [B4K,Tree.den_leaf] at h; subst h; rfl
 | .agg l,p,w,h=>by
   simp only [B4K,Tree.den_bind] at h
   obtain ⟨ws,h1,h2⟩:=h
   simp only [cT]
   rw [C1A,B9Y id l p 0 0 ws h1]
   exact A9V h2
 | .vec g z l n,p,w,h=>by simp only [B4K,Tree.den_leaf] at h; subst h; rfl
 | .hole n,p,w,h=>by simp only [B4K,Tree.den_leaf] at h; subst h; rfl
theorem B9Y (id:Nat):∀ (l:List T2) (p:List Step) (i o:Nat) (ws:List W),(B5K id p i o l).den=some ws→A5U id (ixs p) i (cTs l)=ws.map cW
 | [],p,i,o,ws,h=>by simp only [B5K,Tree.den_leaf] at h; subst h; rfl
 | t::r,p,i,o,ws,h=>by
   simp only [B5K,Tree.den_bind,Tree.den_leaf] at h
   obtain ⟨w,h1,l',h2,rfl⟩:=h
   simp only [cTs,A5U,List.map_cons]
   have:=C1C id t _ w h1
   rw [B9W] at this
   rw [this,B9Y id r p (i + 1) _ l' h2]
end
mutual
def pur:Ty→Ty
 | .vec _ t=>.sl (pur t)
 | .agg ts=>.agg (B62 ts)
 | .int k=>.int k
 | .bool=>.bool
 | .str=>.str
 | .sl t=>.sl t
 | .ref t=>.ref t
 | .opr t=>.opr t
 | .fn f ts=>.fn f ts
 | .mp k v=>.mp k v
 | .nilp=>.nilp
 | .nilf=>.nilf
def B62:List Ty→List Ty
 | []=>[]
 | t::r=>pur t::B62 r
end
mutual
def A3a:(t:Ty)→El t→El (pur t)
 | .vec _ t,x=>List.map (A3a t) x
 | .agg ts,x=>B8Z ts x
 | .int _,x=>x
 | .bool,x=>x
 | .str,x=>x
 | .sl _,x=>x
 | .ref _,x=>x
 | .opr _,x=>x
 | .fn _ _,x=>x
 | .mp _ _,x=>x
 | .nilp,x=>x
 | .nilf,x=>x
def B8Z:(ts:List Ty)→Els ts→Els (B62 ts)
 | [],_=>()
 | t::r,x=>mkE (B62 r) (A3a t (hdE r x)) (B8Z r (tlE r x))
end
mutual
theorem B0J:∀ (t:Ty) (x:El t),enc (pur t) (A3a t x)=enc t x
 | .vec z t,x=>by
   have h:∀ l:List (El t),(l.map (A3a t)).map (enc (pur t))=l.map (enc t):=by
    intro l
    induction l with
    | nil=>rfl
    | cons a r ih=>simp only [List.map_cons,B0J t a,ih]
   exact congrArg PV.sl (h x)
 | .agg ts,x=>congrArg PV.agg (B9Z ts x)
 | .int _,_ | .bool,_ | .str,_ | .sl _,_ | .ref _,_ | .fn _ _,_ | .mp _ _,_ | .nilp,_ | .nilf,_ | .opr _,_=>rfl
theorem B9Z:∀ (ts:List Ty) (x:Els ts),A01 (B62 ts) (B8Z ts x)=A01 ts x
 | [],_=>rfl
 | t::r,x=>by
   simp only [B62,B8Z,A01,A4z,A4A]
   rw [B0J t,B9Z r]
end
def B1B (t:Ty) (l:List (El t)):TV:=if t.pure then ⟨.sl t,l⟩ else ⟨.sl (pur t),List.map (A3a t) l⟩
theorem B4L (t:Ty) (l:List (El t)):enc (B1B t l).1 (B1B t l).2=.sl (l.map (enc t)):=by
 by_cases hp:t.pure=true
 · rw [show B1B t l=⟨.sl t,l⟩ from if_pos hp]
   rfl
 · rw [show B1B t l=⟨.sl (pur t),List.map (A3a t) l⟩ from if_neg hp]
   show PV.sl ((l.map (A3a t)).map (enc (pur t)))=_
   rw [List.map_map]
   congr 2
   funext x
   exact B0J t x
def toQ:(t:Ty)→El t→TV
 | .vec _ u,l=>B1B u l
 | t,x=>⟨pur t,A3a t x⟩
theorem C70 (t:Ty) (x:El t):enc (toQ t x).1 (toQ t x).2=enc t x:=by
 cases t with
 | vec z u=>exact B4L _ _
 | _=>exact B0J _ _
def toP (t:Ty) (x:El t):TV:=if t.pure then ⟨t,x⟩ else toQ t x
theorem C71 (t:Ty) (x:El t):enc (toP t x).1 (toP t x).2=enc t x:=by
 by_cases hp:t.pure=true
 · rw [show toP t x=⟨t,x⟩ from if_pos hp]
 · rw [show toP t x=toQ t x from if_neg hp]
   exact C70 t x
def B5L (t:Ty) (l:List (El t)):(t:Ty)×List (El t):=if t.pure then ⟨t,l⟩ else ⟨pur t,List.map (A3a t) l⟩
theorem C5J (t:Ty) (l:List (El t)):(B5L t l).2.map (enc (B5L t l).1)=l.map (enc t):=by
 by_cases hp:t.pure=true
 · rw [show B5L t l=⟨t,l⟩ from if_pos hp]
 · rw [show B5L t l=⟨pur t,List.map (A3a t) l⟩ from if_neg hp]
   show (l.map (A3a t)).map (enc (pur t))=_
   rw [List.map_map]
   congr 1
   funext x
   exact B0J t x
def C2K (n:Nat) (o:Tree ((t:Ty)×List (El t))):SL→Tree TV
 | .base _ t l=>.leaf (B1B t (l.take n))
 | _=>o.bind fun q=>.leaf ⟨.sl q.1,q.2.take n⟩
mutual
def tP:T2→Tree TV
 | .e _ t x=>.leaf (toP t x)
 | .agg l=>(tPs l).bind fun q=>.leaf ⟨.agg q.1,q.2⟩
 | .vec _ _ a n=>C2K n (slQ a) a
 | .w _=>.fail
 | .hole _=>.fail
def tPs:List T2→Tree ((ts:List Ty)×Els ts)
 | []=>.leaf ⟨[],()⟩
 | t::r=>(tP t).bind fun p=>(tPs r).bind fun q=>.leaf ⟨p.1::q.1,mkE q.1 p.2 q.2⟩
def slQ:SL→Tree ((t:Ty)×List (El t))
 | .base _ t l=>.leaf (B5L t l)
 | .set a i u=>(slQ a).bind fun q=>(tP u).bind fun v=>(Tree.ofO (A3n q.1 v.2)).bind fun x=>.leaf ⟨q.1,q.2.set i x⟩
 | .app a u=>(slQ a).bind fun q=>(tP u).bind fun v=>(Tree.ofO (A3n q.1 v.2)).bind fun x=>.leaf ⟨q.1,q.2++[x]⟩
end
theorem B5M:∀ {l:List (T Nat)} {vs:List PV} {i:Nat} {t:T Nat} {v:PV},A0E l=some vs→A4e t=some v→A0E (l.set i t)=some (vs.set i v)
 | [],vs,i,t,v,h,_=>by simp only [A0E,Option.some.injEq] at h; subst h; rfl
 | a::r,vs,i,t,v,h,hv=>by
   simp only [A0E] at h
   cases h1:A4e a with
   | none=>rw [h1] at h; cases h
   | some x =>
     cases h2:A0E r with
     | none=>rw [h1,h2] at h; cases h
     | some q =>
       rw [h1,h2] at h
       simp only [Option.some.injEq] at h
       subst h
       cases i with
       | zero=>simp only [List.set_cons_zero,A0E,hv,h2]
       | succ i=>simp only [List.set_cons_succ,A0E,h1,B5M h2 hv]
theorem B4e:∀ {l:List (T Nat)} {vs:List PV} {t:T Nat} {v:PV},A0E l=some vs→A4e t=some v→A0E (l++[t])=some (vs++[v])
 | [],vs,t,v,h,hv=>by simp only [A0E,Option.some.injEq] at h; subst h; simp only [List.nil_append,A0E,hv]
 | a::r,vs,t,v,h,hv=>by
   simp only [A0E] at h
   cases h1:A4e a with
   | none=>rw [h1] at h; cases h
   | some x =>
     cases h2:A0E r with
     | none=>rw [h1,h2] at h; cases h
     | some q =>
       rw [h1,h2] at h
       simp only [Option.some.injEq] at h
       subst h
       simp only [List.cons_append,A0E,h1,B4e h2 hv]
theorem C7j {n:Nat} {o:Tree ((t:Ty)×List (El t))} {a:SL} (ho:∀ q,o.den=some q→A0E (cSL a)=some (q.2.map (enc q.1))) {v:TV} (h:(C2K n o a).den=some v):∃ vs,A0E (cSL a)=some vs∧enc v.1 v.2=.sl (vs.take n):=by
 cases a with
 | base s t l =>
   simp only [C2K,Tree.den_leaf] at h
   subst h
   refine ⟨l.map (enc t),by simp only [cSL,A7Z],?_⟩
   rw [B4L,List.map_take]
 | _ =>
   simp only [C2K,Tree.den_bind,Tree.den_leaf] at h
   obtain ⟨q,h1,rfl⟩:=h
   refine ⟨_,ho q h1,?_⟩
   show PV.sl ((q.2.take n).map (enc q.1))=_
   rw [List.map_take]
mutual
theorem B80:∀ (t:T2) (v:TV),(tP t).den=some v→A4e (cT t)=some (enc v.1 v.2)
 | .e s t x,v,h=>by
   simp only [tP,Tree.den_leaf] at h
   subst h
   rw [C71]
   exact A9Q s t x
 | .agg l,v,h=>by
   simp only [tP,Tree.den_bind,Tree.den_leaf] at h
   obtain ⟨q,h1,rfl⟩:=h
   simp only [cT,B9N]
   rw [C4a l q h1]
   rfl
 | .vec g z a n,v,h=>by
   simp only [tP] at h
   obtain ⟨vs,h1,h2⟩:=C7j (fun q hq=>B2Q a q hq) h
   simp only [cT,A4e,h1,h2]
 | .w _,v,h=>by simp [tP,Tree.den] at h
 | .hole _,v,h=>by simp [tP,Tree.den] at h
theorem C4a:∀ (l:List T2) (q:(ts:List Ty)×Els ts),(tPs l).den=some q→A0E (cTs l)=some (A01 q.1 q.2)
 | [],q,h=>by simp only [tPs,Tree.den_leaf] at h; subst h; rfl
 | t::r,q,h=>by
   simp only [tPs,Tree.den_bind,Tree.den_leaf] at h
   obtain ⟨p,h1,q',h2,rfl⟩:=h
   simp only [cTs,A0E,A01,A4z,A4A]
   rw [B80 t p h1,C4a r q' h2]
theorem B2Q:∀ (a:SL) (q:(t:Ty)×List (El t)),(slQ a).den=some q→A0E (cSL a)=some (q.2.map (enc q.1))
 | .base s t l,q,h=>by
   simp only [slQ,Tree.den_leaf] at h
   subst h
   rw [C5J]
   simp only [cSL,A7Z]
 | .set a i u,q,h=>by
   simp only [slQ,Tree.den_bind,Tree.den_ofO,Tree.den_leaf] at h
   obtain ⟨q',h1,v,h2,x,h3,rfl⟩:=h
   obtain ⟨e1,e2,e3⟩:=A2s h3
   simp only [cSL,List.map_set]
   exact B5M (B2Q a q' h1) (by rw [B80 u v h2,e3])
 | .app a u,q,h=>by
   simp only [slQ,Tree.den_bind,Tree.den_ofO,Tree.den_leaf] at h
   obtain ⟨q',h1,v,h2,x,h3,rfl⟩:=h
   obtain ⟨e1,e2,e3⟩:=A2s h3
   simp only [cSL,List.map_append,List.map_cons,List.map_nil]
   exact B4e (B2Q a q' h1) (by rw [B80 u v h2,e3])
end
def slP (off:Option Nat) (len:Nat):SL→Tree TV
 | .base _ t l=>.leaf (B1B t ((match off with | none=>l | some o=>l.drop o).take len))
 | a=>(slQ a).bind fun q=>.leaf ⟨.sl q.1,(match off with | none=>q.2 | some o=>q.2.drop o).take len⟩
theorem C72 {off:Option Nat} {len:Nat} {a:SL} {v:TV} (h:(slP off len a).den=some v):∃ vs,A0E (cSL a)=some vs∧enc v.1 v.2=.sl ((vs.drop (off.getD 0)).take len):=by
 cases a with
 | base s t l =>
   simp only [slP,Tree.den_leaf] at h
   subst h
   refine ⟨l.map (enc t),by simp only [cSL,A7Z],?_⟩
   rw [B4L]
   cases off with
   | none=>simp [List.map_take]
   | some o=>simp [List.map_take,List.map_drop]
 | _ =>
   simp only [slP,Tree.den_bind,Tree.den_leaf] at h
   obtain ⟨q,h1,rfl⟩:=h
   refine ⟨_,B2Q _ q h1,?_⟩
   cases off with
   | none=>exact congrArg PV.sl (by simp [List.map_take])
   | some o=>exact congrArg PV.sl (by simp [List.map_take,List.map_drop])
def B3D:Option Ty→Nat→Option Ty
 | some (.agg ts),i=>ts[i]?
 | some (.fn _ ts),i=>ts[i]?
 | _,_=>none
def A6l:Option Ty→Option Ty
 | some (.sl t)=>some t
 | some (.vec _ t)=>some t
 | _=>none
mutual
def A48 (h:H2):Option Ty→W→Tree TV
 | _,.v t x=>.leaf ⟨t,x⟩
 | u,.c p=>match pv? (.c p) with
   | some x=>.leaf x
   | none=>match u with
     | some u=>match dec u p with | some x=>.leaf ⟨u,x⟩ | none=>.fail
     | none=>.fail
 | u,.nil _=>match A6l u with | some t=>.leaf ⟨.sl t,([]:List (El t))⟩ | none=>.fail
 | _,.own id path off len g=>(Tree.ofO (A2x h id)).bind fun o=>(A4T o path).bind fun x=>if x.1 == g then (Tree.ask (Nat.ble (match off with | none=>len | some o=>o + len) x.2.2.len)).bind fun _=>slP off len x.2.2 else .fail
 | _,.ptr id np rp g=>(Tree.ofO (A2x h id)).bind fun o=>(B1A o np rp).bind fun x=>if x.2 == g then (tP x.1).bind fun v=>.leaf ⟨.ref v.1,v.2⟩ else .fail
 | u,.agg l=>(A8B h u 0 l).bind fun q=>.leaf ⟨.agg q.1,q.2⟩
 | u,.fn f l=>(A8B h u 0 l).bind fun q=>.leaf ⟨.fn f q.1,q.2⟩
 | _,.mref ..=>.fail
 | _,.tup _=>.fail
 | _,.dead _=>.fail
def A8B (h:H2) (u:Option Ty) (i:Nat):List W→Tree ((ts:List Ty)×Els ts)
 | []=>.leaf ⟨[],()⟩
 | w::r=>(A48 h (B3D u i) w).bind fun p=>(A8B h u (i + 1) r).bind fun q=>.leaf ⟨p.1::q.1,mkE q.1 p.2 q.2⟩
end
theorem A2n {h:H2} {id:Nat} {o:O2} (e:A2x h id=some o):cH h id=some (cO o):=by rw [A7i,e]; rfl
mutual
theorem A56 (h:H2):∀ (w:W) (u:Option Ty) (v:TV),(A48 h u w).den=some v→A08 (cH h) (cW w)=some (enc v.1 v.2)
 | .v t x,u,v,e=>by simp only [A48,Tree.den_leaf] at e; subst e; rfl
 | .c p,u,v,e=>by
   simp only [A48] at e
   split at e
   · rename_i x hx
     simp only [Tree.den_leaf] at e
     subst e
     have:=B0D hx
     rw [this]
     rfl
   · split at e
     · split at e
       · rename_i hd
         simp only [Tree.den_leaf] at e
         subst e
         show some p=_
         rw [A7I _ _ _ hd]
       · simp at e
     · simp at e
 | .nil z,u,v,e=>by
   simp only [A48] at e
   split at e
   · simp only [Tree.den_leaf] at e; subst e; rfl
   · simp at e
 | .own id path off len g,u,v,e=>by
   simp only [A48,Tree.den_bind,Tree.den_ofO] at e
   obtain ⟨o,h1,⟨g',z,a⟩,h2,e⟩:=e
   split at e
   · rename_i hg
     simp only [beq_iff_eq] at hg
     simp only [Tree.den_bind,Tree.den_ask] at e
     obtain ⟨_,h3,h4⟩:=e
     obtain ⟨vs,h5,h6⟩:=C72 h4
     have h3:off.getD 0 + len ≤ a.len:=by
      cases off with
      | none=>simpa using Nat.ble_eq.mp h3
      | some o=>exact Nat.ble_eq.mp h3
     simp only [cW,A08]
     rw [A2n h1,A20 h2]
     simp only [hg,true_and,SL.len_eq,h3,if_true,h5,h6]
   · simp at e
 | .ptr id np rp g,u,v,e=>by
   simp only [A48,Tree.den_bind,Tree.den_ofO] at e
   obtain ⟨o,h1,⟨t,g'⟩,h2,e⟩:=e
   split at e
   · rename_i hg
     simp only [beq_iff_eq] at hg
     simp only [Tree.den_bind,Tree.den_leaf] at e
     obtain ⟨x,h3,rfl⟩:=e
     simp only [cW,A08]
     rw [A2n h1,A9e h2]
     simp only [hg,true_and,if_true,B80 _ _ h3]
     rfl
   · simp at e
 | .agg l,u,v,e=>by
   simp only [A48,Tree.den_bind,Tree.den_leaf] at e
   obtain ⟨q,h1,rfl⟩:=e
   simp only [cW,A08]
   rw [A7K h l u 0 q h1]
   rfl
 | .fn f l,u,v,e=>by
   simp only [A48,Tree.den_bind,Tree.den_leaf] at e
   obtain ⟨q,h1,rfl⟩:=e
   simp only [cW,A08]
   rw [A7K h l u 0 q h1]
   rfl
 | .mref ..,u,v,e=>by simp [A48,Tree.den] at e
 | .tup _,u,v,e=>by simp [A48,Tree.den] at e
 | .dead _,u,v,e=>by simp [A48,Tree.den] at e
theorem A7K (h:H2):∀ (l:List W) (u:Option Ty) (i:Nat) (q:(ts:List Ty)×Els ts),(A8B h u i l).den=some q→A2l (cH h) (cWs l)=some (A01 q.1 q.2)
 | [],u,i,q,e=>by simp only [A8B,Tree.den_leaf] at e; subst e; rfl
 | w::r,u,i,q,e=>by
   simp only [A8B,Tree.den_bind,Tree.den_leaf] at e
   obtain ⟨p,h1,q',h2,rfl⟩:=e
   simp only [cWs,A2l,A01,A4z,A4A]
   rw [A56 h w _ p h1,A7K h r u (i + 1) q' h2]
end
end Go.Mid
/- Operations on symbolic states: changes of trees; scalars. -/
namespace Go.Mid
set_option linter.unusedSimpArgs false
set_option linter.unusedVariables false
theorem B1C (φ:MV→MV) (ζ:Nat→Nat):∀ l:List (T Nat),A02 (l.map (A0L φ ζ))=A02 l
 | []=>rfl
 | .p v::r=>by simp only [List.map_cons,A0L,A02,B1C φ ζ r]
 | .m _::r | .agg _::r | .vec ..::r | .mp ..::r | .hole _::r=>rfl
theorem C5K (φ:MV→MV) (ζ:Nat→Nat) (l:List (T Nat)):A0L φ ζ (A0x l)=A0x (A0B φ ζ l):=by
 unfold A0x
 rw [A3s,B1C]
 cases A02 l with
 | none=>simp only [A0L,A3s]
 | some vs=>rfl
section
variable (φ:W→Tree W) (ζ:Nat→Nat)
mutual
def A7l:T2→Tree T2
 | .e s t x=>.leaf (.e (ζ s) t x)
 | .w v=>(φ v).bind fun v'=>.leaf (.w v')
 | .agg l=>(B0K l).bind fun l'=>.leaf (.agg l')
 | .vec g z a n=>(A8C a).bind fun a'=>.leaf (.vec (ζ g) z a' n)
 | .hole n=>.leaf (.hole n)
def B0K:List T2→Tree (List T2)
 | []=>.leaf []
 | t::r=>(A7l t).bind fun t'=>(B0K r).bind fun r'=>.leaf (t'::r')
def A8C:SL→Tree SL
 | .base s t l=>.leaf (.base (ζ s) t l)
 | .set a i u=>(A8C a).bind fun a'=>(A7l u).bind fun u'=>.leaf (.set a' i u')
 | .app a u=>(A8C a).bind fun a'=>(A7l u).bind fun u'=>.leaf (.app a' u')
end
def A9W:O2→Tree O2
 | .cell g t=>(A7l φ ζ t).bind fun t'=>.leaf (.cell (ζ g) t')
 | .vec g z a=>(A8C φ ζ a).bind fun a'=>.leaf (.vec (ζ g) z a')
 | .mp g k v l=>.leaf (.mp (ζ g) k v l)
 | .gone=>.leaf .gone
end
section
variable (ζ:Nat→Nat) {φ:W→Tree W} {φ':MV→MV}
mutual
theorem A9f (hφ:∀ w w',(φ w).den=some w'→φ' (cW w)=cW w'):∀ (t t':T2),(A7l φ ζ t).den=some t'→A0L φ' ζ (cT t)=cT t'
 | .e s t x,t',h=>by
   simp only [A7l,Tree.den_leaf] at h
   subst h
   exact B1w φ' ζ s t x
 | .w v,t',h=>by
   simp only [A7l,Tree.den_bind,Tree.den_leaf] at h
   obtain ⟨v',h1,rfl⟩:=h
   simp only [cT,A0L,hφ _ _ h1]
 | .agg l,t',h=>by
   simp only [A7l,Tree.den_bind,Tree.den_leaf] at h
   obtain ⟨l',h1,rfl⟩:=h
   simp only [cT,C5K,B2R hφ l l' h1]
 | .vec g z a n,t',h=>by
   simp only [A7l,Tree.den_bind,Tree.den_leaf] at h
   obtain ⟨a',h1,rfl⟩:=h
   simp only [cT,A0L,A9g hφ a a' h1]
 | .hole n,t',h=>by simp only [A7l,Tree.den_leaf] at h; subst h; rfl
theorem B2R (hφ:∀ w w',(φ w).den=some w'→φ' (cW w)=cW w'):∀ (l l':List T2),(B0K φ ζ l).den=some l'→A0B φ' ζ (cTs l)=cTs l'
 | [],l',h=>by simp only [B0K,Tree.den_leaf] at h; subst h; rfl
 | t::r,l',h=>by
   simp only [B0K,Tree.den_bind,Tree.den_leaf] at h
   obtain ⟨t',h1,r',h2,rfl⟩:=h
   simp only [cTs,A0B,A9f hφ t t' h1,B2R hφ r r' h2]
theorem A9g (hφ:∀ w w',(φ w).den=some w'→φ' (cW w)=cW w'):∀ (a a':SL),(A8C φ ζ a).den=some a'→A0B φ' ζ (cSL a)=cSL a'
 | .base s t l,a',h=>by
   simp only [A8C,Tree.den_leaf] at h
   subst h
   exact C2H φ' ζ s t l
 | .set a i u,a',h=>by
   simp only [A8C,Tree.den_bind,Tree.den_leaf] at h
   obtain ⟨b,h1,u',h2,rfl⟩:=h
   simp only [cSL]
   rw [A3s,List.map_set,← A3s,A9g hφ a b h1,A9f hφ u u' h2]
 | .app a u,a',h=>by
   simp only [A8C,Tree.den_bind,Tree.den_leaf] at h
   obtain ⟨b,h1,u',h2,rfl⟩:=h
   simp only [cSL]
   rw [A3s,List.map_append,← A3s,A9g hφ a b h1,List.map_cons,A9f hφ u u' h2]
   rfl
end
theorem B1D (hφ:∀ w w',(φ w).den=some w'→φ' (cW w)=cW w') (o o':O2) (h:(A9W φ ζ o).den=some o'):A00 φ' ζ (cO o)=cO o':=by
 cases o with
 | cell g t =>
   simp only [A9W,Tree.den_bind,Tree.den_leaf] at h
   obtain ⟨t',h1,rfl⟩:=h
   simp only [cO,A00,A9f ζ hφ t t' h1]
 | vec g z a =>
   simp only [A9W,Tree.den_bind,Tree.den_leaf] at h
   obtain ⟨a',h1,rfl⟩:=h
   simp only [cO,A00,A9g ζ hφ a a' h1]
 | mp g k v l =>
   simp only [A9W,Tree.den_leaf] at h
   subst h
   have:∀ l:List (El k×El v),A0B φ' ζ (l.map fun p=>T.p (enc v p.2))=l.map fun p=>T.p (enc v p.2):=by
    intro l
    induction l with
    | nil=>rfl
    | cons a r ih=>simp only [List.map_cons,A0B,A0L,ih]
   simp only [cO,A00,this]
 | gone=>simp only [A9W,Tree.den_leaf] at h; subst h; rfl
end
def C4b (g:Nat) (t:T2):Tree T2:=A7l .leaf (fun _=>g) t
def A3V (g:Nat) (a:SL):Tree SL:=A8C .leaf (fun _=>g) a
theorem B0L (w w':W) (h:(Tree.leaf w).den=some w'):(fun v:MV=>v) (cW w)=cW w':=by simp only [Tree.den_leaf] at h; rw [h]
theorem C4c {g:Nat} {t t':T2} (h:(C4b g t).den=some t'):A6d g (cT t)=cT t':=A9f _ B0L t t' h
theorem A3K {g:Nat} {a a':SL} (h:(A3V g a).den=some a'):A0H g (cSL a)=cSL a':=A9g _ B0L a a' h
mutual
def B0m (s:Nat):T2→Tree TV
 | .e s' t x=>if s' == s || t.pure then .leaf ⟨t,x⟩ else .fail
 | .agg l=>(B5N s l).bind fun q=>.leaf ⟨.agg q.1,q.2⟩
 | .vec g z a n=>if g == s then (A5N a).bind fun b=>match b with
    | .base s' t l=>if s' == s || t.pure then (Tree.ask (n == l.length)).bind fun _=>.leaf ⟨.vec z t,l⟩ else .fail
    | _=>.fail
   else .fail
 | .w _=>.fail
 | .hole _=>.fail
def B5N (s:Nat):List T2→Tree ((ts:List Ty)×Els ts)
 | []=>.leaf ⟨[],()⟩
 | t::r=>(B0m s t).bind fun p=>(B5N s r).bind fun q=>.leaf ⟨p.1::q.1,mkE q.1 p.2 q.2⟩
def A5N:SL→Tree SL
 | .base s t l=>.leaf (.base s t l)
 | .set a i u=>(A5N a).bind fun b=>match b with
   | .base s t l=>(B0m s u).bind fun v=>(Tree.ofO (A3n t v.2)).bind fun x=>.leaf (.base s t (l.set i x))
   | _=>.fail
 | .app a u=>(A5N a).bind fun b=>match b with
   | .base s t l=>(B0m s u).bind fun v=>(Tree.ofO (A3n t v.2)).bind fun x=>.leaf (.base s t (l++[x]))
   | _=>.fail
end
theorem B1E {s s':Nat} {t:Ty} (hc:(s' == s || t.pure)=true) (y:El t):A0M s' t y=A0M s t y:=by
 simp only [Bool.or_eq_true,beq_iff_eq] at hc
 rcases hc with rfl | hc
 · rfl
 · rw [A1h _ _ _ hc,A1h _ _ _ hc]
mutual
theorem B3E (s:Nat):∀ (t:T2) (v:TV),(B0m s t).den=some v→cT t=A0M s v.1 v.2
 | .e s' t x,v,h=>by
   simp only [B0m] at h
   by_cases hc:(s' == s || t.pure)=true
   · rw [if_pos hc,Tree.den_leaf] at h
     subst h
     exact B1E hc x
   · rw [if_neg hc] at h; simp at h
 | .agg l,v,h=>by
   simp only [B0m,Tree.den_bind,Tree.den_leaf] at h
   obtain ⟨q,h1,rfl⟩:=h
   simp only [cT,A0M,B90 s l q h1]
 | .vec g z a n,v,h=>by
   simp only [B0m] at h
   split at h
   · rename_i hg
     simp only [beq_iff_eq] at hg
     simp only [Tree.den_bind] at h
     obtain ⟨b,h1,h⟩:=h
     have hb:=A5O a b h1
     split at h
     · rename_i s' t l
       by_cases hc:(s' == s || t.pure)=true
       · rw [if_pos hc] at h
         simp only [Tree.den_bind,Tree.den_ask,Tree.den_leaf,beq_iff_eq] at h
         obtain ⟨_,h2,rfl⟩:=h
         have e1:∀ l:List (El t),l.map (A0M s' t)=l.map (A0M s t):=by
          intro l; congr 1; funext y; exact B1E hc y
         simp only [cT,hb,cSL,hg,h2,A0M,e1]
       · rw [if_neg hc] at h; simp at h
     · simp at h
   · simp at h
 | .w _,v,h=>by simp [B0m,Tree.den] at h
 | .hole _,v,h=>by simp [B0m,Tree.den] at h
theorem B90 (s:Nat):∀ (l:List T2) (q:(ts:List Ty)×Els ts),(B5N s l).den=some q→cTs l=A0Z s q.1 q.2
 | [],q,h=>by simp only [B5N,Tree.den_leaf] at h; subst h; rfl
 | t::r,q,h=>by
   simp only [B5N,Tree.den_bind,Tree.den_leaf] at h
   obtain ⟨p,h1,q',h2,rfl⟩:=h
   simp only [cTs,A0Z,A4z,A4A]
   rw [B3E s t p h1,B90 s r q' h2]
theorem A5O:∀ (a b:SL),(A5N a).den=some b→cSL a=cSL b
 | .base s t l,b,h=>by simp only [A5N,Tree.den_leaf] at h; subst h; rfl
 | .set a i u,b,h=>by
   simp only [A5N,Tree.den_bind] at h
   obtain ⟨b',h1,h⟩:=h
   have hb:=A5O a b' h1
   split at h
   · rename_i s t l
     simp only [Tree.den_bind,Tree.den_ofO,Tree.den_leaf] at h
     obtain ⟨v,h2,x,h3,rfl⟩:=h
     have hu:=B3E s u v h2
     obtain ⟨t',y⟩:=v
     obtain ⟨e,he,_⟩:=A2s h3
     simp only at e he
     subst e
     cases he
     simp only [cSL,hb,hu,List.map_set]
   · simp at h
 | .app a u,b,h=>by
   simp only [A5N,Tree.den_bind] at h
   obtain ⟨b',h1,h⟩:=h
   have hb:=A5O a b' h1
   split at h
   · rename_i s t l
     simp only [Tree.den_bind,Tree.den_ofO,Tree.den_leaf] at h
     obtain ⟨v,h2,x,h3,rfl⟩:=h
     have hu:=B3E s u v h2
     obtain ⟨t',y⟩:=v
     obtain ⟨e,he,_⟩:=A2s h3
     simp only at e he
     subst e
     cases he
     simp only [cSL,hb,hu,List.map_append,List.map_cons,List.map_nil]
   · simp at h
end
mutual
def A9X:T2→Tree T2
 | .vec g z a n=>(A5N a).bind fun b=>.leaf (.vec g z b n)
 | .agg l=>(B2S l).bind fun l'=>.leaf (.agg l')
 | .e s t x=>.leaf (.e s t x)
 | .w v=>.leaf (.w v)
 | .hole n=>.leaf (.hole n)
def B2S:List T2→Tree (List T2)
 | []=>.leaf []
 | t::r=>(A9X t).bind fun t'=>(B2S r).bind fun r'=>.leaf (t'::r')
end
mutual
theorem B91:∀ (t t':T2),(A9X t).den=some t'→cT t=cT t'
 | .vec g z a n,t',h=>by
   simp only [A9X,Tree.den_bind,Tree.den_leaf] at h
   obtain ⟨b,h1,rfl⟩:=h
   simp only [cT,A5O a b h1]
 | .agg l,t',h=>by
   simp only [A9X,Tree.den_bind,Tree.den_leaf] at h
   obtain ⟨l',h1,rfl⟩:=h
   simp only [cT,B74 l l' h1]
 | .e s t x,t',h=>by simp only [A9X,Tree.den_leaf] at h; subst h; rfl
 | .w v,t',h=>by simp only [A9X,Tree.den_leaf] at h; subst h; rfl
 | .hole n,t',h=>by simp only [A9X,Tree.den_leaf] at h; subst h; rfl
theorem B74:∀ (l l':List T2),(B2S l).den=some l'→cTs l=cTs l'
 | [],l',h=>by simp only [B2S,Tree.den_leaf] at h; subst h; rfl
 | t::r,l',h=>by
   simp only [B2S,Tree.den_bind,Tree.den_leaf] at h
   obtain ⟨t',h1,r',h2,rfl⟩:=h
   simp only [cTs,B91 t t' h1,B74 r r' h2]
end
def B3F:O2→Tree O2
 | .cell g t=>(A9X t).bind fun t'=>.leaf (.cell g t')
 | .vec g z a=>(A5N a).bind fun b=>.leaf (.vec g z b)
 | o=>.leaf o
theorem C5L (o o':O2) (h:(B3F o).den=some o'):cO o=cO o':=by
 cases o with
 | cell g t =>
   simp only [B3F,Tree.den_bind,Tree.den_leaf] at h
   obtain ⟨t',h1,rfl⟩:=h
   simp only [cO,B91 t t' h1]
 | vec g z a =>
   simp only [B3F,Tree.den_bind,Tree.den_leaf] at h
   obtain ⟨b,h1,rfl⟩:=h
   simp only [cO,A5O a b h1]
 | mp g k v l=>simp only [B3F,Tree.den_leaf] at h; subst h; rfl
 | gone=>simp only [B3F,Tree.den_leaf] at h; subst h; rfl
def B3G (g:Nat) (u:Option Ty):SL:=match A6l u with | some t=>.base g t [] | none=>.base g .bool []
theorem B4M (g:Nat) (u:Option Ty):cSL (B3G g u)=[]:=by
 unfold B3G
 split <;> rfl
mutual
def A5z (g:Nat) (u:Option Ty) (h:H2):W→Tree (T2×H2)
 | .v t x=>if t.pure then .leaf (.e g t x,h) else .fail
 | .c p=>match pv? (.c p) with
   | some v=>if v.1.pure then .leaf (.e g v.1 v.2,h) else .fail
   | none=>match u with
     | some u=>match dec u p with | some x=>if u.pure then .leaf (.e g u x,h) else .fail | none=>.fail
     | none=>.fail
 | .own id path off len g'=>match off with
   | some _=>.fail
   | none=>(Tree.ofO (A2x h id)).bind fun o=>match o,path with
     | .vec g'' z a,[]=>if g' == g'' then (Tree.ask (Nat.ble len a.len)).bind fun _=>(A3V g a).bind fun b=>.leaf (.vec g z b len,setA h id .gone) else .fail
     | o,path=>(A55 o path).bind fun t=>(B8Y t).bind fun x=>if g' == x.1 then
        (Tree.ask (Nat.ble len x.2.2.len)).bind fun _=>(A3V g x.2.2).bind fun b=>(A7k (.hole 1) o path).bind fun o'=>.leaf (.vec g x.2.1 b len,setA h id o') else .fail
 | .agg l=>(B0M g u 0 h l).bind fun x=>.leaf (.agg x.1,x.2)
 | .nil z=>.leaf (.vec g z (B3G g u) 0,h)
 | .ptr id np rp g'=>.leaf (.w (.ptr id np rp g'),h)
 | .fn f l=>.leaf (.w (.fn f l),h)
 | .mref ..=>.fail
 | .tup _=>.fail
 | .dead _=>.fail
def B0M (g:Nat) (u:Option Ty) (i:Nat) (h:H2):List W→Tree (List T2×H2)
 | []=>.leaf ([],h)
 | w::r=>(A5z g (B3D u i) h w).bind fun x=>(B0M g u (i + 1) x.2 r).bind fun y=>.leaf (x.1::y.1,y.2)
end
theorem B92 {o:O2} {g z:Nat} {l:List (T Nat)} (h:cO o=.vec g z l):∃ a,o=.vec g z a:=by
 cases o with
 | vec g1 z1 a=>simp only [cO,Obj.vec.injEq] at h; obtain ⟨rfl,rfl,_⟩:=h; exact ⟨a,rfl⟩
 | _=>simp [cO] at h
theorem C02 {g id len g':Nat} {h:A0b} {ob:Obj Nat} {p:List Nat} (ho:h id=some ob) (hn:∀ g1 z1 l1,ob=.vec g1 z1 l1→p=[]→False) :
 A1Q g h (.own id p 0 len g')=match A0h (some ob) p with
  | some (.vec g'' z l _)=>if g'=g''∧len ≤ l.length then
     match put (some ob) p (.hole 1) with | some o=>some (.vec g z (A0H g l) len,upd h id (some o)) | none=>none
    else none
  | _=>none:=by
 simp only [A1Q,ho,true_and]
 split
 · rename_i h1
   simp only [Option.some.injEq] at h1
   exact absurd rfl (hn _ _ _ h1)
 · rfl
mutual
theorem B4N (g:Nat):∀ (w:W) (u:Option Ty) (h:H2) (t:T2) (h':H2),(A5z g u h w).den=some (t,h')→A1Q g (cH h) (cW w)=some (cT t,cH h')
 | .v t x,u,h,t',h',e=>by
   simp only [A5z] at e
   split at e
   · rename_i hp
     simp only [Tree.den_leaf,Prod.mk.injEq] at e
     obtain ⟨rfl,rfl⟩:=e
     show some (T.p (enc t x),cH h)=some (A0M g t x,cH h)
     rw [A1h g t x hp]
   · simp at e
 | .c p,u,h,t',h',e=>by
   simp only [A5z] at e
   split at e
   · rename_i v hv
     split at e
     · rename_i hp
       simp only [Tree.den_leaf,Prod.mk.injEq] at e
       obtain ⟨rfl,rfl⟩:=e
       rw [B0D hv]
       show some (T.p (enc v.1 v.2),cH h)=some (A0M g v.1 v.2,cH h)
       rw [A1h g _ _ hp]
     · simp at e
   · split at e
     · rename_i u
       split at e
       · rename_i x hx
         split at e
         · rename_i hp
           simp only [Tree.den_leaf,Prod.mk.injEq] at e
           obtain ⟨rfl,rfl⟩:=e
           show some (T.p p,cH h)=some (A0M g u x,cH h)
           rw [A1h g _ _ hp,A7I _ _ _ hx]
         · simp at e
       · simp at e
     · simp at e
 | .own id path off len g',u,h,t',h',e=>by
   simp only [A5z] at e
   split at e
   · simp at e
   · simp only [Tree.den_bind,Tree.den_ofO] at e
     obtain ⟨o,h1,e⟩:=e
     have ho:=A2n h1
     split at e
     · rename_i g'' z a
       split at e
       · rename_i hg
         simp only [beq_iff_eq] at hg
         subst hg
         simp only [Tree.den_bind,Tree.den_ask,Tree.den_leaf,Prod.mk.injEq] at e
         obtain ⟨_,h2,b,h3,rfl,rfl⟩:=e
         have h2:=Nat.ble_eq.mp h2
         simp only [cW,ixs,Option.getD_none,A1Q,ho,cO]
         rw [if_pos ⟨trivial,trivial,by rw [SL.len_eq]; exact h2⟩,A3K h3,← A1L]
         rfl
       · simp at e
     · rename_i hno
       simp only [Tree.den_bind] at e
       obtain ⟨t,h2,⟨g'',z,a⟩,h3,e⟩:=e
       split at e
       · rename_i hg
         simp only [beq_iff_eq] at hg
         subst hg
         simp only [Tree.den_bind,Tree.den_ask,Tree.den_leaf,Prod.mk.injEq] at e
         obtain ⟨_,h4,b,h5,o'',h6,rfl,rfl⟩:=e
         have h4:=Nat.ble_eq.mp h4
         have hsub:=A5M h2
         obtain ⟨n,hv⟩:=B9U h3
         rw [hv] at hsub
         have hput:put (some (cO o)) (ixs path) (.hole 1)=some (cO o''):=A47 h6
         have key:=C02 (g:=g) (g':=g') (len:=len) ho (p:=ixs path) (fun g1 z1 l1 e1 e2=>by
          obtain ⟨a1,ha⟩:=B92 e1
          cases path with
          | nil=>exact hno _ _ _ ha rfl
          | cons s r=>simp [ixs] at e2)
         refine key.trans ?_
         rw [hsub]
         simp only
         rw [if_pos ⟨trivial,by rw [SL.len_eq]; exact h4⟩,hput,A3K h5,← A1L]
         rfl
       · simp at e
 | .agg l,u,h,t',h',e=>by
   simp only [A5z,Tree.den_bind,Tree.den_leaf,Prod.mk.injEq] at e
   obtain ⟨⟨ts,h1⟩,e1,rfl,rfl⟩:=e
   simp only [cW,A1Q,B2T g l u 0 h ts h1 e1,cT]
 | .nil z,u,h,t',h',e=>by
   simp only [A5z,Tree.den_leaf,Prod.mk.injEq] at e
   obtain ⟨rfl,rfl⟩:=e
   simp only [cW,A1Q,cT,B4M]
 | .ptr id np rp g',u,h,t',h',e=>by
   simp only [A5z,Tree.den_leaf,Prod.mk.injEq] at e
   obtain ⟨rfl,rfl⟩:=e
   rfl
 | .fn f l,u,h,t',h',e=>by
   simp only [A5z,Tree.den_leaf,Prod.mk.injEq] at e
   obtain ⟨rfl,rfl⟩:=e
   rfl
 | .mref ..,u,h,t',h',e=>by simp [A5z,Tree.den] at e
 | .tup _,u,h,t',h',e=>by simp [A5z,Tree.den] at e
 | .dead _,u,h,t',h',e=>by simp [A5z,Tree.den] at e
theorem B2T (g:Nat):∀ (l:List W) (u:Option Ty) (i:Nat) (h:H2) (ts:List T2) (h':H2),(B0M g u i h l).den=some (ts,h')→A3p g (cH h) (cWs l)=some (cTs ts,cH h')
 | [],u,i,h,ts,h',e=>by
   simp only [B0M,Tree.den_leaf,Prod.mk.injEq] at e
   obtain ⟨rfl,rfl⟩:=e
   rfl
 | w::r,u,i,h,ts,h',e=>by
   simp only [B0M,Tree.den_bind,Tree.den_leaf,Prod.mk.injEq] at e
   obtain ⟨⟨t,h1⟩,e1,⟨q,h2⟩,e2,rfl,rfl⟩:=e
   simp only [cWs,A3p,B4N g w _ h t h1 e1,B2T g r u (i + 1) h1 q h2 e2,cTs]
end
end Go.Mid
/- Operations on symbolic states: scalars,strings,pure lists. -/
namespace Go.Mid
set_option linter.unusedSimpArgs false
set_option linter.unusedVariables false
abbrev wI (k:IntKind) (n:Int):W:=.v (.int k) n
abbrev wB (b:Bool):W:=.v .bool b
abbrev wS (s:ByteArray):W:=.v .str s
def isC:W→Bool
 | .c _=>true
 | _=>false
def A9Y (w:W) (b:Bool):Tree Unit:=match w with
 | .c _=>Tree.chk b
 | _=>Tree.ask b
@[simp] theorem A9Z (w:W) (b:Bool) (r:Unit):(A9Y w b).den=some r↔b=true:=by cases w <;> simp [A9Y]
def B1F (k:IntKind) (x y:Int):Int:=k.wrap (BitVec.ofInt k.bits x &&& BitVec.ofInt k.bits y).toNat
def orI (k:IntKind) (x y:Int):Int:=k.wrap (BitVec.ofInt k.bits x ||| BitVec.ofInt k.bits y).toNat
def C73 (k:IntKind) (x y:Int):Int:=k.wrap (BitVec.ofInt k.bits x ^^^ BitVec.ofInt k.bits y).toNat
def C7k (k:IntKind) (x y:Int):Int:=k.wrap (BitVec.ofInt k.bits x &&& ~~~ BitVec.ofInt k.bits y).toNat
def C9Q (k:IntKind) (x y:Int):Int:=k.wrap (x * 2 ^ min y.toNat k.bits)
def A1S (k:IntKind) (x y:Int):Int:=x.fdiv (2 ^ min y.toNat k.bits)
def B5O (a b:ByteArray):Bool:=a.toList == b.toList
def B81 (a b:ByteArray):Bool:=Op.bytesLess a.toList b.toList
def C2L (op:BinOp) (k:IntKind) (x y:Int) (b:W):Tree W :=
 match op with
 | .add=>.leaf (wI k (k.wrap (x + y)))
 | .sub=>.leaf (wI k (k.wrap (x - y)))
 | .mul=>.leaf (wI k (k.wrap (x * y)))
 | .quo=>(A9Y b (y != 0)).bind fun _=>.leaf (wI k (k.wrap (x.tdiv y)))
 | .rem=>(A9Y b (y != 0)).bind fun _=>.leaf (wI k (x.tmod y))
 | .eql=>.leaf (wB (x == y))
 | .neq=>.leaf (wB (x != y))
 | .lss=>.leaf (wB (decide (x < y)))
 | .leq=>.leaf (wB (decide (x ≤ y)))
 | .gtr=>.leaf (wB (decide (x > y)))
 | .geq=>.leaf (wB (decide (x ≥ y)))
 | .and=>.leaf (wI k (B1F k x y))
 | .or=>.leaf (wI k (orI k x y))
 | .xor=>.leaf (wI k (C73 k x y))
 | .andNot=>.leaf (wI k (C7k k x y))
 | _=>.fail
def B93 (op:BinOp) (k:IntKind) (x y:Int) (b:W):Tree W :=
 match op with
 | .shl=>(A9Y b (decide (0 ≤ y))).bind fun _=>.leaf (wI k (C9Q k x y))
 | .shr=>(A9Y b (decide (0 ≤ y))).bind fun _=>.leaf (wI k (A1S k x y))
 | _=>.fail
def C2M (op:BinOp) (a b:ByteArray):Tree W :=
 match op with
 | .add=>(Tree.ask (Nat.ble (a.size + b.size) 9223372036854775807)).bind fun _=>.leaf (wS (a++b))
 | .eql=>.leaf (wB (B5O a b))
 | .neq=>.leaf (wB !(B5O a b))
 | .lss=>.leaf (wB (B81 a b))
 | .leq=>.leaf (wB (B81 a b || B5O a b))
 | .gtr=>.leaf (wB !(B81 a b || B5O a b))
 | .geq=>.leaf (wB !(B81 a b))
 | _=>.fail
def B94 (op:BinOp) (a b:Bool):Tree W :=
 match op with
 | .eql=>.leaf (wB (a == b))
 | .neq=>.leaf (wB !(a == b))
 | _=>.fail
def B63:BinOp→Bool
 | .shl=>true
 | .shr=>true
 | _=>false
def C5M (bl:Bool) (op:BinOp) (a b:W):Tree W :=
 match bl with
 | true=>match B5H a,B5H b with | some x,some y=>B94 op x y | _,_=>.fail
 | false=>match A7j a,A7j b with
   | some (k,x),some (k',y)=>match B63 op with
     | true=>B93 op k x y b
     | false=>if k == k' then C2L op k x y b else .fail
   | _,_=>match B2M a,B2M b with | some x,some y=>C2M op x y | _,_=>.fail
theorem C4d {op:BinOp} {k:IntKind} {x y:Int} {b w:W} (hs:B63 op=false) (h:(C2L op k x y b).den=some w):∃ v,A0N op (.int k x) (.int k y)=some v∧cW w=.p v:=by
 cases op <;> simp only [B63,Bool.true_eq_false,reduceCtorEq] at hs <;>
  simp only [C2L,Tree.den_leaf,Tree.den_bind,A9Z,Tree.den_fail] at h
 case quo =>
  obtain ⟨_,h1,rfl⟩:=h
  exact ⟨_,by simp only [A0N,ne_eq,not_true_eq_false,if_false]; rw [if_neg (by simpa using h1)]; rfl,rfl⟩
 case rem =>
  obtain ⟨_,h1,rfl⟩:=h
  exact ⟨_,by simp only [A0N,ne_eq,not_true_eq_false,if_false]; rw [if_neg (by simpa using h1)]; rfl,rfl⟩
 all_goals
  subst h
  exact ⟨_,by simp only [A0N,ne_eq,not_true_eq_false,if_false,B44]; rfl,rfl⟩
theorem C2N {op:BinOp} {k k':IntKind} {x y:Int} {b w:W} (h:(B93 op k x y b).den=some w):∃ v,A0N op (.int k x) (.int k' y)=some v∧cW w=.p v:=by
 cases op <;> simp only [B93,Tree.den_leaf,Tree.den_bind,A9Z,Tree.den_fail,decide_eq_true_eq] at h
 all_goals
  obtain ⟨_,h1,rfl⟩:=h
  exact ⟨_,by simp only [A0N]; rw [if_neg (by omega)]; rfl,rfl⟩
theorem C4e {op:BinOp} {x y:ByteArray} {w:W} (h:(C2M op x y).den=some w):∃ v,A0N op (.str x) (.str y)=some v∧cW w=.p v:=by
 cases op <;> simp only [C2M,Tree.den_leaf,Tree.den_bind,Tree.den_ask,Tree.den_fail] at h
 case add =>
  obtain ⟨_,h1,rfl⟩:=h
  exact ⟨_,by simp only [A0N]; rw [if_pos (Nat.ble_eq.mp h1)]; rfl,rfl⟩
 all_goals
  subst h
  exact ⟨_,by simp only [A0N]; rfl,rfl⟩
theorem C2O {op:BinOp} {x y:Bool} {w:W} (h:(B94 op x y).den=some w):∃ v,A0N op (.bool x) (.bool y)=some v∧cW w=.p v:=by
 cases op <;> simp only [B94,Tree.den_leaf,Tree.den_fail] at h
 all_goals
  subst h
  exact ⟨_,by simp only [A0N]; rfl,rfl⟩
def B4O (bl:Bool) (op:BinOp) (a b:MV):Option MV:=match a,b with
 | .p a,.p b=>if isB a=bl then (match A0N op a b with | some v=>some (.p v) | none=>none) else none
 | _,_=>none
theorem C7l {bl:Bool} {op:BinOp} {a b w:W} (h:(C5M bl op a b).den=some w):B4O bl op (cW a) (cW b)=some (cW w):=by
 unfold C5M at h
 split at h
 · split at h
   · rename_i x y hx hy
     rw [B4F hx,B4F hy]
     obtain ⟨v,h1,h2⟩:=C2O h
     simp only [B4O,h1,h2,isB,if_true]
   · simp at h
 · split at h
   · rename_i k x k' y hx hy
     rw [A4p hx,A4p hy]
     split at h
     · obtain ⟨v,h1,h2⟩:=C2N (k':=k') h
       simp only [B4O,h1,h2,isB,if_true]
     · rename_i hs
       split at h
       · rename_i hk
         simp only [beq_iff_eq] at hk
         subst hk
         obtain ⟨v,h1,h2⟩:=C4d hs h
         simp only [B4O,h1,h2,isB,if_true]
       · simp at h
   · split at h
     · rename_i x y hx hy
       rw [A8Q hx,A8Q hy]
       obtain ⟨v,h1,h2⟩:=C4e h
       simp only [B4O,h1,h2,isB,if_true]
     · simp at h
mutual
def A5P:TD→Ty
 | .int k=>.int k
 | .bool=>.bool
 | .str=>.str
 | .agg l=>.agg (A18 l)
def A18:List TD→List Ty
 | []=>[]
 | t::r=>A5P t::A18 r
end
mutual
def eqE:(td:TD)→El (A5P td)→El (A5P td)→Bool
 | .int _,x,y=>(show Int from x) == y
 | .bool,x,y=>(show Bool from x) == y
 | .str,x,y=>B5O x y
 | .agg l,x,y=>C2P l x y
def C2P:(l:List TD)→Els (A18 l)→Els (A18 l)→Bool
 | [],_,_=>true
 | [t],x,y=>eqE t (hdE [] x) (hdE [] y)
 | t::u::r,x,y=>eqE t (hdE (A18 (u::r)) x) (hdE (A18 (u::r)) y) && C2P (u::r) (tlE (A18 (u::r)) x) (tlE (A18 (u::r)) y)
end
mutual
theorem B95:∀ (td:TD) (x y:El (A5P td)),eqV (enc (A5P td) x) (enc (A5P td) y)=eqE td x y
 | .int _,x,y=>rfl
 | .bool,x,y=>rfl
 | .str,x,y=>rfl
 | .agg l,x,y=>C1D l x y
theorem C1D:∀ (l:List TD) (x y:Els (A18 l)),A7v (A01 (A18 l) x) (A01 (A18 l) y)=C2P l x y
 | [],x,y=>rfl
 | [t],x,y=>by
   have h:eqV (enc (A5P t) (hdE [] x)) (enc (A5P t) (hdE [] y))=eqE t (hdE [] x) (hdE [] y):=B95 t _ _
   show (eqV (enc (A5P t) (hdE [] x)) (enc (A5P t) (hdE [] y)) && true)=eqE t (hdE [] x) (hdE [] y)
   rw [h,Bool.and_true]
 | t::u::r,x,y=>by
   have h1:=B95 t (hdE (A18 (u::r)) x) (hdE (A18 (u::r)) y)
   have h2:=C1D (u::r) (tlE (A18 (u::r)) x) (tlE (A18 (u::r)) y)
   show (eqV (enc (A5P t) (hdE (A18 (u::r)) x)) (enc (A5P t) (hdE (A18 (u::r)) y)) && A7v (A01 (A18 (u::r)) (tlE (A18 (u::r)) x)) (A01 (A18 (u::r)) (tlE (A18 (u::r)) y)))=(eqE t (hdE (A18 (u::r)) x) (hdE (A18 (u::r)) y) && C2P (u::r) (tlE (A18 (u::r)) x) (tlE (A18 (u::r)) y))
   rw [h1,h2]
end
mutual
theorem C1E:∀ (td:TD) (x:El (A5P td)),A2A td (enc (A5P td) x)=true
 | .int _,x=>by simp [A5P,enc,A2A]
 | .bool,x=>rfl
 | .str,x=>rfl
 | .agg l,x=>B96 l x
theorem B96:∀ (l:List TD) (x:Els (A18 l)),A3w l (A01 (A18 l) x)=true
 | [],x=>rfl
 | t::r,x=>by
   simp only [A18,A01,A3w,Bool.and_eq_true]
   exact ⟨C1E t _,B96 r _⟩
end
def C5N (neg:Bool) (td:TD) (a b:W):Tree W:=match as? (A5P td) a,as? (A5P td) b with
 | some x,some y=>.leaf (wB (match neg with | false=>eqE td x y | true=>!(eqE td x y)))
 | _,_=>.fail
def C2Q (neg:Bool) (td:TD) (a b:MV):Option MV:=match a,b with
 | .p a,.p b=>if A2A td a && A2A td b then some (A7R (eqV a b != neg)) else none
 | _,_=>none
theorem C7m {neg:Bool} {td:TD} {a b w:W} (h:(C5N neg td a b).den=some w):C2Q neg td (cW a) (cW b)=some (cW w):=by
 unfold C5N at h
 split at h
 · rename_i x y hx hy
   simp only [Tree.den_leaf] at h
   subst h
   rw [B0E hx,B0E hy]
   simp only [C2Q,C1E,Bool.and_self,if_true,B95]
   cases neg <;> cases eqE td x y <;> rfl
 · simp at h
def wnd:W→Bool
 | .dead _=>false
 | _=>true
def un2:MOp→W→Tree W
 | .not _,w=>match w with
   | .c (.bool b)=>.leaf (.c (.bool !b))
   | w=>match B5H w with | some b=>.leaf (wB !b) | none=>.fail
 | .neg _,w=>match A7j w with | some (k,n)=>.leaf (wI k (k.wrap (0 - n))) | none=>.fail
 | .inv _,w=>match A7j w with | some (k,n)=>.leaf (wI k (C73 k (if k.signed then -1 else k.max) n)) | none=>.fail
 | .convI k _,w=>match A7j w with | some (_,n)=>.leaf (wI k (k.wrap n)) | none=>.fail
 | .convS _,w=>match B2M w with | some s=>.leaf (wS s) | none=>.fail
 | .convR _,w=>match A7j w with | some (_,n)=>.leaf (wS (Utf8.encode n)) | none=>.fail
 | .lenS _,w=>match B2M w with | some s=>.leaf (wI .i64 (s.size:Nat)) | none=>.fail
 | .capn _,w=>match w with | .nil _=>.leaf (wI .i64 (0:Nat)) | _=>.fail
 | .isnil fk neg _,w=>match fk,w with
   | false,.c .nilp=>.leaf (.c (.bool (true != neg)))
   | true,.c .nilf=>.leaf (.c (.bool (true != neg)))
   | false,.v .nilp _=>.leaf (.c (.bool (true != neg)))
   | true,.v .nilf _=>.leaf (.c (.bool (true != neg)))
   | false,.v (.ref _) _=>.leaf (.c (.bool (false != neg)))
   | false,.v (.opr t) x=>.leaf (.v .bool (Option.isNone (α:=El t) x != neg))
   | false,.ptr ..=>.leaf (.c (.bool (false != neg)))
   | true,.v (.fn _ _) _=>.leaf (.c (.bool (false != neg)))
   | true,.c (.fn _ _)=>.leaf (.c (.bool (false != neg)))
   | true,.fn _ _=>.leaf (.c (.bool (false != neg)))
   | _,_=>.fail
 | .nilc _,w=>match w with
   | .v (.ref t) x=>.leaf (.v (.ref t) x)
   | .v (.opr t) x=>.opt (A:=El t) (B2K t) x fun y=>.leaf (.v (.ref t) y)
   | .ptr id np rp g=>.leaf (.ptr id np rp g)
   | _=>.fail
 | .len _,w=>match w with
   | .v (.sl t) l=>.leaf (wI .i64 (List.length (α:=El t) l:Nat))
   | .c (.sl l)=>.leaf (.c (.int .i64 (l.length:Nat)))
   | .nil _=>.leaf (.c (.int .i64 0))
   | .own _ _ _ n _=>.leaf (wI .i64 (n:Nat))
   | _=>.fail
 | .cut0 z _,w=>match w with
   | .v (.sl _) _=>.leaf (.nil z)
   | .c (.sl _)=>.leaf (.nil z)
   | .nil _=>.leaf (.nil z)
   | .own ..=>.leaf (.nil z)
   | _=>.fail
 | .ext _ i,w=>match w with
   | .tup l=>Tree.ofO l[i]?
   | _=>.fail
 | .fld agg n o _ i,w=>match w with
   | .v (.agg ts) x=>match A9T ts x i with
     | some v=>if Ty.css (ts.take i) == o && v.1.cs == n && v.1.isAgg == agg then .leaf (.v v.1 v.2) else .fail
     | none=>.fail
   | .c (.agg l)=>match l[i]? with
     | some v=>if PV.css (l.take i) == o && v.cs == n && v.isAgg == agg then .leaf (.c v) else .fail
     | none=>.fail
   | .agg l=>match l[i]? with
     | some v=>if B9Q (l.take i) == o && wcs v == n && C2I v == agg && wnd v then .leaf v else .fail
     | none=>.fail
   | _=>.fail
 | .faddr _ i o,w=>match w with
   | .v (.ref (.agg ts)) x=>match A9T ts x i with
     | some v=>if Ty.css (ts.take i) == o then .leaf (.v (.ref v.1) v.2) else .fail
     | none=>.fail
   | .ptr id np rp g=>.leaf (.ptr id np (rp++[.f i o]) g)
   | _=>.fail
 | _,_=>.fail
def B1G:MOp→Option Opd
 | .not x | .neg x | .inv x | .convI _ x | .convS x | .convR x | .lenS x | .capn x | .isnil _ _ x | .nilc x | .len x | .cut0 _ x | .ext x _ | .fld _ _ _ x _ | .faddr x _ _=>some x
 | _=>none
theorem B75 (v:W) (h:wnd v=true):B45 (cW v)=false:=by
 cases v <;> first | rfl | cases h
theorem C74 (K:A0v) (g:Nat) (d:Option Nat) (s:S2) (h:A0b) (op:MOp) (x:Opd) (w w':W) (ho:B1G op=some x) (hw:evO (cS s) x=cW w) (e:(un2 op w).den=some w'):A0a K g d (cS s) h op=some (cW w',h):=by
 cases op <;> simp only [B1G,Option.some.injEq,reduceCtorEq] at ho <;> subst ho <;> simp only [un2] at e <;> simp only [A0a,hw]
 case not =>
  split at e
  · simp only [Tree.den_leaf] at e; subst e; rfl
  · split at e
    · rename_i b hb; simp only [Tree.den_leaf] at e; subst e; rw [B4F hb]; rfl
    · simp at e
 case neg =>
  split at e
  · rename_i b hb; simp only [Tree.den_leaf] at e; subst e; rw [A4p hb]; rfl
  · simp at e
 case inv =>
  split at e
  · rename_i b hb; simp only [Tree.den_leaf] at e; subst e; rw [A4p hb]; rfl
  · simp at e
 case convI =>
  split at e
  · rename_i b hb; simp only [Tree.den_leaf] at e; subst e; rw [A4p hb]; rfl
  · simp at e
 case convS =>
  split at e
  · rename_i b hb; simp only [Tree.den_leaf] at e; subst e; rw [A8Q hb]; rfl
  · simp at e
 case convR =>
  split at e
  · rename_i b hb; simp only [Tree.den_leaf] at e; subst e; rw [A4p hb]; rfl
  · simp at e
 case lenS =>
  split at e
  · rename_i b hb; simp only [Tree.den_leaf] at e; subst e; rw [A8Q hb]; rfl
  · simp at e
 case capn =>
  split at e
  · simp only [Tree.den_leaf] at e; subst e; rfl
  · simp at e
 case isnil =>
  split at e <;> first | (simp only [Tree.den_leaf] at e; subst e; rfl) | (simp only [Tree.den_leaf] at e; subst e; rename_i t x; change Option (El t) at x; cases x <;> rfl) | simp at e
 case nilc =>
  split at e
  · simp only [Tree.den_leaf] at e; subst e; rfl
  · rename_i t x
    obtain ⟨y,hy,e2⟩:=(Tree.den_opt (A:=El t) (B2K t) x _ _).1 e
    simp only [Tree.den_leaf] at e2
    subst e2
    have hx:x=(show El (.opr t) from some y):=hy
    subst hx
    rfl
  · simp only [Tree.den_leaf] at e; subst e; rfl
  · simp at e
 case len =>
  split at e
  · rename_i t l
    simp only [Tree.den_leaf] at e
    subst e
    have:∀ l:List (El t),(match A6X (.p (.sl (l.map (enc t)))) with | some n=>some (A6W n,h) | none=>none)=some (.p (.int .i64 (l.length:Nat)),h):=by intro l; simp [A6X,A6W]
    exact this l
  · simp only [Tree.den_leaf] at e; subst e; rfl
  · simp only [Tree.den_leaf] at e; subst e; rfl
  · simp only [Tree.den_leaf] at e; subst e; rfl
  · simp at e
 case cut0 =>
  split at e <;> first | (simp only [Tree.den_leaf] at e; subst e; rfl) | simp at e
 case ext =>
  split at e
  · rename_i l
    simp only [Tree.den_ofO] at e
    simp only [cW,A2f,List.getElem?_map,e]
    rfl
  · simp at e
 case fld =>
  split at e
  · rename_i ts x
    split at e
    · rename_i v hv
      obtain ⟨t,y⟩:=v
      split at e
      · rename_i hc
        simp only [Bool.and_eq_true,beq_iff_eq] at hc
        simp only [Tree.den_leaf] at e
        subst e
        have hv2:=(A9d 0 ts x _ t y hv).1
        have hcs:=A5k ts x
        simp only [cW,enc]
        rw [hv2]
        simp only
        rw [if_pos ⟨(hcs _).trans hc.1.1,(A5K _ _).trans hc.1.2,(A9P _ _).trans hc.2⟩]
      · simp at e
    · simp at e
  · rename_i l
    split at e
    · rename_i v hv
      split at e
      · rename_i hc
        simp only [Bool.and_eq_true,beq_iff_eq] at hc
        simp only [Tree.den_leaf] at e
        subst e
        simp only [cW]
        rw [hv]
        simp only
        rw [if_pos ⟨hc.1.1,hc.1.2,hc.2⟩]
      · simp at e
    · simp at e
  · rename_i l
    split at e
    · rename_i v hv
      split at e
      · rename_i hc
        simp only [Bool.and_eq_true,beq_iff_eq] at hc
        simp only [Tree.den_leaf] at e
        subst e
        simp only [cW,A2f,List.getElem?_map,hv,Option.map_some,← List.map_take]
        rw [← A2f,B6T,B5F,C1w,if_pos ⟨hc.1.1.1,hc.1.1.2,hc.1.2,B75 _ hc.2⟩]
      · simp at e
    · simp at e
  · simp at e
 case faddr =>
  split at e
  · rename_i ts x
    split at e
    · rename_i v hv
      obtain ⟨t,y⟩:=v
      split at e
      · rename_i hc
        simp only [beq_iff_eq] at hc
        simp only [Tree.den_leaf] at e
        subst e
        have hv2:=(A9d 0 ts x _ t y hv).1
        have hcs:=A5k ts x
        simp only [cW,enc]
        rw [hv2]
        simp only
        rw [if_pos ((hcs _).trans hc)]
      · simp at e
    · simp at e
  · simp only [Tree.den_leaf] at e
    subst e
    simp only [cW]
    rw [A7h,B1t]
    rfl
  · simp at e
end Go.Mid
/- Operations on symbolic states: owned memory. -/
namespace Go.Mid
set_option linter.unusedSimpArgs false
set_option linter.unusedVariables false
def B1H (np:Option (List Step)) (rp:List Step):List Step:=match np with | none=>rp | some p=>p++rp
theorem B1I (np:Option (List Step)) (rp:List Step):A4m (npI np) (ixs rp)=ixs (B1H np rp):=by
 cases np with
 | none=>rfl
 | some p=>simp only [A4m,npI,Option.getD_some,B1H,A7h]
def B82 (h:H2) (agg:Bool) (n:Nat):W→Tree W
 | .v (.ref t) x=>if t.cs == n && t.isAgg == agg then .leaf (.v t x) else .fail
 | .ptr id np rp g=>(Tree.ofO (A2x h id)).bind fun o=>(B1A o np rp).bind fun x=>if x.2 == g && tcs x.1 == n then
    (B4K id (B1H np rp) x.1).bind fun v=>if C2I v == agg && wnd v then .leaf v else .fail else .fail
 | _=>.fail
theorem B97 {h:H2} {agg:Bool} {n:Nat} {a w:W} (e:(B82 h agg n a).den=some w):A3q (cH h) agg n (cW a)=some (cW w):=by
 unfold B82 at e
 split at e
 · rename_i t x
   split at e
   · rename_i hc
     simp only [Bool.and_eq_true,beq_iff_eq] at hc
     simp only [Tree.den_leaf] at e
     subst e
     show (if (enc t x).cs=n∧(enc t x).isAgg=agg then some (MV.p (enc t x)) else none)=_
     rw [if_pos ⟨(A5K _ _).trans hc.1,(A9P _ _).trans hc.2⟩]
     rfl
   · simp at e
 · rename_i id np rp g
   simp only [Tree.den_bind,Tree.den_ofO] at e
   obtain ⟨o,h1,⟨t,s⟩,h2,e⟩:=e
   split at e
   · rename_i hc
     simp only [Bool.and_eq_true,beq_iff_eq] at hc
     simp only [Tree.den_bind] at e
     obtain ⟨v,h3,e⟩:=e
     split at e
     · rename_i hd
       simp only [Bool.and_eq_true,beq_iff_eq] at hd
       simp only [Tree.den_leaf] at e
       subst e
       simp only [cW,A3q]
       rw [A2n h1,A9e h2]
       simp only
       rw [B1I,C1C _ _ _ _ h3,C1w,B0F,if_pos ⟨hc.1,trivial,hc.2⟩,if_pos ⟨hd.1,B75 _ hd.2⟩]
     · simp at e
   · simp at e
 · simp at e
mutual
def tyT:T2→Ty
 | .e _ t _=>t
 | .vec _ z (.base _ t _) _=>.vec z t
 | .agg l=>.agg (C75 l)
 | _=>.bool
def C75:List T2→List Ty
 | []=>[]
 | t::r=>tyT t::C75 r
end
def hdT:T2→Option (Nat×Nat×SL×Nat)
 | .vec g z l n=>some (g,z,l,n)
 | .e s (.vec z t) l=>some (s,z,.base s t l,List.length (α:=El t) l)
 | _=>none
theorem A9h {t:T2} {g z n:Nat} {l:SL} (h:hdT t=some (g,z,l,n)):cT t=.vec g z (cSL l) n:=by
 unfold hdT at h
 split at h
 · simp only [Option.some.injEq,Prod.mk.injEq] at h; obtain ⟨rfl,rfl,rfl,rfl⟩:=h; rfl
 · simp only [Option.some.injEq,Prod.mk.injEq] at h; obtain ⟨rfl,rfl,rfl,rfl⟩:=h; rfl
 · cases h
def A38:List Step→List Step→Tree Unit
 | [],[]=>.leaf ()
 | .f i _::r,.f j _::q=>(Tree.chk (i == j)).bind fun _=>A38 r q
 | .k i _::r,.k j _::q=>(Tree.ask (Nat.beq i j)).bind fun _=>A38 r q
 | _,_=>.fail
theorem B0n:∀ {p q:List Step} {u:Unit},(A38 p q).den=some u→ixs p=ixs q
 | [],[],_,_=>rfl
 | .f i _::r,.f j _::q,u,h=>by
   simp only [A38,Tree.den_bind,Tree.den_chk,beq_iff_eq] at h
   obtain ⟨_,h1,h2⟩:=h
   simp only [ixs,Step.ix,h1,B0n h2]
 | .k i _::r,.k j _::q,u,h=>by
   simp only [A38,Tree.den_bind,Tree.den_ask] at h
   obtain ⟨_,h1,h2⟩:=h
   simp only [ixs,Step.ix,Nat.eq_of_beq_eq_true h1,B0n h2]
 | [],_::_,_,h=>by simp [A38] at h
 | .f _ _::_,[],_,h=>by simp [A38] at h
 | .k _ _::_,[],_,h=>by simp [A38] at h
 | .k _ _::_,.f _ _::_,_,h=>by simp [A38] at h
 | .f _ _::_,.k _ _::_,_,h=>by simp [A38] at h
def SL.cut (n:Nat):SL→Tree SL
 | .base s t l=>.leaf (.base s t (l.take n))
 | a=>(Tree.ask (Nat.beq n a.len)).bind fun _=>.leaf a
theorem SL.cut_eq {n:Nat} {a b:SL} (h:(SL.cut n a).den=some b):cSL b=(cSL a).take n:=by
 have key:∀ a:SL,((Tree.ask (Nat.beq n a.len)).bind fun _=>Tree.leaf a).den=some b→cSL b=(cSL a).take n:=by
  intro a h
  simp only [Tree.den_bind,Tree.den_ask,Tree.den_leaf] at h
  obtain ⟨_,h1,rfl⟩:=h
  rw [Nat.eq_of_beq_eq_true h1,List.take_of_length_le (by rw [SL.len_eq]; exact Nat.le_refl _)]
 cases a with
 | base s t l=>simp only [SL.cut,Tree.den_leaf] at h; subst h; simp only [cSL,List.map_take]
 | set a i u=>exact key _ h
 | app a u=>exact key _ h
def B5P (g:Nat) (h:H2) (n id:Nat) (p:List Step) (u:Ty) (x:W):Tree (W×H2) :=
 (A5z g (some u) h x).bind fun y=>if tcs y.1 == n then (Tree.ofO (A2x y.2 id)).bind fun o=>(A7k y.1 o p).bind fun o'=>.leaf (.dead 0,setA y.2 id o') else .fail
theorem B76 {g:Nat} {h:H2} {n id:Nat} {p:List Step} {u:Ty} {x w:W} {h':H2} (e:(B5P g h n id p u x).den=some (w,h')):A31 g (cH h) n id (ixs p) (cW x)=some (cW w,cH h'):=by
 unfold B5P at e
 simp only [Tree.den_bind] at e
 obtain ⟨⟨t,h1⟩,e1,e⟩:=e
 split at e
 · rename_i hc
   simp only [beq_iff_eq] at hc
   simp only [Tree.den_bind,Tree.den_ofO,Tree.den_leaf,Prod.mk.injEq] at e
   obtain ⟨o,e2,o',e3,rfl,rfl⟩:=e
   unfold A31
   rw [B4N g x _ h t h1 e1]
   simp only
   rw [B0F,if_pos hc,A2n e2,A47 e3]
   simp only
   rw [A1L]
   rfl
 · simp at e
def B98 (g:Nat) (h:H2) (n:Nat) (a x:W):Tree (W×H2) :=
 match a with
 | .ptr id np rp g0=>(Tree.ofO (A2x h id)).bind fun o=>(B1A o np rp).bind fun y=>if y.2 == g0 && tcs y.1 == n then
    (match x with
    | .own id' path' off len g'=>if id' == id then (match hdT y.1 with
       | some (a,z,l,n')=>if off.isNone && g' == a then (A38 path' (B1H np rp)).bind fun _ =>
          (Tree.ask (Nat.ble len n')).bind fun _=>(SL.cut len l).bind fun l'=>(A7k (.vec a z l' len) o (B1H np rp)).bind fun o'=>.leaf (.dead 0,setA h id o')
         else .fail
       | none=>.fail)
      else B5P g h n id (B1H np rp) (tyT y.1) x
    | x=>B5P g h n id (B1H np rp) (tyT y.1) x)
    else .fail
 | _=>.fail
theorem C4f {g:Nat} {h:H2} {n:Nat} {a x w:W} {h':H2} (e:(B98 g h n a x).den=some (w,h')):A8M g (cH h) n (cW a) (cW x)=some (cW w,cH h'):=by
 unfold B98 at e
 split at e
 · rename_i id np rp g0
   simp only [Tree.den_bind,Tree.den_ofO] at e
   obtain ⟨o,h1,⟨t,s⟩,h2,e⟩:=e
   split at e
   · rename_i hc
     simp only [Bool.and_eq_true,beq_iff_eq] at hc
     have hl:=A9e h2
     simp only [cW,A8M]
     rw [A2n h1,hl]
     simp only
     rw [if_pos ⟨hc.1,trivial,(B0F t).trans hc.2⟩]
     split at e
     · rename_i id' path' off len g'
       split at e
       · rename_i hid
         simp only [beq_iff_eq] at hid
         subst hid
         split at e
         · rename_i a z l n' ht
           split at e
           · rename_i hq
             simp only [Bool.and_eq_true,beq_iff_eq,Option.isNone_iff_eq_none] at hq
             simp only [Tree.den_bind,Tree.den_ask,Tree.den_leaf,Prod.mk.injEq] at e
             obtain ⟨_,h8,_,h3,l',h9,o',h4,rfl,rfl⟩:=e
             have h3:=Nat.ble_eq.mp h3
             have hp:=A47 h4
             rw [A9h ht]
             simp only [cW]
             rw [B1I,hq.1,if_pos ⟨trivial,B0n h8,rfl,hq.2,h3⟩]
             simp only [cT,SL.cut_eq h9] at hp
             rw [hp,← A1L]
           · simp at e
         · simp at e
       · rename_i hid
         have hid:¬ id'=id:=by simpa using hid
         have e:=B76 e
         rw [B1I]
         simp only [cW] at e ⊢
         split
         · rw [if_neg (fun hh=>hid (by simp_all))]
           exact e
         · exact e
     · rename_i hno
       have e:=B76 e
       rw [B1I]
       have hx:∀ i p o l g,cW x=.own i p o l g→False:=by
        intro i p o l g hh
        cases x with
        | own a b c d f=>exact hno _ _ _ _ _ rfl
        | _=>cases hh
       split
       · rename_i hh _; exact (hx _ _ _ _ _ hh).elim
       · exact e
   · simp at e
 · simp at e
def A9i (w:W):Tree Nat:=match A7j w with
 | some (_,i)=>(A9Y w (decide (0 ≤ i))).bind fun _=>.leaf i.toNat
 | none=>.fail
theorem C1F {w:W} {k:Nat} (h:(A9i w).den=some k):asI (cW w)=some (k:Int):=by
 unfold A9i at h
 split at h
 · rename_i k' i hi
   simp only [Tree.den_bind,A9Z,decide_eq_true_eq,Tree.den_leaf] at h
   obtain ⟨_,h1,rfl⟩:=h
   rw [A4p hi]
   simp only [asI,Option.some.injEq]
   omega
 · simp at h
theorem A7L {w:W} {k n:Nat} (h:(A9i w).den=some k) (hk:k < n):A8j n (cW w)=some k:=by
 unfold A8j
 rw [C1F h]
 simp only
 rw [if_pos ⟨by omega,by omega⟩]
 simp
theorem C7n {w:W} {k n:Nat} (h:(A9i w).den=some k) (hk:k ≤ n):A7w n (cW w)=some k:=by
 unfold A7w
 rw [C1F h]
 simp only
 rw [if_pos ⟨by omega,by omega⟩]
 simp
def bd2 (n:Nat):Option W→Tree (Option Nat)
 | none=>.leaf none
 | some w=>(A9i w).bind fun k=>(Tree.ask (Nat.ble k n)).bind fun _=>.leaf (some k)
theorem B0N {n:Nat} {m:Nat} {w:Option W} {k:Option Nat} (h:(bd2 n w).den=some k):B2f n m (w.map cW)=some (k.getD m):=by
 cases w with
 | none=>simp only [bd2,Tree.den_leaf] at h; subst h; rfl
 | some w =>
   simp only [bd2,Tree.den_bind,Tree.den_ask,Tree.den_leaf] at h
   obtain ⟨j,h1,_,h2,rfl⟩:=h
   exact C7n h1 (Nat.ble_eq.mp h2)
def B1J (n:Nat) (lo hi:Option W):Tree (Option Nat×Option Nat) :=
 (bd2 n hi).bind fun b=>(bd2 (b.getD n) lo).bind fun a=>.leaf (a,b)
theorem B1K {n:Nat} {lo hi:Option W} {a b:Option Nat} (h:(B1J n lo hi).den=some (a,b)):B05 n (lo.map cW) (hi.map cW)=some (a.getD 0,b.getD n):=by
 simp only [B1J,Tree.den_bind,Tree.den_leaf,Prod.mk.injEq] at h
 obtain ⟨b',h1,a',h2,rfl,rfl⟩:=h
 unfold B05
 rw [B0N (m:=n) h1]
 simp only
 rw [B0N (m:=0) h2]
def C2R {A:Type} (a b:Option Nat) (l:List A):List A :=
 let m:=match b with | none=>l | some b=>l.take b
 match a with | none=>m | some a=>m.drop a
theorem C7o {A B:Type} (f:A→B) (a b:Option Nat) (l:List A):(C2R a b l).map f=((l.map f).take (b.getD l.length)).drop (a.getD 0):=by
 unfold C2R
 cases a <;> cases b <;> simp [List.map_take,List.map_drop]
def B99 (h:H2) (z:Nat) (w:W) (lo hi:Option W):Tree W:=match w with
 | .v (.sl t) l=>if t.cs == z then (B1J (List.length (α:=El t) l) lo hi).bind fun x=>.leaf (.v (.sl t) (C2R (A:=El t) x.1 x.2 l)) else .fail
 | .nil z=>(B1J 0 lo hi).bind fun _=>.leaf (.nil z)
 | .own id path off len g=>(Tree.ofO (A2x h id)).bind fun o=>(A4T o path).bind fun y=>if y.1 == g && y.2.1 == z then
    (B1J len lo hi).bind fun x=>.leaf (.own id path (match x.1 with | none=>off | some a=>some (match off with | none=>a | some o=>o + a)) (match x.1 with | none=>x.2.getD len | some a=>x.2.getD len - a) g) else .fail
 | _=>.fail
theorem B3H (t:Ty) (z:Nat) (h:t.cs=z) (l:List (El t)):((l.map (enc t)).all fun v=>v.cs == z)=true:=by
 rw [List.all_eq_true]
 intro v hv
 obtain ⟨x,_,rfl⟩:=List.mem_map.1 hv
 simp [A5K,h]
theorem C4g {h:H2} {z:Nat} {w w':W} {lo hi:Option W} (e:(B99 h z w lo hi).den=some w'):A5q (cH h) z (cW w) (lo.map cW) (hi.map cW)=some (cW w'):=by
 unfold B99 at e
 split at e
 · rename_i t l
   split at e
   · rename_i hz
     simp only [beq_iff_eq] at hz
     simp only [Tree.den_bind,Tree.den_leaf] at e
     obtain ⟨⟨a,b⟩,h1,rfl⟩:=e
     have key:∀ l:List (El t),(B1J l.length lo hi).den=some (a,b)→A5q (cH h) z (.p (.sl (l.map (enc t)))) (lo.map cW) (hi.map cW)=some (.p (.sl ((C2R a b l).map (enc t)))):=by
      intro l h1
      simp only [A5q,List.length_map]
      rw [B1K h1]
      simp only
      rw [if_pos (B3H t z hz l),C7o]
     exact key l h1
   · simp at e
 · simp only [Tree.den_bind,Tree.den_leaf] at e
   obtain ⟨⟨a,b⟩,h1,rfl⟩:=e
   simp only [cW,A5q]
   rw [B1K h1]
 · rename_i id path off len g
   simp only [Tree.den_bind,Tree.den_ofO] at e
   obtain ⟨o,h1,⟨g',z',a'⟩,h2,e⟩:=e
   split at e
   · rename_i hc
     simp only [Bool.and_eq_true,beq_iff_eq] at hc
     simp only [Tree.den_bind,Tree.den_leaf] at e
     obtain ⟨⟨a,b⟩,h3,rfl⟩:=e
     simp only [cW,A5q]
     rw [B1K h3,A2n h1,A20 h2]
     simp only
     rw [if_pos hc]
     cases a <;> cases off <;> simp
   · simp at e
 · simp at e
def B64 (w:W) (lo hi:Option W):Tree W:=match B2M w with
 | some b=>(B1J b.size lo hi).bind fun x=>.leaf (wS (b.extract (x.1.getD 0) (x.2.getD b.size)))
 | none=>.fail
abbrev C9R {A:Type} (l:List A) (k:Nat):Option A:=l[k]?
def C0a (h:H2) (z:Nat) (w i:W):Tree W:=match w with
 | .v (.sl t) l=>if t.cs == z then (A9i i).bind fun k=>.opt (B2K t) (C9R (A:=El t) l k) fun x=>.leaf (.v (.ref t) x) else .fail
 | .own id path off len g=>(Tree.ofO (A2x h id)).bind fun o=>(A4T o path).bind fun y=>if y.1 == g && y.2.1 == z then
    (A9i i).bind fun k=>(Tree.ask (Nat.blt k len)).bind fun _=>.leaf (.ptr id (some path) [match off with | none=>B2N z k i | some o=>.k (o + k) z] g) else .fail
 | _=>.fail
theorem C4h {h:H2} {z:Nat} {w i w':W} (e:(C0a h z w i).den=some w'):A5r (cH h) z (cW w) (cW i)=some (cW w'):=by
 unfold C0a at e
 split at e
 · rename_i t l
   split at e
   · rename_i hz
     simp only [beq_iff_eq] at hz
     simp only [Tree.den_bind,Tree.den_opt,Tree.den_leaf] at e
     obtain ⟨k,h1,x,h2,rfl⟩:=e
     have key:∀ l:List (El t),l[k]?=some x→A5r (cH h) z (.p (.sl (l.map (enc t)))) (cW i)=some (.p (.ref (enc t x))):=by
      intro l h2
      have hk:=(List.getElem?_eq_some_iff.1 h2).1
      simp only [A5r,List.length_map]
      rw [A7L h1 hk]
      simp only [List.getElem?_map,h2,Option.map_some]
      rw [if_pos ((A5K _ _).trans hz)]
     exact key l h2
   · simp at e
 · rename_i id path off len g
   simp only [Tree.den_bind,Tree.den_ofO] at e
   obtain ⟨o,h1,⟨g',z',a'⟩,h2,e⟩:=e
   split at e
   · rename_i hc
     simp only [Bool.and_eq_true,beq_iff_eq] at hc
     simp only [Tree.den_bind,Tree.den_ask,Tree.den_leaf] at e
     obtain ⟨k,h3,_,h4,rfl⟩:=e
     simp only [cW,A5r]
     rw [A7L h3 (Nat.blt_eq.mp h4),A2n h1]
     simp only
     rw [A20 h2]
     simp only
     rw [if_pos hc]
     cases off with
     | none =>
       simp only [Option.getD_none,Nat.zero_add]
       cases i <;> simp [B2N,npI,ixs,ofs,Step.ix,Step.of]
     | some o=>simp [npI,ixs,ofs,Step.ix,Step.of]
   · simp at e
 · simp at e
def C2S (n z:Nat) (ts:List Ty) (x:Els ts) (i:W):Tree TV :=
 (A9i i).bind fun k=>match isC i with
   | true=>if Nat.blt k n && Ty.css (ts.take k) == k * z then Tree.ofO (A9T ts x k) else .fail
   | false=>match B8X ts z with
     | some t=>if ts.length == n then (Tree.ask (Nat.blt k n)).bind fun _=>(Tree.ofO (B6V t k ts x 0)).bind fun y=>.leaf ⟨t,y⟩ else .fail
     | none=>.fail
theorem C1G {n z:Nat} {ts:List Ty} {x:Els ts} {i:W} {v:TV} (h:(C2S n z ts x i).den=some v) :
 ∃ k,A8j n (cW i)=some k∧(A01 ts x)[k]?=some (enc v.1 v.2)∧PV.css ((A01 ts x).take k)=k * z:=by
 unfold C2S at h
 simp only [Tree.den_bind] at h
 obtain ⟨k,h1,h⟩:=h
 refine ⟨k,?_⟩
 split at h
 · split at h
   · rename_i hc
     simp only [Bool.and_eq_true,beq_iff_eq] at hc
     rw [Tree.den_ofO] at h
     obtain ⟨t,y⟩:=v
     exact ⟨A7L h1 (Nat.blt_eq.mp hc.1),(A9d 0 ts x k t y h).1,(A5k ts x k).trans hc.2⟩
   · simp at h
 · split at h
   · rename_i t ht
     split at h
     · rename_i hn
       simp only [beq_iff_eq] at hn
       simp only [Tree.den_bind,Tree.den_ask,Tree.den_ofO,Tree.den_leaf] at h
       obtain ⟨_,h2,y,h3,rfl⟩:=h
       have h2:=Nat.blt_eq.mp h2
       have hs:=(B6W 0 t k ts x 0 y h3 (Nat.zero_le _) (by omega)).1
       rw [Nat.sub_zero] at hs
       refine ⟨A7L h1 h2,hs,(A5k ts x k).trans ?_⟩
       unfold B8X at ht
       split at ht
       · cases ht
       · split at ht
         · rename_i hc
           cases ht
           simp only [Bool.and_eq_true,beq_iff_eq] at hc
           rw [← hc.2]
           exact B2O hc.1 (by omega)
         · cases ht
     · simp at h
   · simp at h
def C0b (k:IntKind):List PV→Option (List Int)
 | []=>some []
 | .int l x::r=>if l == k then (match C0b k r with | some m=>some (x::m) | none=>none) else none
 | _=>none
theorem C1H {k:IntKind}:∀ {l:List PV} {m:List Int},C0b k l=some m→l=m.map (PV.int k)
 | [],m,h=>by simp only [C0b,Option.some.injEq] at h; subst h; rfl
 | v::r,m,h=>by
   cases v with
   | int l x =>
     simp only [C0b] at h
     split at h
     · rename_i hk
       split at h
       · rename_i q hq
         simp only [Option.some.injEq] at h
         subst h
         simp only [beq_iff_eq] at hk
         subst hk
         rw [C1H hq]
         rfl
       · cases h
     · cases h
   | _=>cases h
theorem C0c (k:IntKind):∀ m:List Int,PV.css (m.map (PV.int k))=m.length
 | []=>rfl
 | x::r=>by simp only [List.map_cons,PV.css,PV.cs,C0c k r,List.length_cons]; omega
def C9S:List PV→Option IntKind
 | .int k _::_=>some k
 | _=>none
def B65 (n z:Nat) (w i:W):Tree W:=match w with
 | .c (.ref (.agg l))=>match C9S l with
   | some k=>match C0b k l with
     | some m=>if z == 1 then (A9i i).bind fun j=>(Tree.ask (Nat.blt j n)).bind fun _=>.opt (0:Int) m[j]? fun v=>.leaf (.v (.ref (.int k)) v) else .fail
     | none=>.fail
   | none=>.fail
 | .v (.ref (.agg ts)) x=>(C2S n z ts x i).bind fun v=>.leaf (.v (.ref v.1) v.2)
 | .ptr id np rp g=>(A9i i).bind fun k=>(Tree.ask (Nat.blt k n)).bind fun _=>.leaf (.ptr id np (rp++[B2N z k i]) g)
 | _=>.fail
def C5O (agg:Bool) (z n:Nat) (w i:W):Tree W:=match pv? w with
 | some ⟨.agg ts,x⟩=>(C2S n z ts x i).bind fun v=>if v.1.cs == z && v.1.isAgg == agg then .leaf (.v v.1 v.2) else .fail
 | _=>.fail
def C2T (w i:W):Tree W:=match B2M w with
 | some b=>(A9i i).bind fun k=>.opt (0:UInt8) b.data[k]? fun c=>.leaf (wI .u8 c.toNat)
 | none=>.fail
theorem C2U {K:A0v} {g:Nat} {d:Option Nat} {s:S2} {h:A0b} {x:Opd} {lo hi:Option Opd} {w w':W} {wl wh:Option W}
 (hw:evO (cS s) x=cW w) (hl:lo.map (evO (cS s))=wl.map cW) (hh:hi.map (evO (cS s))=wh.map cW) (e:(B64 w wl wh).den=some w') :
 A0a K g d (cS s) h (.sliceS x lo hi)=some (cW w',h):=by
 unfold B64 at e
 split at e
 · rename_i b hb
   simp only [Tree.den_bind,Tree.den_leaf] at e
   obtain ⟨⟨i,j⟩,h1,rfl⟩:=e
   simp only [A0a,hw,hl,hh,A8Q hb]
   rw [B1K h1]
   rfl
 · simp at e
theorem C2V {K:A0v} {g:Nat} {d:Option Nat} {s:S2} {h:A0b} {n z:Nat} {x y:Opd} {w i w':W} (hw:evO (cS s) x=cW w) (hi:evO (cS s) y=cW i) (e:(B65 n z w i).den=some w') :
 A0a K g d (cS s) h (.iaddrA n z x y)=some (cW w',h):=by
 unfold B65 at e
 split at e
 · rename_i l
   split at e
   · rename_i k hk
     split at e
     · rename_i m hm
       split at e
       · rename_i hz
         simp only [beq_iff_eq] at hz
         subst hz
         simp only [Tree.den_bind,Tree.den_ask,Tree.den_opt,Tree.den_leaf] at e
         obtain ⟨j,h1,_,h2,v,h3,rfl⟩:=e
         have hl:=C1H hm
         subst hl
         simp only [A0a,hw,hi,A7L h1 (Nat.blt_eq.mp h2),cW]
         have hj:j < m.length:=(List.getElem?_eq_some_iff.1 h3).1
         rw [List.getElem?_map,h3]
         simp only [Option.map_some,← List.map_take,C0c,List.length_take]
         rw [if_pos (by omega)]
         rfl
       · simp at e
     · simp at e
   · simp at e
 · rename_i ts q
   simp only [Tree.den_bind,Tree.den_leaf] at e
   obtain ⟨v,h1,rfl⟩:=e
   obtain ⟨k,h2,h3,h4⟩:=C1G h1
   simp only [A0a,hw,hi,h2,cW,enc]
   rw [h3]
   simp only
   rw [if_pos h4]
 · simp only [Tree.den_bind,Tree.den_ask,Tree.den_leaf] at e
   obtain ⟨k,h1,_,h2,rfl⟩:=e
   simp only [A0a,hw,hi,A7L h1 (Nat.blt_eq.mp h2),cW]
   rw [A7h,B1t]
   simp only [ixs,ofs,C37,C38,Nat.add_zero]
 · simp at e
theorem C7p {K:A0v} {g:Nat} {d:Option Nat} {s:S2} {h:A0b} {agg:Bool} {n z:Nat} {x y:Opd} {w i w':W} (hw:evO (cS s) x=cW w) (hi:evO (cS s) y=cW i) (e:(C5O agg z n w i).den=some w') :
 A0a K g d (cS s) h (.idx agg z n x y)=some (cW w',h):=by
 unfold C5O at e
 split at e
 · rename_i ts q hp
   simp only [Tree.den_bind] at e
   obtain ⟨v,h1,e⟩:=e
   split at e
   · rename_i hc
     simp only [Bool.and_eq_true,beq_iff_eq] at hc
     simp only [Tree.den_leaf] at e
     subst e
     obtain ⟨k,h2,h3,h4⟩:=C1G h1
     simp only [A0a,hw,hi,B0D hp,enc,h2]
     rw [h3]
     simp only
     rw [if_pos ⟨h4,(A5K _ _).trans hc.1,(A9P _ _).trans hc.2⟩]
     rfl
   · simp at e
 · simp at e
theorem C5P {K:A0v} {g:Nat} {d:Option Nat} {s:S2} {h:A0b} {x y:Opd} {w i w':W} (hw:evO (cS s) x=cW w) (hi:evO (cS s) y=cW i) (e:(C2T w i).den=some w') :
 A0a K g d (cS s) h (.idxS x y)=some (cW w',h):=by
 unfold C2T at e
 split at e
 · rename_i b hb
   simp only [Tree.den_bind,Tree.den_opt,Tree.den_leaf] at e
   obtain ⟨k,h1,c,h2,rfl⟩:=e
   have hk:k < b.size:=by
    obtain ⟨hk,_⟩:=Array.getElem?_eq_some_iff.1 h2
    exact hk
   simp only [A0a,hw,hi,A8Q hb,A7L h1 hk,h2]
   rfl
 · simp at e
end Go.Mid
