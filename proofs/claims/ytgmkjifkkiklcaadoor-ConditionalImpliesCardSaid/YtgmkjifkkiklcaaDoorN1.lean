/- Typed values: codes of types, their values in Lean, and their pure values; decision trees. -/
import Derived.Test.YtgmkjifkkiklcaaDoorM7
namespace Go.Mid
set_option linter.unusedSimpArgs false
set_option linter.unusedVariables false
inductive Ty where
 |int (k:IntKind) | bool | str | sl (t:Ty) | agg (ts:List Ty) | ref (t:Ty) | fn (f:Nat) (ts:List Ty) | mp (k v:Ty) | nilp | nilf | vec (z:Nat) (t:Ty) | opr (t:Ty)
 deriving Inhabited
def D5p (A R:Type):List Ty->Type
 | []=>A
 |_::_=>A×R
mutual
def El:Ty->Type
 |.int _=>Int
 |.bool=>Bool
 |.str=>ByteArray
 |.sl t=>List (El t)
 |.agg ts=>Els ts
 |.ref t=>El t
 |.fn _ ts=>Els ts
 |.mp k v=>List (El k×El v)
 |.nilp=>Unit
 |.nilf=>Unit
 |.vec _ t=>List (El t)
 |.opr t=>Option (El t)
def Els:List Ty->Type
 | []=>Unit
 |t::r=>D5p (El t) (Els r) r
end
def hdE {t:Ty}:(r:List Ty)->Els (t::r)->El t
 | [],x=>x
 |_::_,x=>x.1
def tlE {t:Ty}:(r:List Ty)->Els (t::r)->Els r
 | [],_=>()
 |_::_,x=>x.2
def mkE {t:Ty}:(r:List Ty)->El t->Els r->Els (t::r)
 | [],a,_=>a
 |_::_,a,b=>(a,b)
@[simp] theorem A5E {t:Ty} (r:List Ty) (a:El t) (b:Els r):hdE r (mkE r a b)=a:=by cases r<;>rfl
@[simp] theorem A5F {t:Ty} (r:List Ty) (a:El t) (b:Els r):tlE r (mkE r a b)=b:=by cases r<;>rfl
def C99:Option PV->PV
 |none=>.nilp
 |some v=>.ref v
mutual
def enc:(t:Ty)->El t->PV
 |.opr t,x=>C99 (Option.map (enc t) x)
 |.int k,x=>.int k x
 |.bool,x=>.bool x
 |.str,x=>.str x
 |.sl t,x=>.sl (List.map (enc t) x)
 |.agg ts,x=>.agg (A1g ts x)
 |.ref t,x=>.ref (enc t x)
 |.fn f ts,x=>.fn f (A1g ts x)
 |.mp k v,x=>.mp (List.map (λp=>enc k p.1) x) (List.map (λp=>enc v p.2) x)
 |.nilp,_=>.nilp
 |.nilf,_=>.nilf
 |.vec _ t,x=>.sl (List.map (enc t) x)
def A1g:(ts:List Ty)->Els ts->List PV
 | [],_=>[]
 |t::r,x=>enc t (hdE r x)::A1g r (tlE r x)
end
mutual
def B5e:(t:Ty)->El t
 |.int _=>(0:Int)
 |.bool=>false
 |.str=>(⟨#[]⟩:ByteArray)
 |.sl _=>[]
 |.agg ts=>C13 ts
 |.ref t=>B5e t
 |.fn _ ts=>C13 ts
 |.mp _ _=>[]
 |.nilp=>()
 |.nilf=>()
 |.vec _ _=>[]
 |.opr _=>none
def C13:(ts:List Ty)->Els ts
 | []=>()
 |t::r=>mkE r (B5e t) (C13 r)
end
mutual
def Ty.cs:Ty->Nat
 |.agg l=>Ty.css l
 |_=>1
def Ty.css:List Ty->Nat
 | []=>0
 |x::xs=>x.cs+Ty.css xs
end
def Ty.isAgg:Ty->Bool | .agg _=>true | _=>false
mutual
def Ty.pure:Ty->Bool
 |.vec ..=>false
 |.agg l=>Ty.pures l
 |_=>true
def Ty.pures:List Ty->Bool
 | []=>true
 |x::xs=>x.pure&&Ty.pures xs
end
mutual
theorem A7k:∀ (t:Ty) (x:El t),(enc t x).cs=t.cs
 |.opr t,x=>by
   have h:∀y:Option (El t),(C99 (y.map (enc t))).cs=1:=λy=>by cases y<;>rfl
   exact h x
 |.agg ts,x=>by simp only[enc,PV.cs,Ty.cs];exact C5h ts x
 |.int _,_ | .bool,_ | .str,_ | .sl _,_ | .ref _,_ | .fn _ _,_ | .mp _ _,_ | .nilp,_ | .nilf,_ | .vec _ _,_=>rfl
theorem C5h:∀ (ts:List Ty) (x:Els ts),PV.css (A1g ts x)=Ty.css ts
 | [],_=>rfl
 |t::r,x=>by simp only[A1g,PV.css,Ty.css];rw[A7k t,C5h r]
end
@[simp] theorem B1O:∀ (t:Ty) (x:El t),(enc t x).isAgg=t.isAgg
  |.opr t,x=>by
    have h:∀y:Option (El t),(C99 (y.map (enc t))).isAgg=false:=λy=>by cases y<;>rfl
    exact h x
  |.agg ts,x=>rfl
  |.int _,_ | .bool,_ | .str,_ | .sl _,_ | .ref _,_ | .fn _ _,_ | .mp _ _,_ | .nilp,_ | .nilf,_ | .vec _ _,_=>rfl
mutual
def Ty.eq:Ty->Ty->Bool
 |.int k,.int l=>k==l
 |.bool,.bool=>true
 |.str,.str=>true
 |.sl t,.sl u=>Ty.eq t u
 |.agg l,.agg m=>Ty.eqs l m
 |.ref t,.ref u=>Ty.eq t u
 |.fn f l,.fn g m=>f==g&&Ty.eqs l m
 |.mp k v,.mp l w=>Ty.eq k l&&Ty.eq v w
 |.nilp,.nilp=>true
 |.nilf,.nilf=>true
 |.vec z t,.vec y u=>z==y&&Ty.eq t u
 |.opr t,.opr u=>Ty.eq t u
 |_,_=>false
def Ty.eqs:List Ty->List Ty->Bool
 | [],[]=>true
 |t::r,u::q=>Ty.eq t u&&Ty.eqs r q
 |_,_=>false
end
mutual
theorem Ty.eq_of:∀ t u,Ty.eq t u=true->t=u
 |.int k,u,h=>by cases u<;>simp[Ty.eq] at h;rw[h]
 |.bool,u,h=>by cases u<;>simp[Ty.eq] at h;rfl
 |.str,u,h=>by cases u<;>simp[Ty.eq] at h;rfl
 |.nilp,u,h=>by cases u<;>simp[Ty.eq] at h;rfl
 |.nilf,u,h=>by cases u<;>simp[Ty.eq] at h;rfl
 |.sl t,u,h=>by cases u<;>simp[Ty.eq] at h;rw[Ty.eq_of t _ h]
 |.ref t,u,h=>by cases u<;>simp[Ty.eq] at h;rw[Ty.eq_of t _ h]
 |.opr t,u,h=>by cases u<;>simp[Ty.eq] at h;rw[Ty.eq_of t _ h]
 |.agg l,u,h=>by cases u<;>simp[Ty.eq] at h;rw[Ty.eqs_of l _ h]
 |.fn f l,u,h=>by cases u<;>simp[Ty.eq] at h;rw[h.1,Ty.eqs_of l _ h.2]
 |.mp k v,u,h=>by cases u<;>simp[Ty.eq] at h;rw[Ty.eq_of k _ h.1,Ty.eq_of v _ h.2]
 |.vec z t,u,h=>by cases u<;>simp[Ty.eq] at h;rw[h.1,Ty.eq_of t _ h.2]
theorem Ty.eqs_of:∀ t u,Ty.eqs t u=true->t=u
 | [],u,h=>by cases u<;>simp[Ty.eqs] at h;rfl
 |t::r,u,h=>by cases u<;>simp[Ty.eqs] at h;rw[Ty.eq_of t _ h.1,Ty.eqs_of r _ h.2]
end
def A3z {t:Ty}(u:Ty)(x:El t):Option (El u):=if h:Ty.eq t u=true then some (cast (congrArg El (Ty.eq_of t u h)) x) else none
theorem A2u {t u:Ty}{x:El t}{y:El u}(h:A3z u x=some y):t=u∧HEq x y∧enc t x=enc u y:=by
 unfold A3z at h;split at h
 . rename_i e;have e:=Ty.eq_of t u e;subst e;simp only[cast_eq,Option.some.injEq] at h;subst h;exact⟨rfl,HEq.rfl,rfl⟩
 . cases h
def D0a (k:IntKind):PV->Option Int | .int l n=>if k==l then some n else none | _=>none
def D0b:PV->Option Bool | .bool b=>some b | _=>none
def D0c:PV->Option ByteArray | .str b=>some b | _=>none
mutual
def dec:(t:Ty)->PV->Option (El t)
 |.int k,v=>D0a k v
 |.bool,v=>D0b v
 |.str,v=>D0c v
 |.sl t,v=>match v with | .sl []=>some ([]:List (El t)) | _=>none
 |.agg ts,v=>match v with | .agg l=>B3K ts l | _=>none
 |.nilp,v=>match v with | .nilp=>some () | _=>none
 |.nilf,v=>match v with | .nilf=>some () | _=>none
 |.fn f ts,v=>match v with | .fn g l=>if f==g then B3K ts l else none | _=>none
 |.mp k w,v=>match v with | .mp [] []=>some ([]:List (El k×El w)) | _=>none
 |.ref _,_=>none
 |.vec _ _,_=>none
 |.opr t,v=>match v with | .nilp=>some (none:Option (El t)) | _=>none
def B3K:(ts:List Ty)->List PV->Option (Els ts)
 | [],l=>match l with | []=>some () | _::_=>none
 | t::r,l=>match l with
   | []=>none
   |v::q=>match dec t v,B3K r q with | some a,some b=>some (mkE r a b) | _,_=>none
end
theorem D13 (k:IntKind)(v:PV):dec (.int k) v=D0a k v:=by rfl
theorem D0d (v:PV):dec .bool v=D0b v:=by rfl
theorem D14 (v:PV):dec .str v=D0c v:=by rfl
mutual
theorem A9x:∀ (t:Ty) (v:PV) (x:El t),dec t v=some x->enc t x=v
 |.int k,v,x,h=>by
   rw[D13] at h;cases v<;>simp only[D0a,reduceCtorEq] at h;split at h
   . rename_i e;cases h;simp only[beq_iff_eq] at e;subst e;rfl
   . cases h
 |.bool,v,x,h=>by rw[D0d] at h;cases v<;>simp only[D0b,reduceCtorEq] at h;cases h;rfl
 |.str,v,x,h=>by rw[D14] at h;cases v<;>simp only[D0c,reduceCtorEq] at h;cases h;rfl
 |.nilp,v,x,h=>by cases v<;>first | rfl | cases h
 |.nilf,v,x,h=>by cases v<;>first | rfl | cases h
 |.ref t,v,x,h=>by cases h
 |.opr t,v,x,h=>by cases v<;>first | (cases h;rfl) | cases h
 |.vec z t,v,x,h=>by cases h
 |.sl t,v,x,h=>by
   cases v<;>first | cases h | skip
   rename_i l;cases l<;>cases h;rfl
 |.mp k w,v,x,h=>by
   cases v<;>first | cases h | skip
   rename_i l m;cases l<;>cases m<;>cases h;rfl
 |.agg ts,v,x,h=>by
   cases v<;>first | cases h | skip
   rename_i l;have h:B3K ts l=some x:=h;show PV.agg (A1g ts x)=_;rw[B7g ts _ x h]
 |.fn f ts,v,x,h=>by
   cases v<;>first | cases h | skip
   rename_i g l;by_cases e:(f==g)=true
   . have h1:dec (.fn f ts) (.fn g l)=B3K ts l:=if_pos e;have h2:B3K ts l=some x:=h1.symm.trans h;simp only[beq_iff_eq] at e;subst e;show PV.fn f (A1g ts x)=_;rw[B7g ts _ x h2]
   . have h1:dec (.fn f ts) (.fn g l)=none:=if_neg e;rw[h1] at h;cases h
theorem B7g:∀ (ts:List Ty) (l:List PV) (x:Els ts),B3K ts l=some x->A1g ts x=l
 | [],l,x,h=>by
   cases l with
   |nil=>rfl
   |cons v q=>cases h
 |t::r,l,x,h=>by
   cases l with
   |nil=>cases h
   |cons v q =>
     have h:(match dec t v,B3K r q with | some a,some b=>some (mkE r a b) | _,_=>none)=some x:=h
     cases h1:dec t v with
     |none=>rw[h1] at h;cases h
     |some a =>
       cases h2:B3K r q with
       |none=>rw[h1,h2] at h;cases h
       |some b =>
         rw[h1,h2] at h;cases h;show enc t (hdE r (mkE r a b))::A1g r (tlE r (mkE r a b))=_;rw[A5E,A5F,A9x t v a h1,B7g r q b h2]
end
def tyP:PV->Option Ty
 |.int k _=>some (.int k)
 |.bool _=>some .bool
 |.str _=>some .str
 |.agg l=>match tyPs l with | some ts=>some (.agg ts) | none=>none
 |.fn f l=>match tyPs l with | some ts=>some (.fn f ts) | none=>none
 |.nilp=>some .nilp
 |.nilf=>some .nilf
 |_=>none
where tyPs:List PV->Option (List Ty)
 | []=>some []
 |x::r=>match tyP x,tyPs r with | some t,some ts=>some (t::ts) | _,_=>none
inductive Tree (α:Type):Type 1 where
 |fail
 |leaf (a:α)
 |ite (c:Bool) (x y:Tree α)
 |opt {A:Type} (d:A) (o:Option A) (k:A->Tree α)
 |sum {A B:Type} (d:A) (e:B) (o:A ⊕ B) (k:A->Tree α) (l:B->Tree α)
namespace Tree
def den {α:Type}:Tree α->Option α
 |fail=>none
 |leaf a=>some a
 |ite c x y=>bif c then x.den else y.den
 |opt _ o k=>o.bind λa=>(k a).den
 |sum _ _ o k l=>Sum.elim (λa=>(k a).den) (λb=>(l b).den) o
def bind {α β:Type}:Tree α->(α->Tree β)->Tree β
 |fail,_=>fail
 |leaf a,f=>f a
 |ite c x y,f=>ite c (x.bind f) (y.bind f)
 |opt d o k,f=>opt d o (λa=>(k a).bind f)
 |sum d e o k l,f=>sum d e o (λa=>(k a).bind f) (λb=>(l b).bind f)
theorem den_bind {α β:Type}(t:Tree α)(f:α->Tree β)(r:β):(t.bind f).den=some r↔∃a,t.den=some a∧(f a).den=some r:=by
 induction t with
 |fail=>simp[bind,den]
 |leaf a=>simp[bind,den]
 |ite c x y hx hy=>cases c<;>simp[bind,den,hx,hy]
 |opt d o k ih=>cases o<;>simp[bind,den,ih]
 |sum d e o k l ih1 ih2=>cases o<;>simp[bind,den,ih1,ih2]
def leaves {α:Type}:Tree α->List α
 |fail=>[]
 |leaf a=>[a]
 |ite _ x y=>x.leaves++y.leaves
 |opt d _ k=>(k d).leaves
 |sum d e _ k l=>(k d).leaves++(l e).leaves
def chk (b:Bool):Tree Unit:=match b with | true=>leaf () | false=>fail
def ask (b:Bool):Tree Unit:=ite b (leaf ()) fail
def ofO {α:Type}:Option α->Tree α
 |none=>fail
 |some a=>leaf a
@[simp] theorem den_leaf {α:Type} (a r:α):(leaf a).den=some r↔a=r:=by simp[den]
@[simp] theorem den_fail {α:Type} (r:α):(fail:Tree α).den=some r↔False:=by simp[den]
@[simp] theorem den_chk (b:Bool) (r:Unit):(chk b).den=some r↔b=true:=by cases b<;>simp[chk,den]
@[simp] theorem den_ask (b:Bool) (r:Unit):(ask b).den=some r↔b=true:=by cases b<;>simp[ask,den]
@[simp] theorem den_ofO {α:Type} (o:Option α) (r:α):(ofO o).den=some r↔o=some r:=by cases o<;>simp[ofO,den]
theorem den_ite {α:Type}(c:Bool)(x y:Tree α)(r:α):(ite c x y).den=some r↔(c=true∧x.den=some r)∨(c=false∧y.den=some r):=by cases c<;>simp[den]
theorem den_opt {α A:Type}(d:A)(o:Option A)(k:A->Tree α)(r:α):(opt d o k).den=some r↔∃a,o=some a∧(k a).den=some r:=by cases o<;>simp[den]
end Tree
end Go.Mid
/- Symbolic states: what is known about slots and owned memory,with typed values at the leaves;what they stand for. -/
namespace Go.Mid
set_option linter.unusedSimpArgs false
set_option linter.unusedVariables false
inductive Step where
 |f (i o:Nat) | k (i z:Nat)
def Step.ix:Step->Nat | .f i _=>i | .k i _=>i
def Step.of:Step->Nat | .f _ o=>o | .k i z=>i*z
def ixs:List Step->List Nat
 | []=>[]
 |x::r=>x.ix::ixs r
def ofs:List Step->Nat
 | []=>0
 |x::r=>x.of+ofs r
theorem A81:∀ p q:List Step,ixs (p++q)=ixs p++ixs q
 | [],q=>rfl
 |x::r,q=>by simp only[List.cons_append,ixs,A81 r q]
theorem B3L:∀ p q:List Step,ofs (p++q)=ofs p+ofs q
 | [],q=>by simp[ofs]
 |x::r,q=>by simp only[List.cons_append,ofs,B3L r q];omega
inductive W where
 |c (v:PV)
 |v (t:Ty) (x:El t)
 |nil (z:Nat)
 |own (id:Nat) (path:List Step) (off:Option Nat) (len g:Nat)
 |ptr (id:Nat) (np:Option (List Step)) (rp:List Step) (g:Nat)
 |mref (id:Nat) (path:List Step) (g:Nat)
 |agg (l:List W)
 |fn (f:Nat) (caps:List W)
 |tup (l:List W)
 |dead (n:Nat)
instance:Inhabited W:=⟨.dead 0⟩
def npI:Option (List Step)->Option (List Nat)
 |none=>none
 |some p=>some (ixs p)
mutual
def cW:W->MV
 |.c v=>.p v
 |.v t x=>.p (enc t x)
 |.nil z=>.nil z
 |.own id path off len g=>.own id (ixs path) (off.getD 0) len g
 |.ptr id np rp g=>.ptr id (npI np) (ixs rp) g (ofs rp)
 |.mref id path g=>.mref id (ixs path) g
 |.agg l=>.agg (cWs l)
 |.fn f l=>.fn f (cWs l)
 |.tup l=>.tup (cWs l)
 |.dead n=>.dead n
def cWs:List W->List MV
 | []=>[]
 |x::r=>cW x::cWs r
end
theorem A2x:∀ l:List W,cWs l=l.map cW
 | []=>rfl
 |x::r=>by simp only[cWs,List.map_cons,A2x r]
mutual
def A0V (s:Nat):(t:Ty)->El t->T Nat
 |.vec z t,x=>.vec s z (List.map (A0V s t) x) (List.length x)
 |.agg ts,x=>A0z (A1i s ts x)
 |.int k,x=>.p (enc (.int k) x)
 |.bool,x=>.p (enc .bool x)
 |.str,x=>.p (enc .str x)
 |.sl t,x=>.p (enc (.sl t) x)
 |.ref t,x=>.p (enc (.ref t) x)
 |.opr t,x=>.p (enc (.opr t) x)
 |.fn f ts,x=>.p (enc (.fn f ts) x)
 |.mp k v,x=>.p (enc (.mp k v) x)
 |.nilp,x=>.p (enc .nilp x)
 |.nilf,x=>.p (enc .nilf x)
def A1i (s:Nat):(ts:List Ty)->Els ts->List (T Nat)
 | [],_=>[]
 |t::r,x=>A0V s t (hdE r x)::A1i s r (tlE r x)
end
theorem B3M {α:Type}:∀ {l:List (T α)} {vs:List PV},A1h l=some vs->l=vs.map T.p
 | [],vs,h=>by simp only[A1h,Option.some.injEq] at h;subst h;rfl
 |.p v::r,vs,h=>by
   simp only[A1h] at h;cases h1:A1h r with
   |none=>rw[h1] at h;cases h
   |some l=>rw[h1] at h;cases h;rw[B3M h1];rfl
 |.m _::_,vs,h | .agg _::_,vs,h | .vec ..::_,vs,h | .mp ..::_,vs,h | .hole _::_,vs,h=>by simp[A1h] at h
theorem B7h {α:Type}:∀ vs:List PV,A1h (vs.map (T.p (α:=α)))=some vs
 | []=>rfl
 |v::r=>by simp only[List.map_cons,A1h,B7h r]
theorem A2e {α:Type}(l:List (T α)):(∃vs,l=vs.map T.p∧A0z l=.p (.agg vs))∨A0z l=.agg l:=by
 unfold A0z;cases h:A1h l with
 |none=>exact .inr rfl
 |some vs=>exact .inl ⟨vs,B3M h,rfl⟩
theorem B5f {α:Type}:∀ vs:List PV,T.css (vs.map (T.p (α:=α)))=PV.css vs
 | []=>rfl
 |v::r=>by simp only[List.map_cons,T.css,T.cs,PV.css,B5f r]
theorem B8r {α:Type}(l:List (T α)):(A0z l).cs=T.css l:=by
 rcases A2e l with⟨vs,rfl,h⟩ | h
 . rw[h,B5f];rfl
 . rw[h];rfl
mutual
theorem B2K (s:Nat):∀ (t:Ty) (x:El t),(A0V s t x).cs=t.cs
 |.opr t,x=>A7k (.opr t) x
 |.agg ts,x=>by simp only[A0V,B8r,Ty.cs];exact C2X s ts x
 |.int _,_ | .bool,_ | .str,_ | .sl _,_ | .ref _,_ | .fn _ _,_ | .mp _ _,_ | .nilp,_ | .nilf,_ | .vec _ _,_=>rfl
theorem C2X (s:Nat):∀ (ts:List Ty) (x:Els ts),T.css (A1i s ts x)=Ty.css ts
 | [],_=>rfl
 |t::r,x=>by simp only[A1i,T.css,Ty.css];rw[B2K s t,C2X s r]
end
mutual
theorem A1B (s:Nat):∀ (t:Ty) (x:El t),t.pure=true->A0V s t x=.p (enc t x)
 |.agg ts,x,h=>by
   simp only[A0V,enc];rw[B8s s ts x h];simp only[A0z,B7h]
 |.int _,_,_ | .bool,_,_ | .str,_,_ | .sl _,_,_ | .ref _,_,_ | .fn _ _,_,_ | .mp _ _,_,_ | .nilp,_,_ | .nilf,_,_ | .opr _,_,_=>rfl
 |.vec _ _,_,h=>by simp[Ty.pure] at h
theorem B8s (s:Nat):∀ (ts:List Ty) (x:Els ts),Ty.pures ts=true->A1i s ts x=(A1g ts x).map T.p
 | [],_,_=>rfl
 |t::r,x,h=>by
   simp only[Ty.pures,Bool.and_eq_true] at h;simp only[A1i,A1g,List.map_cons];rw[A1B s t _ h.1,B8s s r _ h.2]
end
theorem B8t:∀ vs:List PV,A0J (vs.map T.p)=some vs
 | []=>rfl
 |v::r=>by simp only[List.map_cons,A0J,A4B,B8t r]
theorem C2Y (l:List (T Nat)):A4B (A0z l)=match A0J l with | some vs=>some (.agg vs) | none=>none:=by
 rcases A2e l with⟨vs,rfl,h⟩ | h
 . rw[h,B8t];rfl
 . rw[h];rfl
mutual
theorem B1P (s:Nat):∀ (t:Ty) (x:El t),A4B (A0V s t x)=some (enc t x)
 |.agg ts,x=>by simp only[A0V,C2Y,B6N s ts x];rfl
 |.vec z t,x=>by
   have h:∀l:List (El t),A0J (l.map (A0V s t))=some (l.map (enc t)):=by
    intro l
    induction l with
    |nil=>rfl
    |cons a r ih=>simp only[List.map_cons,A0J,B1P s t a,ih]
   have key:∀l:List (El t),(match A0J (l.map (A0V s t)) with | some vs=>some (PV.sl (vs.take l.length)) | none=>none)=some (PV.sl (l.map (enc t))):=by
    intro l;rw[h];simp only;rw[List.take_of_length_le (by simp)]
   exact key x
 |.int _,_ | .bool,_ | .str,_ | .sl _,_ | .ref _,_ | .fn _ _,_ | .mp _ _,_ | .nilp,_ | .nilf,_ | .opr _,_=>rfl
theorem B6N (s:Nat):∀ (ts:List Ty) (x:Els ts),A0J (A1i s ts x)=some (A1g ts x)
 | [],_=>rfl
 |t::r,x=>by simp only[A1i,A1g,A0J];rw[B1P s t,B6N s r]
end
theorem A38 (φ:MV->MV)(ζ:Nat->Nat):∀ l:List (T Nat),A0H φ ζ l=l.map (A0R φ ζ)
 | []=>rfl
 |x::r=>by simp only[A0H,List.map_cons,A38 φ ζ r]
theorem D15 (φ:MV->MV)(ζ:Nat->Nat)(l:List (T Nat))(h:∀t∈l,∀v,t≠.m v):A0R φ ζ (A0z l)=A0z (l.map (A0R φ ζ)):=by
 have hp:∀l:List (T Nat),(∀t∈l,∀v,t≠T.m v)->A1h (l.map (A0R φ ζ))=A1h l:=by
  intro l h
  induction l with
  |nil=>rfl
  |cons a r ih =>
    have ih:=ih (λt ht=>h t (by simp[ht]))
    cases a with
    |p v=>simp only[List.map_cons,A0R,A1h,ih]
    |m v=>exact absurd rfl (h _ (by simp) v)
    |_=>rfl
 unfold A0z;rw[hp l h];cases A1h l with
 |none=>simp only[A0R,A38]
 |some vs=>rfl
mutual
theorem D16 (s:Nat):∀ (t:Ty) (x:El t) (v:MV),A0V s t x≠.m v
 |.agg ts,x,v=>by
   simp only[A0V];rcases A2e (A1i s ts x) with⟨vs,_,h⟩ | h<;>rw[h]<;>simp
 |.int _,_,_ | .bool,_,_ | .str,_,_ | .sl _,_,_ | .ref _,_,_ | .fn _ _,_,_ | .mp _ _,_,_ | .nilp,_,_ | .nilf,_,_ | .vec _ _,_,_ | .opr _,_,_=>by simp[A0V]
end
theorem C2Z (s:Nat):∀ (ts:List Ty) (x:Els ts),∀ u∈A1i s ts x,∀ v,u≠.m v
 | [],_,u,h=>by simp[A1i] at h
 |t::r,x,u,h=>by
   simp only[A1i,List.mem_cons] at h;rcases h with rfl | h
   . exact D16 s t _
   . exact C2Z s r _ u h
mutual
theorem B3N (φ:MV->MV)(ζ:Nat->Nat)(s:Nat):∀ (t:Ty) (x:El t),A0R φ ζ (A0V s t x)=A0V (ζ s) t x
 |.agg ts,x=>by
   simp only[A0V];rw[D15 _ _ _ (C2Z s ts x),←A38,B8u φ ζ s ts x]
 |.vec z t,x=>by
   have h:∀l:List (El t),A0H φ ζ (l.map (A0V s t))=l.map (A0V (ζ s) t):=by
    intro l
    induction l with
    |nil=>rfl
    |cons a r ih=>simp only[List.map_cons,A0H,B3N φ ζ s t a,ih]
   have key:∀l:List (El t),T.vec (ζ s) z (A0H φ ζ (l.map (A0V s t))) l.length=T.vec (ζ s) z (l.map (A0V (ζ s) t)) l.length:=by
    intro l;rw[h]
   exact key x
 |.int _,_ | .bool,_ | .str,_ | .sl _,_ | .ref _,_ | .fn _ _,_ | .mp _ _,_ | .nilp,_ | .nilf,_ | .opr _,_=>rfl
theorem B8u (φ:MV->MV)(ζ:Nat->Nat)(s:Nat):∀ (ts:List Ty) (x:Els ts),A0H φ ζ (A1i s ts x)=A1i (ζ s) ts x
 | [],_=>rfl
 |t::r,x=>by simp only[A1i,A0H];rw[B3N φ ζ s t,B8u φ ζ s r]
end
theorem B7i:∀ vs:List PV,A1G (vs.map (T.p (α:=Nat)))=[]
 | []=>rfl
 |v::r=>by simp only[List.map_cons,A1G,A5k,B7i r,List.nil_append]
theorem C20 (l:List (T Nat)):A5k (A0z l)=A1G l:=by
 rcases A2e l with⟨vs,rfl,h⟩ | h
 . rw[h,B7i];rfl
 . rw[h];rfl
mutual
theorem B1Q (s:Nat):∀ (t:Ty) (x:El t),A5k (A0V s t x)=[]
 |.agg ts,x=>by simp only[A0V,C20];exact B6O s ts x
 |.vec z t,x=>by
   have h:∀l:List (El t),A1G (l.map (A0V s t))=[]:=by
    intro l
    induction l with
    |nil=>rfl
    |cons a r ih=>simp only[List.map_cons,A1G,B1Q s t a,ih,List.nil_append]
   show A1G (List.map (A0V s t) x)=_;exact h x
 |.int _,_ | .bool,_ | .str,_ | .sl _,_ | .ref _,_ | .fn _ _,_ | .mp _ _,_ | .nilp,_ | .nilf,_ | .opr _,_=>rfl
theorem B6O (s:Nat):∀ (ts:List Ty) (x:Els ts),A1G (A1i s ts x)=[]
 | [],_=>rfl
 |t::r,x=>by simp only[A1i,A1G];rw[B1Q s t,B6O s r];rfl
end
theorem B6P (s:Nat)(t:Ty):∀ l:List (El t),A1G (l.map (A0V s t))=[]
 | []=>rfl
 |a::r=>by simp only[List.map_cons,A1G,B1Q s t a,B6P s t r,List.nil_append]
theorem C6E (φ:MV->MV)(ζ:Nat->Nat)(s:Nat)(t:Ty)(l:List (El t)):A0H φ ζ (l.map (A0V s t))=l.map (A0V (ζ s) t):=by
 rw[A38,List.map_map];congr 1;funext x;exact B3N φ ζ s t x
theorem A9Q (s:Nat)(t:Ty):∀ l:List (El t),A0J (l.map (A0V s t))=some (l.map (enc t))
 | []=>rfl
 |a::r=>by simp only[List.map_cons,A0J,B1P s t a,A9Q s t r]
mutual
inductive T2 where
 |e (s:Nat) (t:Ty) (x:El t)
 |w (v:W)
 |agg (l:List T2)
 |vec (g z:Nat) (l:SL) (n:Nat)
 |hole (n:Nat)
inductive SL where
 |base (s:Nat) (t:Ty) (l:List (El t))
 |set (a:SL) (i:Nat) (u:T2)
 |app (a:SL) (u:T2)
end
instance:Inhabited T2:=⟨.hole 0⟩
inductive O2 where
 |cell (g:Nat) (t:T2)
 |vec (g z:Nat) (l:SL)
 |mp (g:Nat) (k v:Ty) (l:List (El k×El v))
 |gone
instance:Inhabited O2:=⟨.gone⟩
mutual
def cT:T2->T Nat
 |.e s t x=>A0V s t x
 |.w v=>.m (cW v)
 |.agg l=>A0z (cTs l)
 |.vec g z l n=>.vec g z (cSL l) n
 |.hole n=>.hole n
def cTs:List T2->List (T Nat)
 | []=>[]
 |x::r=>cT x::cTs r
def cSL:SL->List (T Nat)
 |.base s t l=>l.map (A0V s t)
 |.set a i u=>(cSL a).set i (cT u)
 |.app a u=>cSL a++[cT u]
end
def cO:O2->Obj Nat
 |.cell g t=>.cell g (cT t)
 |.vec g z l=>.vec g z (cSL l)
 |.mp g k v l=>.mp g (l.map λp=>enc k p.1) (l.map λp=>.p (enc v p.2))
 |.gone=>.gone
theorem A59:∀ l:List T2,cTs l=l.map cT
 | []=>rfl
 |x::r=>by simp only[cTs,List.map_cons,A59 r]
def SL.len:SL->Nat
 |.base _ _ l=>l.length
 |.set a _ _=>a.len
 |.app a _=>a.len+1
theorem SL.len_eq:∀ a:SL,(cSL a).length=a.len
 |.base _ _ l=>by simp[cSL,SL.len]
 |.set a i u=>by simp only[cSL,List.length_set,SL.len];exact SL.len_eq a
 |.app a u=>by simp only[cSL,List.length_append,List.length_cons,List.length_nil,SL.len];rw[SL.len_eq a]
abbrev S2:=List (Nat×W)
abbrev H2:=List (Nat×O2)
def A7l:S2->Nat->W
 | [],_=>.dead 0
 |(j,v)::r,k=>if k==j then v else A7l r k
def A2H:H2->Nat->Option O2
 | [],_=>none
 |(j,v)::r,k=>if k==j then some v else A2H r k
def setA {α:Type}:List (Nat×α)->Nat->α->List (Nat×α)
 | [],k,v=>[(k,v)]
 |(j,u)::r,k,v=>if k==j then(k,v)::r else(j,u)::setA r k v
def cSs:S2->List (Nat×MV)
 | []=>[]
 |(j,v)::r=>(j,cW v)::cSs r
def cHs:H2->List (Nat×Obj Nat)
 | []=>[]
 |(j,v)::r=>(j,cO v)::cHs r
abbrev cS (s:S2):A0o:=mkS (cSs s)
abbrev cH (h:H2):A0b:=mkH (cHs h)
theorem A7T:∀ (s:S2) (k:Nat),cS s k=cW (A7l s k)
 | [],k=>rfl
 |(j,v)::r,k=>by
   show mkS ((j,cW v)::cSs r) k=cW (if k==j then v else A7l r k)
   rw[C96];by_cases h:k=j
   . simp[h]
   . rw[if_neg h,if_neg (by simpa using h)];exact A7T r k
theorem A82:∀ (h:H2) (k:Nat),cH h k=(A2H h k).map cO
 | [],k=>rfl
 |(j,v)::r,k=>by
   show mkH ((j,cO v)::cHs r) k=Option.map cO (if k==j then some v else A2H r k)
   rw[A48];by_cases h:k=j
   . simp[h]
   . rw[if_neg h,if_neg (by simpa using h)];exact A82 r k
theorem C5i:∀ (s:S2) (k:Nat) (v:W),cSs (setA s k v)=A8Z (cSs s) k (cW v)
 | [],k,v=>rfl
 |(j,u)::r,k,v=>by
   simp only[setA,cSs,A8Z];by_cases h:k=j
   . simp[h,cSs]
   . rw[if_neg h,if_neg (by simpa using h)];simp only[cSs,C5i r k v]
theorem C5j:∀ (s:H2) (k:Nat) (v:O2),cHs (setA s k v)=A8Z (cHs s) k (cO v)
 | [],k,v=>rfl
 |(j,u)::r,k,v=>by
   simp only[setA,cHs,A8Z];by_cases h:k=j
   . simp[h,cHs]
   . rw[if_neg h,if_neg (by simpa using h)];simp only[cHs,C5j r k v]
theorem A10 (h:H2)(k:Nat)(o:O2):upd (cH h) k (some (cO o))=cH (setA h k o):=by
 rw[C5g,←C5j]
theorem A94 (s:S2)(k:Nat)(v:W):upd (cS s) k (cW v)=cS (setA s k v):=by
 rw[D10,←C5i]
mutual
def wcs:W->Nat
 |.c p=>p.cs
 |.v t _=>t.cs
 |.agg l=>C21 l
 |.tup _=>0
 |.dead n=>n
 |.nil _ | .own .. | .ptr .. | .mref .. | .fn ..=>1
def C21:List W->Nat
 | []=>0
 |x::r=>wcs x+C21 r
end
mutual
theorem B8v:∀ w:W,(cW w).cs=wcs w
 |.c p=>rfl
 |.v t x=>A7k t x
 |.agg l=>by simp only[cW,MV.cs,wcs];exact B9P l
 |.tup _=>rfl
 |.dead n=>rfl
 |.nil _ | .own .. | .ptr .. | .mref .. | .fn ..=>rfl
theorem B9P:∀ l:List W,MV.css (cWs l)=C21 l
 | []=>rfl
 |x::r=>by simp only[cWs,MV.css,C21];rw[B8v x,B9P r]
end
def D1r:W->Bool
 |.dead _ | .tup _=>false
 |_=>true
theorem D0e (w:W):A3Z (cW w)=D1r w:=by cases w<;>rfl
def C6F:W->Bool
 |.c p=>p.isAgg
 |.v t _=>t.isAgg
 |.agg _=>true
 |_=>false
theorem C5k (w:W):(cW w).isAgg=C6F w:=by
 cases w<;>simp only[cW,C6F]<;>first | rfl | exact B1O _ _
mutual
def B6b:W->List Nat
 |.own id .. | .ptr id .. | .mref id ..=>[id]
 |.agg l | .fn _ l | .tup l=>A6M l
 |_=>[]
def A6M:List W->List Nat
 | []=>[]
 |x::r=>B6b x++A6M r
end
mutual
theorem B7j:∀ w:W,A0M (cW w)=B6b w
 |.own .. | .ptr .. | .mref .. | .c _ | .v _ _ | .nil _ | .dead _=>rfl
 |.agg l | .fn _ l | .tup l=>by simp only[cW,A0M,B6b];exact A8u l
theorem A8u:∀ l:List W,A0W (cWs l)=A6M l
 | []=>rfl
 |x::r=>by simp only[cWs,A0W,A6M];rw[B7j x,A8u r]
end
mutual
def A7C:T2->Option (List Nat)
 |.e ..=>some []
 |.hole _=>some []
 |.w v=>some (B6b v)
 |.agg l=>B2L l
 |.vec _ _ l _=>if B06 l then some [] else none
def B2L:List T2->Option (List Nat)
 | []=>some []
 |x::r=>match A7C x,B2L r with | some a,some b=>some (a++b) | _,_=>none
def B06:SL->Bool
 |.base ..=>true
 |.set a _ u=>B06 a&&(match A7C u with | some []=>true | _=>false)
 |.app a u=>B06 a&&(match A7C u with | some []=>true | _=>false)
end
def B8w:O2->Option (List Nat)
 |.cell _ t=>A7C t
 |.vec _ _ l=>if B06 l then some [] else none
 |.mp ..=>some []
 |.gone=>some []
theorem B3O {l:List (T Nat)}:A1G l=[]↔∀t∈l,A5k t=[]:=by
 induction l with
 |nil=>simp[A1G]
 |cons a r ih=>simp[A1G,ih]
mutual
theorem B3P:∀ (t:T2) (l:List Nat),A7C t=some l->A5k (cT t)=l
 |.e s t x,l,h=>by simp only[A7C,Option.some.injEq] at h;subst h;exact B1Q s t x
 |.hole _,l,h=>by simp only[A7C,Option.some.injEq] at h;subst h;rfl
 |.w v,l,h=>by simp only[A7C,Option.some.injEq] at h;subst h;exact B7j v
 |.agg q,l,h=>by
   simp only[A7C] at h;simp only[cT,C20];exact C07 q l h
 |.vec g z q n,l,h=>by
   simp only[A7C] at h;split at h
   . rename_i hf;cases h;exact B1R q hf
   . cases h
theorem C07:∀ (q:List T2) (l:List Nat),B2L q=some l->A1G (cTs q)=l
 | [],l,h=>by simp only[B2L,Option.some.injEq] at h;subst h;rfl
 |x::r,l,h=>by
   simp only[B2L] at h;cases h1:A7C x with
   |none=>rw[h1] at h;cases h
   |some a =>
     cases h2:B2L r with
     |none=>rw[h1,h2] at h;cases h
     |some b =>
       rw[h1,h2] at h;cases h;simp only[cTs,A1G];rw[B3P x a h1,C07 r b h2]
theorem B1R:∀ q:SL,B06 q=true->A1G (cSL q)=[]
 |.base s t l,_=>B6P s t l
 |.set a i u,h=>by
   simp only[B06,Bool.and_eq_true] at h;obtain⟨h1,h2⟩:=h;have h3:=B1R a h1;have h4:A5k (cT u)=[]:=by
    cases hu:A7C u with
    |none=>rw[hu] at h2;cases h2
    |some l =>
      cases l with
      |nil=>exact B3P u [] hu
      |cons _ _=>rw[hu] at h2;cases h2
   rw[B3O] at h3 ⊢;intro t ht;simp only[cSL] at ht;rcases List.mem_or_eq_of_mem_set ht with ht | ht
   . exact h3 t ht
   . rw[ht,h4]
 |.app a u,h=>by
   simp only[B06,Bool.and_eq_true] at h;obtain⟨h1,h2⟩:=h;have h3:=B1R a h1;have h4:A5k (cT u)=[]:=by
    cases hu:A7C u with
    |none=>rw[hu] at h2;cases h2
    |some l =>
      cases l with
      |nil=>exact B3P u [] hu
      |cons _ _=>rw[hu] at h2;cases h2
   rw[B3O] at h3 ⊢;intro t ht;simp only[cSL,List.mem_append,List.mem_singleton] at ht;rcases ht with ht | ht
   . exact h3 t ht
   . rw[ht,h4]
end
theorem D0f (o:O2)(l:List Nat)(h:B8w o=some l):A8C (some (cO o))=l:=by
 cases o with
 |cell g t=>exact B3P t l h
 |vec g z q =>
   simp only[B8w] at h;split at h
   . rename_i hf;cases h;exact B1R q hf
   . cases h
 |mp g k v m =>
   simp only[B8w,Option.some.injEq] at h;subst h;show A1G (m.map λp=>T.p (enc v p.2))=[]
   rw[B3O];intro t ht;simp only[List.mem_map] at ht;obtain⟨p,_,rfl⟩:=ht;rfl
 |gone=>simp only[B8w,Option.some.injEq] at h;subst h;rfl
abbrev TV:=(t:Ty)×El t
def pv?:W->Option TV
 |.v t x=>some ⟨t,x⟩
 | .c p=>match tyP p with
   |some t=>match dec t p with | some x=>some ⟨t,x⟩ | none=>none
   |none=>none
 |_=>none
theorem B2M {w:W}{t:Ty}{x:El t}(h:pv? w=some ⟨t,x⟩):cW w=.p (enc t x):=by
 cases w<;>simp only[pv?,reduceCtorEq] at h
 case v=>cases h;rfl
 case c p =>
  cases h1:tyP p with
  |none=>rw[h1] at h;cases h
  |some u =>
    rw[h1] at h;simp only at h;cases h2:dec u p with
    |none=>rw[h2] at h;cases h
    |some y=>rw[h2] at h;cases h;rw[A9x _ _ _ h2];rfl
def as? (t:Ty):W->Option (El t)
 |.v _ x=>A3z t x
 |.c p=>dec t p
 |_=>none
theorem B2N {t:Ty}{w:W}{x:El t}(h:as? t w=some x):cW w=.p (enc t x):=by
 cases w<;>simp only[as?,reduceCtorEq] at h
 case v u y=>rw[←(A2u h).2.2];rfl
 case c p=>rw[A9x _ _ _ h];rfl
def A8e:W->Option (IntKind×Int)
 |.v (.int k) x=>some (k,x)
 |.c (.int k n)=>some (k,n)
 |_=>none
theorem A4U {w:W}{k:IntKind}{n:Int}(h:A8e w=some (k,n)):cW w=.p (.int k n):=by
 unfold A8e at h;split at h<;>cases h<;>rfl
def B8x:W->Option Bool
 |.v .bool x=>some x
 |.c (.bool b)=>some b
 |_=>none
theorem B7k {w:W}{b:Bool}(h:B8x w=some b):cW w=.p (.bool b):=by
 unfold B8x at h;split at h<;>cases h<;>rfl
def B5g:W->Option ByteArray
 |.v .str x=>some x
 |.c (.str b)=>some b
 |_=>none
theorem B0L {w:W}{b:ByteArray}(h:B5g w=some b):cW w=.p (.str b):=by
 unfold B5g at h;split at h<;>cases h<;>rfl
def B5h (z:Nat)(n:Nat):W->Step
 |.c _=>.f n (n*z)
 |_=>.k n z
theorem C8j (z n:Nat)(w:W):(B5h z n w).ix=n:=by cases w<;>rfl
theorem C8k (z n:Nat)(w:W):(B5h z n w).of=n*z:=by cases w<;>rfl
end Go.Mid
/- Ways through owned memory: reading and changing a place. -/
namespace Go.Mid
set_option linter.unusedSimpArgs false
set_option linter.unusedVariables false
def B1S:(ts:List Ty)->Els ts->Nat->Option TV
 | [],_,_=>none
 | t::r,x,i=>match i with
   |0=>some ⟨t,hdE r x⟩
   |i+1=>B1S r (tlE r x) i
theorem B07 (s:Nat):∀ (ts:List Ty) (x:Els ts) (i:Nat) (t:Ty) (y:El t),B1S ts x i=some ⟨t,y⟩->
 (A1g ts x)[i]?=some (enc t y)∧(A1i s ts x)[i]?=some (A0V s t y)
 | [],_,_,_,_,h=>by cases h
 |u::r,x,0,t,y,h=>by
   simp only[B1S,Option.some.injEq] at h;cases h;exact⟨rfl,rfl⟩
 |u::r,x,i+1,t,y,h=>by
   simp only[B1S] at h
   have:=B07 s r (tlE r x) i t y h
   simpa only[A1g,A1i,List.getElem?_cons_succ] using this
def B9Q:(ts:List Ty)->Els ts->Nat->(t:Ty)->El t->Option (Els ts)
 | [],_,_,_,_=>none
 | u::r,x,i,t,y=>match i with
   |0=>match A3z u y with | some z=>some (mkE r z (tlE r x)) | none=>none
   |i+1=>match B9Q r (tlE r x) i t y with | some q=>some (mkE r (hdE r x) q) | none=>none
theorem C5l (s:Nat):∀ (ts:List Ty) (x:Els ts) (i:Nat) (t:Ty) (y:El t) (x':Els ts),B9Q ts x i t y=some x'->
 A1i s ts x'=(A1i s ts x).set i (A0V s t y)
 | [],_,_,_,_,_,h=>by cases h
 |u::r,x,0,t,y,x',h=>by
   simp only[B9Q] at h;cases hc:A3z u y with
   |none=>rw[hc] at h;cases h
   |some z =>
     rw[hc] at h;simp only[Option.some.injEq] at h;subst h;obtain⟨rfl,he,_⟩:=A2u hc;cases he;simp only[A1i,A5E,A5F,List.set_cons_zero]
 |u::r,x,i+1,t,y,x',h=>by
   simp only[B9Q] at h;cases hc:B9Q r (tlE r x) i t y with
   |none=>rw[hc] at h;cases h
   |some z =>
     rw[hc] at h;simp only[Option.some.injEq] at h;subst h;simp only[A1i,A5E,A5F,List.set_cons_succ];rw[C5l s r _ i t y z hc]
def B9R (t:Ty)(i:Nat):(ts:List Ty)->Els ts->Nat->Option (El t)
 | [],_,_=>none
 | [_],x,_=>A3z t (hdE [] x)
 | _::u2::r,x,j=>match A3z t (hdE (u2::r) x),B9R t i (u2::r) (tlE (u2::r) x) (j+1) with
    |some a,some b=>some (bif i==j then a else b)
    |_,_=>none
theorem B9S (s:Nat)(t:Ty)(i:Nat):∀ (ts:List Ty) (x:Els ts) (j:Nat) (y:El t),B9R t i ts x j=some y->j<=i->i<j+ts.length->
 (A1g ts x)[i-j]?=some (enc t y)∧(A1i s ts x)[i-j]?=some (A0V s t y)
 | [],_,_,_,h,_,_=>by cases h
 | [u],x,j,y,h,h1,h2=>by
   have h:A3z t (hdE [] x)=some y:=h;have e:i-j=0:=by simp at h2;omega
   rw[e];obtain⟨rfl,he,_⟩:=A2u h;cases he;exact⟨rfl,rfl⟩
 |u::u2::r,x,j,y,h,h1,h2=>by
   simp only[B9R] at h;cases hc:A3z t (hdE (u2::r) x) with
   |none=>rw[hc] at h;cases h
   |some a =>
     cases hd:B9R t i (u2::r) (tlE (u2::r) x) (j+1) with
     |none=>rw[hc,hd] at h;cases h
     |some b =>
       rw[hc,hd] at h;simp only[Option.some.injEq] at h;by_cases e:i=j
       . subst e;simp only[beq_self_eq_true,cond_true] at h;subst h;obtain⟨rfl,he,_⟩:=A2u hc;cases he;rw[Nat.sub_self];exact⟨rfl,rfl⟩
       . have e2:(i==j)=false:=by simpa using e
         rw[e2] at h;simp only[cond_false] at h;subst h
         have:=B9S s t i (u2::r) (tlE (u2::r) x) (j+1) b hd (by omega) (by simp only[List.length_cons] at h2 ⊢;omega)
         have e3:i-j=(i-(j+1))+1:=by omega
         rw[e3];simpa only[A1g,A1i,List.getElem?_cons_succ] using this
def C22 (t:Ty)(y:El t)(i:Nat):(ts:List Ty)->Els ts->Nat->Option (Els ts)
 | [],_,_=>some ()
 | u::r,x,j=>match A3z u y,C22 t y i r (tlE r x) (j+1) with
   |some a,some b=>some (mkE r (bif i==j then a else hdE r x) b)
   |_,_=>none
theorem C5m (s:Nat)(t:Ty)(y:El t)(i:Nat):∀ (ts:List Ty) (x:Els ts) (j:Nat) (x':Els ts),C22 t y i ts x j=some x'->
 A1i s ts x'=if j<=i then(A1i s ts x).set (i-j) (A0V s t y) else A1i s ts x
 | [],_,_,_,h=>by simp[A1i]
 |u::r,x,j,x',h=>by
   simp only[C22] at h;cases hc:A3z u y with
   |none=>rw[hc] at h;cases h
   |some a =>
     cases hd:C22 t y i r (tlE r x) (j+1) with
     |none=>rw[hc,hd] at h;cases h
     |some b =>
       rw[hc,hd] at h;simp only[Option.some.injEq] at h;subst h;obtain⟨rfl,he,_⟩:=A2u hc;cases he;have ih:=C5m s t y i r (tlE r x) (j+1) b hd;simp only[A1i,A5E,A5F];rw[ih];by_cases e:i=j
       . subst e;simp only[beq_self_eq_true,cond_true,Nat.le_refl,if_true,Nat.sub_self,List.set_cons_zero];rw[if_neg (by omega)]
       . have e2:(i==j)=false:=by simpa using e
         rw[e2];simp only[cond_false];by_cases h1:j<=i
         . rw [if_pos (by omega),if_pos h1]
           have e3:i-j=(i-(j+1))+1:=by omega
           rw[e3,List.set_cons_succ]
         . rw[if_neg (by omega),if_neg h1]
def C14 (t:Ty):List Ty->Bool
 | []=>true
 |u::r=>Ty.eq t u&&C14 t r
theorem B5i {t:Ty}:∀ {ts:List Ty} {i:Nat},C14 t ts=true->i<=ts.length->Ty.css (ts.take i)=i*t.cs
 | [],i,_,h=>by simp at h;subst h;simp[Ty.css]
 |u::r,0,_,_=>by simp[Ty.css]
 |u::r,i+1,h,h1=>by
   simp only[C14,Bool.and_eq_true] at h;have e:=Ty.eq_of _ _ h.1;subst e;simp only[List.take_succ_cons,Ty.css];rw[B5i h.2 (by simpa using h1),Nat.succ_mul];omega
theorem A9y (s:Nat):∀ (ts:List Ty) (x:Els ts) (i:Nat),T.css ((A1i s ts x).take i)=Ty.css (ts.take i)
 | [],_,i=>by simp[A1i,T.css,Ty.css]
 |t::r,x,0=>by simp[T.css,Ty.css]
 |t::r,x,i+1=>by
   simp only[A1i,List.take_succ_cons,T.css,Ty.css];rw[B2K,A9y s r]
theorem A6N:∀ (ts:List Ty) (x:Els ts) (i:Nat),PV.css ((A1g ts x).take i)=Ty.css (ts.take i)
 | [],_,i=>by simp[A1g,PV.css,Ty.css]
 |t::r,x,0=>by simp[PV.css,Ty.css]
 |t::r,x,i+1=>by
   simp only[A1g,List.take_succ_cons,PV.css,Ty.css];rw[A7k,A6N r]
theorem css_append:∀ l m:List PV,PV.css (l++m)=PV.css l+PV.css m
 | [],m=>by simp[PV.css]
 |x::r,m=>by simp only[List.cons_append,PV.css,css_append r m];omega
theorem D0g (L:List (T Nat))(i:Nat)(r:List Nat)(o:Nat):A1b (A0z L) (i::r) o=match L[i]? with | some t=>A1b t r (o+T.css (L.take i)) | none=>none:=by
 rcases A2e L with⟨vs,rfl,h⟩ | h
 . rw [h];simp only [A1b,List.getElem?_map];cases hv:vs[i]? with
   |none=>rfl
   |some v =>
     simp only[Option.map_some];rw[←List.map_take,B5f]
 . rw[h];simp only[A1b];cases L[i]? <;> rfl
theorem D17 (L:List (T Nat))(i:Nat)(r:List Nat):A0e (A0z L) (i::r)=match L[i]? with | some t=>A0e t r | none=>none:=by
 rcases A2e L with⟨vs,rfl,h⟩ | h
 . rw [h];simp only [A0e,List.getElem?_map];cases vs[i]? with
   |none=>rfl
   |some v=>rfl
 . rw[h];simp only[A0e];cases L[i]? <;> rfl
theorem D18 (L:List (T Nat))(i:Nat)(r:List Nat)(u:T Nat):putT (A0z L) (i::r) u=match L[i]? with
 |some t=>match putT t r u with | some w=>some (A0z (L.set i w)) | none=>none
 |none=>none:=by
 rcases A2e L with⟨vs,rfl,h⟩ | h
 . rw [h];simp only [putT,List.getElem?_map];cases vs[i]? with
   |none=>rfl
   |some v=>simp only[Option.map_some];cases putT (T.p v) r u<;>rfl
 . rw [h];simp only [putT];cases L[i]? with
   |none=>rfl
   |some v=>simp only;cases putT v r u<;>rfl
def SL.get:SL->Nat->Tree T2
 |.base s t l,i=>.opt (B5e t) l[i]? λx=>.leaf (.e s t x)
 |.set a j u,i=>.ite (i==j) ((Tree.ask (Nat.blt j a.len)).bind λ_=>.leaf u) (a.get i)
 |.app a u,i=>.ite (i==a.len) (.leaf u) (a.get i)
theorem SL.get_eq:∀ (a:SL) (i:Nat) (u:T2),(a.get i).den=some u->(cSL a)[i]?=some (cT u)
 |.base s t l,i,u,h=>by
   simp only[SL.get,Tree.den_opt,Tree.den_leaf] at h;obtain⟨x,h1,rfl⟩:=h;simp only[cSL,List.getElem?_map,h1];rfl
 |.set a j v,i,u,h=>by
   simp only[SL.get,Tree.den_ite,Tree.den_bind,Tree.den_ask,Tree.den_leaf] at h;rcases h with⟨h1,_,h2,rfl⟩ | ⟨h1,h2⟩
   . simp only[beq_iff_eq] at h1;subst h1;have h3:i<a.len:=Nat.blt_eq.mp h2;simp only[cSL];rw[List.getElem?_set_self (by rw[SL.len_eq];exact h3)]
   . have h1:¬ i=j:=by simpa using h1
     simp only[cSL];rw[List.getElem?_set_ne (Ne.symm h1)];exact SL.get_eq a i u h2
 |.app a v,i,u,h=>by
   simp only[SL.get,Tree.den_ite,Tree.den_leaf] at h;rcases h with⟨h1,rfl⟩ | ⟨h1,h2⟩
   . simp only[beq_iff_eq] at h1;subst h1;simp only[cSL];rw[List.getElem?_append_right (by rw[SL.len_eq];exact Nat.le_refl _),SL.len_eq,Nat.sub_self];rfl
   . have:=SL.get_eq a i u h2
     simp only[cSL];rw[List.getElem?_append_left (List.getElem?_eq_some_iff.1 this).1];exact this
def B9T (s:Nat)(t:Ty):T2->Option (El t)
 |.e s' _ x=>if s'==s || t.pure then A3z t x else none
 |_=>none
theorem C5n {s:Nat}{t:Ty}{u:T2}{x:El t}(h:B9T s t u=some x):cT u=A0V s t x:=by
 cases u<;>simp only[B9T,reduceCtorEq] at h;rename_i s' t' y;split at h
 . rename_i hc;obtain ⟨rfl,he,_⟩:=A2u h;cases he;simp only [Bool.or_eq_true,beq_iff_eq] at hc;rcases hc with rfl | hc
   . rfl
   . simp only[cT];rw[A1B _ _ _ hc,A1B _ _ _ hc]
 . cases h
def SL.put:SL->Nat->T2->SL
 |.base s t l,i,u=>match B9T s t u with | some x=>.base s t (l.set i x) | none=>.set (.base s t l) i u
 |a,i,u=>.set a i u
theorem SL.put_eq (a:SL)(i:Nat)(u:T2):cSL (a.put i u)=(cSL a).set i (cT u):=by
 cases a with
 |base s t l =>
   simp only[SL.put];cases h:B9T s t u with
   |none=>rfl
   |some x=>simp only[cSL];rw[List.map_set,C5n h]
 |set a j v=>rfl
 |app a v=>rfl
def SL.putT (i:Nat)(u:T2):SL->Tree SL
 |.set a j v=>.ite (i==j) (.leaf (a.put i u)) (.leaf (.set (.set a j v) i u))
 |a=>.leaf (a.put i u)
theorem SL.putT_eq {i:Nat}{u:T2}{a b:SL}(h:(SL.putT i u a).den=some b):cSL b=(cSL a).set i (cT u):=by
 cases a with
 |set a j v =>
   simp only[SL.putT,Tree.den_ite,Tree.den_leaf] at h;rcases h with⟨h1,rfl⟩ | ⟨_,rfl⟩
   . simp only[beq_iff_eq] at h1;subst h1;rw[SL.put_eq];simp only[cSL,List.set_set]
   . rfl
 |base s t l=>simp only[SL.putT,Tree.den_leaf] at h;subst h;exact SL.put_eq _ _ _
 |app a v=>simp only[SL.putT,Tree.den_leaf] at h;subst h;exact SL.put_eq _ _ _
def SL.push:SL->T2->SL
 |.base s t l,u=>match B9T s t u with | some x=>.base s t (l++[x]) | none=>.app (.base s t l) u
 |a,u=>.app a u
theorem SL.push_eq (a:SL)(u:T2):cSL (a.push u)=cSL a++[cT u]:=by
 cases a with
 |base s t l =>
   simp only[SL.push];cases h:B9T s t u with
   |none=>rfl
   |some x=>simp only[cSL,List.map_append,List.map_cons,List.map_nil];rw[C5n h]
 |set a j v=>rfl
 |app a v=>rfl
mutual
def tcs:T2->Nat
 |.e _ t _=>t.cs
 |.w v=>wcs v
 |.agg l=>C23 l
 |.vec ..=>1
 |.hole n=>n
def C23:List T2->Nat
 | []=>0
 |x::r=>tcs x+C23 r
end
mutual
theorem B2O:∀ t:T2,(cT t).cs=tcs t
 |.e s t x=>B2K s t x
 |.w v=>B8v v
 |.agg l=>by simp only[cT,B8r,tcs];exact B9U l
 |.vec ..=>rfl
 |.hole n=>rfl
theorem B9U:∀ l:List T2,T.css (cTs l)=C23 l
 | []=>rfl
 |x::r=>by simp only[cTs,T.css,C23];rw[B2O x,B9U r]
end
def C15:List Ty->Nat->Option Ty
 | [],_=>none
 |t::r,z=>if C14 t (t::r)&&t.cs==z then some t else none
def C24:T2->Step->Tree T2
 | .e s (.agg ts) x,st=>match st with
   |.f i o=>if Ty.css (ts.take i)==o then(Tree.ofO (B1S ts x i)).bind λp=>.leaf (.e s p.1 p.2) else .fail
   | .k i z=>match C15 ts z with
     |some t=>(Tree.ask (Nat.blt i ts.length)).bind λ_=>(Tree.ofO (B9R t i ts x 0)).bind λy=>.leaf (.e s t y)
     |none=>.fail
 |.agg l,.f i o=>if C23 (l.take i)==o then Tree.ofO l[i]? else .fail
 |_,_=>.fail
theorem B9V {t:T2}{st:Step}{u:T2}(h:(C24 t st).den=some u):∃L,cT t=A0z L∧L[st.ix]?=some (cT u)∧T.css (L.take st.ix)=st.of:=by
 unfold C24 at h;split at h
 . rename_i s ts x;refine ⟨A1i s ts x,rfl,?_⟩;split at h
   . rename_i i o;split at h
     . rename_i ho;simp only[Tree.den_bind,Tree.den_ofO,Tree.den_leaf] at h;obtain⟨⟨t,y⟩,h1,rfl⟩:=h;exact⟨(B07 s ts x i t y h1).2,(A9y s ts x i).trans (beq_iff_eq.mp ho)⟩
     . simp at h
   . rename_i i z;split at h
     . rename_i t ht;simp only [Tree.den_bind,Tree.den_ask,Tree.den_ofO,Tree.den_leaf] at h;obtain ⟨_,h1,y,h2,rfl⟩:=h;have h1:i<ts.length:=Nat.blt_eq.mp h1
       have:=(B9S s t i ts x 0 y h2 (Nat.zero_le _) (by omega)).2
       rw[Nat.sub_zero] at this;refine⟨this,(A9y s ts x i).trans ?_⟩;unfold C15 at ht;split at ht
       . cases ht
       . split at ht
         . rename_i hc;cases ht;simp only[Bool.and_eq_true,beq_iff_eq] at hc;rw[←hc.2];exact B5i hc.1 (by show i<=_;omega)
         . cases ht
     . simp at h
 . rename_i l i o;split at h
   . rename_i ho;rw [Tree.den_ofO] at h;refine ⟨cTs l,rfl,?_,?_⟩
     . rw[A59,List.getElem?_map];show Option.map cT l[i]?=_;rw[h];rfl
     . show T.css ((cTs l).take i)=o;rw[A59,←List.map_take,←A59,B9U];simpa using ho
   . simp at h
 . simp at h
def B6c (s:Nat):(ts:List Ty)->Els ts->List T2
 | [],_=>[]
 |t::r,x=>.e s t (hdE r x)::B6c s r (tlE r x)
theorem B3Q (s:Nat):∀ (ts:List Ty) (x:Els ts),cTs (B6c s ts x)=A1i s ts x
 | [],_=>rfl
 |t::r,x=>by simp only[B6c,cTs,A1i,B3Q s r];rfl
def D0h:T2->Step->T2->Tree T2
 | .e s (.agg ts) x,st,u=>match st with
   | .f i _=>match (match u with | .e s' t y=>if s'==s || t.pure then B9Q ts x i t y else none | _=>none) with
     |some x'=>.leaf (.e s (.agg ts) x')
     |none=>.leaf (.agg ((B6c s ts x).set i u))
   | .k i _=>match u with
     |.e s' t y=>if s'==s || t.pure then(Tree.ofO (C22 t y i ts x 0)).bind λx'=>.leaf (.e s (.agg ts) x') else .fail
     |_=>.fail
 |.agg l,.f i _,u=>.leaf (.agg (l.set i u))
 |_,_,_=>.fail
theorem D19 {t:T2}{st:Step}{u t':T2}(h:(D0h t st u).den=some t'):∃L,cT t=A0z L∧cT t'=A0z (L.set st.ix (cT u)):=by
 have hs:∀(s s':Nat) (t:Ty) (y:El t),(s'==s || t.pure)=true->A0V s t y=A0V s' t y:=by
  intro s s' t y hc;simp only[Bool.or_eq_true,beq_iff_eq] at hc;rcases hc with rfl | hc
  . rfl
  . rw[A1B _ _ _ hc,A1B _ _ _ hc]
 unfold D0h at h;split at h
 . rename_i s ts x;refine ⟨A1i s ts x,rfl,?_⟩;split at h
   . rename_i i o;split at h
     . rename_i x' hx;simp only [Tree.den_leaf] at h;subst h;split at hx
       . rename_i s' t y;split at hx
         . rename_i hc;simp only[cT,A0V,Step.ix];rw[C5l s ts x i t y x' hx,hs s s' t y hc]
         . cases hx
       . cases hx
     . simp only[Tree.den_leaf] at h;subst h;simp only[cT,Step.ix];rw[A59,List.map_set,←A59];exact congrArg (λq=>A0z (List.set q i (cT u))) (B3Q s ts x)
   . rename_i i z;split at h
     . rename_i s' t y;split at h
       . rename_i hc;simp only [Tree.den_bind,Tree.den_ofO,Tree.den_leaf] at h;obtain ⟨x',h1,rfl⟩:=h
         have:=C5m s t y i ts x 0 x' h1
         simp only[Nat.zero_le,if_true,Nat.sub_zero] at this;simp only[cT,A0V,Step.ix];rw[this,hs s s' t y hc]
       . simp at h
     . simp at h
 . rename_i l i o;simp only[Tree.den_leaf] at h;subst h;refine⟨cTs l,rfl,?_⟩;simp only[cT,Step.ix];rw[A59,List.map_set,←A59]
 . simp at h
def B2P:List Step->T2->Tree T2
 | [],t=>.leaf t
 |s::r,t=>(C24 t s).bind (B2P r)
theorem B5j:∀ {p:List Step} {t u:T2} {o:Nat},(B2P p t).den=some u->A1b (cT t) (ixs p) o=some (cT u,o+ofs p)
 | [],t,u,o,h=>by
   simp only[B2P,Tree.den_leaf] at h;subst h;cases hc:cT t<;>rfl
 |s::r,t,u,o,h=>by
   simp only[B2P,Tree.den_bind] at h;obtain⟨v,h1,h2⟩:=h;obtain⟨L,e1,e2,e3⟩:=B9V h1;simp only[ixs,ofs];rw[e1,D0g,e2];simp only;rw[e3,B5j h2,Nat.add_assoc]
def B9W:T2->Step->Tree T2
 |.vec _ _ l _,st=>l.get st.ix
 |.e s (.vec z t) l,st=>SL.get (.base s t l) st.ix
 |t,st=>C24 t st
theorem D2a {t:T2}{st:Step}{u:T2}(h:(B9W t st).den=some u)(r:List Nat):A0e (cT t) (st.ix::r)=A0e (cT u) r:=by
 unfold B9W at h;split at h
 . rename_i g z l n
   have:=SL.get_eq _ _ _ h
   simp only[cT,A0e,this]
 . rename_i s z t l
   have:=SL.get_eq _ _ _ h
   have e:cT (.e s (.vec z t) l)=.vec s z (cSL (.base s t l)) (List.length (α:=El t) l):=rfl;rw[e];simp only[A0e,this]
 . obtain⟨L,e1,e2,_⟩:=B9V h;rw[e1,D17,e2]
def D0i:T2->Step->T2->Tree T2
 |.vec g z l n,st,u=>(SL.putT st.ix u l).bind λl'=>.leaf (.vec g z l' n)
 |.e s (.vec z t) l,st,u=>.leaf (.vec s z (SL.put (.base s t l) st.ix u) (List.length (α:=El t) l))
 |t,st,u=>D0h t st u
theorem D2b {t:T2}{st:Step}{u v t':T2}{r:List Nat}{w:T Nat}(hk:(B9W t st).den=some u)(hp:putT (cT u) r w=some (cT v))(h:(D0i t st v).den=some t'):putT (cT t) (st.ix::r) w=some (cT t'):=by
 unfold D0i at h;split at h
 . rename_i g z l n
   have:=SL.get_eq _ _ _ hk
   simp only[Tree.den_bind,Tree.den_leaf] at h;obtain⟨l',hl,rfl⟩:=h;simp only[cT,putT,this,hp,SL.putT_eq hl]
 . rename_i s z t l
   have:=SL.get_eq _ _ _ hk
   simp only[Tree.den_leaf] at h;subst h;have e:cT (.e s (.vec z t) l)=.vec s z (cSL (.base s t l)) (List.length (α:=El t) l):=rfl;rw[e];simp only[putT,this,hp,cT,SL.put_eq]
 . rename_i hx1 hx2;have hk:(C24 t st).den=some u:=by
    unfold B9W at hk;split at hk
    . exact absurd rfl (hx1 _ _ _ _)
    . exact absurd rfl (hx2 _ _ _ _)
    . exact hk
   obtain⟨L,e1,e2,_⟩:=B9V hk;obtain⟨L',e3,e4⟩:=D19 h;have hL:L=L':=by
    have e:A0z L=A0z L':=by rw[←e1,←e3]
    rcases A2e L with⟨vs,rfl,h1⟩ | h1<;>rcases A2e L' with⟨vs',rfl,h2⟩ | h2<;>rw[h1,h2] at e
    . simp only[T.p.injEq,PV.agg.injEq] at e;rw[e]
    . cases e
    . cases e
    . simpa using e
   subst hL;rw[e1,D18,e2];simp only[hp];rw[e4]
def B6d:List Step->T2->Tree T2
 | [],t=>.leaf t
 |s::r,t=>(B9W t s).bind (B6d r)
theorem B7l:∀ {p:List Step} {t u:T2},(B6d p t).den=some u->A0e (cT t) (ixs p)=some (cT u)
 | [],t,u,h=>by
   simp only[B6d,Tree.den_leaf] at h;subst h;cases hc:cT t<;>rfl
 |s::r,t,u,h=>by
   simp only[B6d,Tree.den_bind] at h;obtain⟨v,h1,h2⟩:=h;simp only[ixs];rw[D2a h1,B7l h2]
def B6e (u:T2):List Step->T2->Tree T2
 | [],_=>.leaf u
 |s::r,t=>(B9W t s).bind λc=>(B6e u r c).bind λc'=>D0i t s c'
theorem B7m:∀ {p:List Step} {t u t':T2},(B6e u p t).den=some t'->putT (cT t) (ixs p) (cT u)=some (cT t')
 | [],t,u,t',h=>by
   simp only[B6e,Tree.den_leaf] at h;subst h;cases hc:cT t<;>rfl
 |s::r,t,u,t',h=>by
   simp only[B6e,Tree.den_bind] at h;obtain⟨c,h1,c',h2,h3⟩:=h;simp only[ixs];exact D2b h1 (B7m h2) h3
def A7D:O2->List Step->Tree T2
 |.cell _ t,p=>B6d p t
 |.vec _ _ l,s::r=>(l.get s.ix).bind (B6d r)
 |_,_=>.fail
theorem A7m {o:O2}{p:List Step}{u:T2}(h:(A7D o p).den=some u):A0j (some (cO o)) (ixs p)=some (cT u):=by
 unfold A7D at h;split at h
 . exact B7l h
 . simp only[Tree.den_bind] at h;obtain⟨v,h1,h2⟩:=h;simp only[cO,ixs,A0j,SL.get_eq _ _ _ h1];exact B7l h2
 . simp at h
def A83 (u:T2):O2->List Step->Tree O2
 |.cell g t,p=>(B6e u p t).bind λt'=>.leaf (.cell g t')
 |.vec g z l,s::r=>(l.get s.ix).bind λc=>(B6e u r c).bind λc'=>(SL.putT s.ix c' l).bind λl'=>.leaf (.vec g z l')
 |_,_=>.fail
theorem A6w {o o':O2}{p:List Step}{u:T2}(h:(A83 u o p).den=some o'):put (some (cO o)) (ixs p) (cT u)=some (cO o'):=by
 unfold A83 at h;split at h
 . simp only[Tree.den_bind,Tree.den_leaf] at h;obtain⟨t',h1,rfl⟩:=h;simp only[cO,put,B7m h1]
 . simp only[Tree.den_bind,Tree.den_leaf] at h;obtain⟨c,h1,c',h2,l',h3,rfl⟩:=h;simp only[cO,ixs,put,SL.get_eq _ _ _ h1,B7m h2,SL.putT_eq h3]
 . simp at h
def C16:T2->Tree (Nat×Nat×SL)
 |.vec g z l _=>.leaf (g,z,l)
 |.e s (.vec z t) l=>.leaf (s,z,.base s t l)
 |_=>.fail
theorem C25 {t:T2}{g z:Nat}{l:SL}(h:(C16 t).den=some (g,z,l)):∃n,cT t=.vec g z (cSL l) n:=by
 unfold C16 at h;split at h
 . simp only[Tree.den_leaf,Prod.mk.injEq] at h;obtain⟨rfl,rfl,rfl⟩:=h;exact⟨_,rfl⟩
 . simp only[Tree.den_leaf,Prod.mk.injEq] at h;obtain⟨rfl,rfl,rfl⟩:=h;exact⟨_,rfl⟩
 . simp at h
def A6a:O2->List Step->Tree (Nat×Nat×SL)
 |.vec g z l,[]=>.leaf (g,z,l)
 |o,p=>(A7D o p).bind C16
theorem C6G {o:Obj Nat}{p:List Nat}{a z:Nat}{l:List (T Nat)}{n:Nat}(h:A0j (some o) p=some (.vec a z l n)):A0D (some o) p=some (a,z,l):=by
 unfold A0D;split
 . rename_i h1;cases h1;simp[A0j] at h
 . rw[h]
theorem A3t {o:O2}{p:List Step}{g z:Nat}{l:SL}(h:(A6a o p).den=some (g,z,l)):A0D (some (cO o)) (ixs p)=some (g,z,cSL l):=by
 unfold A6a at h;split at h
 . simp only[Tree.den_leaf,Prod.mk.injEq] at h;obtain⟨rfl,rfl,rfl⟩:=h;rfl
 . simp only [Tree.den_bind] at h;obtain ⟨u,h1,h2⟩:=h;obtain ⟨n,h3⟩:=C25 h2
   have:=A7m h1
   rw[h3] at this;exact C6G this
def B8y (s:Step)(z:Nat):Bool:=match s with | .f i o=>i*z==o | .k _ y=>y==z
theorem C8l {s:Step}{z:Nat}(h:B8y s z=true):s.ix*z=s.of:=by
 cases s with
 |f i o=>simpa [Step.ix,Step.of,B8y] using h
 |k i y=>simp only[B8y,beq_iff_eq] at h;subst h;rfl
def B3R (o:O2)(np:Option (List Step))(rp:List Step):Tree (T2×Nat) :=
 match np with
 | none=>match o with
   |.cell a t=>(B2P rp t).bind λu=>.leaf (u,a)
   |_=>.fail
 | some p=>match rp with
   |s::r=>(A6a o p).bind λx=>if B8y s x.2.1 then(x.2.2.get s.ix).bind λt=>(B2P r t).bind λu=>.leaf (u,x.1) else .fail
   | []=>.fail
theorem B08 {o:O2}{np:Option (List Step)}{rp:List Step}{u:T2}{g:Nat}(h:(B3R o np rp).den=some (u,g)):look (some (cO o)) (npI np) (ixs rp)=some (cT u,g,ofs rp):=by
 unfold B3R at h;split at h
 . split at h
   . simp only[Tree.den_bind,Tree.den_leaf,Prod.mk.injEq] at h;obtain⟨v,h1,rfl,rfl⟩:=h;simp only[cO,npI,look];rw[B5j h1,Nat.zero_add]
   . simp at h
 . split at h
   . rename_i p s r;simp only [Tree.den_bind] at h;obtain ⟨⟨a,z,l⟩,h1,h⟩:=h;split at h
     . rename_i hc;simp only[Tree.den_bind,Tree.den_leaf,Prod.mk.injEq] at h;obtain⟨t,h2,v,h3,rfl,rfl⟩:=h;have e:=C8l hc;simp only[npI,ixs,look,A3t h1,SL.get_eq _ _ _ h2];rw[B5j h3,e];rfl
     . simp at h
   . simp at h
end Go.Mid
/- Operations on symbolic states: values. -/
namespace Go.Mid
set_option linter.unusedSimpArgs false
set_option linter.unusedVariables false
def B7n:List W->Option ((ts:List Ty)×Els ts)
 | []=>some ⟨[],()⟩
 |w::r=>match pv? w,B7n r with | some p,some q=>some ⟨p.1::q.1,mkE q.1 p.2 q.2⟩ | _,_=>none
theorem B9X:∀ {l:List W} {ts:List Ty} {x:Els ts},B7n l=some ⟨ts,x⟩->l.map cW=(A1g ts x).map .p
 | [],ts,x,h=>by simp only[B7n,Option.some.injEq] at h;cases h;rfl
 |w::r,ts,x,h=>by
   simp only[B7n] at h;cases h1:pv? w with
   |none=>rw[h1] at h;cases h
   |some p =>
     cases h2:B7n r with
     |none=>rw[h1,h2] at h;cases h
     |some q =>
       rw[h1,h2] at h;obtain⟨t,y⟩:=p;obtain⟨us,z⟩:=q;simp only[Option.some.injEq] at h;cases h;simp only[List.map_cons,A1g,A5E,A5F];rw[B2M h1,B9X h2]
theorem B2Q:∀ l:List PV,A3h (l.map .p)=some l
 | []=>rfl
 |x::r=>by simp only[List.map_cons,A3h,B2Q r]
def B7o:W->Bool
 |.c _=>false
 |.v _ _=>false
 |_=>true
theorem B1T:∀ {l:List W},l.any B7o=true->A3h (l.map cW)=none
 |w::r,h=>by
   simp only[List.any_cons,Bool.or_eq_true] at h;simp only[List.map_cons];rcases h with h | h
   . cases w<;>simp only[B7o,Bool.false_eq_true] at h<;>rfl
   . have:=B1T h
     cases hw:cW w<;>simp only[A3h,this]
def B2R (l:List W):Tree W:=match B7n l with
 |some q=>.leaf (.v (.agg q.1) q.2)
 |none=>if l.any B7o then .leaf (.agg l) else .fail
theorem B1U {l:List W}{w:W}(h:(B2R l).den=some w):A50 (l.map cW)=cW w:=by
 unfold B2R at h;split at h
 . rename_i q hq;obtain⟨ts,x⟩:=q;simp only[Tree.den_leaf] at h;subst h;unfold A50;rw[B9X hq,B2Q];rfl
 . split at h
   . rename_i hn;simp only[Tree.den_leaf] at h;subst h;unfold A50;rw[B1T hn,cW,A2x]
   . simp at h
mutual
def A8f (s id:Nat)(p:List Step):(t:Ty)->El t->Tree W
 |.vec _ t,x=>.leaf (.own id p none (List.length (α:=El t) x) s)
 |.agg ts,x=>if Ty.pures ts then .leaf (.v (.agg ts) x) else(B8z s id p 0 0 ts x).bind B2R
 |t,x=>.leaf (.v t x)
def B8z (s id:Nat)(p:List Step)(i o:Nat):(ts:List Ty)->Els ts->Tree (List W)
 | [],_=>.leaf []
 |t::r,x=>(A8f s id (p++[.f i o]) t (hdE r x)).bind λw=>(B8z s id p (i+1) (o+t.cs) r (tlE r x)).bind λl=>.leaf (w::l)
end
mutual
def B7p (id:Nat)(p:List Step):T2->Tree W
 |.e s t x=>A8f s id p t x
 |.w v=>.leaf v
 |.agg l=>(B8A id p 0 0 l).bind B2R
 |.vec g _ _ n=>.leaf (.own id p none n g)
 |.hole n=>.leaf (.dead n)
def B8A (id:Nat)(p:List Step)(i o:Nat):List T2->Tree (List W)
 | []=>.leaf []
 |t::r=>(B7p id (p++[.f i o]) t).bind λw=>(B8A id p (i+1) (o+tcs t) r).bind λl=>.leaf (w::l)
end
theorem C26 (id:Nat):∀ (vs:List PV) (p:List Nat) (i:Nat),A7v id p i (vs.map T.p)=vs.map .p
 | [],_,_=>rfl
 |v::r,p,i=>by simp only[List.map_cons,A7v,A76,C26 id r]
theorem C5o (id:Nat)(p:List Nat)(L:List (T Nat)):A76 id p (A0z L)=A50 (A7v id p 0 L):=by
 rcases A2e L with⟨vs,rfl,h⟩ | h
 . rw[h,C26];unfold A50;rw[B2Q];rfl
 . rw[h];rfl
theorem C27 (p:List Step)(i o:Nat):ixs (p++[.f i o])=ixs p++[i]:=by rw[A81];rfl
mutual
theorem C5p (s id:Nat):∀ (t:Ty) (p:List Step) (x:El t) (w:W),(A8f s id p t x).den=some w->A76 id (ixs p) (A0V s t x)=cW w
 |.vec z t,p,x,w,h=>by
   simp only[A8f,Tree.den_leaf] at h;subst h;rfl
 |.agg ts,p,x,w,h=>by
   simp only[A8f] at h;split at h
   . rename_i hp;simp only [Tree.den_leaf] at h;subst h;rw [A1B s (.agg ts) x (by simpa only [Ty.pure] using hp)]
     rfl
   . simp only [Tree.den_bind] at h;obtain ⟨l,h1,h2⟩:=h;simp only [A0V];rw [C5o]
     have:=C28 s id ts p 0 0 x l h1
     rw[this];exact B1U h2
 |.int k,p,x,w,h=>by simp only[A8f,Tree.den_leaf] at h;subst h;rfl
 |.bool,p,x,w,h=>by simp only[A8f,Tree.den_leaf] at h;subst h;rfl
 |.str,p,x,w,h=>by simp only[A8f,Tree.den_leaf] at h;subst h;rfl
 |.sl t,p,x,w,h=>by simp only[A8f,Tree.den_leaf] at h;subst h;rfl
 |.ref t,p,x,w,h=>by simp only[A8f,Tree.den_leaf] at h;subst h;rfl
 |.opr t,p,x,w,h=>by simp only[A8f,Tree.den_leaf] at h;subst h;rfl
 |.fn f ts,p,x,w,h=>by simp only[A8f,Tree.den_leaf] at h;subst h;rfl
 |.mp k v,p,x,w,h=>by simp only[A8f,Tree.den_leaf] at h;subst h;rfl
 |.nilp,p,x,w,h=>by simp only[A8f,Tree.den_leaf] at h;subst h;rfl
 |.nilf,p,x,w,h=>by simp only[A8f,Tree.den_leaf] at h;subst h;rfl
theorem C28 (s id:Nat):∀ (ts:List Ty) (p:List Step) (i o:Nat) (x:Els ts) (l:List W),(B8z s id p i o ts x).den=some l->A7v id (ixs p) i (A1i s ts x)=l.map cW
 | [],p,i,o,x,l,h=>by simp only[B8z,Tree.den_leaf] at h;subst h;rfl
 |t::r,p,i,o,x,l,h=>by
   simp only[B8z,Tree.den_bind,Tree.den_leaf] at h;obtain⟨w,h1,l',h2,rfl⟩:=h;simp only[A1i,A7v,List.map_cons]
   have:=C5p s id t _ _ w h1
   rw[C27] at this;rw[this,C28 s id r p (i+1) _ _ l' h2]
end
mutual
theorem C5q (id:Nat):∀ (t:T2) (p:List Step) (w:W),(B7p id p t).den=some w->A76 id (ixs p) (cT t)=cW w
 |.e s t x,p,w,h=>C5p s id t p x w h
 |.w v,p,w,h=>by simp only[B7p,Tree.den_leaf] at h;subst h;rfl
 |.agg l,p,w,h=>by
   simp only[B7p,Tree.den_bind] at h;obtain⟨ws,h1,h2⟩:=h;simp only[cT];rw[C5o,C29 id l p 0 0 ws h1];exact B1U h2
 |.vec g z l n,p,w,h=>by simp only[B7p,Tree.den_leaf] at h;subst h;rfl
 |.hole n,p,w,h=>by simp only[B7p,Tree.den_leaf] at h;subst h;rfl
theorem C29 (id:Nat):∀ (l:List T2) (p:List Step) (i o:Nat) (ws:List W),(B8A id p i o l).den=some ws->A7v id (ixs p) i (cTs l)=ws.map cW
 | [],p,i,o,ws,h=>by simp only[B8A,Tree.den_leaf] at h;subst h;rfl
 |t::r,p,i,o,ws,h=>by
   simp only[B8A,Tree.den_bind,Tree.den_leaf] at h;obtain⟨w,h1,l',h2,rfl⟩:=h;simp only[cTs,A7v,List.map_cons]
   have:=C5q id t _ w h1
   rw[C27] at this;rw[this,C29 id r p (i+1) _ l' h2]
end
mutual
def pur:Ty->Ty
 |.vec _ t=>.sl (pur t)
 |.agg ts=>.agg (B9Y ts)
 |.int k=>.int k
 |.bool=>.bool
 |.str=>.str
 |.sl t=>.sl t
 |.ref t=>.ref t
 |.opr t=>.opr t
 |.fn f ts=>.fn f ts
 |.mp k v=>.mp k v
 |.nilp=>.nilp
 |.nilf=>.nilf
def B9Y:List Ty->List Ty
 | []=>[]
 |t::r=>pur t::B9Y r
end
mutual
def A6x:(t:Ty)->El t->El (pur t)
 |.vec _ t,x=>List.map (A6x t) x
 |.agg ts,x=>C17 ts x
 |.int _,x=>x
 |.bool,x=>x
 |.str,x=>x
 |.sl _,x=>x
 |.ref _,x=>x
 |.opr _,x=>x
 |.fn _ _,x=>x
 |.mp _ _,x=>x
 |.nilp,x=>x
 |.nilf,x=>x
def C17:(ts:List Ty)->Els ts->Els (B9Y ts)
 | [],_=>()
 |t::r,x=>mkE (B9Y r) (A6x t (hdE r x)) (C17 r (tlE r x))
end
mutual
theorem B2S:∀ (t:Ty) (x:El t),enc (pur t) (A6x t x)=enc t x
 |.vec z t,x=>by
   have h:∀l:List (El t),(l.map (A6x t)).map (enc (pur t))=l.map (enc t):=by
    intro l
    induction l with
    |nil=>rfl
    |cons a r ih=>simp only[List.map_cons,B2S t a,ih]
   exact congrArg PV.sl (h x)
 |.agg ts,x=>congrArg PV.agg (C3a ts x)
 |.int _,_ | .bool,_ | .str,_ | .sl _,_ | .ref _,_ | .fn _ _,_ | .mp _ _,_ | .nilp,_ | .nilf,_ | .opr _,_=>rfl
theorem C3a:∀ (ts:List Ty) (x:Els ts),A1g (B9Y ts) (C17 ts x)=A1g ts x
 | [],_=>rfl
 |t::r,x=>by
   simp only[B9Y,C17,A1g,A5E,A5F];rw[B2S t,C3a r]
end
def B3S (t:Ty)(l:List (El t)):TV:=if t.pure then⟨.sl t,l⟩ else⟨.sl (pur t),List.map (A6x t) l⟩
theorem B7q (t:Ty)(l:List (El t)):enc (B3S t l).1 (B3S t l).2=.sl (l.map (enc t)):=by
 by_cases hp:t.pure=true
 . rw[show B3S t l=⟨.sl t,l⟩ from if_pos hp];rfl
 . rw[show B3S t l=⟨.sl (pur t),List.map (A6x t) l⟩ from if_neg hp];show PV.sl ((l.map (A6x t)).map (enc (pur t)))=_;rw[List.map_map];congr 2;funext x;exact B2S t x
def toQ:(t:Ty)->El t->TV
 |.vec _ u,l=>B3S u l
 |t,x=>⟨pur t,A6x t x⟩
theorem D3k (t:Ty)(x:El t):enc (toQ t x).1 (toQ t x).2=enc t x:=by
 cases t with
 |vec z u=>exact B7q _ _
 |_=>exact B2S _ _
def toP (t:Ty)(x:El t):TV:=if t.pure then⟨t,x⟩ else toQ t x
theorem D3l (t:Ty)(x:El t):enc (toP t x).1 (toP t x).2=enc t x:=by
 by_cases hp:t.pure=true
 . rw[show toP t x=⟨t,x⟩ from if_pos hp]
 . rw[show toP t x=toQ t x from if_neg hp];exact D3k t x
def B8B (t:Ty)(l:List (El t)):(t:Ty)×List (El t):=if t.pure then⟨t,l⟩ else⟨pur t,List.map (A6x t) l⟩
theorem D0j (t:Ty)(l:List (El t)):(B8B t l).2.map (enc (B8B t l).1)=l.map (enc t):=by
 by_cases hp:t.pure=true
 . rw[show B8B t l=⟨t,l⟩ from if_pos hp]
 . rw[show B8B t l=⟨pur t,List.map (A6x t) l⟩ from if_neg hp];show (l.map (A6x t)).map (enc (pur t))=_;rw[List.map_map];congr 1;funext x;exact B2S t x
def C6H (n:Nat)(o:Tree ((t:Ty)×List (El t))):SL->Tree TV
 |.base _ t l=>.leaf (B3S t (l.take n))
 |_=>o.bind λq=>.leaf ⟨.sl q.1,q.2.take n⟩
mutual
def tP:T2->Tree TV
 |.e _ t x=>.leaf (toP t x)
 |.agg l=>(tPs l).bind λq=>.leaf ⟨.agg q.1,q.2⟩
 |.vec _ _ a n=>C6H n (slQ a) a
 |.w _=>.fail
 |.hole _=>.fail
def tPs:List T2->Tree ((ts:List Ty)×Els ts)
 | []=>.leaf ⟨[],()⟩
 |t::r=>(tP t).bind λp=>(tPs r).bind λq=>.leaf ⟨p.1::q.1,mkE q.1 p.2 q.2⟩
def slQ:SL->Tree ((t:Ty)×List (El t))
 |.base _ t l=>.leaf (B8B t l)
 |.set a i u=>(slQ a).bind λq=>(tP u).bind λv=>(Tree.ofO (A3z q.1 v.2)).bind λx=>.leaf ⟨q.1,q.2.set i x⟩
 |.app a u=>(slQ a).bind λq=>(tP u).bind λv=>(Tree.ofO (A3z q.1 v.2)).bind λx=>.leaf ⟨q.1,q.2++[x]⟩
end
theorem B8C:∀ {l:List (T Nat)} {vs:List PV} {i:Nat} {t:T Nat} {v:PV},A0J l=some vs->A4B t=some v->A0J (l.set i t)=some (vs.set i v)
 | [],vs,i,t,v,h,_=>by simp only[A0J,Option.some.injEq] at h;subst h;rfl
 |a::r,vs,i,t,v,h,hv=>by
   simp only[A0J] at h;cases h1:A4B a with
   |none=>rw[h1] at h;cases h
   |some x =>
     cases h2:A0J r with
     |none=>rw[h1,h2] at h;cases h
     |some q =>
       rw[h1,h2] at h;simp only[Option.some.injEq] at h;subst h;cases i with
       |zero=>simp only[List.set_cons_zero,A0J,hv,h2]
       |succ i=>simp only[List.set_cons_succ,A0J,h1,B8C h2 hv]
theorem B6Q:∀ {l:List (T Nat)} {vs:List PV} {t:T Nat} {v:PV},A0J l=some vs->A4B t=some v->A0J (l++[t])=some (vs++[v])
 | [],vs,t,v,h,hv=>by simp only[A0J,Option.some.injEq] at h;subst h;simp only[List.nil_append,A0J,hv]
 |a::r,vs,t,v,h,hv=>by
   simp only[A0J] at h;cases h1:A4B a with
   |none=>rw[h1] at h;cases h
   |some x =>
     cases h2:A0J r with
     |none=>rw[h1,h2] at h;cases h
     |some q =>
       rw[h1,h2] at h;simp only[Option.some.injEq] at h;subst h;simp only[List.cons_append,A0J,h1,B6Q h2 hv]
theorem D2c {n:Nat}{o:Tree ((t:Ty)×List (El t))}{a:SL}(ho:∀q,o.den=some q->A0J (cSL a)=some (q.2.map (enc q.1))){v:TV}(h:(C6H n o a).den=some v):∃vs,A0J (cSL a)=some vs∧enc v.1 v.2=.sl (vs.take n):=by
 cases a with
 |base s t l =>
   simp only[C6H,Tree.den_leaf] at h;subst h;refine⟨l.map (enc t),by simp only[cSL,A9Q],?_⟩
   rw[B7q,List.map_take]
 |_ =>
   simp only[C6H,Tree.den_bind,Tree.den_leaf] at h;obtain⟨q,h1,rfl⟩:=h;refine⟨_,ho q h1,?_⟩;show PV.sl ((q.2.take n).map (enc q.1))=_;rw[List.map_take]
mutual
theorem C18:∀ (t:T2) (v:TV),(tP t).den=some v->A4B (cT t)=some (enc v.1 v.2)
 |.e s t x,v,h=>by
   simp only[tP,Tree.den_leaf] at h;subst h;rw[D3l];exact B1P s t x
 |.agg l,v,h=>by
   simp only[tP,Tree.den_bind,Tree.den_leaf] at h;obtain⟨q,h1,rfl⟩:=h;simp only[cT,C2Y];rw[C8m l q h1];rfl
 |.vec g z a n,v,h=>by
   simp only[tP] at h;obtain⟨vs,h1,h2⟩:=D2c (λq hq=>B5k a q hq) h
   simp only[cT,A4B,h1,h2]
 |.w _,v,h=>by simp[tP,Tree.den] at h
 |.hole _,v,h=>by simp[tP,Tree.den] at h
theorem C8m:∀ (l:List T2) (q:(ts:List Ty)×Els ts),(tPs l).den=some q->A0J (cTs l)=some (A1g q.1 q.2)
 | [],q,h=>by simp only[tPs,Tree.den_leaf] at h;subst h;rfl
 |t::r,q,h=>by
   simp only[tPs,Tree.den_bind,Tree.den_leaf] at h;obtain⟨p,h1,q',h2,rfl⟩:=h;simp only[cTs,A0J,A1g,A5E,A5F];rw[C18 t p h1,C8m r q' h2]
theorem B5k:∀ (a:SL) (q:(t:Ty)×List (El t)),(slQ a).den=some q->A0J (cSL a)=some (q.2.map (enc q.1))
 |.base s t l,q,h=>by
   simp only[slQ,Tree.den_leaf] at h;subst h;rw[D0j];simp only[cSL,A9Q]
 |.set a i u,q,h=>by
   simp only[slQ,Tree.den_bind,Tree.den_ofO,Tree.den_leaf] at h;obtain⟨q',h1,v,h2,x,h3,rfl⟩:=h;obtain⟨e1,e2,e3⟩:=A2u h3;simp only[cSL,List.map_set];exact B8C (B5k a q' h1) (by rw[C18 u v h2,e3])
 |.app a u,q,h=>by
   simp only[slQ,Tree.den_bind,Tree.den_ofO,Tree.den_leaf] at h;obtain⟨q',h1,v,h2,x,h3,rfl⟩:=h;obtain⟨e1,e2,e3⟩:=A2u h3;simp only[cSL,List.map_append,List.map_cons,List.map_nil];exact B6Q (B5k a q' h1) (by rw[C18 u v h2,e3])
end
def slP (off:Option Nat)(len:Nat):SL->Tree TV
 |.base _ t l=>.leaf (B3S t ((match off with | none=>l | some o=>l.drop o).take len))
 |a=>(slQ a).bind λq=>.leaf ⟨.sl q.1,(match off with | none=>q.2 | some o=>q.2.drop o).take len⟩
theorem D3m {off:Option Nat}{len:Nat}{a:SL}{v:TV}(h:(slP off len a).den=some v):∃vs,A0J (cSL a)=some vs∧enc v.1 v.2=.sl ((vs.drop (off.getD 0)).take len):=by
 cases a with
 |base s t l =>
   simp only[slP,Tree.den_leaf] at h;subst h;refine⟨l.map (enc t),by simp only[cSL,A9Q],?_⟩
   rw[B7q];cases off with
   |none=>simp[List.map_take]
   |some o=>simp[List.map_take,List.map_drop]
 |_ =>
   simp only[slP,Tree.den_bind,Tree.den_leaf] at h;obtain⟨q,h1,rfl⟩:=h;refine⟨_,B5k _ q h1,?_⟩;cases off with
   |none=>exact congrArg PV.sl (by simp[List.map_take])
   |some o=>exact congrArg PV.sl (by simp[List.map_take,List.map_drop])
def B6f:Option Ty->Nat->Option Ty
 |some (.agg ts),i=>ts[i]?
 |some (.fn _ ts),i=>ts[i]?
 |_,_=>none
def A7U:Option Ty->Option Ty
 |some (.sl t)=>some t
 |some (.vec _ t)=>some t
 |_=>none
mutual
def A6b (h:H2):Option Ty->W->Tree TV
 |_,.v t x=>.leaf ⟨t,x⟩
 | u,.c p=>match pv? (.c p) with
   |some x=>.leaf x
   | none=>match u with
     |some u=>match dec u p with | some x=>.leaf ⟨u,x⟩ | none=>.fail
     |none=>.fail
 |u,.nil _=>match A7U u with | some t=>.leaf ⟨.sl t,([]:List (El t))⟩ | none=>.fail
 |_,.own id path off len g=>(Tree.ofO (A2H h id)).bind λo=>(A6a o path).bind λx=>if x.1==g then(Tree.ask (Nat.ble (match off with | none=>len | some o=>o+len) x.2.2.len)).bind λ_=>slP off len x.2.2 else .fail
 |_,.ptr id np rp g=>(Tree.ofO (A2H h id)).bind λo=>(B3R o np rp).bind λx=>if x.2==g then(tP x.1).bind λv=>.leaf ⟨.ref v.1,v.2⟩ else .fail
 |u,.agg l=>(B0x h u 0 l).bind λq=>.leaf ⟨.agg q.1,q.2⟩
 |u,.fn f l=>(B0x h u 0 l).bind λq=>.leaf ⟨.fn f q.1,q.2⟩
 |_,.mref ..=>.fail
 |_,.tup _=>.fail
 |_,.dead _=>.fail
def B0x (h:H2)(u:Option Ty)(i:Nat):List W->Tree ((ts:List Ty)×Els ts)
 | []=>.leaf ⟨[],()⟩
 |w::r=>(A6b h (B6f u i) w).bind λp=>(B0x h u (i+1) r).bind λq=>.leaf ⟨p.1::q.1,mkE q.1 p.2 q.2⟩
end
theorem A2k {h:H2}{id:Nat}{o:O2}(e:A2H h id=some o):cH h id=some (cO o):=by rw[A82,e];rfl
mutual
theorem A6Z (h:H2):∀ (w:W) (u:Option Ty) (v:TV),(A6b h u w).den=some v->A1k (cH h) (cW w)=some (enc v.1 v.2)
 |.v t x,u,v,e=>by simp only[A6b,Tree.den_leaf] at e;subst e;rfl
 |.c p,u,v,e=>by
   simp only[A6b] at e;split at e
   . rename_i x hx;simp only [Tree.den_leaf] at e;subst e
     have:=B2M hx
     rw[this];rfl
   . split at e
     . split at e
       . rename_i hd;simp only[Tree.den_leaf] at e;subst e;show some p=_;rw[A9x _ _ _ hd]
       . simp at e
     . simp at e
 |.nil z,u,v,e=>by
   simp only[A6b] at e;split at e
   . simp only[Tree.den_leaf] at e;subst e;rfl
   . simp at e
 |.own id path off len g,u,v,e=>by
   simp only[A6b,Tree.den_bind,Tree.den_ofO] at e;obtain⟨o,h1,⟨g',z,a⟩,h2,e⟩:=e;split at e
   . rename_i hg;simp only [beq_iff_eq] at hg;simp only [Tree.den_bind,Tree.den_ask] at e;obtain ⟨_,h3,h4⟩:=e;obtain ⟨vs,h5,h6⟩:=D3m h4;have h3:off.getD 0+len<=a.len:=by
      cases off with
      |none=>simpa using Nat.ble_eq.mp h3
      |some o=>exact Nat.ble_eq.mp h3
     simp only[cW,A1k];rw[A2k h1,A3t h2];simp only[hg,true_and,SL.len_eq,h3,if_true,h5,h6]
   . simp at e
 |.ptr id np rp g,u,v,e=>by
   simp only[A6b,Tree.den_bind,Tree.den_ofO] at e;obtain⟨o,h1,⟨t,g'⟩,h2,e⟩:=e;split at e
   . rename_i hg;simp only[beq_iff_eq] at hg;simp only[Tree.den_bind,Tree.den_leaf] at e;obtain⟨x,h3,rfl⟩:=e;simp only[cW,A1k];rw[A2k h1,B08 h2];simp only[hg,true_and,if_true,C18 _ _ h3];rfl
   . simp at e
 |.agg l,u,v,e=>by
   simp only[A6b,Tree.den_bind,Tree.den_leaf] at e;obtain⟨q,h1,rfl⟩:=e;simp only[cW,A1k];rw[A9z h l u 0 q h1];rfl
 |.fn f l,u,v,e=>by
   simp only[A6b,Tree.den_bind,Tree.den_leaf] at e;obtain⟨q,h1,rfl⟩:=e;simp only[cW,A1k];rw[A9z h l u 0 q h1];rfl
 |.mref ..,u,v,e=>by simp[A6b,Tree.den] at e
 |.tup _,u,v,e=>by simp[A6b,Tree.den] at e
 |.dead _,u,v,e=>by simp[A6b,Tree.den] at e
theorem A9z (h:H2):∀ (l:List W) (u:Option Ty) (i:Nat) (q:(ts:List Ty)×Els ts),(B0x h u i l).den=some q->A2C (cH h) (cWs l)=some (A1g q.1 q.2)
 | [],u,i,q,e=>by simp only[B0x,Tree.den_leaf] at e;subst e;rfl
 |w::r,u,i,q,e=>by
   simp only[B0x,Tree.den_bind,Tree.den_leaf] at e;obtain⟨p,h1,q',h2,rfl⟩:=e;simp only[cWs,A2C,A1g,A5E,A5F];rw[A6Z h w _ p h1,A9z h r u (i+1) q' h2]
end
end Go.Mid
/- Operations on symbolic states: changes of trees;scalars. -/
namespace Go.Mid
set_option linter.unusedSimpArgs false
set_option linter.unusedVariables false
theorem B3T (φ:MV->MV)(ζ:Nat->Nat):∀ l:List (T Nat),A1h (l.map (A0R φ ζ))=A1h l
 | []=>rfl
 |.p v::r=>by simp only[List.map_cons,A0R,A1h,B3T φ ζ r]
 |.m _::r | .agg _::r | .vec ..::r | .mp ..::r | .hole _::r=>rfl
theorem D0k (φ:MV->MV)(ζ:Nat->Nat)(l:List (T Nat)):A0R φ ζ (A0z l)=A0z (A0H φ ζ l):=by
 unfold A0z;rw[A38,B3T];cases A1h l with
 |none=>simp only[A0R,A38]
 |some vs=>rfl
section
variable (φ:W->Tree W)(ζ:Nat->Nat)
mutual
def A84:T2->Tree T2
 |.e s t x=>.leaf (.e (ζ s) t x)
 |.w v=>(φ v).bind λv'=>.leaf (.w v')
 |.agg l=>(B2T l).bind λl'=>.leaf (.agg l')
 |.vec g z a n=>(B0y a).bind λa'=>.leaf (.vec (ζ g) z a' n)
 |.hole n=>.leaf (.hole n)
def B2T:List T2->Tree (List T2)
 | []=>.leaf []
 |t::r=>(A84 t).bind λt'=>(B2T r).bind λr'=>.leaf (t'::r')
def B0y:SL->Tree SL
 |.base s t l=>.leaf (.base (ζ s) t l)
 |.set a i u=>(B0y a).bind λa'=>(A84 u).bind λu'=>.leaf (.set a' i u')
 |.app a u=>(B0y a).bind λa'=>(A84 u).bind λu'=>.leaf (.app a' u')
end
def B1V:O2->Tree O2
 |.cell g t=>(A84 φ ζ t).bind λt'=>.leaf (.cell (ζ g) t')
 |.vec g z a=>(B0y φ ζ a).bind λa'=>.leaf (.vec (ζ g) z a')
 |.mp g k v l=>.leaf (.mp (ζ g) k v l)
 |.gone=>.leaf .gone
end
section
variable (ζ:Nat->Nat){φ:W->Tree W}{φ':MV->MV}
mutual
theorem B09 (hφ:∀ w w',(φ w).den=some w'->φ' (cW w)=cW w'):∀ (t t':T2),(A84 φ ζ t).den=some t'->A0R φ' ζ (cT t)=cT t'
 |.e s t x,t',h=>by
   simp only[A84,Tree.den_leaf] at h;subst h;exact B3N φ' ζ s t x
 |.w v,t',h=>by
   simp only[A84,Tree.den_bind,Tree.den_leaf] at h;obtain⟨v',h1,rfl⟩:=h;simp only[cT,A0R,hφ _ _ h1]
 |.agg l,t',h=>by
   simp only[A84,Tree.den_bind,Tree.den_leaf] at h;obtain⟨l',h1,rfl⟩:=h;simp only[cT,D0k,B5l hφ l l' h1]
 |.vec g z a n,t',h=>by
   simp only[A84,Tree.den_bind,Tree.den_leaf] at h;obtain⟨a',h1,rfl⟩:=h;simp only[cT,A0R,B1a hφ a a' h1]
 |.hole n,t',h=>by simp only[A84,Tree.den_leaf] at h;subst h;rfl
theorem B5l (hφ:∀ w w',(φ w).den=some w'->φ' (cW w)=cW w'):∀ (l l':List T2),(B2T φ ζ l).den=some l'->A0H φ' ζ (cTs l)=cTs l'
 | [],l',h=>by simp only[B2T,Tree.den_leaf] at h;subst h;rfl
 |t::r,l',h=>by
   simp only[B2T,Tree.den_bind,Tree.den_leaf] at h;obtain⟨t',h1,r',h2,rfl⟩:=h;simp only[cTs,A0H,B09 hφ t t' h1,B5l hφ r r' h2]
theorem B1a (hφ:∀ w w',(φ w).den=some w'->φ' (cW w)=cW w'):∀ (a a':SL),(B0y φ ζ a).den=some a'->A0H φ' ζ (cSL a)=cSL a'
 |.base s t l,a',h=>by
   simp only[B0y,Tree.den_leaf] at h;subst h;exact C6E φ' ζ s t l
 |.set a i u,a',h=>by
   simp only[B0y,Tree.den_bind,Tree.den_leaf] at h;obtain⟨b,h1,u',h2,rfl⟩:=h;simp only[cSL];rw[A38,List.map_set,←A38,B1a hφ a b h1,B09 hφ u u' h2]
 |.app a u,a',h=>by
   simp only[B0y,Tree.den_bind,Tree.den_leaf] at h;obtain⟨b,h1,u',h2,rfl⟩:=h;simp only[cSL];rw[A38,List.map_append,←A38,B1a hφ a b h1,List.map_cons,B09 hφ u u' h2];rfl
end
theorem B3U (hφ:∀w w',(φ w).den=some w'->φ' (cW w)=cW w')(o o':O2)(h:(B1V φ ζ o).den=some o'):A1j φ' ζ (cO o)=cO o':=by
 cases o with
 |cell g t =>
   simp only[B1V,Tree.den_bind,Tree.den_leaf] at h;obtain⟨t',h1,rfl⟩:=h;simp only[cO,A1j,B09 ζ hφ t t' h1]
 |vec g z a =>
   simp only[B1V,Tree.den_bind,Tree.den_leaf] at h;obtain⟨a',h1,rfl⟩:=h;simp only[cO,A1j,B1a ζ hφ a a' h1]
 |mp g k v l =>
   simp only[B1V,Tree.den_leaf] at h;subst h
   have:∀l:List (El k×El v),A0H φ' ζ (l.map λp=>T.p (enc v p.2))=l.map λp=>T.p (enc v p.2):=by
    intro l
    induction l with
    |nil=>rfl
    |cons a r ih=>simp only[List.map_cons,A0H,A0R,ih]
   simp only[cO,A1j,this]
 |gone=>simp only[B1V,Tree.den_leaf] at h;subst h;rfl
end
def C8n (g:Nat)(t:T2):Tree T2:=A84 .leaf (λ_=>g) t
def A4V (g:Nat)(a:SL):Tree SL:=B0y .leaf (λ_=>g) a
theorem B2U (w w':W)(h:(Tree.leaf w).den=some w'):(λv:MV=>v) (cW w)=cW w':=by simp only[Tree.den_leaf] at h;rw[h]
theorem C8o {g:Nat}{t t':T2}(h:(C8n g t).den=some t'):A7L g (cT t)=cT t':=B09 _ B2U t t' h
theorem A4E {g:Nat}{a a':SL}(h:(A4V g a).den=some a'):A0N g (cSL a)=cSL a':=B1a _ B2U a a' h
mutual
def B2r (s:Nat):T2->Tree TV
 |.e s' t x=>if s'==s || t.pure then .leaf ⟨t,x⟩ else .fail
 |.agg l=>(B8D s l).bind λq=>.leaf ⟨.agg q.1,q.2⟩
 | .vec g z a n=>if g==s then (A7n a).bind λb=>match b with
    |.base s' t l=>if s'==s || t.pure then(Tree.ask (n==l.length)).bind λ_=>.leaf ⟨.vec z t,l⟩ else .fail
    |_=>.fail
   else .fail
 |.w _=>.fail
 |.hole _=>.fail
def B8D (s:Nat):List T2->Tree ((ts:List Ty)×Els ts)
 | []=>.leaf ⟨[],()⟩
 |t::r=>(B2r s t).bind λp=>(B8D s r).bind λq=>.leaf ⟨p.1::q.1,mkE q.1 p.2 q.2⟩
def A7n:SL->Tree SL
 |.base s t l=>.leaf (.base s t l)
 | .set a i u=>(A7n a).bind λb=>match b with
   |.base s t l=>(B2r s u).bind λv=>(Tree.ofO (A3z t v.2)).bind λx=>.leaf (.base s t (l.set i x))
   |_=>.fail
 | .app a u=>(A7n a).bind λb=>match b with
   |.base s t l=>(B2r s u).bind λv=>(Tree.ofO (A3z t v.2)).bind λx=>.leaf (.base s t (l++[x]))
   |_=>.fail
end
theorem B3V {s s':Nat}{t:Ty}(hc:(s'==s || t.pure)=true)(y:El t):A0V s' t y=A0V s t y:=by
 simp only[Bool.or_eq_true,beq_iff_eq] at hc;rcases hc with rfl | hc
 . rfl
 . rw[A1B _ _ _ hc,A1B _ _ _ hc]
mutual
theorem B6g (s:Nat):∀ (t:T2) (v:TV),(B2r s t).den=some v->cT t=A0V s v.1 v.2
 |.e s' t x,v,h=>by
   simp only[B2r] at h;by_cases hc:(s'==s || t.pure)=true
   . rw[if_pos hc,Tree.den_leaf] at h;subst h;exact B3V hc x
   . rw[if_neg hc] at h;simp at h
 |.agg l,v,h=>by
   simp only[B2r,Tree.den_bind,Tree.den_leaf] at h;obtain⟨q,h1,rfl⟩:=h;simp only[cT,A0V,C3b s l q h1]
 |.vec g z a n,v,h=>by
   simp only[B2r] at h;split at h
   . rename_i hg;simp only [beq_iff_eq] at hg;simp only [Tree.den_bind] at h;obtain ⟨b,h1,h⟩:=h;have hb:=A7o a b h1;split at h
     . rename_i s' t l;by_cases hc:(s'==s || t.pure)=true
       . rw [if_pos hc] at h;simp only [Tree.den_bind,Tree.den_ask,Tree.den_leaf,beq_iff_eq] at h;obtain ⟨_,h2,rfl⟩:=h;have e1:∀ l:List (El t),l.map (A0V s' t)=l.map (A0V s t):=by
          intro l;congr 1;funext y;exact B3V hc y
         simp only[cT,hb,cSL,hg,h2,A0V,e1]
       . rw[if_neg hc] at h;simp at h
     . simp at h
   . simp at h
 |.w _,v,h=>by simp[B2r,Tree.den] at h
 |.hole _,v,h=>by simp[B2r,Tree.den] at h
theorem C3b (s:Nat):∀ (l:List T2) (q:(ts:List Ty)×Els ts),(B8D s l).den=some q->cTs l=A1i s q.1 q.2
 | [],q,h=>by simp only[B8D,Tree.den_leaf] at h;subst h;rfl
 |t::r,q,h=>by
   simp only[B8D,Tree.den_bind,Tree.den_leaf] at h;obtain⟨p,h1,q',h2,rfl⟩:=h;simp only[cTs,A1i,A5E,A5F];rw[B6g s t p h1,C3b s r q' h2]
theorem A7o:∀ (a b:SL),(A7n a).den=some b->cSL a=cSL b
 |.base s t l,b,h=>by simp only[A7n,Tree.den_leaf] at h;subst h;rfl
 |.set a i u,b,h=>by
   simp only[A7n,Tree.den_bind] at h;obtain⟨b',h1,h⟩:=h;have hb:=A7o a b' h1;split at h
   . rename_i s t l;simp only[Tree.den_bind,Tree.den_ofO,Tree.den_leaf] at h;obtain⟨v,h2,x,h3,rfl⟩:=h;have hu:=B6g s u v h2;obtain⟨t',y⟩:=v;obtain⟨e,he,_⟩:=A2u h3;simp only at e he;subst e;cases he;simp only[cSL,hb,hu,List.map_set]
   . simp at h
 |.app a u,b,h=>by
   simp only[A7n,Tree.den_bind] at h;obtain⟨b',h1,h⟩:=h;have hb:=A7o a b' h1;split at h
   . rename_i s t l;simp only[Tree.den_bind,Tree.den_ofO,Tree.den_leaf] at h;obtain⟨v,h2,x,h3,rfl⟩:=h;have hu:=B6g s u v h2;obtain⟨t',y⟩:=v;obtain⟨e,he,_⟩:=A2u h3;simp only at e he;subst e;cases he;simp only[cSL,hb,hu,List.map_append,List.map_cons,List.map_nil]
   . simp at h
end
mutual
def B1W:T2->Tree T2
 |.vec g z a n=>(A7n a).bind λb=>.leaf (.vec g z b n)
 |.agg l=>(B5m l).bind λl'=>.leaf (.agg l')
 |.e s t x=>.leaf (.e s t x)
 |.w v=>.leaf (.w v)
 |.hole n=>.leaf (.hole n)
def B5m:List T2->Tree (List T2)
 | []=>.leaf []
 |t::r=>(B1W t).bind λt'=>(B5m r).bind λr'=>.leaf (t'::r')
end
mutual
theorem C3c:∀ (t t':T2),(B1W t).den=some t'->cT t=cT t'
 |.vec g z a n,t',h=>by
   simp only[B1W,Tree.den_bind,Tree.den_leaf] at h;obtain⟨b,h1,rfl⟩:=h;simp only[cT,A7o a b h1]
 |.agg l,t',h=>by
   simp only[B1W,Tree.den_bind,Tree.den_leaf] at h;obtain⟨l',h1,rfl⟩:=h;simp only[cT,C08 l l' h1]
 |.e s t x,t',h=>by simp only[B1W,Tree.den_leaf] at h;subst h;rfl
 |.w v,t',h=>by simp only[B1W,Tree.den_leaf] at h;subst h;rfl
 |.hole n,t',h=>by simp only[B1W,Tree.den_leaf] at h;subst h;rfl
theorem C08:∀ (l l':List T2),(B5m l).den=some l'->cTs l=cTs l'
 | [],l',h=>by simp only[B5m,Tree.den_leaf] at h;subst h;rfl
 |t::r,l',h=>by
   simp only[B5m,Tree.den_bind,Tree.den_leaf] at h;obtain⟨t',h1,r',h2,rfl⟩:=h;simp only[cTs,C3c t t' h1,C08 r r' h2]
end
def B6h:O2->Tree O2
 |.cell g t=>(B1W t).bind λt'=>.leaf (.cell g t')
 |.vec g z a=>(A7n a).bind λb=>.leaf (.vec g z b)
 |o=>.leaf o
theorem D0l (o o':O2)(h:(B6h o).den=some o'):cO o=cO o':=by
 cases o with
 |cell g t =>
   simp only[B6h,Tree.den_bind,Tree.den_leaf] at h;obtain⟨t',h1,rfl⟩:=h;simp only[cO,C3c t t' h1]
 |vec g z a =>
   simp only[B6h,Tree.den_bind,Tree.den_leaf] at h;obtain⟨b,h1,rfl⟩:=h;simp only[cO,A7o a b h1]
 |mp g k v l=>simp only[B6h,Tree.den_leaf] at h;subst h;rfl
 |gone=>simp only[B6h,Tree.den_leaf] at h;subst h;rfl
def B6i (g:Nat)(u:Option Ty):SL:=match A7U u with | some t=>.base g t [] | none=>.base g .bool []
theorem B7r (g:Nat)(u:Option Ty):cSL (B6i g u)=[]:=by
 unfold B6i;split<;>rfl
mutual
def A65 (g:Nat)(u:Option Ty)(h:H2):W->Tree (T2×H2)
 |.v t x=>if t.pure then .leaf (.e g t x,h) else .fail
 | .c p=>match pv? (.c p) with
   |some v=>if v.1.pure then .leaf (.e g v.1 v.2,h) else .fail
   | none=>match u with
     |some u=>match dec u p with | some x=>if u.pure then .leaf (.e g u x,h) else .fail | none=>.fail
     |none=>.fail
 | .own id path off len g'=>match off with
   |some _=>.fail
   | none=>(Tree.ofO (A2H h id)).bind λo=>match o,path with
     |.vec g'' z a,[]=>if g'==g'' then(Tree.ask (Nat.ble len a.len)).bind λ_=>(A4V g a).bind λb=>.leaf (.vec g z b len,setA h id .gone) else .fail
     |o,path=>(A7D o path).bind λt=>(C16 t).bind λx=>if g'==x.1 then
        (Tree.ask (Nat.ble len x.2.2.len)).bind λ_=>(A4V g x.2.2).bind λb=>(A83 (.hole 1) o path).bind λo'=>.leaf (.vec g x.2.1 b len,setA h id o') else .fail
 |.agg l=>(B2V g u 0 h l).bind λx=>.leaf (.agg x.1,x.2)
 |.nil z=>.leaf (.vec g z (B6i g u) 0,h)
 |.ptr id np rp g'=>.leaf (.w (.ptr id np rp g'),h)
 |.fn f l=>.leaf (.w (.fn f l),h)
 |.mref ..=>.fail
 |.tup _=>.fail
 |.dead _=>.fail
def B2V (g:Nat)(u:Option Ty)(i:Nat)(h:H2):List W->Tree (List T2×H2)
 | []=>.leaf ([],h)
 |w::r=>(A65 g (B6f u i) h w).bind λx=>(B2V g u (i+1) x.2 r).bind λy=>.leaf (x.1::y.1,y.2)
end
theorem C3d {o:O2}{g z:Nat}{l:List (T Nat)}(h:cO o=.vec g z l):∃a,o=.vec g z a:=by
 cases o with
 |vec g1 z1 a=>simp only[cO,Obj.vec.injEq] at h;obtain⟨rfl,rfl,_⟩:=h;exact⟨a,rfl⟩
 |_=>simp[cO] at h
theorem C4N {g id len g':Nat}{h:A0b}{ob:Obj Nat}{p:List Nat}(ho:h id=some ob)(hn:∀ g1 z1 l1,ob=.vec g1 z1 l1->p=[]->False) :
 A2b g h (.own id p 0 len g')=match A0j (some ob) p with
  | some (.vec g'' z l _)=>if g'=g''∧len<=l.length then
     match put (some ob) p (.hole 1) with | some o=>some (.vec g z (A0N g l) len,upd h id (some o)) | none=>none
    else none
  |_=>none:=by
 simp only[A2b,ho,true_and];split
 . rename_i h1;simp only[Option.some.injEq] at h1;exact absurd rfl (hn _ _ _ h1)
 . rfl
mutual
theorem B7s (g:Nat):∀ (w:W) (u:Option Ty) (h:H2) (t:T2) (h':H2),(A65 g u h w).den=some (t,h')->A2b g (cH h) (cW w)=some (cT t,cH h')
 |.v t x,u,h,t',h',e=>by
   simp only[A65] at e;split at e
   . rename_i hp;simp only[Tree.den_leaf,Prod.mk.injEq] at e;obtain⟨rfl,rfl⟩:=e;show some (T.p (enc t x),cH h)=some (A0V g t x,cH h);rw[A1B g t x hp]
   . simp at e
 |.c p,u,h,t',h',e=>by
   simp only[A65] at e;split at e
   . rename_i v hv;split at e
     . rename_i hp;simp only[Tree.den_leaf,Prod.mk.injEq] at e;obtain⟨rfl,rfl⟩:=e;rw[B2M hv];show some (T.p (enc v.1 v.2),cH h)=some (A0V g v.1 v.2,cH h);rw[A1B g _ _ hp]
     . simp at e
   . split at e
     . rename_i u;split at e
       . rename_i x hx;split at e
         . rename_i hp;simp only[Tree.den_leaf,Prod.mk.injEq] at e;obtain⟨rfl,rfl⟩:=e;show some (T.p p,cH h)=some (A0V g u x,cH h);rw[A1B g _ _ hp,A9x _ _ _ hx]
         . simp at e
       . simp at e
     . simp at e
 |.own id path off len g',u,h,t',h',e=>by
   simp only[A65] at e;split at e
   . simp at e
   . simp only [Tree.den_bind,Tree.den_ofO] at e;obtain ⟨o,h1,e⟩:=e;have ho:=A2k h1;split at e
     . rename_i g'' z a;split at e
       . rename_i hg;simp only [beq_iff_eq] at hg;subst hg;simp only [Tree.den_bind,Tree.den_ask,Tree.den_leaf,Prod.mk.injEq] at e;obtain ⟨_,h2,b,h3,rfl,rfl⟩:=e;have h2:=Nat.ble_eq.mp h2;simp only [cW,ixs,Option.getD_none,A2b,ho,cO];rw [if_pos ⟨trivial,trivial,by rw [SL.len_eq];exact h2⟩,A4E h3,← A10]
         rfl
       . simp at e
     . rename_i hno;simp only [Tree.den_bind] at e;obtain ⟨t,h2,⟨g'',z,a⟩,h3,e⟩:=e;split at e
       . rename_i hg;simp only [beq_iff_eq] at hg;subst hg;simp only [Tree.den_bind,Tree.den_ask,Tree.den_leaf,Prod.mk.injEq] at e;obtain ⟨_,h4,b,h5,o'',h6,rfl,rfl⟩:=e;have h4:=Nat.ble_eq.mp h4;have hsub:=A7m h2;obtain ⟨n,hv⟩:=C25 h3;rw [hv] at hsub;have hput:put (some (cO o)) (ixs path) (.hole 1)=some (cO o''):=A6w h6;have key:=C4N (g:=g) (g':=g') (len:=len) ho (p:=ixs path) (λg1 z1 l1 e1 e2=>by
          obtain⟨a1,ha⟩:=C3d e1;cases path with
          |nil=>exact hno _ _ _ ha rfl
          |cons s r=>simp[ixs] at e2)
         refine key.trans ?_;rw[hsub];simp only;rw[if_pos ⟨trivial,by rw[SL.len_eq];exact h4⟩,hput,A4E h5,←A10]
         rfl
       . simp at e
 |.agg l,u,h,t',h',e=>by
   simp only[A65,Tree.den_bind,Tree.den_leaf,Prod.mk.injEq] at e;obtain⟨⟨ts,h1⟩,e1,rfl,rfl⟩:=e;simp only[cW,A2b,B5n g l u 0 h ts h1 e1,cT]
 |.nil z,u,h,t',h',e=>by
   simp only[A65,Tree.den_leaf,Prod.mk.injEq] at e;obtain⟨rfl,rfl⟩:=e;simp only[cW,A2b,cT,B7r]
 |.ptr id np rp g',u,h,t',h',e=>by
   simp only[A65,Tree.den_leaf,Prod.mk.injEq] at e;obtain⟨rfl,rfl⟩:=e;rfl
 |.fn f l,u,h,t',h',e=>by
   simp only[A65,Tree.den_leaf,Prod.mk.injEq] at e;obtain⟨rfl,rfl⟩:=e;rfl
 |.mref ..,u,h,t',h',e=>by simp[A65,Tree.den] at e
 |.tup _,u,h,t',h',e=>by simp[A65,Tree.den] at e
 |.dead _,u,h,t',h',e=>by simp[A65,Tree.den] at e
theorem B5n (g:Nat):∀ (l:List W) (u:Option Ty) (i:Nat) (h:H2) (ts:List T2) (h':H2),(B2V g u i h l).den=some (ts,h')->A36 g (cH h) (cWs l)=some (cTs ts,cH h')
 | [],u,i,h,ts,h',e=>by
   simp only[B2V,Tree.den_leaf,Prod.mk.injEq] at e;obtain⟨rfl,rfl⟩:=e;rfl
 |w::r,u,i,h,ts,h',e=>by
   simp only[B2V,Tree.den_bind,Tree.den_leaf,Prod.mk.injEq] at e;obtain⟨⟨t,h1⟩,e1,⟨q,h2⟩,e2,rfl,rfl⟩:=e;simp only[cWs,A36,B7s g w _ h t h1 e1,B5n g r u (i+1) h1 q h2 e2,cTs]
end
end Go.Mid
/- Operations on symbolic states: scalars,strings,pure lists. -/
namespace Go.Mid
set_option linter.unusedSimpArgs false
set_option linter.unusedVariables false
abbrev wI (k:IntKind) (n:Int):W:=.v (.int k) n
abbrev wB (b:Bool):W:=.v .bool b
abbrev wS (s:ByteArray):W:=.v .str s
def isC:W->Bool
 |.c _=>true
 |_=>false
def B1X (w:W)(b:Bool):Tree Unit:=match w with
 |.c _=>Tree.chk b
 |_=>Tree.ask b
@[simp] theorem B1Y (w:W) (b:Bool) (r:Unit):(B1X w b).den=some r↔b=true:=by cases w<;>simp[B1X]
def A2X (k:IntKind)(x y:Int):Int:=k.wrap (BitVec.ofInt k.bits x &&& BitVec.ofInt k.bits y).toNat
def orI (k:IntKind)(x y:Int):Int:=k.wrap (BitVec.ofInt k.bits x ||| BitVec.ofInt k.bits y).toNat
def D3n (k:IntKind)(x y:Int):Int:=k.wrap (BitVec.ofInt k.bits x ^^^ BitVec.ofInt k.bits y).toNat
def A60 (k:IntKind)(x y:Int):Int:=k.wrap (BitVec.ofInt k.bits x &&& ~~~ BitVec.ofInt k.bits y).toNat
def A3Q (k:IntKind)(x y:Int):Int:=k.wrap (x*2 ^ min y.toNat k.bits)
def A01 (k:IntKind)(x y:Int):Int:=x.fdiv (2 ^ min y.toNat k.bits)
def B8E (a b:ByteArray):Bool:=a.toList==b.toList
def C19 (a b:ByteArray):Bool:=Op.bytesLess a.toList b.toList
def C6I (op:BinOp)(k:IntKind)(x y:Int)(b:W):Tree W :=
 match op with
 |.add=>.leaf (wI k (k.wrap (x+y)))
 |.sub=>.leaf (wI k (k.wrap (x-y)))
 |.mul=>.leaf (wI k (k.wrap (x*y)))
 |.quo=>(B1X b (y != 0)).bind λ_=>.leaf (wI k (k.wrap (x.tdiv y)))
 |.rem=>(B1X b (y != 0)).bind λ_=>.leaf (wI k (x.tmod y))
 |.eql=>.leaf (wB (x==y))
 |.neq=>.leaf (wB (x != y))
 |.lss=>.leaf (wB (decide (x<y)))
 |.leq=>.leaf (wB (decide (x<=y)))
 |.gtr=>.leaf (wB (decide (x>y)))
 |.geq=>.leaf (wB (decide (x ≥ y)))
 |.and=>.leaf (wI k (A2X k x y))
 |.or=>.leaf (wI k (orI k x y))
 |.xor=>.leaf (wI k (D3n k x y))
 |.andNot=>.leaf (wI k (A60 k x y))
 |_=>.fail
def C3e (op:BinOp)(k:IntKind)(x y:Int)(b:W):Tree W :=
 match op with
 |.shl=>(B1X b (decide (0<=y))).bind λ_=>.leaf (wI k (A3Q k x y))
 |.shr=>(B1X b (decide (0<=y))).bind λ_=>.leaf (wI k (A01 k x y))
 |_=>.fail
def C6J (op:BinOp)(a b:ByteArray):Tree W :=
 match op with
 |.add=>(Tree.ask (Nat.ble (a.size+b.size) 9223372036854775807)).bind λ_=>.leaf (wS (a++b))
 |.eql=>.leaf (wB (B8E a b))
 |.neq=>.leaf (wB !(B8E a b))
 |.lss=>.leaf (wB (C19 a b))
 |.leq=>.leaf (wB (C19 a b || B8E a b))
 |.gtr=>.leaf (wB !(C19 a b || B8E a b))
 |.geq=>.leaf (wB !(C19 a b))
 |_=>.fail
def C3f (op:BinOp)(a b:Bool):Tree W :=
 match op with
 |.eql=>.leaf (wB (a==b))
 |.neq=>.leaf (wB !(a==b))
 |_=>.fail
def B9Z:BinOp->Bool
 |.shl=>true
 |.shr=>true
 |_=>false
def D0m (bl:Bool)(op:BinOp)(a b:W):Tree W :=
 match bl with
 |true=>match B8x a,B8x b with | some x,some y=>C3f op x y | _,_=>.fail
 | false=>match A8e a,A8e b with
   | some (k,x),some (k',y)=>match B9Z op with
     |true=>C3e op k x y b
     |false=>if k==k' then C6I op k x y b else .fail
   |_,_=>match B5g a,B5g b with | some x,some y=>C6J op x y | _,_=>.fail
theorem C8p {op:BinOp}{k:IntKind}{x y:Int}{b w:W}(hs:B9Z op=false)(h:(C6I op k x y b).den=some w):∃v,A0Z op (.int k x) (.int k y)=some v∧cW w=.p v:=by
 cases op<;>simp only [B9Z,Bool.true_eq_false,reduceCtorEq] at hs <;>
  simp only[C6I,Tree.den_leaf,Tree.den_bind,B1Y,Tree.den_fail] at h
 case quo =>
  obtain⟨_,h1,rfl⟩:=h;exact⟨_,by simp only[A0Z,ne_eq,not_true_eq_false,if_false];rw[if_neg (by simpa using h1)];rfl,rfl⟩
 case rem =>
  obtain⟨_,h1,rfl⟩:=h;exact⟨_,by simp only[A0Z,ne_eq,not_true_eq_false,if_false];rw[if_neg (by simpa using h1)];rfl,rfl⟩
 all_goals
  subst h;exact⟨_,by simp only[A0Z,ne_eq,not_true_eq_false,if_false,B7V];rfl,rfl⟩
theorem C6K {op:BinOp}{k k':IntKind}{x y:Int}{b w:W}(h:(C3e op k x y b).den=some w):∃v,A0Z op (.int k x) (.int k' y)=some v∧cW w=.p v:=by
 cases op<;>simp only[C3e,Tree.den_leaf,Tree.den_bind,B1Y,Tree.den_fail,decide_eq_true_eq] at h
 all_goals
  obtain⟨_,h1,rfl⟩:=h;exact⟨_,by simp only[A0Z];rw[if_neg (by omega)];rfl,rfl⟩
theorem C8q {op:BinOp}{x y:ByteArray}{w:W}(h:(C6J op x y).den=some w):∃v,A0Z op (.str x) (.str y)=some v∧cW w=.p v:=by
 cases op<;>simp only[C6J,Tree.den_leaf,Tree.den_bind,Tree.den_ask,Tree.den_fail] at h
 case add =>
  obtain⟨_,h1,rfl⟩:=h;exact⟨_,by simp only[A0Z];rw[if_pos (Nat.ble_eq.mp h1)];rfl,rfl⟩
 all_goals
  subst h;exact⟨_,by simp only[A0Z];rfl,rfl⟩
theorem C6L {op:BinOp}{x y:Bool}{w:W}(h:(C3f op x y).den=some w):∃v,A0Z op (.bool x) (.bool y)=some v∧cW w=.p v:=by
 cases op<;>simp only[C3f,Tree.den_leaf,Tree.den_fail] at h
 all_goals
  subst h;exact⟨_,by simp only[A0Z];rfl,rfl⟩
def B7t (bl:Bool)(op:BinOp)(a b:MV):Option MV:=match a,b with
 |.p a,.p b=>if isB a=bl then(match A0Z op a b with | some v=>some (.p v) | none=>none) else none
 |_,_=>none
theorem D2d {bl:Bool}{op:BinOp}{a b w:W}(h:(D0m bl op a b).den=some w):B7t bl op (cW a) (cW b)=some (cW w):=by
 unfold D0m at h;split at h
 . split at h
   . rename_i x y hx hy;rw[B7k hx,B7k hy];obtain⟨v,h1,h2⟩:=C6L h;simp only[B7t,h1,h2,isB,if_true]
   . simp at h
 . split at h
   . rename_i k x k' y hx hy;rw [A4U hx,A4U hy];split at h
     . obtain⟨v,h1,h2⟩:=C6K (k':=k') h;simp only[B7t,h1,h2,isB,if_true]
     . rename_i hs;split at h
       . rename_i hk;simp only[beq_iff_eq] at hk;subst hk;obtain⟨v,h1,h2⟩:=C8p hs h;simp only[B7t,h1,h2,isB,if_true]
       . simp at h
   . split at h
     . rename_i x y hx hy;rw[B0L hx,B0L hy];obtain⟨v,h1,h2⟩:=C8q h;simp only[B7t,h1,h2,isB,if_true]
     . simp at h
mutual
def A7p:TD->Ty
 |.int k=>.int k
 |.bool=>.bool
 |.str=>.str
 |.agg l=>.agg (A2o l)
def A2o:List TD->List Ty
 | []=>[]
 |t::r=>A7p t::A2o r
end
mutual
def eqE:(td:TD)->El (A7p td)->El (A7p td)->Bool
 |.int _,x,y=>(show Int from x)==y
 |.bool,x,y=>(show Bool from x)==y
 |.str,x,y=>B8E x y
 |.agg l,x,y=>C6M l x y
def C6M:(l:List TD)->Els (A2o l)->Els (A2o l)->Bool
 | [],_,_=>true
 | [t],x,y=>eqE t (hdE [] x) (hdE [] y)
 |t::u::r,x,y=>eqE t (hdE (A2o (u::r)) x) (hdE (A2o (u::r)) y)&&C6M (u::r) (tlE (A2o (u::r)) x) (tlE (A2o (u::r)) y)
end
mutual
theorem C3g:∀ (td:TD) (x y:El (A7p td)),eqV (enc (A7p td) x) (enc (A7p td) y)=eqE td x y
 |.int _,x,y=>rfl
 |.bool,x,y=>rfl
 |.str,x,y=>rfl
 |.agg l,x,y=>C5r l x y
theorem C5r:∀ (l:List TD) (x y:Els (A2o l)),A9k (A1g (A2o l) x) (A1g (A2o l) y)=C6M l x y
 | [],x,y=>rfl
 | [t],x,y=>by
   have h:eqV (enc (A7p t) (hdE [] x)) (enc (A7p t) (hdE [] y))=eqE t (hdE [] x) (hdE [] y):=C3g t _ _;show (eqV (enc (A7p t) (hdE [] x)) (enc (A7p t) (hdE [] y))&&true)=eqE t (hdE [] x) (hdE [] y);rw[h,Bool.and_true]
 |t::u::r,x,y=>by
   have h1:=C3g t (hdE (A2o (u::r)) x) (hdE (A2o (u::r)) y);have h2:=C5r (u::r) (tlE (A2o (u::r)) x) (tlE (A2o (u::r)) y);show (eqV (enc (A7p t) (hdE (A2o (u::r)) x)) (enc (A7p t) (hdE (A2o (u::r)) y))&&A9k (A1g (A2o (u::r)) (tlE (A2o (u::r)) x)) (A1g (A2o (u::r)) (tlE (A2o (u::r)) y)))=(eqE t (hdE (A2o (u::r)) x) (hdE (A2o (u::r)) y)&&C6M (u::r) (tlE (A2o (u::r)) x) (tlE (A2o (u::r)) y));rw[h1,h2]
end
mutual
theorem C5s:∀ (td:TD) (x:El (A7p td)),A2V td (enc (A7p td) x)=true
 |.int _,x=>by simp[A7p,enc,A2V]
 |.bool,x=>rfl
 |.str,x=>rfl
 |.agg l,x=>C3h l x
theorem C3h:∀ (l:List TD) (x:Els (A2o l)),A4d l (A1g (A2o l) x)=true
 | [],x=>rfl
 |t::r,x=>by
   simp only[A2o,A1g,A4d,Bool.and_eq_true];exact⟨C5s t _,C3h r _⟩
end
def D0n (neg:Bool)(td:TD)(a b:W):Tree W:=match as? (A7p td) a,as? (A7p td) b with
 |some x,some y=>.leaf (wB (match neg with | false=>eqE td x y | true=>!(eqE td x y)))
 |_,_=>.fail
def C6N (neg:Bool)(td:TD)(a b:MV):Option MV:=match a,b with
 |.p a,.p b=>if A2V td a&&A2V td b then some (A9H (eqV a b != neg)) else none
 |_,_=>none
theorem D2e {neg:Bool}{td:TD}{a b w:W}(h:(D0n neg td a b).den=some w):C6N neg td (cW a) (cW b)=some (cW w):=by
 unfold D0n at h;split at h
 . rename_i x y hx hy;simp only[Tree.den_leaf] at h;subst h;rw[B2N hx,B2N hy];simp only[C6N,C5s,Bool.and_self,if_true,C3g];cases neg<;>cases eqE td x y<;>rfl
 . simp at h
def wnd:W->Bool
 |.dead _=>false
 |_=>true
def un2:MOp->W->Tree W
 | .not _,w=>match w with
   |.c (.bool b)=>.leaf (.c (.bool !b))
   |w=>match B8x w with | some b=>.leaf (wB !b) | none=>.fail
 |.neg _,w=>match A8e w with | some (k,n)=>.leaf (wI k (k.wrap (0-n))) | none=>.fail
 |.inv _,w=>match A8e w with | some (k,n)=>.leaf (wI k (D3n k (if k.signed then -1 else k.max) n)) | none=>.fail
 |.convI k _,w=>match A8e w with | some (_,n)=>.leaf (wI k (k.wrap n)) | none=>.fail
 |.convS _,w=>match B5g w with | some s=>.leaf (wS s) | none=>.fail
 |.convR _,w=>match A8e w with | some (_,n)=>.leaf (wS (Utf8.encode n)) | none=>.fail
 |.lenS _,w=>match B5g w with | some s=>.leaf (wI .i64 (s.size:Nat)) | none=>.fail
 |.capn _,w=>match w with | .nil _=>.leaf (wI .i64 (0:Nat)) | _=>.fail
 | .isnil fk neg _,w=>match fk,w with
   |false,.c .nilp=>.leaf (.c (.bool (true != neg)))
   |true,.c .nilf=>.leaf (.c (.bool (true != neg)))
   |false,.v .nilp _=>.leaf (.c (.bool (true != neg)))
   |true,.v .nilf _=>.leaf (.c (.bool (true != neg)))
   |false,.v (.ref _) _=>.leaf (.c (.bool (false != neg)))
   |false,.v (.opr t) x=>.leaf (.v .bool (Option.isNone (α:=El t) x != neg))
   |false,.ptr ..=>.leaf (.c (.bool (false != neg)))
   |true,.v (.fn _ _) _=>.leaf (.c (.bool (false != neg)))
   |true,.c (.fn _ _)=>.leaf (.c (.bool (false != neg)))
   |true,.fn _ _=>.leaf (.c (.bool (false != neg)))
   |_,_=>.fail
 | .nilc _,w=>match w with
   |.v (.ref t) x=>.leaf (.v (.ref t) x)
   |.v (.opr t) x=>.opt (A:=El t) (B5e t) x λy=>.leaf (.v (.ref t) y)
   |.ptr id np rp g=>.leaf (.ptr id np rp g)
   |_=>.fail
 | .len _,w=>match w with
   |.v (.sl t) l=>.leaf (wI .i64 (List.length (α:=El t) l:Nat))
   |.c (.sl l)=>.leaf (.c (.int .i64 (l.length:Nat)))
   |.nil _=>.leaf (.c (.int .i64 0))
   |.own _ _ _ n _=>.leaf (wI .i64 (n:Nat))
   |_=>.fail
 | .cut0 z _,w=>match w with
   |.v (.sl _) _=>.leaf (.nil z)
   |.c (.sl _)=>.leaf (.nil z)
   |.nil _=>.leaf (.nil z)
   |.own ..=>.leaf (.nil z)
   |_=>.fail
 | .ext _ i,w=>match w with
   |.tup l=>Tree.ofO l[i]?
   |_=>.fail
 | .fld agg n o _ i,w=>match w with
   | .v (.agg ts) x=>match B1S ts x i with
     |some v=>if Ty.css (ts.take i)==o&&v.1.cs==n&&v.1.isAgg==agg then .leaf (.v v.1 v.2) else .fail
     |none=>.fail
   | .c (.agg l)=>match l[i]? with
     |some v=>if PV.css (l.take i)==o&&v.cs==n&&v.isAgg==agg then .leaf (.c v) else .fail
     |none=>.fail
   | .agg l=>match l[i]? with
     |some v=>if C21 (l.take i)==o&&wcs v==n&&C6F v==agg&&wnd v then .leaf v else .fail
     |none=>.fail
   |_=>.fail
 | .faddr _ i o,w=>match w with
   | .v (.ref (.agg ts)) x=>match B1S ts x i with
     |some v=>if Ty.css (ts.take i)==o then .leaf (.v (.ref v.1) v.2) else .fail
     |none=>.fail
   |.ptr id np rp g=>.leaf (.ptr id np (rp++[.f i o]) g)
   |_=>.fail
 |_,_=>.fail
def B3W:MOp->Option Opd
 |.not x | .neg x | .inv x | .convI _ x | .convS x | .convR x | .lenS x | .capn x | .isnil _ _ x | .nilc x | .len x | .cut0 _ x | .ext x _ | .fld _ _ _ x _ | .faddr x _ _=>some x
 |_=>none
theorem C09 (v:W)(h:wnd v=true):B7W (cW v)=false:=by
 cases v<;>first | rfl | cases h
theorem D3o (K:A0w)(g:Nat)(d:Option Nat)(s:S2)(h:A0b)(op:MOp)(x:Opd)(w w':W)(ho:B3W op=some x)(hw:evO (cS s) x=cW w)(e:(un2 op w).den=some w'):A0a K g d (cS s) h op=some (cW w',h):=by
 cases op<;>simp only[B3W,Option.some.injEq,reduceCtorEq] at ho<;>subst ho<;>simp only[un2] at e<;>simp only[A0a,hw]
 case not =>
  split at e
  . simp only[Tree.den_leaf] at e;subst e;rfl
  . split at e
    . rename_i b hb;simp only[Tree.den_leaf] at e;subst e;rw[B7k hb];rfl
    . simp at e
 case neg =>
  split at e
  . rename_i b hb;simp only[Tree.den_leaf] at e;subst e;rw[A4U hb];rfl
  . simp at e
 case inv =>
  split at e
  . rename_i b hb;simp only[Tree.den_leaf] at e;subst e;rw[A4U hb];rfl
  . simp at e
 case convI =>
  split at e
  . rename_i b hb;simp only[Tree.den_leaf] at e;subst e;rw[A4U hb];rfl
  . simp at e
 case convS =>
  split at e
  . rename_i b hb;simp only[Tree.den_leaf] at e;subst e;rw[B0L hb];rfl
  . simp at e
 case convR =>
  split at e
  . rename_i b hb;simp only[Tree.den_leaf] at e;subst e;rw[A4U hb];rfl
  . simp at e
 case lenS =>
  split at e
  . rename_i b hb;simp only[Tree.den_leaf] at e;subst e;rw[B0L hb];rfl
  . simp at e
 case capn =>
  split at e
  . simp only[Tree.den_leaf] at e;subst e;rfl
  . simp at e
 case isnil =>
  split at e<;>first | (simp only[Tree.den_leaf] at e;subst e;rfl) | (simp only[Tree.den_leaf] at e;subst e;rename_i t x;change Option (El t) at x;cases x<;>rfl) | simp at e
 case nilc =>
  split at e
  . simp only[Tree.den_leaf] at e;subst e;rfl
  . rename_i t x;obtain⟨y,hy,e2⟩:=(Tree.den_opt (A:=El t) (B5e t) x _ _).1 e;simp only[Tree.den_leaf] at e2;subst e2;have hx:x=(show El (.opr t) from some y):=hy;subst hx;rfl
  . simp only[Tree.den_leaf] at e;subst e;rfl
  . simp at e
 case len =>
  split at e
  . rename_i t l;simp only [Tree.den_leaf] at e;subst e
    have:∀l:List (El t),(match A8H (.p (.sl (l.map (enc t)))) with | some n=>some (A8G n,h) | none=>none)=some (.p (.int .i64 (l.length:Nat)),h):=by intro l;simp[A8H,A8G]
    exact this l
  . simp only[Tree.den_leaf] at e;subst e;rfl
  . simp only[Tree.den_leaf] at e;subst e;rfl
  . simp only[Tree.den_leaf] at e;subst e;rfl
  . simp at e
 case cut0 =>
  split at e<;>first | (simp only[Tree.den_leaf] at e;subst e;rfl) | simp at e
 case ext =>
  split at e
  . rename_i l;simp only[Tree.den_ofO] at e;simp only[cW,A2x,List.getElem?_map,e];rfl
  . simp at e
 case fld =>
  split at e
  . rename_i ts x;split at e
    . rename_i v hv;obtain ⟨t,y⟩:=v;split at e
      . rename_i hc;simp only[Bool.and_eq_true,beq_iff_eq] at hc;simp only[Tree.den_leaf] at e;subst e;have hv2:=(B07 0 ts x _ t y hv).1;have hcs:=A6N ts x;simp only[cW,enc];rw[hv2];simp only;rw[if_pos ⟨(hcs _).trans hc.1.1,(A7k _ _).trans hc.1.2,(B1O _ _).trans hc.2⟩]
      . simp at e
    . simp at e
  . rename_i l;split at e
    . rename_i v hv;split at e
      . rename_i hc;simp only[Bool.and_eq_true,beq_iff_eq] at hc;simp only[Tree.den_leaf] at e;subst e;simp only[cW];rw[hv];simp only;rw[if_pos ⟨hc.1.1,hc.1.2,hc.2⟩]
      . simp at e
    . simp at e
  . rename_i l;split at e
    . rename_i v hv;split at e
      . rename_i hc;simp only[Bool.and_eq_true,beq_iff_eq] at hc;simp only[Tree.den_leaf] at e;subst e;simp only[cW,A2x,List.getElem?_map,hv,Option.map_some,←List.map_take];rw[←A2x,B9P,B8v,C5k,if_pos ⟨hc.1.1.1,hc.1.1.2,hc.1.2,C09 _ hc.2⟩]
      . simp at e
    . simp at e
  . simp at e
 case faddr =>
  split at e
  . rename_i ts x;split at e
    . rename_i v hv;obtain ⟨t,y⟩:=v;split at e
      . rename_i hc;simp only[beq_iff_eq] at hc;simp only[Tree.den_leaf] at e;subst e;have hv2:=(B07 0 ts x _ t y hv).1;have hcs:=A6N ts x;simp only[cW,enc];rw[hv2];simp only;rw[if_pos ((hcs _).trans hc)]
      . simp at e
    . simp at e
  . simp only[Tree.den_leaf] at e;subst e;simp only[cW];rw[A81,B3L];rfl
  . simp at e
end Go.Mid
/- Operations on symbolic states: owned memory. -/
namespace Go.Mid
set_option linter.unusedSimpArgs false
set_option linter.unusedVariables false
def B3X (np:Option (List Step))(rp:List Step):List Step:=match np with | none=>rp | some p=>p++rp
theorem B3Y (np:Option (List Step))(rp:List Step):A5q (npI np) (ixs rp)=ixs (B3X np rp):=by
 cases np with
 |none=>rfl
 |some p=>simp only[A5q,npI,Option.getD_some,B3X,A81]
def C2a (h:H2)(agg:Bool)(n:Nat):W->Tree W
 |.v (.ref t) x=>if t.cs==n&&t.isAgg==agg then .leaf (.v t x) else .fail
 |.ptr id np rp g=>(Tree.ofO (A2H h id)).bind λo=>(B3R o np rp).bind λx=>if x.2==g&&tcs x.1==n then
    (B7p id (B3X np rp) x.1).bind λv=>if C6F v==agg&&wnd v then .leaf v else .fail else .fail
 |_=>.fail
theorem C3i {h:H2}{agg:Bool}{n:Nat}{a w:W}(e:(C2a h agg n a).den=some w):A37 (cH h) agg n (cW a)=some (cW w):=by
 unfold C2a at e;split at e
 . rename_i t x;split at e
   . rename_i hc;simp only [Bool.and_eq_true,beq_iff_eq] at hc;simp only [Tree.den_leaf] at e;subst e;show (if (enc t x).cs=n∧(enc t x).isAgg=agg then some (MV.p (enc t x)) else none)=_
     rw[if_pos ⟨(A7k _ _).trans hc.1,(B1O _ _).trans hc.2⟩];rfl
   . simp at e
 . rename_i id np rp g;simp only [Tree.den_bind,Tree.den_ofO] at e;obtain ⟨o,h1,⟨t,s⟩,h2,e⟩:=e;split at e
   . rename_i hc;simp only [Bool.and_eq_true,beq_iff_eq] at hc;simp only [Tree.den_bind] at e;obtain ⟨v,h3,e⟩:=e;split at e
     . rename_i hd;simp only[Bool.and_eq_true,beq_iff_eq] at hd;simp only[Tree.den_leaf] at e;subst e;simp only[cW,A37];rw[A2k h1,B08 h2];simp only;rw[B3Y,C5q _ _ _ _ h3,C5k,B2O,if_pos ⟨hc.1,trivial,hc.2⟩,if_pos ⟨hd.1,C09 _ hd.2⟩]
     . simp at e
   . simp at e
 . simp at e
mutual
def tyT:T2->Ty
 |.e _ t _=>t
 |.vec _ z (.base _ t _) _=>.vec z t
 |.agg l=>.agg (D3p l)
 |_=>.bool
def D3p:List T2->List Ty
 | []=>[]
 |t::r=>tyT t::D3p r
end
def hdT:T2->Option (Nat×Nat×SL×Nat)
 |.vec g z l n=>some (g,z,l,n)
 |.e s (.vec z t) l=>some (s,z,.base s t l,List.length (α:=El t) l)
 |_=>none
theorem B1b {t:T2}{g z n:Nat}{l:SL}(h:hdT t=some (g,z,l,n)):cT t=.vec g z (cSL l) n:=by
 unfold hdT at h;split at h
 . simp only[Option.some.injEq,Prod.mk.injEq] at h;obtain⟨rfl,rfl,rfl,rfl⟩:=h;rfl
 . simp only[Option.some.injEq,Prod.mk.injEq] at h;obtain⟨rfl,rfl,rfl,rfl⟩:=h;rfl
 . cases h
def A49:List Step->List Step->Tree Unit
 | [],[]=>.leaf ()
 |.f i _::r,.f j _::q=>(Tree.chk (i==j)).bind λ_=>A49 r q
 |.k i _::r,.k j _::q=>(Tree.ask (Nat.beq i j)).bind λ_=>A49 r q
 |_,_=>.fail
theorem B2s:∀ {p q:List Step} {u:Unit},(A49 p q).den=some u->ixs p=ixs q
 | [],[],_,_=>rfl
 |.f i _::r,.f j _::q,u,h=>by
   simp only[A49,Tree.den_bind,Tree.den_chk,beq_iff_eq] at h;obtain⟨_,h1,h2⟩:=h;simp only[ixs,Step.ix,h1,B2s h2]
 |.k i _::r,.k j _::q,u,h=>by
   simp only[A49,Tree.den_bind,Tree.den_ask] at h;obtain⟨_,h1,h2⟩:=h;simp only[ixs,Step.ix,Nat.eq_of_beq_eq_true h1,B2s h2]
 | [],_::_,_,h=>by simp[A49] at h
 |.f _ _::_,[],_,h=>by simp[A49] at h
 |.k _ _::_,[],_,h=>by simp[A49] at h
 |.k _ _::_,.f _ _::_,_,h=>by simp[A49] at h
 |.f _ _::_,.k _ _::_,_,h=>by simp[A49] at h
def SL.cut (n:Nat):SL->Tree SL
 |.base s t l=>.leaf (.base s t (l.take n))
 |a=>(Tree.ask (Nat.beq n a.len)).bind λ_=>.leaf a
theorem SL.cut_eq {n:Nat}{a b:SL}(h:(SL.cut n a).den=some b):cSL b=(cSL a).take n:=by
 have key:∀a:SL,((Tree.ask (Nat.beq n a.len)).bind λ_=>Tree.leaf a).den=some b->cSL b=(cSL a).take n:=by
  intro a h;simp only[Tree.den_bind,Tree.den_ask,Tree.den_leaf] at h;obtain⟨_,h1,rfl⟩:=h;rw[Nat.eq_of_beq_eq_true h1,List.take_of_length_le (by rw[SL.len_eq];exact Nat.le_refl _)]
 cases a with
 |base s t l=>simp only[SL.cut,Tree.den_leaf] at h;subst h;simp only[cSL,List.map_take]
 |set a i u=>exact key _ h
 |app a u=>exact key _ h
def B8F (g:Nat)(h:H2)(n id:Nat)(p:List Step)(u:Ty)(x:W):Tree (W×H2) :=
 (A65 g (some u) h x).bind λy=>if tcs y.1==n then(Tree.ofO (A2H y.2 id)).bind λo=>(A83 y.1 o p).bind λo'=>.leaf (.dead 0,setA y.2 id o') else .fail
theorem C1a {g:Nat}{h:H2}{n id:Nat}{p:List Step}{u:Ty}{x w:W}{h':H2}(e:(B8F g h n id p u x).den=some (w,h')):A41 g (cH h) n id (ixs p) (cW x)=some (cW w,cH h'):=by
 unfold B8F at e;simp only[Tree.den_bind] at e;obtain⟨⟨t,h1⟩,e1,e⟩:=e;split at e
 . rename_i hc;simp only[beq_iff_eq] at hc;simp only[Tree.den_bind,Tree.den_ofO,Tree.den_leaf,Prod.mk.injEq] at e;obtain⟨o,e2,o',e3,rfl,rfl⟩:=e;unfold A41;rw[B7s g x _ h t h1 e1];simp only;rw[B2O,if_pos hc,A2k e2,A6w e3];simp only;rw[A10];rfl
 . simp at e
def C3j (g:Nat)(h:H2)(n:Nat)(a x:W):Tree (W×H2) :=
 match a with
 |.ptr id np rp g0=>(Tree.ofO (A2H h id)).bind λo=>(B3R o np rp).bind λy=>if y.2==g0&&tcs y.1==n then
    (match x with
    | .own id' path' off len g'=>if id'==id then (match hdT y.1 with
       | some (a,z,l,n')=>if off.isNone&&g'==a then (A49 path' (B3X np rp)).bind λ_ =>
          (Tree.ask (Nat.ble len n')).bind λ_=>(SL.cut len l).bind λl'=>(A83 (.vec a z l' len) o (B3X np rp)).bind λo'=>.leaf (.dead 0,setA h id o')
         else .fail
       |none=>.fail)
      else B8F g h n id (B3X np rp) (tyT y.1) x
    |x=>B8F g h n id (B3X np rp) (tyT y.1) x)
    else .fail
 |_=>.fail
theorem C8r {g:Nat}{h:H2}{n:Nat}{a x w:W}{h':H2}(e:(C3j g h n a x).den=some (w,h')):B0H g (cH h) n (cW a) (cW x)=some (cW w,cH h'):=by
 unfold C3j at e;split at e
 . rename_i id np rp g0;simp only [Tree.den_bind,Tree.den_ofO] at e;obtain ⟨o,h1,⟨t,s⟩,h2,e⟩:=e;split at e
   . rename_i hc;simp only [Bool.and_eq_true,beq_iff_eq] at hc;have hl:=B08 h2;simp only [cW,B0H];rw [A2k h1,hl];simp only;rw [if_pos ⟨hc.1,trivial,(B2O t).trans hc.2⟩];split at e
     . rename_i id' path' off len g';split at e
       . rename_i hid;simp only [beq_iff_eq] at hid;subst hid;split at e
         . rename_i a z l n' ht;split at e
           . rename_i hq;simp only[Bool.and_eq_true,beq_iff_eq,Option.isNone_iff_eq_none] at hq;simp only[Tree.den_bind,Tree.den_ask,Tree.den_leaf,Prod.mk.injEq] at e;obtain⟨_,h8,_,h3,l',h9,o',h4,rfl,rfl⟩:=e;have h3:=Nat.ble_eq.mp h3;have hp:=A6w h4;rw[B1b ht];simp only[cW];rw[B3Y,hq.1,if_pos ⟨trivial,B2s h8,rfl,hq.2,h3⟩];simp only[cT,SL.cut_eq h9] at hp;rw[hp,←A10]
           . simp at e
         . simp at e
       . rename_i hid;have hid:¬ id'=id:=by simpa using hid
         have e:=C1a e;rw[B3Y];simp only[cW] at e ⊢;split
         . rw [if_neg (λhh=>hid (by simp_all))]
           exact e
         . exact e
     . rename_i hno;have e:=C1a e;rw [B3Y];have hx:∀ i p o l g,cW x=.own i p o l g->False:=by
        intro i p o l g hh;cases x with
        |own a b c d f=>exact hno _ _ _ _ _ rfl
        |_=>cases hh
       split
       . rename_i hh _;exact(hx _ _ _ _ _ hh).elim
       . exact e
   . simp at e
 . simp at e
def B1c (w:W):Tree Nat:=match A8e w with
 |some (_,i)=>(B1X w (decide (0<=i))).bind λ_=>.leaf i.toNat
 |none=>.fail
theorem C5t {w:W}{k:Nat}(h:(B1c w).den=some k):asI (cW w)=some (k:Int):=by
 unfold B1c at h;split at h
 . rename_i k' i hi;simp only[Tree.den_bind,B1Y,decide_eq_true_eq,Tree.den_leaf] at h;obtain⟨_,h1,rfl⟩:=h;rw[A4U hi];simp only[asI,Option.some.injEq];omega
 . simp at h
theorem A9A {w:W}{k n:Nat}(h:(B1c w).den=some k)(hk:k<n):B0d n (cW w)=some k:=by
 unfold B0d;rw[C5t h];simp only;rw[if_pos ⟨by omega,by omega⟩]
 simp
theorem D2f {w:W}{k n:Nat}(h:(B1c w).den=some k)(hk:k<=n):A9n n (cW w)=some k:=by
 unfold A9n;rw[C5t h];simp only;rw[if_pos ⟨by omega,by omega⟩]
 simp
def bd2 (n:Nat):Option W->Tree (Option Nat)
 |none=>.leaf none
 |some w=>(B1c w).bind λk=>(Tree.ask (Nat.ble k n)).bind λ_=>.leaf (some k)
theorem B2W {n:Nat}{m:Nat}{w:Option W}{k:Option Nat}(h:(bd2 n w).den=some k):B4I n m (w.map cW)=some (k.getD m):=by
 cases w with
 |none=>simp only[bd2,Tree.den_leaf] at h;subst h;rfl
 |some w =>
   simp only[bd2,Tree.den_bind,Tree.den_ask,Tree.den_leaf] at h;obtain⟨j,h1,_,h2,rfl⟩:=h;exact D2f h1 (Nat.ble_eq.mp h2)
def B3Z (n:Nat)(lo hi:Option W):Tree (Option Nat×Option Nat) :=
 (bd2 n hi).bind λb=>(bd2 (b.getD n) lo).bind λa=>.leaf (a,b)
theorem B30 {n:Nat}{lo hi:Option W}{a b:Option Nat}(h:(B3Z n lo hi).den=some (a,b)):B3m n (lo.map cW) (hi.map cW)=some (a.getD 0,b.getD n):=by
 simp only[B3Z,Tree.den_bind,Tree.den_leaf,Prod.mk.injEq] at h;obtain⟨b',h1,a',h2,rfl,rfl⟩:=h;unfold B3m;rw[B2W (m:=n) h1];simp only;rw[B2W (m:=0) h2]
def C6O {A:Type}(a b:Option Nat)(l:List A):List A :=
 let m:=match b with | none=>l | some b=>l.take b
 match a with | none=>m | some a=>m.drop a
theorem D2g {A B:Type}(f:A->B)(a b:Option Nat)(l:List A):(C6O a b l).map f=((l.map f).take (b.getD l.length)).drop (a.getD 0):=by
 unfold C6O;cases a<;>cases b<;>simp[List.map_take,List.map_drop]
def C3k (h:H2)(z:Nat)(w:W)(lo hi:Option W):Tree W:=match w with
 |.v (.sl t) l=>if t.cs==z then(B3Z (List.length (α:=El t) l) lo hi).bind λx=>.leaf (.v (.sl t) (C6O (A:=El t) x.1 x.2 l)) else .fail
 |.nil z=>(B3Z 0 lo hi).bind λ_=>.leaf (.nil z)
 |.own id path off len g=>(Tree.ofO (A2H h id)).bind λo=>(A6a o path).bind λy=>if y.1==g&&y.2.1==z then
    (B3Z len lo hi).bind λx=>.leaf (.own id path (match x.1 with | none=>off | some a=>some (match off with | none=>a | some o=>o+a)) (match x.1 with | none=>x.2.getD len | some a=>x.2.getD len-a) g) else .fail
 |_=>.fail
theorem B2X (t:Ty)(z:Nat)(h:t.cs=z)(l:List (El t)):((l.map (enc t)).all λv=>v.cs==z)=true:=by
 rw[List.all_eq_true];intro v hv;obtain⟨x,_,rfl⟩:=List.mem_map.1 hv;simp[A7k,h]
theorem C8s {h:H2}{z:Nat}{w w':W}{lo hi:Option W}(e:(C3k h z w lo hi).den=some w'):A6R (cH h) z (cW w) (lo.map cW) (hi.map cW)=some (cW w'):=by
 unfold C3k at e;split at e
 . rename_i t l;split at e
   . rename_i hz;simp only [beq_iff_eq] at hz;simp only [Tree.den_bind,Tree.den_leaf] at e;obtain ⟨⟨a,b⟩,h1,rfl⟩:=e;have key:∀ l:List (El t),(B3Z l.length lo hi).den=some (a,b)->A6R (cH h) z (.p (.sl (l.map (enc t)))) (lo.map cW) (hi.map cW)=some (.p (.sl ((C6O a b l).map (enc t)))):=by
      intro l h1;simp only[A6R,List.length_map];rw[B30 h1];simp only;rw[if_pos (B2X t z hz l),D2g]
     exact key l h1
   . simp at e
 . simp only[Tree.den_bind,Tree.den_leaf] at e;obtain⟨⟨a,b⟩,h1,rfl⟩:=e;simp only[cW,A6R];rw[B30 h1]
 . rename_i id path off len g;simp only [Tree.den_bind,Tree.den_ofO] at e;obtain ⟨o,h1,⟨g',z',a'⟩,h2,e⟩:=e;split at e
   . rename_i hc;simp only[Bool.and_eq_true,beq_iff_eq] at hc;simp only[Tree.den_bind,Tree.den_leaf] at e;obtain⟨⟨a,b⟩,h3,rfl⟩:=e;simp only[cW,A6R];rw[B30 h3,A2k h1,A3t h2];simp only;rw[if_pos hc];cases a<;>cases off<;>simp
   . simp at e
 . simp at e
def B90 (w:W)(lo hi:Option W):Tree W:=match B5g w with
 |some b=>(B3Z b.size lo hi).bind λx=>.leaf (wS (b.extract (x.1.getD 0) (x.2.getD b.size)))
 |none=>.fail
abbrev D6l {A:Type} (l:List A) (k:Nat):Option A:=l[k]?
def C3l (h:H2)(z:Nat)(w i:W):Tree W:=match w with
 |.v (.sl t) l=>if t.cs==z then(B1c i).bind λk=>.opt (B5e t) (D6l (A:=El t) l k) λx=>.leaf (.v (.ref t) x) else .fail
 |.own id path off len g=>(Tree.ofO (A2H h id)).bind λo=>(A6a o path).bind λy=>if y.1==g&&y.2.1==z then
    (B1c i).bind λk=>(Tree.ask (Nat.blt k len)).bind λ_=>.leaf (.ptr id (some path) [match off with | none=>B5h z k i | some o=>.k (o+k) z] g) else .fail
 |_=>.fail
theorem C8t {h:H2}{z:Nat}{w i w':W}(e:(C3l h z w i).den=some w'):A6S (cH h) z (cW w) (cW i)=some (cW w'):=by
 unfold C3l at e;split at e
 . rename_i t l;split at e
   . rename_i hz;simp only [beq_iff_eq] at hz;simp only [Tree.den_bind,Tree.den_opt,Tree.den_leaf] at e;obtain ⟨k,h1,x,h2,rfl⟩:=e;have key:∀ l:List (El t),l[k]?=some x->A6S (cH h) z (.p (.sl (l.map (enc t)))) (cW i)=some (.p (.ref (enc t x))):=by
      intro l h2;have hk:=(List.getElem?_eq_some_iff.1 h2).1;simp only[A6S,List.length_map];rw[A9A h1 hk];simp only[List.getElem?_map,h2,Option.map_some];rw[if_pos ((A7k _ _).trans hz)]
     exact key l h2
   . simp at e
 . rename_i id path off len g;simp only [Tree.den_bind,Tree.den_ofO] at e;obtain ⟨o,h1,⟨g',z',a'⟩,h2,e⟩:=e;split at e
   . rename_i hc;simp only [Bool.and_eq_true,beq_iff_eq] at hc;simp only [Tree.den_bind,Tree.den_ask,Tree.den_leaf] at e;obtain ⟨k,h3,_,h4,rfl⟩:=e;simp only [cW,A6S];rw [A9A h3 (Nat.blt_eq.mp h4),A2k h1];simp only;rw [A3t h2];simp only;rw [if_pos hc];cases off with
     |none =>
       simp only[Option.getD_none,Nat.zero_add];cases i<;>simp[B5h,npI,ixs,ofs,Step.ix,Step.of]
     |some o=>simp[npI,ixs,ofs,Step.ix,Step.of]
   . simp at e
 . simp at e
def C6P (n z:Nat)(ts:List Ty)(x:Els ts)(i:W):Tree TV :=
 (B1c i).bind λk=>match isC i with
   |true=>if Nat.blt k n&&Ty.css (ts.take k)==k*z then Tree.ofO (B1S ts x k) else .fail
   | false=>match C15 ts z with
     |some t=>if ts.length==n then(Tree.ask (Nat.blt k n)).bind λ_=>(Tree.ofO (B9R t k ts x 0)).bind λy=>.leaf ⟨t,y⟩ else .fail
     |none=>.fail
theorem C5u {n z:Nat}{ts:List Ty}{x:Els ts}{i:W}{v:TV}(h:(C6P n z ts x i).den=some v) :
 ∃k,B0d n (cW i)=some k∧(A1g ts x)[k]?=some (enc v.1 v.2)∧PV.css ((A1g ts x).take k)=k*z:=by
 unfold C6P at h;simp only[Tree.den_bind] at h;obtain⟨k,h1,h⟩:=h;refine⟨k,?_⟩;split at h
 . split at h
   . rename_i hc;simp only[Bool.and_eq_true,beq_iff_eq] at hc;rw[Tree.den_ofO] at h;obtain⟨t,y⟩:=v;exact⟨A9A h1 (Nat.blt_eq.mp hc.1),(B07 0 ts x k t y h).1,(A6N ts x k).trans hc.2⟩
   . simp at h
 . split at h
   . rename_i t ht;split at h
     . rename_i hn;simp only [beq_iff_eq] at hn;simp only [Tree.den_bind,Tree.den_ask,Tree.den_ofO,Tree.den_leaf] at h;obtain ⟨_,h2,y,h3,rfl⟩:=h;have h2:=Nat.blt_eq.mp h2;have hs:=(B9S 0 t k ts x 0 y h3 (Nat.zero_le _) (by omega)).1
       rw[Nat.sub_zero] at hs;refine⟨A9A h1 h2,hs,(A6N ts x k).trans ?_⟩;unfold C15 at ht;split at ht
       . cases ht
       . split at ht
         . rename_i hc;cases ht;simp only[Bool.and_eq_true,beq_iff_eq] at hc;rw[←hc.2];exact B5i hc.1 (by omega)
         . cases ht
     . simp at h
   . simp at h
def C3m (k:IntKind):List PV->Option (List Int)
 | []=>some []
 |.int l x::r=>if l==k then(match C3m k r with | some m=>some (x::m) | none=>none) else none
 |_=>none
theorem C5v {k:IntKind}:∀ {l:List PV} {m:List Int},C3m k l=some m->l=m.map (PV.int k)
 | [],m,h=>by simp only[C3m,Option.some.injEq] at h;subst h;rfl
 |v::r,m,h=>by
   cases v with
   |int l x =>
     simp only[C3m] at h;split at h
     . rename_i hk;split at h
       . rename_i q hq;simp only[Option.some.injEq] at h;subst h;simp only[beq_iff_eq] at hk;subst hk;rw[C5v hq];rfl
       . cases h
     . cases h
   |_=>cases h
theorem C3n (k:IntKind):∀ m:List Int,PV.css (m.map (PV.int k))=m.length
 | []=>rfl
 |x::r=>by simp only[List.map_cons,PV.css,PV.cs,C3n k r,List.length_cons];omega
def D6m:List PV->Option IntKind
 |.int k _::_=>some k
 |_=>none
def B91 (n z:Nat)(w i:W):Tree W:=match w with
 | .c (.ref (.agg l))=>match D6m l with
   | some k=>match C3m k l with
     |some m=>if z==1 then(B1c i).bind λj=>(Tree.ask (Nat.blt j n)).bind λ_=>.opt (0:Int) m[j]? λv=>.leaf (.v (.ref (.int k)) v) else .fail
     |none=>.fail
   |none=>.fail
 |.v (.ref (.agg ts)) x=>(C6P n z ts x i).bind λv=>.leaf (.v (.ref v.1) v.2)
 |.ptr id np rp g=>(B1c i).bind λk=>(Tree.ask (Nat.blt k n)).bind λ_=>.leaf (.ptr id np (rp++[B5h z k i]) g)
 |_=>.fail
def D0o (agg:Bool)(z n:Nat)(w i:W):Tree W:=match pv? w with
 |some ⟨.agg ts,x⟩=>(C6P n z ts x i).bind λv=>if v.1.cs==z&&v.1.isAgg==agg then .leaf (.v v.1 v.2) else .fail
 |_=>.fail
def C6Q (w i:W):Tree W:=match B5g w with
 |some b=>(B1c i).bind λk=>.opt (0:UInt8) b.data[k]? λc=>.leaf (wI .u8 c.toNat)
 |none=>.fail
def B8G (t:Ty):(ts:List Ty)->Els ts->Option (List (El t))
 | [],_=>some []
 | u::r,x=>match A3z t (hdE r x) with
   | some y=>match B8G t r (tlE r x) with
     |some l=>some (y::l)
     |none=>none
   |none=>none
theorem C3o {t:Ty}:∀ {ts:List Ty} {x:Els ts} {l:List (El t)},B8G t ts x=some l->A1g ts x=l.map (enc t)∧ts.length=l.length
 | [],_,l,h=>by
   simp only[B8G,Option.some.injEq] at h;subst h;exact⟨rfl,rfl⟩
 |u::r,x,l,h=>by
   simp only[B8G] at h;split at h
   . rename_i y hy;split at h
     . rename_i m hm;simp only [Option.some.injEq] at h;subst h;obtain ⟨h1,h2⟩:=C3o hm;refine ⟨?_,by simp [h2]⟩
       simp only[A1g,List.map_cons,h1,(A2u hy).2.2]
     . cases h
   . cases h
def D0p (n z:Nat)(w:W):Tree W:=match w with
 |.v (.ref (.agg (t::ts))) x=>if t.cs==z&&(t::ts).length==n then(Tree.ofO (B8G t (t::ts) x)).bind λl=>.leaf (.v (.sl t) l) else .fail
 |_=>.fail
theorem D2h {K:A0w}{g:Nat}{d:Option Nat}{s:S2}{h:A0b}{n z:Nat}{x:Opd}{w w':W}(hw:evO (cS s) x=cW w)(e:(D0p n z w).den=some w') :
 A0a K g d (cS s) h (.slA n z x)=some (cW w',h):=by
 unfold D0p at e;split at e
 . rename_i t ts q;split at e
   . rename_i hc;simp only[Bool.and_eq_true,beq_iff_eq] at hc;simp only[Tree.den_bind,Tree.den_ofO,Tree.den_leaf] at e;obtain⟨l,h1,rfl⟩:=e;obtain⟨h2,h3⟩:=C3o h1;simp only[A0a,hw,cW,enc];rw[h2,if_pos ⟨by rw[List.length_map,←h3,hc.2],B2X t z hc.1 l⟩]
   . simp at e
 . simp at e
theorem C6R {K:A0w}{g:Nat}{d:Option Nat}{s:S2}{h:A0b}{x:Opd}{lo hi:Option Opd}{w w':W}{wl wh:Option W}
 (hw:evO (cS s) x=cW w) (hl:lo.map (evO (cS s))=wl.map cW) (hh:hi.map (evO (cS s))=wh.map cW) (e:(B90 w wl wh).den=some w') :
 A0a K g d (cS s) h (.sliceS x lo hi)=some (cW w',h):=by
 unfold B90 at e;split at e
 . rename_i b hb;simp only[Tree.den_bind,Tree.den_leaf] at e;obtain⟨⟨i,j⟩,h1,rfl⟩:=e;simp only[A0a,hw,hl,hh,B0L hb];rw[B30 h1];rfl
 . simp at e
theorem C6S {K:A0w}{g:Nat}{d:Option Nat}{s:S2}{h:A0b}{n z:Nat}{x y:Opd}{w i w':W}(hw:evO (cS s) x=cW w)(hi:evO (cS s) y=cW i)(e:(B91 n z w i).den=some w') :
 A0a K g d (cS s) h (.iaddrA n z x y)=some (cW w',h):=by
 unfold B91 at e;split at e
 . rename_i l;split at e
   . rename_i k hk;split at e
     . rename_i m hm;split at e
       . rename_i hz;simp only [beq_iff_eq] at hz;subst hz;simp only [Tree.den_bind,Tree.den_ask,Tree.den_opt,Tree.den_leaf] at e;obtain ⟨j,h1,_,h2,v,h3,rfl⟩:=e;have hl:=C5v hm;subst hl;simp only [A0a,hw,hi,A9A h1 (Nat.blt_eq.mp h2),cW];have hj:j<m.length:=(List.getElem?_eq_some_iff.1 h3).1;rw [List.getElem?_map,h3];simp only [Option.map_some,← List.map_take,C3n,List.length_take];rw [if_pos (by omega)]
         rfl
       . simp at e
     . simp at e
   . simp at e
 . rename_i ts q;simp only[Tree.den_bind,Tree.den_leaf] at e;obtain⟨v,h1,rfl⟩:=e;obtain⟨k,h2,h3,h4⟩:=C5u h1;simp only[A0a,hw,hi,h2,cW,enc];rw[h3];simp only;rw[if_pos h4]
 . simp only[Tree.den_bind,Tree.den_ask,Tree.den_leaf] at e;obtain⟨k,h1,_,h2,rfl⟩:=e;simp only[A0a,hw,hi,A9A h1 (Nat.blt_eq.mp h2),cW];rw[A81,B3L];simp only[ixs,ofs,C8j,C8k,Nat.add_zero]
 . simp at e
theorem D2i {K:A0w}{g:Nat}{d:Option Nat}{s:S2}{h:A0b}{agg:Bool}{n z:Nat}{x y:Opd}{w i w':W}(hw:evO (cS s) x=cW w)(hi:evO (cS s) y=cW i)(e:(D0o agg z n w i).den=some w') :
 A0a K g d (cS s) h (.idx agg z n x y)=some (cW w',h):=by
 unfold D0o at e;split at e
 . rename_i ts q hp;simp only [Tree.den_bind] at e;obtain ⟨v,h1,e⟩:=e;split at e
   . rename_i hc;simp only[Bool.and_eq_true,beq_iff_eq] at hc;simp only[Tree.den_leaf] at e;subst e;obtain⟨k,h2,h3,h4⟩:=C5u h1;simp only[A0a,hw,hi,B2M hp,enc,h2];rw[h3];simp only;rw[if_pos ⟨h4,(A7k _ _).trans hc.1,(B1O _ _).trans hc.2⟩];rfl
   . simp at e
 . simp at e
theorem D0q {K:A0w}{g:Nat}{d:Option Nat}{s:S2}{h:A0b}{x y:Opd}{w i w':W}(hw:evO (cS s) x=cW w)(hi:evO (cS s) y=cW i)(e:(C6Q w i).den=some w') :
 A0a K g d (cS s) h (.idxS x y)=some (cW w',h):=by
 unfold C6Q at e;split at e
 . rename_i b hb;simp only [Tree.den_bind,Tree.den_opt,Tree.den_leaf] at e;obtain ⟨k,h1,c,h2,rfl⟩:=e;have hk:k<b.size:=by
    obtain⟨hk,_⟩:=Array.getElem?_eq_some_iff.1 h2;exact hk
   simp only[A0a,hw,hi,B0L hb,A9A h1 hk,h2];rfl
 . simp at e
end Go.Mid
