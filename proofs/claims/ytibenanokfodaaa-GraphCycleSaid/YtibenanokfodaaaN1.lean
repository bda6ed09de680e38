/- Typed values: codes of types, their values in Lean, and their pure values; decision trees. -/
import Derived.Test.YtibenanokfodaaaM7
namespace Go.Mid
set_option linter.unusedSimpArgs false
set_option linter.unusedVariables false
inductive Ty where
 | int (k:IntKind) | bool | str | sl (t:Ty) | agg (ts:List Ty) | ref (t:Ty) | fn (f:Nat) (ts:List Ty) | mp (k v:Ty) | nilp | nilf | vec (z:Nat) (t:Ty)
 deriving Inhabited
def C9o (A R:Type):List Ty→Type
 | []=>A
 | _::_=>A×R
mutual
def El:Ty→Type
 | .int _=>Int
 | .bool=>Bool
 | .str=>ByteArray
 | .sl t=>List (El t)
 | .agg ts=>Els ts
 | .ref t=>El t
 | .fn _ ts=>Els ts
 | .mp k v=>List (El k×El v)
 | .nilp=>Unit
 | .nilf=>Unit
 | .vec _ t=>List (El t)
def Els:List Ty→Type
 | []=>Unit
 | t::r=>C9o (El t) (Els r) r
end
def hdE {t:Ty}:(r:List Ty)→Els (t::r)→El t
 | [],x=>x
 | _::_,x=>x.1
def tlE {t:Ty}:(r:List Ty)→Els (t::r)→Els r
 | [],_=>()
 | _::_,x=>x.2
def mkE {t:Ty}:(r:List Ty)→El t→Els r→Els (t::r)
 | [],a,_=>a
 | _::_,a,b=>(a,b)
@[simp] theorem A4s {t:Ty} (r:List Ty) (a:El t) (b:Els r):hdE r (mkE r a b)=a:=by cases r <;> rfl
@[simp] theorem A4t {t:Ty} (r:List Ty) (a:El t) (b:Els r):tlE r (mkE r a b)=b:=by cases r <;> rfl
mutual
def enc:(t:Ty)→El t→PV
 | .int k,x=>.int k x
 | .bool,x=>.bool x
 | .str,x=>.str x
 | .sl t,x=>.sl (List.map (enc t) x)
 | .agg ts,x=>.agg (A05 ts x)
 | .ref t,x=>.ref (enc t x)
 | .fn f ts,x=>.fn f (A05 ts x)
 | .mp k v,x=>.mp (List.map (fun p=>enc k p.1) x) (List.map (fun p=>enc v p.2) x)
 | .nilp,_=>.nilp
 | .nilf,_=>.nilf
 | .vec _ t,x=>.sl (List.map (enc t) x)
def A05:(ts:List Ty)→Els ts→List PV
 | [],_=>[]
 | t::r,x=>enc t (hdE r x)::A05 r (tlE r x)
end
mutual
def B6R:(t:Ty)→El t
 | .int _=>(0:Int)
 | .bool=>false
 | .str=>(⟨#[]⟩:ByteArray)
 | .sl _=>[]
 | .agg ts=>B8O ts
 | .ref t=>B6R t
 | .fn _ ts=>B8O ts
 | .mp _ _=>[]
 | .nilp=>()
 | .nilf=>()
 | .vec _ _=>[]
def B8O:(ts:List Ty)→Els ts
 | []=>()
 | t::r=>mkE r (B6R t) (B8O r)
end
mutual
def Ty.cs:Ty→Nat
 | .agg l=>Ty.css l
 | _=>1
def Ty.css:List Ty→Nat
 | []=>0
 | x::xs=>x.cs + Ty.css xs
end
def Ty.isAgg:Ty→Bool | .agg _=>true | _=>false
mutual
def Ty.pure:Ty→Bool
 | .vec ..=>false
 | .agg l=>Ty.pures l
 | _=>true
def Ty.pures:List Ty→Bool
 | []=>true
 | x::xs=>x.pure && Ty.pures xs
end
mutual
theorem A6m:∀ (t:Ty) (x:El t),(enc t x).cs=t.cs
 | .agg ts,x=>by simp only [enc,PV.cs,Ty.cs]; exact C1n ts x
 | .int _,_ | .bool,_ | .str,_ | .sl _,_ | .ref _,_ | .fn _ _,_ | .mp _ _,_ | .nilp,_ | .nilf,_ | .vec _ _,_=>rfl
theorem C1n:∀ (ts:List Ty) (x:Els ts),PV.css (A05 ts x)=Ty.css ts
 | [],_=>rfl
 | t::r,x=>by simp only [A05,PV.css,Ty.css]; rw [A6m t,C1n r]
end
@[simp] theorem A9V:∀ (t:Ty) (x:El t),(enc t x).isAgg=t.isAgg
  | .agg ts,x=>rfl
  | .int _,_ | .bool,_ | .str,_ | .sl _,_ | .ref _,_ | .fn _ _,_ | .mp _ _,_ | .nilp,_ | .nilf,_ | .vec _ _,_=>rfl
mutual
def Ty.eq:Ty→Ty→Bool
 | .int k,.int l=>k == l
 | .bool,.bool=>true
 | .str,.str=>true
 | .sl t,.sl u=>Ty.eq t u
 | .agg l,.agg m=>Ty.eqs l m
 | .ref t,.ref u=>Ty.eq t u
 | .fn f l,.fn g m=>f == g && Ty.eqs l m
 | .mp k v,.mp l w=>Ty.eq k l && Ty.eq v w
 | .nilp,.nilp=>true
 | .nilf,.nilf=>true
 | .vec z t,.vec y u=>z == y && Ty.eq t u
 | _,_=>false
def Ty.eqs:List Ty→List Ty→Bool
 | [],[]=>true
 | t::r,u::q=>Ty.eq t u && Ty.eqs r q
 | _,_=>false
end
mutual
theorem Ty.eq_of:∀ t u,Ty.eq t u=true→t=u
 | .int k,u,h=>by cases u <;> simp [Ty.eq] at h; rw [h]
 | .bool,u,h=>by cases u <;> simp [Ty.eq] at h; rfl
 | .str,u,h=>by cases u <;> simp [Ty.eq] at h; rfl
 | .nilp,u,h=>by cases u <;> simp [Ty.eq] at h; rfl
 | .nilf,u,h=>by cases u <;> simp [Ty.eq] at h; rfl
 | .sl t,u,h=>by cases u <;> simp [Ty.eq] at h; rw [Ty.eq_of t _ h]
 | .ref t,u,h=>by cases u <;> simp [Ty.eq] at h; rw [Ty.eq_of t _ h]
 | .agg l,u,h=>by cases u <;> simp [Ty.eq] at h; rw [Ty.eqs_of l _ h]
 | .fn f l,u,h=>by cases u <;> simp [Ty.eq] at h; rw [h.1,Ty.eqs_of l _ h.2]
 | .mp k v,u,h=>by cases u <;> simp [Ty.eq] at h; rw [Ty.eq_of k _ h.1,Ty.eq_of v _ h.2]
 | .vec z t,u,h=>by cases u <;> simp [Ty.eq] at h; rw [h.1,Ty.eq_of t _ h.2]
theorem Ty.eqs_of:∀ t u,Ty.eqs t u=true→t=u
 | [],u,h=>by cases u <;> simp [Ty.eqs] at h; rfl
 | t::r,u,h=>by cases u <;> simp [Ty.eqs] at h; rw [Ty.eq_of t _ h.1,Ty.eqs_of r _ h.2]
end
def A3D {t:Ty} (u:Ty) (x:El t):Option (El u):=if h:Ty.eq t u=true then some (cast (congrArg El (Ty.eq_of t u h)) x) else none
theorem A2x {t u:Ty} {x:El t} {y:El u} (h:A3D u x=some y):t=u∧HEq x y∧enc t x=enc u y:=by
 unfold A3D at h
 split at h
 · rename_i e
   have e:=Ty.eq_of t u e
   subst e
   simp only [cast_eq,Option.some.injEq] at h
   subst h
   exact ⟨rfl,HEq.rfl,rfl⟩
 · cases h
def C5D (k:IntKind):PV→Option Int | .int l n=>if k == l then some n else none | _=>none
def C5E:PV→Option Bool | .bool b=>some b | _=>none
def C5F:PV→Option ByteArray | .str b=>some b | _=>none
mutual
def dec:(t:Ty)→PV→Option (El t)
 | .int k,v=>C5D k v
 | .bool,v=>C5E v
 | .str,v=>C5F v
 | .sl t,v=>match v with | .sl []=>some ([]:List (El t)) | _=>none
 | .agg ts,v=>match v with | .agg l=>B1E ts l | _=>none
 | .nilp,v=>match v with | .nilp=>some () | _=>none
 | .nilf,v=>match v with | .nilf=>some () | _=>none
 | .fn f ts,v=>match v with | .fn g l=>if f == g then B1E ts l else none | _=>none
 | .mp k w,v=>match v with | .mp [] []=>some ([]:List (El k×El w)) | _=>none
 | .ref _,_=>none
 | .vec _ _,_=>none
def B1E:(ts:List Ty)→List PV→Option (Els ts)
 | [],l=>match l with | []=>some () | _::_=>none
 | t::r,l=>match l with
   | []=>none
   | v::q=>match dec t v,B1E r q with | some a,some b=>some (mkE r a b) | _,_=>none
end
theorem C7f (k:IntKind) (v:PV):dec (.int k) v=C5D k v:=by rfl
theorem C5G (v:PV):dec .bool v=C5E v:=by rfl
theorem C7g (v:PV):dec .str v=C5F v:=by rfl
mutual
theorem A7T:∀ (t:Ty) (v:PV) (x:El t),dec t v=some x→enc t x=v
 | .int k,v,x,h=>by
   rw [C7f] at h
   cases v <;> simp only [C5D,reduceCtorEq] at h
   split at h
   · rename_i e; cases h; simp only [beq_iff_eq] at e; subst e; rfl
   · cases h
 | .bool,v,x,h=>by rw [C5G] at h; cases v <;> simp only [C5E,reduceCtorEq] at h; cases h; rfl
 | .str,v,x,h=>by rw [C7g] at h; cases v <;> simp only [C5F,reduceCtorEq] at h; cases h; rfl
 | .nilp,v,x,h=>by cases v <;> first | rfl | cases h
 | .nilf,v,x,h=>by cases v <;> first | rfl | cases h
 | .ref t,v,x,h=>by cases h
 | .vec z t,v,x,h=>by cases h
 | .sl t,v,x,h=>by
   cases v <;> first | cases h | skip
   rename_i l
   cases l <;> cases h
   rfl
 | .mp k w,v,x,h=>by
   cases v <;> first | cases h | skip
   rename_i l m
   cases l <;> cases m <;> cases h
   rfl
 | .agg ts,v,x,h=>by
   cases v <;> first | cases h | skip
   rename_i l
   have h:B1E ts l=some x:=h
   show PV.agg (A05 ts x)=_
   rw [B4E ts _ x h]
 | .fn f ts,v,x,h=>by
   cases v <;> first | cases h | skip
   rename_i g l
   by_cases e:(f == g)=true
   · have h1:dec (.fn f ts) (.fn g l)=B1E ts l:=if_pos e
     have h2:B1E ts l=some x:=h1.symm.trans h
     simp only [beq_iff_eq] at e; subst e
     show PV.fn f (A05 ts x)=_
     rw [B4E ts _ x h2]
   · have h1:dec (.fn f ts) (.fn g l)=none:=if_neg e
     rw [h1] at h; cases h
theorem B4E:∀ (ts:List Ty) (l:List PV) (x:Els ts),B1E ts l=some x→A05 ts x=l
 | [],l,x,h=>by
   cases l with
   | nil=>rfl
   | cons v q=>cases h
 | t::r,l,x,h=>by
   cases l with
   | nil=>cases h
   | cons v q =>
     have h:(match dec t v,B1E r q with | some a,some b=>some (mkE r a b) | _,_=>none)=some x:=h
     cases h1:dec t v with
     | none=>rw [h1] at h; cases h
     | some a =>
       cases h2:B1E r q with
       | none=>rw [h1,h2] at h; cases h
       | some b =>
         rw [h1,h2] at h
         cases h
         show enc t (hdE r (mkE r a b))::A05 r (tlE r (mkE r a b))=_
         rw [A4s,A4t,A7T t v a h1,B4E r q b h2]
end
def tyP:PV→Option Ty
 | .int k _=>some (.int k)
 | .bool _=>some .bool
 | .str _=>some .str
 | .agg l=>match tyPs l with | some ts=>some (.agg ts) | none=>none
 | .fn f l=>match tyPs l with | some ts=>some (.fn f ts) | none=>none
 | .nilp=>some .nilp
 | .nilf=>some .nilf
 | _=>none
where tyPs:List PV→Option (List Ty)
 | []=>some []
 | x::r=>match tyP x,tyPs r with | some t,some ts=>some (t::ts) | _,_=>none
inductive Tree (α:Type):Type 1 where
 | fail
 | leaf (a:α)
 | ite (c:Bool) (x y:Tree α)
 | opt {A:Type} (d:A) (o:Option A) (k:A→Tree α)
 | sum {A B:Type} (d:A) (e:B) (o:A ⊕ B) (k:A→Tree α) (l:B→Tree α)
namespace Tree
def den {α:Type}:Tree α→Option α
 | fail=>none
 | leaf a=>some a
 | ite c x y=>bif c then x.den else y.den
 | opt _ o k=>o.bind fun a=>(k a).den
 | sum _ _ o k l=>Sum.elim (fun a=>(k a).den) (fun b=>(l b).den) o
def bind {α β:Type}:Tree α→(α→Tree β)→Tree β
 | fail,_=>fail
 | leaf a,f=>f a
 | ite c x y,f=>ite c (x.bind f) (y.bind f)
 | opt d o k,f=>opt d o (fun a=>(k a).bind f)
 | sum d e o k l,f=>sum d e o (fun a=>(k a).bind f) (fun b=>(l b).bind f)
theorem den_bind {α β:Type} (t:Tree α) (f:α→Tree β) (r:β):(t.bind f).den=some r↔∃ a,t.den=some a∧(f a).den=some r:=by
 induction t with
 | fail=>simp [bind,den]
 | leaf a=>simp [bind,den]
 | ite c x y hx hy=>cases c <;> simp [bind,den,hx,hy]
 | opt d o k ih=>cases o <;> simp [bind,den,ih]
 | sum d e o k l ih1 ih2=>cases o <;> simp [bind,den,ih1,ih2]
def leaves {α:Type}:Tree α→List α
 | fail=>[]
 | leaf a=>[a]
 | ite _ x y=>x.leaves++y.leaves
 | opt d _ k=>(k d).leaves
 | sum d e _ k l=>(k d).leaves++(l e).leaves
def chk (b:Bool):Tree Unit:=match b with | true=>leaf () | false=>fail
def ask (b:Bool):Tree Unit:=ite b (leaf ()) fail
def ofO {α:Type}:Option α→Tree α
 | none=>fail
 | some a=>leaf a
@[simp] theorem den_leaf {α:Type} (a r:α):(leaf a).den=some r↔a=r:=by simp [den]
@[simp] theorem den_fail {α:Type} (r:α):(fail:Tree α).den=some r↔False:=by simp [den]
@[simp] theorem den_chk (b:Bool) (r:Unit):(chk b).den=some r↔b=true:=by cases b <;> simp [chk,den]
@[simp] theorem den_ask (b:Bool) (r:Unit):(ask b).den=some r↔b=true:=by cases b <;> simp [ask,den]
@[simp] theorem den_ofO {α:Type} (o:Option α) (r:α):(ofO o).den=some r↔o=some r:=by cases o <;> simp [ofO,den]
theorem den_ite {α:Type} (c:Bool) (x y:Tree α) (r:α):(ite c x y).den=some r↔(c=true∧x.den=some r)∨(c=false∧y.den=some r):=by cases c <;> simp [den]
theorem den_opt {α A:Type} (d:A) (o:Option A) (k:A→Tree α) (r:α):(opt d o k).den=some r↔∃ a,o=some a∧(k a).den=some r:=by cases o <;> simp [den]
end Tree
end Go.Mid
/- Symbolic states: what is known about slots and owned memory,with typed values at the leaves; what they stand for. -/
namespace Go.Mid
set_option linter.unusedSimpArgs false
set_option linter.unusedVariables false
inductive Step where
 | f (i o:Nat) | k (i z:Nat)
def Step.ix:Step→Nat | .f i _=>i | .k i _=>i
def Step.of:Step→Nat | .f _ o=>o | .k i z=>i * z
def ixs:List Step→List Nat
 | []=>[]
 | x::r=>x.ix::ixs r
def ofs:List Step→Nat
 | []=>0
 | x::r=>x.of + ofs r
theorem A7j:∀ p q:List Step,ixs (p++q)=ixs p++ixs q
 | [],q=>rfl
 | x::r,q=>by simp only [List.cons_append,ixs,A7j r q]
theorem B1F:∀ p q:List Step,ofs (p++q)=ofs p + ofs q
 | [],q=>by simp [ofs]
 | x::r,q=>by simp only [List.cons_append,ofs,B1F r q]; omega
inductive W where
 | c (v:PV)
 | v (t:Ty) (x:El t)
 | nil (z:Nat)
 | own (id:Nat) (path:List Step) (off:Option Nat) (len g:Nat)
 | ptr (id:Nat) (np:Option (List Step)) (rp:List Step) (g:Nat)
 | mref (id:Nat) (path:List Step) (g:Nat)
 | agg (l:List W)
 | fn (f:Nat) (caps:List W)
 | tup (l:List W)
 | dead (n:Nat)
instance:Inhabited W:=⟨.dead 0⟩
def npI:Option (List Step)→Option (List Nat)
 | none=>none
 | some p=>some (ixs p)
mutual
def cW:W→MV
 | .c v=>.p v
 | .v t x=>.p (enc t x)
 | .nil z=>.nil z
 | .own id path off len g=>.own id (ixs path) (off.getD 0) len g
 | .ptr id np rp g=>.ptr id (npI np) (ixs rp) g (ofs rp)
 | .mref id path g=>.mref id (ixs path) g
 | .agg l=>.agg (cWs l)
 | .fn f l=>.fn f (cWs l)
 | .tup l=>.tup (cWs l)
 | .dead n=>.dead n
def cWs:List W→List MV
 | []=>[]
 | x::r=>cW x::cWs r
end
theorem A2b:∀ l:List W,cWs l=l.map cW
 | []=>rfl
 | x::r=>by simp only [cWs,List.map_cons,A2b r]
mutual
def A0P (s:Nat):(t:Ty)→El t→T Nat
 | .vec z t,x=>.vec s z (List.map (A0P s t) x) (List.length x)
 | .agg ts,x=>A0x (A03 s ts x)
 | .int k,x=>.p (enc (.int k) x)
 | .bool,x=>.p (enc .bool x)
 | .str,x=>.p (enc .str x)
 | .sl t,x=>.p (enc (.sl t) x)
 | .ref t,x=>.p (enc (.ref t) x)
 | .fn f ts,x=>.p (enc (.fn f ts) x)
 | .mp k v,x=>.p (enc (.mp k v) x)
 | .nilp,x=>.p (enc .nilp x)
 | .nilf,x=>.p (enc .nilf x)
def A03 (s:Nat):(ts:List Ty)→Els ts→List (T Nat)
 | [],_=>[]
 | t::r,x=>A0P s t (hdE r x)::A03 s r (tlE r x)
end
theorem B1G {α:Type}:∀ {l:List (T α)} {vs:List PV},A06 l=some vs→l=vs.map T.p
 | [],vs,h=>by simp only [A06,Option.some.injEq] at h; subst h; rfl
 | .p v::r,vs,h=>by
   simp only [A06] at h
   cases h1:A06 r with
   | none=>rw [h1] at h; cases h
   | some l=>rw [h1] at h; cases h; rw [B1G h1]; rfl
 | .m _::_,vs,h | .agg _::_,vs,h | .vec ..::_,vs,h | .mp ..::_,vs,h | .hole _::_,vs,h=>by simp [A06] at h
theorem B4F {α:Type}:∀ vs:List PV,A06 (vs.map (T.p (α:=α)))=some vs
 | []=>rfl
 | v::r=>by simp only [List.map_cons,A06,B4F r]
theorem A1S {α:Type} (l:List (T α)):(∃ vs,l=vs.map T.p∧A0x l=.p (.agg vs))∨A0x l=.agg l:=by
 unfold A0x
 cases h:A06 l with
 | none=>exact .inr rfl
 | some vs=>exact .inl ⟨vs,B1G h,rfl⟩
theorem B2R {α:Type}:∀ vs:List PV,T.css (vs.map (T.p (α:=α)))=PV.css vs
 | []=>rfl
 | v::r=>by simp only [List.map_cons,T.css,T.cs,PV.css,B2R r]
theorem B5E {α:Type} (l:List (T α)):(A0x l).cs=T.css l:=by
 rcases A1S l with ⟨vs,rfl,h⟩ | h
 · rw [h,B2R]; rfl
 · rw [h]; rfl
mutual
theorem B0M (s:Nat):∀ (t:Ty) (x:El t),(A0P s t x).cs=t.cs
 | .agg ts,x=>by simp only [A0P,B5E,Ty.cs]; exact B9G s ts x
 | .int _,_ | .bool,_ | .str,_ | .sl _,_ | .ref _,_ | .fn _ _,_ | .mp _ _,_ | .nilp,_ | .nilf,_ | .vec _ _,_=>rfl
theorem B9G (s:Nat):∀ (ts:List Ty) (x:Els ts),T.css (A03 s ts x)=Ty.css ts
 | [],_=>rfl
 | t::r,x=>by simp only [A03,T.css,Ty.css]; rw [B0M s t,B9G s r]
end
mutual
theorem A1k (s:Nat):∀ (t:Ty) (x:El t),t.pure=true→A0P s t x=.p (enc t x)
 | .agg ts,x,h=>by
   simp only [A0P,enc]
   rw [B5F s ts x h]
   simp only [A0x,B4F]
 | .int _,_,_ | .bool,_,_ | .str,_,_ | .sl _,_,_ | .ref _,_,_ | .fn _ _,_,_ | .mp _ _,_,_ | .nilp,_,_ | .nilf,_,_=>rfl
 | .vec _ _,_,h=>by simp [Ty.pure] at h
theorem B5F (s:Nat):∀ (ts:List Ty) (x:Els ts),Ty.pures ts=true→A03 s ts x=(A05 ts x).map T.p
 | [],_,_=>rfl
 | t::r,x,h=>by
   simp only [Ty.pures,Bool.and_eq_true] at h
   simp only [A03,A05,List.map_cons]
   rw [A1k s t _ h.1,B5F s r _ h.2]
end
theorem B1H:∀ vs:List PV,A0D (vs.map T.p)=some vs
 | []=>rfl
 | v::r=>by simp only [List.map_cons,A0D,A35,B1H r]
theorem B9H (l:List (T Nat)):A35 (A0x l)=match A0D l with | some vs=>some (.agg vs) | none=>none:=by
 rcases A1S l with ⟨vs,rfl,h⟩ | h
 · rw [h,B1H]; rfl
 · rw [h]; rfl
mutual
theorem A9W (s:Nat):∀ (t:Ty) (x:El t),A35 (A0P s t x)=some (enc t x)
 | .agg ts,x=>by simp only [A0P,B9H,B4d s ts x]; rfl
 | .vec z t,x=>by
   have h:∀ l:List (El t),A0D (l.map (A0P s t))=some (l.map (enc t)):=by
    intro l
    induction l with
    | nil=>rfl
    | cons a r ih=>simp only [List.map_cons,A0D,A9W s t a,ih]
   have key:∀ l:List (El t),(match A0D (l.map (A0P s t)) with | some vs=>some (PV.sl (vs.take l.length)) | none=>none)=some (PV.sl (l.map (enc t))):=by
    intro l
    rw [h]
    simp only
    rw [List.take_of_length_le (by simp)]
   exact key x
 | .int _,_ | .bool,_ | .str,_ | .sl _,_ | .ref _,_ | .fn _ _,_ | .mp _ _,_ | .nilp,_ | .nilf,_=>rfl
theorem B4d (s:Nat):∀ (ts:List Ty) (x:Els ts),A0D (A03 s ts x)=some (A05 ts x)
 | [],_=>rfl
 | t::r,x=>by simp only [A03,A05,A0D]; rw [A9W s t,B4d s r]
end
theorem A3h (φ:MV→MV) (ζ:Nat→Nat):∀ l:List (T Nat),A0B φ ζ l=l.map (A0M φ ζ)
 | []=>rfl
 | x::r=>by simp only [A0B,List.map_cons,A3h φ ζ r]
theorem C7h (φ:MV→MV) (ζ:Nat→Nat) (l:List (T Nat)) (h:∀ t ∈ l,∀ v,t ≠ .m v):A0M φ ζ (A0x l)=A0x (l.map (A0M φ ζ)):=by
 have hp:∀ l:List (T Nat),(∀ t ∈ l,∀ v,t ≠ T.m v)→A06 (l.map (A0M φ ζ))=A06 l:=by
  intro l h
  induction l with
  | nil=>rfl
  | cons a r ih =>
    have ih:=ih (fun t ht=>h t (by simp [ht]))
    cases a with
    | p v=>simp only [List.map_cons,A0M,A06,ih]
    | m v=>exact absurd rfl (h _ (by simp) v)
    | _=>rfl
 unfold A0x
 rw [hp l h]
 cases A06 l with
 | none=>simp only [A0M,A3h]
 | some vs=>rfl
mutual
theorem C7i (s:Nat):∀ (t:Ty) (x:El t) (v:MV),A0P s t x ≠ .m v
 | .agg ts,x,v=>by
   simp only [A0P]
   rcases A1S (A03 s ts x) with ⟨vs,_,h⟩ | h <;> rw [h] <;> simp
 | .int _,_,_ | .bool,_,_ | .str,_,_ | .sl _,_,_ | .ref _,_,_ | .fn _ _,_,_ | .mp _ _,_,_ | .nilp,_,_ | .nilf,_,_ | .vec _ _,_,_=>by simp [A0P]
end
theorem B9I (s:Nat):∀ (ts:List Ty) (x:Els ts),∀ u ∈ A03 s ts x,∀ v,u ≠ .m v
 | [],_,u,h=>by simp [A03] at h
 | t::r,x,u,h=>by
   simp only [A03,List.mem_cons] at h
   rcases h with rfl | h
   · exact C7i s t _
   · exact B9I s r _ u h
mutual
theorem B1I (φ:MV→MV) (ζ:Nat→Nat) (s:Nat):∀ (t:Ty) (x:El t),A0M φ ζ (A0P s t x)=A0P (ζ s) t x
 | .agg ts,x=>by
   simp only [A0P]
   rw [C7h _ _ _ (B9I s ts x),← A3h,B5G φ ζ s ts x]
 | .vec z t,x=>by
   have h:∀ l:List (El t),A0B φ ζ (l.map (A0P s t))=l.map (A0P (ζ s) t):=by
    intro l
    induction l with
    | nil=>rfl
    | cons a r ih=>simp only [List.map_cons,A0B,B1I φ ζ s t a,ih]
   have key:∀ l:List (El t),T.vec (ζ s) z (A0B φ ζ (l.map (A0P s t))) l.length=T.vec (ζ s) z (l.map (A0P (ζ s) t)) l.length:=by
    intro l
    rw [h]
   exact key x
 | .int _,_ | .bool,_ | .str,_ | .sl _,_ | .ref _,_ | .fn _ _,_ | .mp _ _,_ | .nilp,_ | .nilf,_=>rfl
theorem B5G (φ:MV→MV) (ζ:Nat→Nat) (s:Nat):∀ (ts:List Ty) (x:Els ts),A0B φ ζ (A03 s ts x)=A03 (ζ s) ts x
 | [],_=>rfl
 | t::r,x=>by simp only [A03,A0B]; rw [B1I φ ζ s t,B5G φ ζ s r]
end
theorem B4G:∀ vs:List PV,A1p (vs.map (T.p (α:=Nat)))=[]
 | []=>rfl
 | v::r=>by simp only [List.map_cons,A1p,A36,B4G r,List.nil_append]
theorem B9J (l:List (T Nat)):A36 (A0x l)=A1p l:=by
 rcases A1S l with ⟨vs,rfl,h⟩ | h
 · rw [h,B4G]; rfl
 · rw [h]; rfl
mutual
theorem A9X (s:Nat):∀ (t:Ty) (x:El t),A36 (A0P s t x)=[]
 | .agg ts,x=>by simp only [A0P,B9J]; exact B4e s ts x
 | .vec z t,x=>by
   have h:∀ l:List (El t),A1p (l.map (A0P s t))=[]:=by
    intro l
    induction l with
    | nil=>rfl
    | cons a r ih=>simp only [List.map_cons,A1p,A9X s t a,ih,List.nil_append]
   show A1p (List.map (A0P s t) x)=_
   exact h x
 | .int _,_ | .bool,_ | .str,_ | .sl _,_ | .ref _,_ | .fn _ _,_ | .mp _ _,_ | .nilp,_ | .nilf,_=>rfl
theorem B4e (s:Nat):∀ (ts:List Ty) (x:Els ts),A1p (A03 s ts x)=[]
 | [],_=>rfl
 | t::r,x=>by simp only [A03,A1p]; rw [A9X s t,B4e s r]; rfl
end
theorem B4f (s:Nat) (t:Ty):∀ l:List (El t),A1p (l.map (A0P s t))=[]
 | []=>rfl
 | a::r=>by simp only [List.map_cons,A1p,A9X s t a,B4f s t r,List.nil_append]
theorem C2B (φ:MV→MV) (ζ:Nat→Nat) (s:Nat) (t:Ty) (l:List (El t)):A0B φ ζ (l.map (A0P s t))=l.map (A0P (ζ s) t):=by
 rw [A3h,List.map_map]
 congr 1
 funext x
 exact B1I φ ζ s t x
theorem A8b (s:Nat) (t:Ty):∀ l:List (El t),A0D (l.map (A0P s t))=some (l.map (enc t))
 | []=>rfl
 | a::r=>by simp only [List.map_cons,A0D,A9W s t a,A8b s t r]
mutual
inductive T2 where
 | e (s:Nat) (t:Ty) (x:El t)
 | w (v:W)
 | agg (l:List T2)
 | vec (g z:Nat) (l:SL) (n:Nat)
 | hole (n:Nat)
inductive SL where
 | base (s:Nat) (t:Ty) (l:List (El t))
 | set (a:SL) (i:Nat) (u:T2)
 | app (a:SL) (u:T2)
end
instance:Inhabited T2:=⟨.hole 0⟩
inductive O2 where
 | cell (g:Nat) (t:T2)
 | vec (g z:Nat) (l:SL)
 | mp (g:Nat) (k v:Ty) (l:List (El k×El v))
 | gone
instance:Inhabited O2:=⟨.gone⟩
mutual
def cT:T2→T Nat
 | .e s t x=>A0P s t x
 | .w v=>.m (cW v)
 | .agg l=>A0x (cTs l)
 | .vec g z l n=>.vec g z (cSL l) n
 | .hole n=>.hole n
def cTs:List T2→List (T Nat)
 | []=>[]
 | x::r=>cT x::cTs r
def cSL:SL→List (T Nat)
 | .base s t l=>l.map (A0P s t)
 | .set a i u=>(cSL a).set i (cT u)
 | .app a u=>cSL a++[cT u]
end
def cO:O2→Obj Nat
 | .cell g t=>.cell g (cT t)
 | .vec g z l=>.vec g z (cSL l)
 | .mp g k v l=>.mp g (l.map fun p=>enc k p.1) (l.map fun p=>.p (enc v p.2))
 | .gone=>.gone
theorem A4N:∀ l:List T2,cTs l=l.map cT
 | []=>rfl
 | x::r=>by simp only [cTs,List.map_cons,A4N r]
def SL.len:SL→Nat
 | .base _ _ l=>l.length
 | .set a _ _=>a.len
 | .app a _=>a.len + 1
theorem SL.len_eq:∀ a:SL,(cSL a).length=a.len
 | .base _ _ l=>by simp [cSL,SL.len]
 | .set a i u=>by simp only [cSL,List.length_set,SL.len]; exact SL.len_eq a
 | .app a u=>by simp only [cSL,List.length_append,List.length_cons,List.length_nil,SL.len]; rw [SL.len_eq a]
abbrev S2:=List (Nat×W)
abbrev H2:=List (Nat×O2)
def A7k:S2→Nat→W
 | [],_=>.dead 0
 | (j,v)::r,k=>if k == j then v else A7k r k
def A2q:H2→Nat→Option O2
 | [],_=>none
 | (j,v)::r,k=>if k == j then some v else A2q r k
def setA {α:Type}:List (Nat×α)→Nat→α→List (Nat×α)
 | [],k,v=>[(k,v)]
 | (j,u)::r,k,v=>if k == j then (k,v)::r else (j,u)::setA r k v
def cSs:S2→List (Nat×MV)
 | []=>[]
 | (j,v)::r=>(j,cW v)::cSs r
def cHs:H2→List (Nat×Obj Nat)
 | []=>[]
 | (j,v)::r=>(j,cO v)::cHs r
abbrev cS (s:S2):A0m:=mkS (cSs s)
abbrev cH (h:H2):A0b:=mkH (cHs h)
theorem A7l:∀ (s:S2) (k:Nat),cS s k=cW (A7k s k)
 | [],k=>rfl
 | (j,v)::r,k=>by
   show mkS ((j,cW v)::cSs r) k=cW (if k == j then v else A7k r k)
   rw [C5A]
   by_cases h:k=j
   · simp [h]
   · rw [if_neg h,if_neg (by simpa using h)]; exact A7l r k
theorem A8p:∀ (h:H2) (k:Nat),cH h k=(A2q h k).map cO
 | [],k=>rfl
 | (j,v)::r,k=>by
   show mkH ((j,cO v)::cHs r) k=Option.map cO (if k == j then some v else A2q r k)
   rw [A3X]
   by_cases h:k=j
   · simp [h]
   · rw [if_neg h,if_neg (by simpa using h)]; exact A8p r k
theorem C1o:∀ (s:S2) (k:Nat) (v:W),cSs (setA s k v)=A7h (cSs s) k (cW v)
 | [],k,v=>rfl
 | (j,u)::r,k,v=>by
   simp only [setA,cSs,A7h]
   by_cases h:k=j
   · simp [h,cSs]
   · rw [if_neg h,if_neg (by simpa using h)]; simp only [cSs,C1o r k v]
theorem C1p:∀ (s:H2) (k:Nat) (v:O2),cHs (setA s k v)=A7h (cHs s) k (cO v)
 | [],k,v=>rfl
 | (j,u)::r,k,v=>by
   simp only [setA,cHs,A7h]
   by_cases h:k=j
   · simp [h,cHs]
   · rw [if_neg h,if_neg (by simpa using h)]; simp only [cHs,C1p r k v]
theorem A1M (h:H2) (k:Nat) (o:O2):upd (cH h) k (some (cO o))=cH (setA h k o):=by
 rw [C1m,← C1p]
theorem B0N (s:S2) (k:Nat) (v:W):upd (cS s) k (cW v)=cS (setA s k v):=by
 rw [C7c,← C1o]
mutual
def wcs:W→Nat
 | .c p=>p.cs
 | .v t _=>t.cs
 | .agg l=>B9K l
 | .tup _=>0
 | .dead n=>n
 | .nil _ | .own .. | .ptr .. | .mref .. | .fn ..=>1
def B9K:List W→Nat
 | []=>0
 | x::r=>wcs x + B9K r
end
mutual
theorem B5H:∀ w:W,(cW w).cs=wcs w
 | .c p=>rfl
 | .v t x=>A6m t x
 | .agg l=>by simp only [cW,MV.cs,wcs]; exact B6S l
 | .tup _=>rfl
 | .dead n=>rfl
 | .nil _ | .own .. | .ptr .. | .mref .. | .fn ..=>rfl
theorem B6S:∀ l:List W,MV.css (cWs l)=B9K l
 | []=>rfl
 | x::r=>by simp only [cWs,MV.css,B9K]; rw [B5H x,B6S r]
end
def C6E:W→Bool
 | .dead _ | .tup _=>false
 | _=>true
theorem C5H (w:W):A29 (cW w)=C6E w:=by cases w <;> rfl
def C2C:W→Bool
 | .c p=>p.isAgg
 | .v t _=>t.isAgg
 | .agg _=>true
 | _=>false
theorem C1q (w:W):(cW w).isAgg=C2C w:=by
 cases w <;> simp only [cW,C2C] <;> first | rfl | exact A9V _ _
mutual
def B3B:W→List Nat
 | .own id .. | .ptr id .. | .mref id ..=>[id]
 | .agg l | .fn _ l | .tup l=>A5i l
 | _=>[]
def A5i:List W→List Nat
 | []=>[]
 | x::r=>B3B x++A5i r
end
mutual
theorem B4H:∀ w:W,A0G (cW w)=B3B w
 | .own .. | .ptr .. | .mref .. | .c _ | .v _ _ | .nil _ | .dead _=>rfl
 | .agg l | .fn _ l | .tup l=>by simp only [cW,A0G,B3B]; exact A6P l
theorem A6P:∀ l:List W,A0R (cWs l)=A5i l
 | []=>rfl
 | x::r=>by simp only [cWs,A0R,A5i]; rw [B4H x,A6P r]
end
mutual
def A55:T2→Option (List Nat)
 | .e ..=>some []
 | .hole _=>some []
 | .w v=>some (B3B v)
 | .agg l=>B0O l
 | .vec _ _ l _=>if A9l l then some [] else none
def B0O:List T2→Option (List Nat)
 | []=>some []
 | x::r=>match A55 x,B0O r with | some a,some b=>some (a++b) | _,_=>none
def A9l:SL→Bool
 | .base ..=>true
 | .set a _ u=>A9l a && (match A55 u with | some []=>true | _=>false)
 | .app a u=>A9l a && (match A55 u with | some []=>true | _=>false)
end
def B5I:O2→Option (List Nat)
 | .cell _ t=>A55 t
 | .vec _ _ l=>if A9l l then some [] else none
 | .mp ..=>some []
 | .gone=>some []
theorem B1J {l:List (T Nat)}:A1p l=[]↔∀ t ∈ l,A36 t=[]:=by
 induction l with
 | nil=>simp [A1p]
 | cons a r ih=>simp [A1p,ih]
mutual
theorem B1K:∀ (t:T2) (l:List Nat),A55 t=some l→A36 (cT t)=l
 | .e s t x,l,h=>by simp only [A55,Option.some.injEq] at h; subst h; exact A9X s t x
 | .hole _,l,h=>by simp only [A55,Option.some.injEq] at h; subst h; rfl
 | .w v,l,h=>by simp only [A55,Option.some.injEq] at h; subst h; exact B4H v
 | .agg q,l,h=>by
   simp only [A55] at h
   simp only [cT,B9J]; exact B70 q l h
 | .vec g z q n,l,h=>by
   simp only [A55] at h
   split at h
   · rename_i hf; cases h; exact A9Y q hf
   · cases h
theorem B70:∀ (q:List T2) (l:List Nat),B0O q=some l→A1p (cTs q)=l
 | [],l,h=>by simp only [B0O,Option.some.injEq] at h; subst h; rfl
 | x::r,l,h=>by
   simp only [B0O] at h
   cases h1:A55 x with
   | none=>rw [h1] at h; cases h
   | some a =>
     cases h2:B0O r with
     | none=>rw [h1,h2] at h; cases h
     | some b =>
       rw [h1,h2] at h
       cases h
       simp only [cTs,A1p]
       rw [B1K x a h1,B70 r b h2]
theorem A9Y:∀ q:SL,A9l q=true→A1p (cSL q)=[]
 | .base s t l,_=>B4f s t l
 | .set a i u,h=>by
   simp only [A9l,Bool.and_eq_true] at h
   obtain ⟨h1,h2⟩:=h
   have h3:=A9Y a h1
   have h4:A36 (cT u)=[]:=by
    cases hu:A55 u with
    | none=>rw [hu] at h2; cases h2
    | some l =>
      cases l with
      | nil=>exact B1K u [] hu
      | cons _ _=>rw [hu] at h2; cases h2
   rw [B1J] at h3 ⊢
   intro t ht
   simp only [cSL] at ht
   rcases List.mem_or_eq_of_mem_set ht with ht | ht
   · exact h3 t ht
   · rw [ht,h4]
 | .app a u,h=>by
   simp only [A9l,Bool.and_eq_true] at h
   obtain ⟨h1,h2⟩:=h
   have h3:=A9Y a h1
   have h4:A36 (cT u)=[]:=by
    cases hu:A55 u with
    | none=>rw [hu] at h2; cases h2
    | some l =>
      cases l with
      | nil=>exact B1K u [] hu
      | cons _ _=>rw [hu] at h2; cases h2
   rw [B1J] at h3 ⊢
   intro t ht
   simp only [cSL,List.mem_append,List.mem_singleton] at ht
   rcases ht with ht | ht
   · exact h3 t ht
   · rw [ht,h4]
end
theorem C5I (o:O2) (l:List Nat) (h:B5I o=some l):A6W (some (cO o))=l:=by
 cases o with
 | cell g t=>exact B1K t l h
 | vec g z q =>
   simp only [B5I] at h
   split at h
   · rename_i hf; cases h; exact A9Y q hf
   · cases h
 | mp g k v m =>
   simp only [B5I,Option.some.injEq] at h; subst h
   show A1p (m.map fun p=>T.p (enc v p.2))=[]
   rw [B1J]
   intro t ht
   simp only [List.mem_map] at ht
   obtain ⟨p,_,rfl⟩:=ht
   rfl
 | gone=>simp only [B5I,Option.some.injEq] at h; subst h; rfl
abbrev TV:=(t:Ty)×El t
def pv?:W→Option TV
 | .v t x=>some ⟨t,x⟩
 | .c p=>match tyP p with
   | some t=>match dec t p with | some x=>some ⟨t,x⟩ | none=>none
   | none=>none
 | _=>none
theorem B0P {w:W} {t:Ty} {x:El t} (h:pv? w=some ⟨t,x⟩):cW w=.p (enc t x):=by
 cases w <;> simp only [pv?,reduceCtorEq] at h
 case v=>cases h; rfl
 case c p =>
  cases h1:tyP p with
  | none=>rw [h1] at h; cases h
  | some u =>
    rw [h1] at h
    simp only at h
    cases h2:dec u p with
    | none=>rw [h2] at h; cases h
    | some y=>rw [h2] at h; cases h; rw [A7T _ _ _ h2]; rfl
def as? (t:Ty):W→Option (El t)
 | .v _ x=>A3D t x
 | .c p=>dec t p
 | _=>none
theorem B0Q {t:Ty} {w:W} {x:El t} (h:as? t w=some x):cW w=.p (enc t x):=by
 cases w <;> simp only [as?,reduceCtorEq] at h
 case v u y=>rw [← (A2x h).2.2]; rfl
 case c p=>rw [A7T _ _ _ h]; rfl
def A7m:W→Option (IntKind×Int)
 | .v (.int k) x=>some (k,x)
 | .c (.int k n)=>some (k,n)
 | _=>none
theorem A4g {w:W} {k:IntKind} {n:Int} (h:A7m w=some (k,n)):cW w=.p (.int k n):=by
 unfold A7m at h
 split at h <;> cases h <;> rfl
def B5J:W→Option Bool
 | .v .bool x=>some x
 | .c (.bool b)=>some b
 | _=>none
theorem B4I {w:W} {b:Bool} (h:B5J w=some b):cW w=.p (.bool b):=by
 unfold B5J at h
 split at h <;> cases h <;> rfl
def B2S:W→Option ByteArray
 | .v .str x=>some x
 | .c (.str b)=>some b
 | _=>none
theorem A8Y {w:W} {b:ByteArray} (h:B2S w=some b):cW w=.p (.str b):=by
 unfold B2S at h
 split at h <;> cases h <;> rfl
def B2T (z:Nat) (n:Nat):W→Step
 | .c _=>.f n (n * z)
 | _=>.k n z
theorem C38 (z n:Nat) (w:W):(B2T z n w).ix=n:=by cases w <;> rfl
theorem C39 (z n:Nat) (w:W):(B2T z n w).of=n * z:=by cases w <;> rfl
end Go.Mid
/- Ways through owned memory: reading and changing a place. -/
namespace Go.Mid
set_option linter.unusedSimpArgs false
set_option linter.unusedVariables false
def A9Z:(ts:List Ty)→Els ts→Nat→Option TV
 | [],_,_=>none
 | t::r,x,i=>match i with
   | 0=>some ⟨t,hdE r x⟩
   | i + 1=>A9Z r (tlE r x) i
theorem A9m (s:Nat):∀ (ts:List Ty) (x:Els ts) (i:Nat) (t:Ty) (y:El t),A9Z ts x i=some ⟨t,y⟩ →
 (A05 ts x)[i]?=some (enc t y)∧(A03 s ts x)[i]?=some (A0P s t y)
 | [],_,_,_,_,h=>by cases h
 | u::r,x,0,t,y,h=>by
   simp only [A9Z,Option.some.injEq] at h
   cases h
   exact ⟨rfl,rfl⟩
 | u::r,x,i + 1,t,y,h=>by
   simp only [A9Z] at h
   have:=A9m s r (tlE r x) i t y h
   simpa only [A05,A03,List.getElem?_cons_succ] using this
def B6T:(ts:List Ty)→Els ts→Nat→(t:Ty)→El t→Option (Els ts)
 | [],_,_,_,_=>none
 | u::r,x,i,t,y=>match i with
   | 0=>match A3D u y with | some z=>some (mkE r z (tlE r x)) | none=>none
   | i + 1=>match B6T r (tlE r x) i t y with | some q=>some (mkE r (hdE r x) q) | none=>none
theorem C1r (s:Nat):∀ (ts:List Ty) (x:Els ts) (i:Nat) (t:Ty) (y:El t) (x':Els ts),B6T ts x i t y=some x' →
 A03 s ts x'=(A03 s ts x).set i (A0P s t y)
 | [],_,_,_,_,_,h=>by cases h
 | u::r,x,0,t,y,x',h=>by
   simp only [B6T] at h
   cases hc:A3D u y with
   | none=>rw [hc] at h; cases h
   | some z =>
     rw [hc] at h
     simp only [Option.some.injEq] at h
     subst h
     obtain ⟨rfl,he,_⟩:=A2x hc
     cases he
     simp only [A03,A4s,A4t,List.set_cons_zero]
 | u::r,x,i + 1,t,y,x',h=>by
   simp only [B6T] at h
   cases hc:B6T r (tlE r x) i t y with
   | none=>rw [hc] at h; cases h
   | some z =>
     rw [hc] at h
     simp only [Option.some.injEq] at h
     subst h
     simp only [A03,A4s,A4t,List.set_cons_succ]
     rw [C1r s r _ i t y z hc]
def B6U (t:Ty) (i:Nat):(ts:List Ty)→Els ts→Nat→Option (El t)
 | [],_,_=>none
 | [_],x,_=>A3D t (hdE [] x)
 | _::u2::r,x,j=>match A3D t (hdE (u2::r) x),B6U t i (u2::r) (tlE (u2::r) x) (j + 1) with
    | some a,some b=>some (bif i == j then a else b)
    | _,_=>none
theorem B6V (s:Nat) (t:Ty) (i:Nat):∀ (ts:List Ty) (x:Els ts) (j:Nat) (y:El t),B6U t i ts x j=some y→j ≤ i→i < j + ts.length →
 (A05 ts x)[i - j]?=some (enc t y)∧(A03 s ts x)[i - j]?=some (A0P s t y)
 | [],_,_,_,h,_,_=>by cases h
 | [u],x,j,y,h,h1,h2=>by
   have h:A3D t (hdE [] x)=some y:=h
   have e:i - j=0:=by simp at h2; omega
   rw [e]
   obtain ⟨rfl,he,_⟩:=A2x h
   cases he
   exact ⟨rfl,rfl⟩
 | u::u2::r,x,j,y,h,h1,h2=>by
   simp only [B6U] at h
   cases hc:A3D t (hdE (u2::r) x) with
   | none=>rw [hc] at h; cases h
   | some a =>
     cases hd:B6U t i (u2::r) (tlE (u2::r) x) (j + 1) with
     | none=>rw [hc,hd] at h; cases h
     | some b =>
       rw [hc,hd] at h
       simp only [Option.some.injEq] at h
       by_cases e:i=j
       · subst e
         simp only [beq_self_eq_true,cond_true] at h
         subst h
         obtain ⟨rfl,he,_⟩:=A2x hc
         cases he
         rw [Nat.sub_self]
         exact ⟨rfl,rfl⟩
       · have e2:(i == j)=false:=by simpa using e
         rw [e2] at h
         simp only [cond_false] at h
         subst h
         have:=B6V s t i (u2::r) (tlE (u2::r) x) (j + 1) b hd (by omega) (by simp only [List.length_cons] at h2 ⊢; omega)
         have e3:i - j=(i - (j + 1)) + 1:=by omega
         rw [e3]
         simpa only [A05,A03,List.getElem?_cons_succ] using this
def B9L (t:Ty) (y:El t) (i:Nat):(ts:List Ty)→Els ts→Nat→Option (Els ts)
 | [],_,_=>some ()
 | u::r,x,j=>match A3D u y,B9L t y i r (tlE r x) (j + 1) with
   | some a,some b=>some (mkE r (bif i == j then a else hdE r x) b)
   | _,_=>none
theorem C1s (s:Nat) (t:Ty) (y:El t) (i:Nat):∀ (ts:List Ty) (x:Els ts) (j:Nat) (x':Els ts),B9L t y i ts x j=some x' →
 A03 s ts x'=if j ≤ i then (A03 s ts x).set (i - j) (A0P s t y) else A03 s ts x
 | [],_,_,_,h=>by simp [A03]
 | u::r,x,j,x',h=>by
   simp only [B9L] at h
   cases hc:A3D u y with
   | none=>rw [hc] at h; cases h
   | some a =>
     cases hd:B9L t y i r (tlE r x) (j + 1) with
     | none=>rw [hc,hd] at h; cases h
     | some b =>
       rw [hc,hd] at h
       simp only [Option.some.injEq] at h
       subst h
       obtain ⟨rfl,he,_⟩:=A2x hc
       cases he
       have ih:=C1s s t y i r (tlE r x) (j + 1) b hd
       simp only [A03,A4s,A4t]
       rw [ih]
       by_cases e:i=j
       · subst e
         simp only [beq_self_eq_true,cond_true,Nat.le_refl,if_true,Nat.sub_self,List.set_cons_zero]
         rw [if_neg (by omega)]
       · have e2:(i == j)=false:=by simpa using e
         rw [e2]
         simp only [cond_false]
         by_cases h1:j ≤ i
         · rw [if_pos (by omega),if_pos h1]
           have e3:i - j=(i - (j + 1)) + 1:=by omega
           rw [e3,List.set_cons_succ]
         · rw [if_neg (by omega),if_neg h1]
def B8P (t:Ty):List Ty→Bool
 | []=>true
 | u::r=>Ty.eq t u && B8P t r
theorem B2U {t:Ty}:∀ {ts:List Ty} {i:Nat},B8P t ts=true→i ≤ ts.length→Ty.css (ts.take i)=i * t.cs
 | [],i,_,h=>by simp at h; subst h; simp [Ty.css]
 | u::r,0,_,_=>by simp [Ty.css]
 | u::r,i + 1,h,h1=>by
   simp only [B8P,Bool.and_eq_true] at h
   have e:=Ty.eq_of _ _ h.1
   subst e
   simp only [List.take_succ_cons,Ty.css]
   rw [B2U h.2 (by simpa using h1),Nat.succ_mul]; omega
theorem A7U (s:Nat):∀ (ts:List Ty) (x:Els ts) (i:Nat),T.css ((A03 s ts x).take i)=Ty.css (ts.take i)
 | [],_,i=>by simp [A03,T.css,Ty.css]
 | t::r,x,0=>by simp [T.css,Ty.css]
 | t::r,x,i + 1=>by
   simp only [A03,List.take_succ_cons,T.css,Ty.css]
   rw [B0M,A7U s r]
theorem A5j:∀ (ts:List Ty) (x:Els ts) (i:Nat),PV.css ((A05 ts x).take i)=Ty.css (ts.take i)
 | [],_,i=>by simp [A05,PV.css,Ty.css]
 | t::r,x,0=>by simp [PV.css,Ty.css]
 | t::r,x,i + 1=>by
   simp only [A05,List.take_succ_cons,PV.css,Ty.css]
   rw [A6m,A5j r]
theorem css_append:∀ l m:List PV,PV.css (l++m)=PV.css l + PV.css m
 | [],m=>by simp [PV.css]
 | x::r,m=>by simp only [List.cons_append,PV.css,css_append r m]; omega
theorem C5J (L:List (T Nat)) (i:Nat) (r:List Nat) (o:Nat):A02 (A0x L) (i::r) o=match L[i]? with | some t=>A02 t r (o + T.css (L.take i)) | none=>none:=by
 rcases A1S L with ⟨vs,rfl,h⟩ | h
 · rw [h]
   simp only [A02,List.getElem?_map]
   cases hv:vs[i]? with
   | none=>rfl
   | some v =>
     simp only [Option.map_some]
     rw [← List.map_take,B2R]
 · rw [h]; simp only [A02]; cases L[i]? <;> rfl
theorem C7j (L:List (T Nat)) (i:Nat) (r:List Nat):A0c (A0x L) (i::r)=match L[i]? with | some t=>A0c t r | none=>none:=by
 rcases A1S L with ⟨vs,rfl,h⟩ | h
 · rw [h]
   simp only [A0c,List.getElem?_map]
   cases vs[i]? with
   | none=>rfl
   | some v=>rfl
 · rw [h]; simp only [A0c]; cases L[i]? <;> rfl
theorem C7k (L:List (T Nat)) (i:Nat) (r:List Nat) (u:T Nat):putT (A0x L) (i::r) u=match L[i]? with
 | some t=>match putT t r u with | some w=>some (A0x (L.set i w)) | none=>none
 | none=>none:=by
 rcases A1S L with ⟨vs,rfl,h⟩ | h
 · rw [h]
   simp only [putT,List.getElem?_map]
   cases vs[i]? with
   | none=>rfl
   | some v=>simp only [Option.map_some]; cases putT (T.p v) r u <;> rfl
 · rw [h]; simp only [putT]; cases L[i]? with
   | none=>rfl
   | some v=>simp only; cases putT v r u <;> rfl
def SL.get:SL→Nat→Tree T2
 | .base s t l,i=>.opt (B6R t) l[i]? fun x=>.leaf (.e s t x)
 | .set a j u,i=>.ite (i == j) ((Tree.ask (Nat.blt j a.len)).bind fun _=>.leaf u) (a.get i)
 | .app a u,i=>.ite (i == a.len) (.leaf u) (a.get i)
theorem SL.get_eq:∀ (a:SL) (i:Nat) (u:T2),(a.get i).den=some u→(cSL a)[i]?=some (cT u)
 | .base s t l,i,u,h=>by
   simp only [SL.get,Tree.den_opt,Tree.den_leaf] at h
   obtain ⟨x,h1,rfl⟩:=h
   simp only [cSL,List.getElem?_map,h1]; rfl
 | .set a j v,i,u,h=>by
   simp only [SL.get,Tree.den_ite,Tree.den_bind,Tree.den_ask,Tree.den_leaf] at h
   rcases h with ⟨h1,_,h2,rfl⟩ | ⟨h1,h2⟩
   · simp only [beq_iff_eq] at h1; subst h1
     have h3:i < a.len:=Nat.blt_eq.mp h2
     simp only [cSL]
     rw [List.getElem?_set_self (by rw [SL.len_eq]; exact h3)]
   · have h1:¬ i=j:=by simpa using h1
     simp only [cSL]
     rw [List.getElem?_set_ne (Ne.symm h1)]
     exact SL.get_eq a i u h2
 | .app a v,i,u,h=>by
   simp only [SL.get,Tree.den_ite,Tree.den_leaf] at h
   rcases h with ⟨h1,rfl⟩ | ⟨h1,h2⟩
   · simp only [beq_iff_eq] at h1; subst h1
     simp only [cSL]
     rw [List.getElem?_append_right (by rw [SL.len_eq]; exact Nat.le_refl _),SL.len_eq,Nat.sub_self]; rfl
   · have:=SL.get_eq a i u h2
     simp only [cSL]
     rw [List.getElem?_append_left (List.getElem?_eq_some_iff.1 this).1]; exact this
def B6W (s:Nat) (t:Ty):T2→Option (El t)
 | .e s' _ x=>if s' == s || t.pure then A3D t x else none
 | _=>none
theorem C1t {s:Nat} {t:Ty} {u:T2} {x:El t} (h:B6W s t u=some x):cT u=A0P s t x:=by
 cases u <;> simp only [B6W,reduceCtorEq] at h
 rename_i s' t' y
 split at h
 · rename_i hc
   obtain ⟨rfl,he,_⟩:=A2x h
   cases he
   simp only [Bool.or_eq_true,beq_iff_eq] at hc
   rcases hc with rfl | hc
   · rfl
   · simp only [cT]; rw [A1k _ _ _ hc,A1k _ _ _ hc]
 · cases h
def SL.put:SL→Nat→T2→SL
 | .base s t l,i,u=>match B6W s t u with | some x=>.base s t (l.set i x) | none=>.set (.base s t l) i u
 | a,i,u=>.set a i u
theorem SL.put_eq (a:SL) (i:Nat) (u:T2):cSL (a.put i u)=(cSL a).set i (cT u):=by
 cases a with
 | base s t l =>
   simp only [SL.put]
   cases h:B6W s t u with
   | none=>rfl
   | some x=>simp only [cSL]; rw [List.map_set,C1t h]
 | set a j v=>rfl
 | app a v=>rfl
def SL.putT (i:Nat) (u:T2):SL→Tree SL
 | .set a j v=>.ite (i == j) (.leaf (a.put i u)) (.leaf (.set (.set a j v) i u))
 | a=>.leaf (a.put i u)
theorem SL.putT_eq {i:Nat} {u:T2} {a b:SL} (h:(SL.putT i u a).den=some b):cSL b=(cSL a).set i (cT u):=by
 cases a with
 | set a j v =>
   simp only [SL.putT,Tree.den_ite,Tree.den_leaf] at h
   rcases h with ⟨h1,rfl⟩ | ⟨_,rfl⟩
   · simp only [beq_iff_eq] at h1
     subst h1
     rw [SL.put_eq]
     simp only [cSL,List.set_set]
   · rfl
 | base s t l=>simp only [SL.putT,Tree.den_leaf] at h; subst h; exact SL.put_eq _ _ _
 | app a v=>simp only [SL.putT,Tree.den_leaf] at h; subst h; exact SL.put_eq _ _ _
def SL.push:SL→T2→SL
 | .base s t l,u=>match B6W s t u with | some x=>.base s t (l++[x]) | none=>.app (.base s t l) u
 | a,u=>.app a u
theorem SL.push_eq (a:SL) (u:T2):cSL (a.push u)=cSL a++[cT u]:=by
 cases a with
 | base s t l =>
   simp only [SL.push]
   cases h:B6W s t u with
   | none=>rfl
   | some x=>simp only [cSL,List.map_append,List.map_cons,List.map_nil]; rw [C1t h]
 | set a j v=>rfl
 | app a v=>rfl
mutual
def tcs:T2→Nat
 | .e _ t _=>t.cs
 | .w v=>wcs v
 | .agg l=>B9M l
 | .vec ..=>1
 | .hole n=>n
def B9M:List T2→Nat
 | []=>0
 | x::r=>tcs x + B9M r
end
mutual
theorem B0R:∀ t:T2,(cT t).cs=tcs t
 | .e s t x=>B0M s t x
 | .w v=>B5H v
 | .agg l=>by simp only [cT,B5E,tcs]; exact B6X l
 | .vec ..=>rfl
 | .hole n=>rfl
theorem B6X:∀ l:List T2,T.css (cTs l)=B9M l
 | []=>rfl
 | x::r=>by simp only [cTs,T.css,B9M]; rw [B0R x,B6X r]
end
def B8Q:List Ty→Nat→Option Ty
 | [],_=>none
 | t::r,z=>if B8P t (t::r) && t.cs == z then some t else none
def B9N:T2→Step→Tree T2
 | .e s (.agg ts) x,st=>match st with
   | .f i o=>if Ty.css (ts.take i) == o then (Tree.ofO (A9Z ts x i)).bind fun p=>.leaf (.e s p.1 p.2) else .fail
   | .k i z=>match B8Q ts z with
     | some t=>(Tree.ask (Nat.blt i ts.length)).bind fun _=>(Tree.ofO (B6U t i ts x 0)).bind fun y=>.leaf (.e s t y)
     | none=>.fail
 | .agg l,.f i o=>if B9M (l.take i) == o then Tree.ofO l[i]? else .fail
 | _,_=>.fail
theorem B6Y {t:T2} {st:Step} {u:T2} (h:(B9N t st).den=some u):∃ L,cT t=A0x L∧L[st.ix]?=some (cT u)∧T.css (L.take st.ix)=st.of:=by
 unfold B9N at h
 split at h
 · rename_i s ts x
   refine ⟨A03 s ts x,rfl,?_⟩
   split at h
   · rename_i i o
     split at h
     · rename_i ho
       simp only [Tree.den_bind,Tree.den_ofO,Tree.den_leaf] at h
       obtain ⟨⟨t,y⟩,h1,rfl⟩:=h
       exact ⟨(A9m s ts x i t y h1).2,(A7U s ts x i).trans (beq_iff_eq.mp ho)⟩
     · simp at h
   · rename_i i z
     split at h
     · rename_i t ht
       simp only [Tree.den_bind,Tree.den_ask,Tree.den_ofO,Tree.den_leaf] at h
       obtain ⟨_,h1,y,h2,rfl⟩:=h
       have h1:i < ts.length:=Nat.blt_eq.mp h1
       have:=(B6V s t i ts x 0 y h2 (Nat.zero_le _) (by omega)).2
       rw [Nat.sub_zero] at this
       refine ⟨this,(A7U s ts x i).trans ?_⟩
       unfold B8Q at ht
       split at ht
       · cases ht
       · split at ht
         · rename_i hc
           cases ht
           simp only [Bool.and_eq_true,beq_iff_eq] at hc
           rw [← hc.2]
           exact B2U hc.1 (by show i ≤ _; omega)
         · cases ht
     · simp at h
 · rename_i l i o
   split at h
   · rename_i ho
     rw [Tree.den_ofO] at h
     refine ⟨cTs l,rfl,?_,?_⟩
     · rw [A4N,List.getElem?_map]
       show Option.map cT l[i]?=_
       rw [h]; rfl
     · show T.css ((cTs l).take i)=o
       rw [A4N,← List.map_take,← A4N,B6X]
       simpa using ho
   · simp at h
 · simp at h
def B3C (s:Nat):(ts:List Ty)→Els ts→List T2
 | [],_=>[]
 | t::r,x=>.e s t (hdE r x)::B3C s r (tlE r x)
theorem B1L (s:Nat):∀ (ts:List Ty) (x:Els ts),cTs (B3C s ts x)=A03 s ts x
 | [],_=>rfl
 | t::r,x=>by simp only [B3C,cTs,A03,B1L s r]; rfl
def C5K:T2→Step→T2→Tree T2
 | .e s (.agg ts) x,st,u=>match st with
   | .f i _=>match (match u with | .e s' t y=>if s' == s || t.pure then B6T ts x i t y else none | _=>none) with
     | some x'=>.leaf (.e s (.agg ts) x')
     | none=>.leaf (.agg ((B3C s ts x).set i u))
   | .k i _=>match u with
     | .e s' t y=>if s' == s || t.pure then (Tree.ofO (B9L t y i ts x 0)).bind fun x'=>.leaf (.e s (.agg ts) x') else .fail
     | _=>.fail
 | .agg l,.f i _,u=>.leaf (.agg (l.set i u))
 | _,_,_=>.fail
theorem C7l {t:T2} {st:Step} {u t':T2} (h:(C5K t st u).den=some t'):∃ L,cT t=A0x L∧cT t'=A0x (L.set st.ix (cT u)):=by
 have hs:∀ (s s':Nat) (t:Ty) (y:El t),(s' == s || t.pure)=true→A0P s t y=A0P s' t y:=by
  intro s s' t y hc
  simp only [Bool.or_eq_true,beq_iff_eq] at hc
  rcases hc with rfl | hc
  · rfl
  · rw [A1k _ _ _ hc,A1k _ _ _ hc]
 unfold C5K at h
 split at h
 · rename_i s ts x
   refine ⟨A03 s ts x,rfl,?_⟩
   split at h
   · rename_i i o
     split at h
     · rename_i x' hx
       simp only [Tree.den_leaf] at h
       subst h
       split at hx
       · rename_i s' t y
         split at hx
         · rename_i hc
           simp only [cT,A0P,Step.ix]
           rw [C1r s ts x i t y x' hx,hs s s' t y hc]
         · cases hx
       · cases hx
     · simp only [Tree.den_leaf] at h
       subst h
       simp only [cT,Step.ix]
       rw [A4N,List.map_set,← A4N]
       exact congrArg (fun q=>A0x (List.set q i (cT u))) (B1L s ts x)
   · rename_i i z
     split at h
     · rename_i s' t y
       split at h
       · rename_i hc
         simp only [Tree.den_bind,Tree.den_ofO,Tree.den_leaf] at h
         obtain ⟨x',h1,rfl⟩:=h
         have:=C1s s t y i ts x 0 x' h1
         simp only [Nat.zero_le,if_true,Nat.sub_zero] at this
         simp only [cT,A0P,Step.ix]
         rw [this,hs s s' t y hc]
       · simp at h
     · simp at h
 · rename_i l i o
   simp only [Tree.den_leaf] at h
   subst h
   refine ⟨cTs l,rfl,?_⟩
   simp only [cT,Step.ix]
   rw [A4N,List.map_set,← A4N]
 · simp at h
def B0S:List Step→T2→Tree T2
 | [],t=>.leaf t
 | s::r,t=>(B9N t s).bind (B0S r)
theorem B2V:∀ {p:List Step} {t u:T2} {o:Nat},(B0S p t).den=some u→A02 (cT t) (ixs p) o=some (cT u,o + ofs p)
 | [],t,u,o,h=>by
   simp only [B0S,Tree.den_leaf] at h
   subst h
   cases hc:cT t <;> rfl
 | s::r,t,u,o,h=>by
   simp only [B0S,Tree.den_bind] at h
   obtain ⟨v,h1,h2⟩:=h
   obtain ⟨L,e1,e2,e3⟩:=B6Y h1
   simp only [ixs,ofs]
   rw [e1,C5J,e2]
   simp only
   rw [e3,B2V h2,Nat.add_assoc]
def B6Z:T2→Step→Tree T2
 | .vec _ _ l _,st=>l.get st.ix
 | .e s (.vec z t) l,st=>SL.get (.base s t l) st.ix
 | t,st=>B9N t st
theorem C7m {t:T2} {st:Step} {u:T2} (h:(B6Z t st).den=some u) (r:List Nat):A0c (cT t) (st.ix::r)=A0c (cT u) r:=by
 unfold B6Z at h
 split at h
 · rename_i g z l n
   have:=SL.get_eq _ _ _ h
   simp only [cT,A0c,this]
 · rename_i s z t l
   have:=SL.get_eq _ _ _ h
   have e:cT (.e s (.vec z t) l)=.vec s z (cSL (.base s t l)) (List.length (α:=El t) l):=rfl
   rw [e]
   simp only [A0c,this]
 · obtain ⟨L,e1,e2,_⟩:=B6Y h
   rw [e1,C7j,e2]
def C5L:T2→Step→T2→Tree T2
 | .vec g z l n,st,u=>(SL.putT st.ix u l).bind fun l'=>.leaf (.vec g z l' n)
 | .e s (.vec z t) l,st,u=>.leaf (.vec s z (SL.put (.base s t l) st.ix u) (List.length (α:=El t) l))
 | t,st,u=>C5K t st u
theorem C7n {t:T2} {st:Step} {u v t':T2} {r:List Nat} {w:T Nat} (hk:(B6Z t st).den=some u) (hp:putT (cT u) r w=some (cT v)) (h:(C5L t st v).den=some t'):putT (cT t) (st.ix::r) w=some (cT t'):=by
 unfold C5L at h
 split at h
 · rename_i g z l n
   have:=SL.get_eq _ _ _ hk
   simp only [Tree.den_bind,Tree.den_leaf] at h
   obtain ⟨l',hl,rfl⟩:=h
   simp only [cT,putT,this,hp,SL.putT_eq hl]
 · rename_i s z t l
   have:=SL.get_eq _ _ _ hk
   simp only [Tree.den_leaf] at h
   subst h
   have e:cT (.e s (.vec z t) l)=.vec s z (cSL (.base s t l)) (List.length (α:=El t) l):=rfl
   rw [e]
   simp only [putT,this,hp,cT,SL.put_eq]
 · rename_i hx1 hx2
   have hk:(B9N t st).den=some u:=by
    unfold B6Z at hk
    split at hk
    · exact absurd rfl (hx1 _ _ _ _)
    · exact absurd rfl (hx2 _ _ _ _)
    · exact hk
   obtain ⟨L,e1,e2,_⟩:=B6Y hk
   obtain ⟨L',e3,e4⟩:=C7l h
   have hL:L=L':=by
    have e:A0x L=A0x L':=by rw [← e1,← e3]
    rcases A1S L with ⟨vs,rfl,h1⟩ | h1 <;> rcases A1S L' with ⟨vs',rfl,h2⟩ | h2 <;> rw [h1,h2] at e
    · simp only [T.p.injEq,PV.agg.injEq] at e; rw [e]
    · cases e
    · cases e
    · simpa using e
   subst hL
   rw [e1,C7k,e2]
   simp only [hp]
   rw [e4]
def B3D:List Step→T2→Tree T2
 | [],t=>.leaf t
 | s::r,t=>(B6Z t s).bind (B3D r)
theorem B4J:∀ {p:List Step} {t u:T2},(B3D p t).den=some u→A0c (cT t) (ixs p)=some (cT u)
 | [],t,u,h=>by
   simp only [B3D,Tree.den_leaf] at h
   subst h
   cases hc:cT t <;> rfl
 | s::r,t,u,h=>by
   simp only [B3D,Tree.den_bind] at h
   obtain ⟨v,h1,h2⟩:=h
   simp only [ixs]
   rw [C7m h1,B4J h2]
def B3E (u:T2):List Step→T2→Tree T2
 | [],_=>.leaf u
 | s::r,t=>(B6Z t s).bind fun c=>(B3E u r c).bind fun c'=>C5L t s c'
theorem B4K:∀ {p:List Step} {t u t':T2},(B3E u p t).den=some t'→putT (cT t) (ixs p) (cT u)=some (cT t')
 | [],t,u,t',h=>by
   simp only [B3E,Tree.den_leaf] at h
   subst h
   cases hc:cT t <;> rfl
 | s::r,t,u,t',h=>by
   simp only [B3E,Tree.den_bind] at h
   obtain ⟨c,h1,c',h2,h3⟩:=h
   simp only [ixs]
   exact C7n h1 (B4K h2) h3
def A56:O2→List Step→Tree T2
 | .cell _ t,p=>B3D p t
 | .vec _ _ l,s::r=>(l.get s.ix).bind (B3D r)
 | _,_=>.fail
theorem A5K {o:O2} {p:List Step} {u:T2} (h:(A56 o p).den=some u):A0h (some (cO o)) (ixs p)=some (cT u):=by
 unfold A56 at h
 split at h
 · exact B4J h
 · simp only [Tree.den_bind] at h
   obtain ⟨v,h1,h2⟩:=h
   simp only [cO,ixs,A0h,SL.get_eq _ _ _ h1]
   exact B4J h2
 · simp at h
def A7n (u:T2):O2→List Step→Tree O2
 | .cell g t,p=>(B3E u p t).bind fun t'=>.leaf (.cell g t')
 | .vec g z l,s::r=>(l.get s.ix).bind fun c=>(B3E u r c).bind fun c'=>(SL.putT s.ix c' l).bind fun l'=>.leaf (.vec g z l')
 | _,_=>.fail
theorem A41 {o o':O2} {p:List Step} {u:T2} (h:(A7n u o p).den=some o'):put (some (cO o)) (ixs p) (cT u)=some (cO o'):=by
 unfold A7n at h
 split at h
 · simp only [Tree.den_bind,Tree.den_leaf] at h
   obtain ⟨t',h1,rfl⟩:=h
   simp only [cO,put,B4K h1]
 · simp only [Tree.den_bind,Tree.den_leaf] at h
   obtain ⟨c,h1,c',h2,l',h3,rfl⟩:=h
   simp only [cO,ixs,put,SL.get_eq _ _ _ h1,B4K h2,SL.putT_eq h3]
 · simp at h
def B8R:T2→Tree (Nat×Nat×SL)
 | .vec g z l _=>.leaf (g,z,l)
 | .e s (.vec z t) l=>.leaf (s,z,.base s t l)
 | _=>.fail
theorem B9O {t:T2} {g z:Nat} {l:SL} (h:(B8R t).den=some (g,z,l)):∃ n,cT t=.vec g z (cSL l) n:=by
 unfold B8R at h
 split at h
 · simp only [Tree.den_leaf,Prod.mk.injEq] at h
   obtain ⟨rfl,rfl,rfl⟩:=h
   exact ⟨_,rfl⟩
 · simp only [Tree.den_leaf,Prod.mk.injEq] at h
   obtain ⟨rfl,rfl,rfl⟩:=h
   exact ⟨_,rfl⟩
 · simp at h
def A4O:O2→List Step→Tree (Nat×Nat×SL)
 | .vec g z l,[]=>.leaf (g,z,l)
 | o,p=>(A56 o p).bind B8R
theorem C2D {o:Obj Nat} {p:List Nat} {a z:Nat} {l:List (T Nat)} {n:Nat} (h:A0h (some o) p=some (.vec a z l n)):A0C (some o) p=some (a,z,l):=by
 unfold A0C
 split
 · rename_i h1; cases h1; simp [A0h] at h
 · rw [h]
theorem A2W {o:O2} {p:List Step} {g z:Nat} {l:SL} (h:(A4O o p).den=some (g,z,l)):A0C (some (cO o)) (ixs p)=some (g,z,cSL l):=by
 unfold A4O at h
 split at h
 · simp only [Tree.den_leaf,Prod.mk.injEq] at h
   obtain ⟨rfl,rfl,rfl⟩:=h
   rfl
 · simp only [Tree.den_bind] at h
   obtain ⟨u,h1,h2⟩:=h
   obtain ⟨n,h3⟩:=B9O h2
   have:=A5K h1
   rw [h3] at this
   exact C2D this
def B5K (s:Step) (z:Nat):Bool:=match s with | .f i o=>i * z == o | .k _ y=>y == z
theorem C4a {s:Step} {z:Nat} (h:B5K s z=true):s.ix * z=s.of:=by
 cases s with
 | f i o=>simpa [Step.ix,Step.of,B5K] using h
 | k i y=>simp only [B5K,beq_iff_eq] at h; subst h; rfl
def B1M (o:O2) (np:Option (List Step)) (rp:List Step):Tree (T2×Nat) :=
 match np with
 | none=>match o with
   | .cell a t=>(B0S rp t).bind fun u=>.leaf (u,a)
   | _=>.fail
 | some p=>match rp with
   | s::r=>(A4O o p).bind fun x=>if B5K s x.2.1 then (x.2.2.get s.ix).bind fun t=>(B0S r t).bind fun u=>.leaf (u,x.1) else .fail
   | []=>.fail
theorem A9n {o:O2} {np:Option (List Step)} {rp:List Step} {u:T2} {g:Nat} (h:(B1M o np rp).den=some (u,g)):look (some (cO o)) (npI np) (ixs rp)=some (cT u,g,ofs rp):=by
 unfold B1M at h
 split at h
 · split at h
   · simp only [Tree.den_bind,Tree.den_leaf,Prod.mk.injEq] at h
     obtain ⟨v,h1,rfl,rfl⟩:=h
     simp only [cO,npI,look]
     rw [B2V h1,Nat.zero_add]
   · simp at h
 · split at h
   · rename_i p s r
     simp only [Tree.den_bind] at h
     obtain ⟨⟨a,z,l⟩,h1,h⟩:=h
     split at h
     · rename_i hc
       simp only [Tree.den_bind,Tree.den_leaf,Prod.mk.injEq] at h
       obtain ⟨t,h2,v,h3,rfl,rfl⟩:=h
       have e:=C4a hc
       simp only [npI,ixs,look,A2W h1,SL.get_eq _ _ _ h2]
       rw [B2V h3,e]
       rfl
     · simp at h
   · simp at h
end Go.Mid
/- Operations on symbolic states: values. -/
namespace Go.Mid
set_option linter.unusedSimpArgs false
set_option linter.unusedVariables false
def B4L:List W→Option ((ts:List Ty)×Els ts)
 | []=>some ⟨[],()⟩
 | w::r=>match pv? w,B4L r with | some p,some q=>some ⟨p.1::q.1,mkE q.1 p.2 q.2⟩ | _,_=>none
theorem B60:∀ {l:List W} {ts:List Ty} {x:Els ts},B4L l=some ⟨ts,x⟩→l.map cW=(A05 ts x).map .p
 | [],ts,x,h=>by simp only [B4L,Option.some.injEq] at h; cases h; rfl
 | w::r,ts,x,h=>by
   simp only [B4L] at h
   cases h1:pv? w with
   | none=>rw [h1] at h; cases h
   | some p =>
     cases h2:B4L r with
     | none=>rw [h1,h2] at h; cases h
     | some q =>
       rw [h1,h2] at h
       obtain ⟨t,y⟩:=p
       obtain ⟨us,z⟩:=q
       simp only [Option.some.injEq] at h
       cases h
       simp only [List.map_cons,A05,A4s,A4t]
       rw [B0P h1,B60 h2]
theorem B0T:∀ l:List PV,A2L (l.map .p)=some l
 | []=>rfl
 | x::r=>by simp only [List.map_cons,A2L,B0T r]
def B4M:W→Bool
 | .c _=>false
 | .v _ _=>false
 | _=>true
theorem A90:∀ {l:List W},l.any B4M=true→A2L (l.map cW)=none
 | w::r,h=>by
   simp only [List.any_cons,Bool.or_eq_true] at h
   simp only [List.map_cons]
   rcases h with h | h
   · cases w <;> simp only [B4M,Bool.false_eq_true] at h <;> rfl
   · have:=A90 h
     cases hw:cW w <;> simp only [A2L,this]
def B0U (l:List W):Tree W:=match B4L l with
 | some q=>.leaf (.v (.agg q.1) q.2)
 | none=>if l.any B4M then .leaf (.agg l) else .fail
theorem A91 {l:List W} {w:W} (h:(B0U l).den=some w):A4G (l.map cW)=cW w:=by
 unfold B0U at h
 split at h
 · rename_i q hq
   obtain ⟨ts,x⟩:=q
   simp only [Tree.den_leaf] at h
   subst h
   unfold A4G
   rw [B60 hq,B0T]
   rfl
 · split at h
   · rename_i hn
     simp only [Tree.den_leaf] at h
     subst h
     unfold A4G
     rw [A90 hn,cW,A2b]
   · simp at h
mutual
def A7o (s id:Nat) (p:List Step):(t:Ty)→El t→Tree W
 | .vec _ t,x=>.leaf (.own id p none (List.length (α:=El t) x) s)
 | .agg ts,x=>if Ty.pures ts then .leaf (.v (.agg ts) x) else (B5L s id p 0 0 ts x).bind B0U
 | t,x=>.leaf (.v t x)
def B5L (s id:Nat) (p:List Step) (i o:Nat):(ts:List Ty)→Els ts→Tree (List W)
 | [],_=>.leaf []
 | t::r,x=>(A7o s id (p++[.f i o]) t (hdE r x)).bind fun w=>(B5L s id p (i + 1) (o + t.cs) r (tlE r x)).bind fun l=>.leaf (w::l)
end
mutual
def B4N (id:Nat) (p:List Step):T2→Tree W
 | .e s t x=>A7o s id p t x
 | .w v=>.leaf v
 | .agg l=>(B5M id p 0 0 l).bind B0U
 | .vec g _ _ n=>.leaf (.own id p none n g)
 | .hole n=>.leaf (.dead n)
def B5M (id:Nat) (p:List Step) (i o:Nat):List T2→Tree (List W)
 | []=>.leaf []
 | t::r=>(B4N id (p++[.f i o]) t).bind fun w=>(B5M id p (i + 1) (o + tcs t) r).bind fun l=>.leaf (w::l)
end
theorem B9P (id:Nat):∀ (vs:List PV) (p:List Nat) (i:Nat),A5V id p i (vs.map T.p)=vs.map .p
 | [],_,_=>rfl
 | v::r,p,i=>by simp only [List.map_cons,A5V,A6y,B9P id r]
theorem C1u (id:Nat) (p:List Nat) (L:List (T Nat)):A6y id p (A0x L)=A4G (A5V id p 0 L):=by
 rcases A1S L with ⟨vs,rfl,h⟩ | h
 · rw [h,B9P]
   unfold A4G
   rw [B0T]
   rfl
 · rw [h]; rfl
theorem B9Q (p:List Step) (i o:Nat):ixs (p++[.f i o])=ixs p++[i]:=by rw [A7j]; rfl
mutual
theorem C1v (s id:Nat):∀ (t:Ty) (p:List Step) (x:El t) (w:W),(A7o s id p t x).den=some w→A6y id (ixs p) (A0P s t x)=cW w
 | .vec z t,p,x,w,h=>by
   simp only [A7o,Tree.den_leaf] at h
   subst h
   rfl
 | .agg ts,p,x,w,h=>by
   simp only [A7o] at h
   split at h
   · rename_i hp
     simp only [Tree.den_leaf] at h
     subst h
     rw [A1k s (.agg ts) x (by simpa only [Ty.pure] using hp)]
     rfl
   · simp only [Tree.den_bind] at h
     obtain ⟨l,h1,h2⟩:=h
     simp only [A0P]
     rw [C1u]
     have:=B9R s id ts p 0 0 x l h1
     rw [this]
     exact A91 h2
 | .int k,p,x,w,h=>by simp only [A7o,Tree.den_leaf] at h; subst h; rfl
 | .bool,p,x,w,h=>by simp only [A7o,Tree.den_leaf] at h; subst h; rfl
 | .str,p,x,w,h=>by simp only [A7o,Tree.den_leaf] at h; subst h; rfl
 | .sl t,p,x,w,h=>by simp only [A7o,Tree.den_leaf] at h; subst h; rfl
 | .ref t,p,x,w,h=>by simp only [A7o,Tree.den_leaf] at h; subst h; rfl
 | .fn f ts,p,x,w,h=>by simp only [A7o,Tree.den_leaf] at h; subst h; rfl
 | .mp k v,p,x,w,h=>by simp only [A7o,Tree.den_leaf] at h; subst h; rfl
 | .nilp,p,x,w,h=>by simp only [A7o,Tree.den_leaf] at h; subst h; rfl
 | .nilf,p,x,w,h=>by simp only [A7o,Tree.den_leaf] at h; subst h; rfl
theorem B9R (s id:Nat):∀ (ts:List Ty) (p:List Step) (i o:Nat) (x:Els ts) (l:List W),(B5L s id p i o ts x).den=some l→A5V id (ixs p) i (A03 s ts x)=l.map cW
 | [],p,i,o,x,l,h=>by simp only [B5L,Tree.den_leaf] at h; subst h; rfl
 | t::r,p,i,o,x,l,h=>by
   simp only [B5L,Tree.den_bind,Tree.den_leaf] at h
   obtain ⟨w,h1,l',h2,rfl⟩:=h
   simp only [A03,A5V,List.map_cons]
   have:=C1v s id t _ _ w h1
   rw [B9Q] at this
   rw [this,B9R s id r p (i + 1) _ _ l' h2]
end
mutual
theorem C1w (id:Nat):∀ (t:T2) (p:List Step) (w:W),(B4N id p t).den=some w→A6y id (ixs p) (cT t)=cW w
 | .e s t x,p,w,h=>C1v s id t p x w h
 | .w v,p,w,h=>by simp only [B4N,Tree.den_leaf] at h; subst h; rfl
 | .agg l,p,w,h=>by
   simp only [B4N,Tree.den_bind] at h
   obtain ⟨ws,h1,h2⟩:=h
   simp only [cT]
   rw [C1u,B9S id l p 0 0 ws h1]
   exact A91 h2
 | .vec g z l n,p,w,h=>by simp only [B4N,Tree.den_leaf] at h; subst h; rfl
 | .hole n,p,w,h=>by simp only [B4N,Tree.den_leaf] at h; subst h; rfl
theorem B9S (id:Nat):∀ (l:List T2) (p:List Step) (i o:Nat) (ws:List W),(B5M id p i o l).den=some ws→A5V id (ixs p) i (cTs l)=ws.map cW
 | [],p,i,o,ws,h=>by simp only [B5M,Tree.den_leaf] at h; subst h; rfl
 | t::r,p,i,o,ws,h=>by
   simp only [B5M,Tree.den_bind,Tree.den_leaf] at h
   obtain ⟨w,h1,l',h2,rfl⟩:=h
   simp only [cTs,A5V,List.map_cons]
   have:=C1w id t _ w h1
   rw [B9Q] at this
   rw [this,B9S id r p (i + 1) _ l' h2]
end
mutual
def pur:Ty→Ty
 | .vec _ t=>.sl (pur t)
 | .agg ts=>.agg (B61 ts)
 | .int k=>.int k
 | .bool=>.bool
 | .str=>.str
 | .sl t=>.sl t
 | .ref t=>.ref t
 | .fn f ts=>.fn f ts
 | .mp k v=>.mp k v
 | .nilp=>.nilp
 | .nilf=>.nilf
def B61:List Ty→List Ty
 | []=>[]
 | t::r=>pur t::B61 r
end
mutual
def A3i:(t:Ty)→El t→El (pur t)
 | .vec _ t,x=>List.map (A3i t) x
 | .agg ts,x=>B8S ts x
 | .int _,x=>x
 | .bool,x=>x
 | .str,x=>x
 | .sl _,x=>x
 | .ref _,x=>x
 | .fn _ _,x=>x
 | .mp _ _,x=>x
 | .nilp,x=>x
 | .nilf,x=>x
def B8S:(ts:List Ty)→Els ts→Els (B61 ts)
 | [],_=>()
 | t::r,x=>mkE (B61 r) (A3i t (hdE r x)) (B8S r (tlE r x))
end
mutual
theorem B0V:∀ (t:Ty) (x:El t),enc (pur t) (A3i t x)=enc t x
 | .vec z t,x=>by
   have h:∀ l:List (El t),(l.map (A3i t)).map (enc (pur t))=l.map (enc t):=by
    intro l
    induction l with
    | nil=>rfl
    | cons a r ih=>simp only [List.map_cons,B0V t a,ih]
   exact congrArg PV.sl (h x)
 | .agg ts,x=>congrArg PV.agg (B9T ts x)
 | .int _,_ | .bool,_ | .str,_ | .sl _,_ | .ref _,_ | .fn _ _,_ | .mp _ _,_ | .nilp,_ | .nilf,_=>rfl
theorem B9T:∀ (ts:List Ty) (x:Els ts),A05 (B61 ts) (B8S ts x)=A05 ts x
 | [],_=>rfl
 | t::r,x=>by
   simp only [B61,B8S,A05,A4s,A4t]
   rw [B0V t,B9T r]
end
def B1N (t:Ty) (l:List (El t)):TV:=if t.pure then ⟨.sl t,l⟩ else ⟨.sl (pur t),List.map (A3i t) l⟩
theorem B4O (t:Ty) (l:List (El t)):enc (B1N t l).1 (B1N t l).2=.sl (l.map (enc t)):=by
 by_cases hp:t.pure=true
 · rw [show B1N t l=⟨.sl t,l⟩ from if_pos hp]
   rfl
 · rw [show B1N t l=⟨.sl (pur t),List.map (A3i t) l⟩ from if_neg hp]
   show PV.sl ((l.map (A3i t)).map (enc (pur t)))=_
   rw [List.map_map]
   congr 2
   funext x
   exact B0V t x
def toQ:(t:Ty)→El t→TV
 | .vec _ u,l=>B1N u l
 | t,x=>⟨pur t,A3i t x⟩
theorem C75 (t:Ty) (x:El t):enc (toQ t x).1 (toQ t x).2=enc t x:=by
 cases t with
 | vec z u=>exact B4O _ _
 | _=>exact B0V _ _
def toP (t:Ty) (x:El t):TV:=if t.pure then ⟨t,x⟩ else toQ t x
theorem C76 (t:Ty) (x:El t):enc (toP t x).1 (toP t x).2=enc t x:=by
 by_cases hp:t.pure=true
 · rw [show toP t x=⟨t,x⟩ from if_pos hp]
 · rw [show toP t x=toQ t x from if_neg hp]
   exact C75 t x
def B5N (t:Ty) (l:List (El t)):(t:Ty)×List (El t):=if t.pure then ⟨t,l⟩ else ⟨pur t,List.map (A3i t) l⟩
theorem C5M (t:Ty) (l:List (El t)):(B5N t l).2.map (enc (B5N t l).1)=l.map (enc t):=by
 by_cases hp:t.pure=true
 · rw [show B5N t l=⟨t,l⟩ from if_pos hp]
 · rw [show B5N t l=⟨pur t,List.map (A3i t) l⟩ from if_neg hp]
   show (l.map (A3i t)).map (enc (pur t))=_
   rw [List.map_map]
   congr 1
   funext x
   exact B0V t x
def C2E (n:Nat) (o:Tree ((t:Ty)×List (El t))):SL→Tree TV
 | .base _ t l=>.leaf (B1N t (l.take n))
 | _=>o.bind fun q=>.leaf ⟨.sl q.1,q.2.take n⟩
mutual
def tP:T2→Tree TV
 | .e _ t x=>.leaf (toP t x)
 | .agg l=>(tPs l).bind fun q=>.leaf ⟨.agg q.1,q.2⟩
 | .vec _ _ a n=>C2E n (slQ a) a
 | .w _=>.fail
 | .hole _=>.fail
def tPs:List T2→Tree ((ts:List Ty)×Els ts)
 | []=>.leaf ⟨[],()⟩
 | t::r=>(tP t).bind fun p=>(tPs r).bind fun q=>.leaf ⟨p.1::q.1,mkE q.1 p.2 q.2⟩
def slQ:SL→Tree ((t:Ty)×List (El t))
 | .base _ t l=>.leaf (B5N t l)
 | .set a i u=>(slQ a).bind fun q=>(tP u).bind fun v=>(Tree.ofO (A3D q.1 v.2)).bind fun x=>.leaf ⟨q.1,q.2.set i x⟩
 | .app a u=>(slQ a).bind fun q=>(tP u).bind fun v=>(Tree.ofO (A3D q.1 v.2)).bind fun x=>.leaf ⟨q.1,q.2++[x]⟩
end
theorem B5O:∀ {l:List (T Nat)} {vs:List PV} {i:Nat} {t:T Nat} {v:PV},A0D l=some vs→A35 t=some v→A0D (l.set i t)=some (vs.set i v)
 | [],vs,i,t,v,h,_=>by simp only [A0D,Option.some.injEq] at h; subst h; rfl
 | a::r,vs,i,t,v,h,hv=>by
   simp only [A0D] at h
   cases h1:A35 a with
   | none=>rw [h1] at h; cases h
   | some x =>
     cases h2:A0D r with
     | none=>rw [h1,h2] at h; cases h
     | some q =>
       rw [h1,h2] at h
       simp only [Option.some.injEq] at h
       subst h
       cases i with
       | zero=>simp only [List.set_cons_zero,A0D,hv,h2]
       | succ i=>simp only [List.set_cons_succ,A0D,h1,B5O h2 hv]
theorem B4g:∀ {l:List (T Nat)} {vs:List PV} {t:T Nat} {v:PV},A0D l=some vs→A35 t=some v→A0D (l++[t])=some (vs++[v])
 | [],vs,t,v,h,hv=>by simp only [A0D,Option.some.injEq] at h; subst h; simp only [List.nil_append,A0D,hv]
 | a::r,vs,t,v,h,hv=>by
   simp only [A0D] at h
   cases h1:A35 a with
   | none=>rw [h1] at h; cases h
   | some x =>
     cases h2:A0D r with
     | none=>rw [h1,h2] at h; cases h
     | some q =>
       rw [h1,h2] at h
       simp only [Option.some.injEq] at h
       subst h
       simp only [List.cons_append,A0D,h1,B4g h2 hv]
theorem C7o {n:Nat} {o:Tree ((t:Ty)×List (El t))} {a:SL} (ho:∀ q,o.den=some q→A0D (cSL a)=some (q.2.map (enc q.1))) {v:TV} (h:(C2E n o a).den=some v):∃ vs,A0D (cSL a)=some vs∧enc v.1 v.2=.sl (vs.take n):=by
 cases a with
 | base s t l =>
   simp only [C2E,Tree.den_leaf] at h
   subst h
   refine ⟨l.map (enc t),by simp only [cSL,A8b],?_⟩
   rw [B4O,List.map_take]
 | _ =>
   simp only [C2E,Tree.den_bind,Tree.den_leaf] at h
   obtain ⟨q,h1,rfl⟩:=h
   refine ⟨_,ho q h1,?_⟩
   show PV.sl ((q.2.take n).map (enc q.1))=_
   rw [List.map_take]
mutual
theorem B8T:∀ (t:T2) (v:TV),(tP t).den=some v→A35 (cT t)=some (enc v.1 v.2)
 | .e s t x,v,h=>by
   simp only [tP,Tree.den_leaf] at h
   subst h
   rw [C76]
   exact A9W s t x
 | .agg l,v,h=>by
   simp only [tP,Tree.den_bind,Tree.den_leaf] at h
   obtain ⟨q,h1,rfl⟩:=h
   simp only [cT,B9H]
   rw [C4b l q h1]
   rfl
 | .vec g z a n,v,h=>by
   simp only [tP] at h
   obtain ⟨vs,h1,h2⟩:=C7o (fun q hq=>B2W a q hq) h
   simp only [cT,A35,h1,h2]
 | .w _,v,h=>by simp [tP,Tree.den] at h
 | .hole _,v,h=>by simp [tP,Tree.den] at h
theorem C4b:∀ (l:List T2) (q:(ts:List Ty)×Els ts),(tPs l).den=some q→A0D (cTs l)=some (A05 q.1 q.2)
 | [],q,h=>by simp only [tPs,Tree.den_leaf] at h; subst h; rfl
 | t::r,q,h=>by
   simp only [tPs,Tree.den_bind,Tree.den_leaf] at h
   obtain ⟨p,h1,q',h2,rfl⟩:=h
   simp only [cTs,A0D,A05,A4s,A4t]
   rw [B8T t p h1,C4b r q' h2]
theorem B2W:∀ (a:SL) (q:(t:Ty)×List (El t)),(slQ a).den=some q→A0D (cSL a)=some (q.2.map (enc q.1))
 | .base s t l,q,h=>by
   simp only [slQ,Tree.den_leaf] at h
   subst h
   rw [C5M]
   simp only [cSL,A8b]
 | .set a i u,q,h=>by
   simp only [slQ,Tree.den_bind,Tree.den_ofO,Tree.den_leaf] at h
   obtain ⟨q',h1,v,h2,x,h3,rfl⟩:=h
   obtain ⟨e1,e2,e3⟩:=A2x h3
   simp only [cSL,List.map_set]
   exact B5O (B2W a q' h1) (by rw [B8T u v h2,e3])
 | .app a u,q,h=>by
   simp only [slQ,Tree.den_bind,Tree.den_ofO,Tree.den_leaf] at h
   obtain ⟨q',h1,v,h2,x,h3,rfl⟩:=h
   obtain ⟨e1,e2,e3⟩:=A2x h3
   simp only [cSL,List.map_append,List.map_cons,List.map_nil]
   exact B4g (B2W a q' h1) (by rw [B8T u v h2,e3])
end
def slP (off:Option Nat) (len:Nat):SL→Tree TV
 | .base _ t l=>.leaf (B1N t ((match off with | none=>l | some o=>l.drop o).take len))
 | a=>(slQ a).bind fun q=>.leaf ⟨.sl q.1,(match off with | none=>q.2 | some o=>q.2.drop o).take len⟩
theorem C77 {off:Option Nat} {len:Nat} {a:SL} {v:TV} (h:(slP off len a).den=some v):∃ vs,A0D (cSL a)=some vs∧enc v.1 v.2=.sl ((vs.drop (off.getD 0)).take len):=by
 cases a with
 | base s t l =>
   simp only [slP,Tree.den_leaf] at h
   subst h
   refine ⟨l.map (enc t),by simp only [cSL,A8b],?_⟩
   rw [B4O]
   cases off with
   | none=>simp [List.map_take]
   | some o=>simp [List.map_take,List.map_drop]
 | _ =>
   simp only [slP,Tree.den_bind,Tree.den_leaf] at h
   obtain ⟨q,h1,rfl⟩:=h
   refine ⟨_,B2W _ q h1,?_⟩
   cases off with
   | none=>exact congrArg PV.sl (by simp [List.map_take])
   | some o=>exact congrArg PV.sl (by simp [List.map_take,List.map_drop])
def B3F:Option Ty→Nat→Option Ty
 | some (.agg ts),i=>ts[i]?
 | some (.fn _ ts),i=>ts[i]?
 | _,_=>none
def A7p:Option Ty→Option Ty
 | some (.sl t)=>some t
 | some (.vec _ t)=>some t
 | _=>none
mutual
def A42 (h:H2):Option Ty→W→Tree TV
 | _,.v t x=>.leaf ⟨t,x⟩
 | u,.c p=>match pv? (.c p) with
   | some x=>.leaf x
   | none=>match u with
     | some u=>match dec u p with | some x=>.leaf ⟨u,x⟩ | none=>.fail
     | none=>.fail
 | u,.nil _=>match A7p u with | some t=>.leaf ⟨.sl t,([]:List (El t))⟩ | none=>.fail
 | _,.own id path off len g=>(Tree.ofO (A2q h id)).bind fun o=>(A4O o path).bind fun x=>if x.1 == g then (Tree.ask (Nat.ble (match off with | none=>len | some o=>o + len) x.2.2.len)).bind fun _=>slP off len x.2.2 else .fail
 | _,.ptr id np rp g=>(Tree.ofO (A2q h id)).bind fun o=>(B1M o np rp).bind fun x=>if x.2 == g then (tP x.1).bind fun v=>.leaf ⟨.ref v.1,v.2⟩ else .fail
 | u,.agg l=>(A8K h u 0 l).bind fun q=>.leaf ⟨.agg q.1,q.2⟩
 | u,.fn f l=>(A8K h u 0 l).bind fun q=>.leaf ⟨.fn f q.1,q.2⟩
 | _,.mref ..=>.fail
 | _,.tup _=>.fail
 | _,.dead _=>.fail
def A8K (h:H2) (u:Option Ty) (i:Nat):List W→Tree ((ts:List Ty)×Els ts)
 | []=>.leaf ⟨[],()⟩
 | w::r=>(A42 h (B3F u i) w).bind fun p=>(A8K h u (i + 1) r).bind fun q=>.leaf ⟨p.1::q.1,mkE q.1 p.2 q.2⟩
end
theorem A2f {h:H2} {id:Nat} {o:O2} (e:A2q h id=some o):cH h id=some (cO o):=by rw [A8p,e]; rfl
mutual
theorem A57 (h:H2):∀ (w:W) (u:Option Ty) (v:TV),(A42 h u w).den=some v→A1a (cH h) (cW w)=some (enc v.1 v.2)
 | .v t x,u,v,e=>by simp only [A42,Tree.den_leaf] at e; subst e; rfl
 | .c p,u,v,e=>by
   simp only [A42] at e
   split at e
   · rename_i x hx
     simp only [Tree.den_leaf] at e
     subst e
     have:=B0P hx
     rw [this]
     rfl
   · split at e
     · split at e
       · rename_i hd
         simp only [Tree.den_leaf] at e
         subst e
         show some p=_
         rw [A7T _ _ _ hd]
       · simp at e
     · simp at e
 | .nil z,u,v,e=>by
   simp only [A42] at e
   split at e
   · simp only [Tree.den_leaf] at e; subst e; rfl
   · simp at e
 | .own id path off len g,u,v,e=>by
   simp only [A42,Tree.den_bind,Tree.den_ofO] at e
   obtain ⟨o,h1,⟨g',z,a⟩,h2,e⟩:=e
   split at e
   · rename_i hg
     simp only [beq_iff_eq] at hg
     simp only [Tree.den_bind,Tree.den_ask] at e
     obtain ⟨_,h3,h4⟩:=e
     obtain ⟨vs,h5,h6⟩:=C77 h4
     have h3:off.getD 0 + len ≤ a.len:=by
      cases off with
      | none=>simpa using Nat.ble_eq.mp h3
      | some o=>exact Nat.ble_eq.mp h3
     simp only [cW,A1a]
     rw [A2f h1,A2W h2]
     simp only [hg,true_and,SL.len_eq,h3,if_true,h5,h6]
   · simp at e
 | .ptr id np rp g,u,v,e=>by
   simp only [A42,Tree.den_bind,Tree.den_ofO] at e
   obtain ⟨o,h1,⟨t,g'⟩,h2,e⟩:=e
   split at e
   · rename_i hg
     simp only [beq_iff_eq] at hg
     simp only [Tree.den_bind,Tree.den_leaf] at e
     obtain ⟨x,h3,rfl⟩:=e
     simp only [cW,A1a]
     rw [A2f h1,A9n h2]
     simp only [hg,true_and,if_true,B8T _ _ h3]
     rfl
   · simp at e
 | .agg l,u,v,e=>by
   simp only [A42,Tree.den_bind,Tree.den_leaf] at e
   obtain ⟨q,h1,rfl⟩:=e
   simp only [cW,A1a]
   rw [A7V h l u 0 q h1]
   rfl
 | .fn f l,u,v,e=>by
   simp only [A42,Tree.den_bind,Tree.den_leaf] at e
   obtain ⟨q,h1,rfl⟩:=e
   simp only [cW,A1a]
   rw [A7V h l u 0 q h1]
   rfl
 | .mref ..,u,v,e=>by simp [A42,Tree.den] at e
 | .tup _,u,v,e=>by simp [A42,Tree.den] at e
 | .dead _,u,v,e=>by simp [A42,Tree.den] at e
theorem A7V (h:H2):∀ (l:List W) (u:Option Ty) (i:Nat) (q:(ts:List Ty)×Els ts),(A8K h u i l).den=some q→A2d (cH h) (cWs l)=some (A05 q.1 q.2)
 | [],u,i,q,e=>by simp only [A8K,Tree.den_leaf] at e; subst e; rfl
 | w::r,u,i,q,e=>by
   simp only [A8K,Tree.den_bind,Tree.den_leaf] at e
   obtain ⟨p,h1,q',h2,rfl⟩:=e
   simp only [cWs,A2d,A05,A4s,A4t]
   rw [A57 h w _ p h1,A7V h r u (i + 1) q' h2]
end
end Go.Mid
/- Operations on symbolic states: changes of trees; scalars. -/
namespace Go.Mid
set_option linter.unusedSimpArgs false
set_option linter.unusedVariables false
theorem B1O (φ:MV→MV) (ζ:Nat→Nat):∀ l:List (T Nat),A06 (l.map (A0M φ ζ))=A06 l
 | []=>rfl
 | .p v::r=>by simp only [List.map_cons,A0M,A06,B1O φ ζ r]
 | .m _::r | .agg _::r | .vec ..::r | .mp ..::r | .hole _::r=>rfl
theorem C5N (φ:MV→MV) (ζ:Nat→Nat) (l:List (T Nat)):A0M φ ζ (A0x l)=A0x (A0B φ ζ l):=by
 unfold A0x
 rw [A3h,B1O]
 cases A06 l with
 | none=>simp only [A0M,A3h]
 | some vs=>rfl
section
variable (φ:W→Tree W) (ζ:Nat→Nat)
mutual
def A7q:T2→Tree T2
 | .e s t x=>.leaf (.e (ζ s) t x)
 | .w v=>(φ v).bind fun v'=>.leaf (.w v')
 | .agg l=>(B0W l).bind fun l'=>.leaf (.agg l')
 | .vec g z a n=>(A8L a).bind fun a'=>.leaf (.vec (ζ g) z a' n)
 | .hole n=>.leaf (.hole n)
def B0W:List T2→Tree (List T2)
 | []=>.leaf []
 | t::r=>(A7q t).bind fun t'=>(B0W r).bind fun r'=>.leaf (t'::r')
def A8L:SL→Tree SL
 | .base s t l=>.leaf (.base (ζ s) t l)
 | .set a i u=>(A8L a).bind fun a'=>(A7q u).bind fun u'=>.leaf (.set a' i u')
 | .app a u=>(A8L a).bind fun a'=>(A7q u).bind fun u'=>.leaf (.app a' u')
end
def A92:O2→Tree O2
 | .cell g t=>(A7q φ ζ t).bind fun t'=>.leaf (.cell (ζ g) t')
 | .vec g z a=>(A8L φ ζ a).bind fun a'=>.leaf (.vec (ζ g) z a')
 | .mp g k v l=>.leaf (.mp (ζ g) k v l)
 | .gone=>.leaf .gone
end
section
variable (ζ:Nat→Nat) {φ:W→Tree W} {φ':MV→MV}
mutual
theorem A9o (hφ:∀ w w',(φ w).den=some w'→φ' (cW w)=cW w'):∀ (t t':T2),(A7q φ ζ t).den=some t'→A0M φ' ζ (cT t)=cT t'
 | .e s t x,t',h=>by
   simp only [A7q,Tree.den_leaf] at h
   subst h
   exact B1I φ' ζ s t x
 | .w v,t',h=>by
   simp only [A7q,Tree.den_bind,Tree.den_leaf] at h
   obtain ⟨v',h1,rfl⟩:=h
   simp only [cT,A0M,hφ _ _ h1]
 | .agg l,t',h=>by
   simp only [A7q,Tree.den_bind,Tree.den_leaf] at h
   obtain ⟨l',h1,rfl⟩:=h
   simp only [cT,C5N,B2X hφ l l' h1]
 | .vec g z a n,t',h=>by
   simp only [A7q,Tree.den_bind,Tree.den_leaf] at h
   obtain ⟨a',h1,rfl⟩:=h
   simp only [cT,A0M,A9p hφ a a' h1]
 | .hole n,t',h=>by simp only [A7q,Tree.den_leaf] at h; subst h; rfl
theorem B2X (hφ:∀ w w',(φ w).den=some w'→φ' (cW w)=cW w'):∀ (l l':List T2),(B0W φ ζ l).den=some l'→A0B φ' ζ (cTs l)=cTs l'
 | [],l',h=>by simp only [B0W,Tree.den_leaf] at h; subst h; rfl
 | t::r,l',h=>by
   simp only [B0W,Tree.den_bind,Tree.den_leaf] at h
   obtain ⟨t',h1,r',h2,rfl⟩:=h
   simp only [cTs,A0B,A9o hφ t t' h1,B2X hφ r r' h2]
theorem A9p (hφ:∀ w w',(φ w).den=some w'→φ' (cW w)=cW w'):∀ (a a':SL),(A8L φ ζ a).den=some a'→A0B φ' ζ (cSL a)=cSL a'
 | .base s t l,a',h=>by
   simp only [A8L,Tree.den_leaf] at h
   subst h
   exact C2B φ' ζ s t l
 | .set a i u,a',h=>by
   simp only [A8L,Tree.den_bind,Tree.den_leaf] at h
   obtain ⟨b,h1,u',h2,rfl⟩:=h
   simp only [cSL]
   rw [A3h,List.map_set,← A3h,A9p hφ a b h1,A9o hφ u u' h2]
 | .app a u,a',h=>by
   simp only [A8L,Tree.den_bind,Tree.den_leaf] at h
   obtain ⟨b,h1,u',h2,rfl⟩:=h
   simp only [cSL]
   rw [A3h,List.map_append,← A3h,A9p hφ a b h1,List.map_cons,A9o hφ u u' h2]
   rfl
end
theorem B1P (hφ:∀ w w',(φ w).den=some w'→φ' (cW w)=cW w') (o o':O2) (h:(A92 φ ζ o).den=some o'):A04 φ' ζ (cO o)=cO o':=by
 cases o with
 | cell g t =>
   simp only [A92,Tree.den_bind,Tree.den_leaf] at h
   obtain ⟨t',h1,rfl⟩:=h
   simp only [cO,A04,A9o ζ hφ t t' h1]
 | vec g z a =>
   simp only [A92,Tree.den_bind,Tree.den_leaf] at h
   obtain ⟨a',h1,rfl⟩:=h
   simp only [cO,A04,A9p ζ hφ a a' h1]
 | mp g k v l =>
   simp only [A92,Tree.den_leaf] at h
   subst h
   have:∀ l:List (El k×El v),A0B φ' ζ (l.map fun p=>T.p (enc v p.2))=l.map fun p=>T.p (enc v p.2):=by
    intro l
    induction l with
    | nil=>rfl
    | cons a r ih=>simp only [List.map_cons,A0B,A0M,ih]
   simp only [cO,A04,this]
 | gone=>simp only [A92,Tree.den_leaf] at h; subst h; rfl
end
def C4c (g:Nat) (t:T2):Tree T2:=A7q .leaf (fun _=>g) t
def A3N (g:Nat) (a:SL):Tree SL:=A8L .leaf (fun _=>g) a
theorem B0X (w w':W) (h:(Tree.leaf w).den=some w'):(fun v:MV=>v) (cW w)=cW w':=by simp only [Tree.den_leaf] at h; rw [h]
theorem C4d {g:Nat} {t t':T2} (h:(C4c g t).den=some t'):A6f g (cT t)=cT t':=A9o _ B0X t t' h
theorem A3E {g:Nat} {a a':SL} (h:(A3N g a).den=some a'):A0H g (cSL a)=cSL a':=A9p _ B0X a a' h
mutual
def B0w (s:Nat):T2→Tree TV
 | .e s' t x=>if s' == s || t.pure then .leaf ⟨t,x⟩ else .fail
 | .agg l=>(B5P s l).bind fun q=>.leaf ⟨.agg q.1,q.2⟩
 | .vec g z a n=>if g == s then (A5L a).bind fun b=>match b with
    | .base s' t l=>if s' == s || t.pure then (Tree.ask (n == l.length)).bind fun _=>.leaf ⟨.vec z t,l⟩ else .fail
    | _=>.fail
   else .fail
 | .w _=>.fail
 | .hole _=>.fail
def B5P (s:Nat):List T2→Tree ((ts:List Ty)×Els ts)
 | []=>.leaf ⟨[],()⟩
 | t::r=>(B0w s t).bind fun p=>(B5P s r).bind fun q=>.leaf ⟨p.1::q.1,mkE q.1 p.2 q.2⟩
def A5L:SL→Tree SL
 | .base s t l=>.leaf (.base s t l)
 | .set a i u=>(A5L a).bind fun b=>match b with
   | .base s t l=>(B0w s u).bind fun v=>(Tree.ofO (A3D t v.2)).bind fun x=>.leaf (.base s t (l.set i x))
   | _=>.fail
 | .app a u=>(A5L a).bind fun b=>match b with
   | .base s t l=>(B0w s u).bind fun v=>(Tree.ofO (A3D t v.2)).bind fun x=>.leaf (.base s t (l++[x]))
   | _=>.fail
end
theorem B1Q {s s':Nat} {t:Ty} (hc:(s' == s || t.pure)=true) (y:El t):A0P s' t y=A0P s t y:=by
 simp only [Bool.or_eq_true,beq_iff_eq] at hc
 rcases hc with rfl | hc
 · rfl
 · rw [A1k _ _ _ hc,A1k _ _ _ hc]
mutual
theorem B3G (s:Nat):∀ (t:T2) (v:TV),(B0w s t).den=some v→cT t=A0P s v.1 v.2
 | .e s' t x,v,h=>by
   simp only [B0w] at h
   by_cases hc:(s' == s || t.pure)=true
   · rw [if_pos hc,Tree.den_leaf] at h
     subst h
     exact B1Q hc x
   · rw [if_neg hc] at h; simp at h
 | .agg l,v,h=>by
   simp only [B0w,Tree.den_bind,Tree.den_leaf] at h
   obtain ⟨q,h1,rfl⟩:=h
   simp only [cT,A0P,B9U s l q h1]
 | .vec g z a n,v,h=>by
   simp only [B0w] at h
   split at h
   · rename_i hg
     simp only [beq_iff_eq] at hg
     simp only [Tree.den_bind] at h
     obtain ⟨b,h1,h⟩:=h
     have hb:=A5M a b h1
     split at h
     · rename_i s' t l
       by_cases hc:(s' == s || t.pure)=true
       · rw [if_pos hc] at h
         simp only [Tree.den_bind,Tree.den_ask,Tree.den_leaf,beq_iff_eq] at h
         obtain ⟨_,h2,rfl⟩:=h
         have e1:∀ l:List (El t),l.map (A0P s' t)=l.map (A0P s t):=by
          intro l; congr 1; funext y; exact B1Q hc y
         simp only [cT,hb,cSL,hg,h2,A0P,e1]
       · rw [if_neg hc] at h; simp at h
     · simp at h
   · simp at h
 | .w _,v,h=>by simp [B0w,Tree.den] at h
 | .hole _,v,h=>by simp [B0w,Tree.den] at h
theorem B9U (s:Nat):∀ (l:List T2) (q:(ts:List Ty)×Els ts),(B5P s l).den=some q→cTs l=A03 s q.1 q.2
 | [],q,h=>by simp only [B5P,Tree.den_leaf] at h; subst h; rfl
 | t::r,q,h=>by
   simp only [B5P,Tree.den_bind,Tree.den_leaf] at h
   obtain ⟨p,h1,q',h2,rfl⟩:=h
   simp only [cTs,A03,A4s,A4t]
   rw [B3G s t p h1,B9U s r q' h2]
theorem A5M:∀ (a b:SL),(A5L a).den=some b→cSL a=cSL b
 | .base s t l,b,h=>by simp only [A5L,Tree.den_leaf] at h; subst h; rfl
 | .set a i u,b,h=>by
   simp only [A5L,Tree.den_bind] at h
   obtain ⟨b',h1,h⟩:=h
   have hb:=A5M a b' h1
   split at h
   · rename_i s t l
     simp only [Tree.den_bind,Tree.den_ofO,Tree.den_leaf] at h
     obtain ⟨v,h2,x,h3,rfl⟩:=h
     have hu:=B3G s u v h2
     obtain ⟨t',y⟩:=v
     obtain ⟨e,he,_⟩:=A2x h3
     simp only at e he
     subst e
     cases he
     simp only [cSL,hb,hu,List.map_set]
   · simp at h
 | .app a u,b,h=>by
   simp only [A5L,Tree.den_bind] at h
   obtain ⟨b',h1,h⟩:=h
   have hb:=A5M a b' h1
   split at h
   · rename_i s t l
     simp only [Tree.den_bind,Tree.den_ofO,Tree.den_leaf] at h
     obtain ⟨v,h2,x,h3,rfl⟩:=h
     have hu:=B3G s u v h2
     obtain ⟨t',y⟩:=v
     obtain ⟨e,he,_⟩:=A2x h3
     simp only at e he
     subst e
     cases he
     simp only [cSL,hb,hu,List.map_append,List.map_cons,List.map_nil]
   · simp at h
end
mutual
def A93:T2→Tree T2
 | .vec g z a n=>(A5L a).bind fun b=>.leaf (.vec g z b n)
 | .agg l=>(B2Y l).bind fun l'=>.leaf (.agg l')
 | .e s t x=>.leaf (.e s t x)
 | .w v=>.leaf (.w v)
 | .hole n=>.leaf (.hole n)
def B2Y:List T2→Tree (List T2)
 | []=>.leaf []
 | t::r=>(A93 t).bind fun t'=>(B2Y r).bind fun r'=>.leaf (t'::r')
end
mutual
theorem B9V:∀ (t t':T2),(A93 t).den=some t'→cT t=cT t'
 | .vec g z a n,t',h=>by
   simp only [A93,Tree.den_bind,Tree.den_leaf] at h
   obtain ⟨b,h1,rfl⟩:=h
   simp only [cT,A5M a b h1]
 | .agg l,t',h=>by
   simp only [A93,Tree.den_bind,Tree.den_leaf] at h
   obtain ⟨l',h1,rfl⟩:=h
   simp only [cT,B71 l l' h1]
 | .e s t x,t',h=>by simp only [A93,Tree.den_leaf] at h; subst h; rfl
 | .w v,t',h=>by simp only [A93,Tree.den_leaf] at h; subst h; rfl
 | .hole n,t',h=>by simp only [A93,Tree.den_leaf] at h; subst h; rfl
theorem B71:∀ (l l':List T2),(B2Y l).den=some l'→cTs l=cTs l'
 | [],l',h=>by simp only [B2Y,Tree.den_leaf] at h; subst h; rfl
 | t::r,l',h=>by
   simp only [B2Y,Tree.den_bind,Tree.den_leaf] at h
   obtain ⟨t',h1,r',h2,rfl⟩:=h
   simp only [cTs,B9V t t' h1,B71 r r' h2]
end
def B3H:O2→Tree O2
 | .cell g t=>(A93 t).bind fun t'=>.leaf (.cell g t')
 | .vec g z a=>(A5L a).bind fun b=>.leaf (.vec g z b)
 | o=>.leaf o
theorem C5O (o o':O2) (h:(B3H o).den=some o'):cO o=cO o':=by
 cases o with
 | cell g t =>
   simp only [B3H,Tree.den_bind,Tree.den_leaf] at h
   obtain ⟨t',h1,rfl⟩:=h
   simp only [cO,B9V t t' h1]
 | vec g z a =>
   simp only [B3H,Tree.den_bind,Tree.den_leaf] at h
   obtain ⟨b,h1,rfl⟩:=h
   simp only [cO,A5M a b h1]
 | mp g k v l=>simp only [B3H,Tree.den_leaf] at h; subst h; rfl
 | gone=>simp only [B3H,Tree.den_leaf] at h; subst h; rfl
def B3I (g:Nat) (u:Option Ty):SL:=match A7p u with | some t=>.base g t [] | none=>.base g .bool []
theorem B4P (g:Nat) (u:Option Ty):cSL (B3I g u)=[]:=by
 unfold B3I
 split <;> rfl
mutual
def A5y (g:Nat) (u:Option Ty) (h:H2):W→Tree (T2×H2)
 | .v t x=>if t.pure then .leaf (.e g t x,h) else .fail
 | .c p=>match pv? (.c p) with
   | some v=>if v.1.pure then .leaf (.e g v.1 v.2,h) else .fail
   | none=>match u with
     | some u=>match dec u p with | some x=>if u.pure then .leaf (.e g u x,h) else .fail | none=>.fail
     | none=>.fail
 | .own id path off len g'=>match off with
   | some _=>.fail
   | none=>(Tree.ofO (A2q h id)).bind fun o=>match o,path with
     | .vec g'' z a,[]=>if g' == g'' then (Tree.ask (Nat.ble len a.len)).bind fun _=>(A3N g a).bind fun b=>.leaf (.vec g z b len,setA h id .gone) else .fail
     | o,path=>(A56 o path).bind fun t=>(B8R t).bind fun x=>if g' == x.1 then
        (Tree.ask (Nat.ble len x.2.2.len)).bind fun _=>(A3N g x.2.2).bind fun b=>(A7n (.hole 1) o path).bind fun o'=>.leaf (.vec g x.2.1 b len,setA h id o') else .fail
 | .agg l=>(B0Y g u 0 h l).bind fun x=>.leaf (.agg x.1,x.2)
 | .nil z=>.leaf (.vec g z (B3I g u) 0,h)
 | .ptr id np rp g'=>.leaf (.w (.ptr id np rp g'),h)
 | .fn f l=>.leaf (.w (.fn f l),h)
 | .mref ..=>.fail
 | .tup _=>.fail
 | .dead _=>.fail
def B0Y (g:Nat) (u:Option Ty) (i:Nat) (h:H2):List W→Tree (List T2×H2)
 | []=>.leaf ([],h)
 | w::r=>(A5y g (B3F u i) h w).bind fun x=>(B0Y g u (i + 1) x.2 r).bind fun y=>.leaf (x.1::y.1,y.2)
end
theorem B9W {o:O2} {g z:Nat} {l:List (T Nat)} (h:cO o=.vec g z l):∃ a,o=.vec g z a:=by
 cases o with
 | vec g1 z1 a=>simp only [cO,Obj.vec.injEq] at h; obtain ⟨rfl,rfl,_⟩:=h; exact ⟨a,rfl⟩
 | _=>simp [cO] at h
theorem C0Y {g id len g':Nat} {h:A0b} {ob:Obj Nat} {p:List Nat} (ho:h id=some ob) (hn:∀ g1 z1 l1,ob=.vec g1 z1 l1→p=[]→False) :
 A1O g h (.own id p 0 len g')=match A0h (some ob) p with
  | some (.vec g'' z l _)=>if g'=g''∧len ≤ l.length then
     match put (some ob) p (.hole 1) with | some o=>some (.vec g z (A0H g l) len,upd h id (some o)) | none=>none
    else none
  | _=>none:=by
 simp only [A1O,ho,true_and]
 split
 · rename_i h1
   simp only [Option.some.injEq] at h1
   exact absurd rfl (hn _ _ _ h1)
 · rfl
mutual
theorem B4Q (g:Nat):∀ (w:W) (u:Option Ty) (h:H2) (t:T2) (h':H2),(A5y g u h w).den=some (t,h')→A1O g (cH h) (cW w)=some (cT t,cH h')
 | .v t x,u,h,t',h',e=>by
   simp only [A5y] at e
   split at e
   · rename_i hp
     simp only [Tree.den_leaf,Prod.mk.injEq] at e
     obtain ⟨rfl,rfl⟩:=e
     show some (T.p (enc t x),cH h)=some (A0P g t x,cH h)
     rw [A1k g t x hp]
   · simp at e
 | .c p,u,h,t',h',e=>by
   simp only [A5y] at e
   split at e
   · rename_i v hv
     split at e
     · rename_i hp
       simp only [Tree.den_leaf,Prod.mk.injEq] at e
       obtain ⟨rfl,rfl⟩:=e
       rw [B0P hv]
       show some (T.p (enc v.1 v.2),cH h)=some (A0P g v.1 v.2,cH h)
       rw [A1k g _ _ hp]
     · simp at e
   · split at e
     · rename_i u
       split at e
       · rename_i x hx
         split at e
         · rename_i hp
           simp only [Tree.den_leaf,Prod.mk.injEq] at e
           obtain ⟨rfl,rfl⟩:=e
           show some (T.p p,cH h)=some (A0P g u x,cH h)
           rw [A1k g _ _ hp,A7T _ _ _ hx]
         · simp at e
       · simp at e
     · simp at e
 | .own id path off len g',u,h,t',h',e=>by
   simp only [A5y] at e
   split at e
   · simp at e
   · simp only [Tree.den_bind,Tree.den_ofO] at e
     obtain ⟨o,h1,e⟩:=e
     have ho:=A2f h1
     split at e
     · rename_i g'' z a
       split at e
       · rename_i hg
         simp only [beq_iff_eq] at hg
         subst hg
         simp only [Tree.den_bind,Tree.den_ask,Tree.den_leaf,Prod.mk.injEq] at e
         obtain ⟨_,h2,b,h3,rfl,rfl⟩:=e
         have h2:=Nat.ble_eq.mp h2
         simp only [cW,ixs,Option.getD_none,A1O,ho,cO]
         rw [if_pos ⟨trivial,trivial,by rw [SL.len_eq]; exact h2⟩,A3E h3,← A1M]
         rfl
       · simp at e
     · rename_i hno
       simp only [Tree.den_bind] at e
       obtain ⟨t,h2,⟨g'',z,a⟩,h3,e⟩:=e
       split at e
       · rename_i hg
         simp only [beq_iff_eq] at hg
         subst hg
         simp only [Tree.den_bind,Tree.den_ask,Tree.den_leaf,Prod.mk.injEq] at e
         obtain ⟨_,h4,b,h5,o'',h6,rfl,rfl⟩:=e
         have h4:=Nat.ble_eq.mp h4
         have hsub:=A5K h2
         obtain ⟨n,hv⟩:=B9O h3
         rw [hv] at hsub
         have hput:put (some (cO o)) (ixs path) (.hole 1)=some (cO o''):=A41 h6
         have key:=C0Y (g:=g) (g':=g') (len:=len) ho (p:=ixs path) (fun g1 z1 l1 e1 e2=>by
          obtain ⟨a1,ha⟩:=B9W e1
          cases path with
          | nil=>exact hno _ _ _ ha rfl
          | cons s r=>simp [ixs] at e2)
         refine key.trans ?_
         rw [hsub]
         simp only
         rw [if_pos ⟨trivial,by rw [SL.len_eq]; exact h4⟩,hput,A3E h5,← A1M]
         rfl
       · simp at e
 | .agg l,u,h,t',h',e=>by
   simp only [A5y,Tree.den_bind,Tree.den_leaf,Prod.mk.injEq] at e
   obtain ⟨⟨ts,h1⟩,e1,rfl,rfl⟩:=e
   simp only [cW,A1O,B2Z g l u 0 h ts h1 e1,cT]
 | .nil z,u,h,t',h',e=>by
   simp only [A5y,Tree.den_leaf,Prod.mk.injEq] at e
   obtain ⟨rfl,rfl⟩:=e
   simp only [cW,A1O,cT,B4P]
 | .ptr id np rp g',u,h,t',h',e=>by
   simp only [A5y,Tree.den_leaf,Prod.mk.injEq] at e
   obtain ⟨rfl,rfl⟩:=e
   rfl
 | .fn f l,u,h,t',h',e=>by
   simp only [A5y,Tree.den_leaf,Prod.mk.injEq] at e
   obtain ⟨rfl,rfl⟩:=e
   rfl
 | .mref ..,u,h,t',h',e=>by simp [A5y,Tree.den] at e
 | .tup _,u,h,t',h',e=>by simp [A5y,Tree.den] at e
 | .dead _,u,h,t',h',e=>by simp [A5y,Tree.den] at e
theorem B2Z (g:Nat):∀ (l:List W) (u:Option Ty) (i:Nat) (h:H2) (ts:List T2) (h':H2),(B0Y g u i h l).den=some (ts,h')→A3e g (cH h) (cWs l)=some (cTs ts,cH h')
 | [],u,i,h,ts,h',e=>by
   simp only [B0Y,Tree.den_leaf,Prod.mk.injEq] at e
   obtain ⟨rfl,rfl⟩:=e
   rfl
 | w::r,u,i,h,ts,h',e=>by
   simp only [B0Y,Tree.den_bind,Tree.den_leaf,Prod.mk.injEq] at e
   obtain ⟨⟨t,h1⟩,e1,⟨q,h2⟩,e2,rfl,rfl⟩:=e
   simp only [cWs,A3e,B4Q g w _ h t h1 e1,B2Z g r u (i + 1) h1 q h2 e2,cTs]
end
end Go.Mid
/- Operations on symbolic states: scalars,strings,pure lists. -/
namespace Go.Mid
set_option linter.unusedSimpArgs false
set_option linter.unusedVariables false
abbrev wI (k:IntKind) (n:Int):W:=.v (.int k) n
abbrev wB (b:Bool):W:=.v .bool b
abbrev wS (s:ByteArray):W:=.v .str s
def isC:W→Bool
 | .c _=>true
 | _=>false
def A94 (w:W) (b:Bool):Tree Unit:=match w with
 | .c _=>Tree.chk b
 | _=>Tree.ask b
@[simp] theorem A95 (w:W) (b:Bool) (r:Unit):(A94 w b).den=some r↔b=true:=by cases w <;> simp [A94]
def A8y (k:IntKind) (x y:Int):Int:=k.wrap (BitVec.ofInt k.bits x &&& BitVec.ofInt k.bits y).toNat
def orI (k:IntKind) (x y:Int):Int:=k.wrap (BitVec.ofInt k.bits x ||| BitVec.ofInt k.bits y).toNat
def C78 (k:IntKind) (x y:Int):Int:=k.wrap (BitVec.ofInt k.bits x ^^^ BitVec.ofInt k.bits y).toNat
def C7p (k:IntKind) (x y:Int):Int:=k.wrap (BitVec.ofInt k.bits x &&& ~~~ BitVec.ofInt k.bits y).toNat
def C9V (k:IntKind) (x y:Int):Int:=k.wrap (x * 2 ^ min y.toNat k.bits)
def A1G (k:IntKind) (x y:Int):Int:=x.fdiv (2 ^ min y.toNat k.bits)
def B5Q (a b:ByteArray):Bool:=a.toList == b.toList
def B8U (a b:ByteArray):Bool:=Op.bytesLess a.toList b.toList
def C2F (op:BinOp) (k:IntKind) (x y:Int) (b:W):Tree W :=
 match op with
 | .add=>.leaf (wI k (k.wrap (x + y)))
 | .sub=>.leaf (wI k (k.wrap (x - y)))
 | .mul=>.leaf (wI k (k.wrap (x * y)))
 | .quo=>(A94 b (y != 0)).bind fun _=>.leaf (wI k (k.wrap (x.tdiv y)))
 | .rem=>(A94 b (y != 0)).bind fun _=>.leaf (wI k (x.tmod y))
 | .eql=>.leaf (wB (x == y))
 | .neq=>.leaf (wB (x != y))
 | .lss=>.leaf (wB (decide (x < y)))
 | .leq=>.leaf (wB (decide (x ≤ y)))
 | .gtr=>.leaf (wB (decide (x > y)))
 | .geq=>.leaf (wB (decide (x ≥ y)))
 | .and=>.leaf (wI k (A8y k x y))
 | .or=>.leaf (wI k (orI k x y))
 | .xor=>.leaf (wI k (C78 k x y))
 | .andNot=>.leaf (wI k (C7p k x y))
 | _=>.fail
def B9X (op:BinOp) (k:IntKind) (x y:Int) (b:W):Tree W :=
 match op with
 | .shl=>(A94 b (decide (0 ≤ y))).bind fun _=>.leaf (wI k (C9V k x y))
 | .shr=>(A94 b (decide (0 ≤ y))).bind fun _=>.leaf (wI k (A1G k x y))
 | _=>.fail
def C2G (op:BinOp) (a b:ByteArray):Tree W :=
 match op with
 | .add=>(Tree.ask (Nat.ble (a.size + b.size) 9223372036854775807)).bind fun _=>.leaf (wS (a++b))
 | .eql=>.leaf (wB (B5Q a b))
 | .neq=>.leaf (wB !(B5Q a b))
 | .lss=>.leaf (wB (B8U a b))
 | .leq=>.leaf (wB (B8U a b || B5Q a b))
 | .gtr=>.leaf (wB !(B8U a b || B5Q a b))
 | .geq=>.leaf (wB !(B8U a b))
 | _=>.fail
def B9Y (op:BinOp) (a b:Bool):Tree W :=
 match op with
 | .eql=>.leaf (wB (a == b))
 | .neq=>.leaf (wB !(a == b))
 | _=>.fail
def B62:BinOp→Bool
 | .shl=>true
 | .shr=>true
 | _=>false
def C5P (bl:Bool) (op:BinOp) (a b:W):Tree W :=
 match bl with
 | true=>match B5J a,B5J b with | some x,some y=>B9Y op x y | _,_=>.fail
 | false=>match A7m a,A7m b with
   | some (k,x),some (k',y)=>match B62 op with
     | true=>B9X op k x y b
     | false=>if k == k' then C2F op k x y b else .fail
   | _,_=>match B2S a,B2S b with | some x,some y=>C2G op x y | _,_=>.fail
theorem C4e {op:BinOp} {k:IntKind} {x y:Int} {b w:W} (hs:B62 op=false) (h:(C2F op k x y b).den=some w):∃ v,A0Q op (.int k x) (.int k y)=some v∧cW w=.p v:=by
 cases op <;> simp only [B62,Bool.true_eq_false,reduceCtorEq] at hs <;>
  simp only [C2F,Tree.den_leaf,Tree.den_bind,A95,Tree.den_fail] at h
 case quo =>
  obtain ⟨_,h1,rfl⟩:=h
  exact ⟨_,by simp only [A0Q,ne_eq,not_true_eq_false,if_false]; rw [if_neg (by simpa using h1)]; rfl,rfl⟩
 case rem =>
  obtain ⟨_,h1,rfl⟩:=h
  exact ⟨_,by simp only [A0Q,ne_eq,not_true_eq_false,if_false]; rw [if_neg (by simpa using h1)]; rfl,rfl⟩
 all_goals
  subst h
  exact ⟨_,by simp only [A0Q,ne_eq,not_true_eq_false,if_false,B46]; rfl,rfl⟩
theorem C2H {op:BinOp} {k k':IntKind} {x y:Int} {b w:W} (h:(B9X op k x y b).den=some w):∃ v,A0Q op (.int k x) (.int k' y)=some v∧cW w=.p v:=by
 cases op <;> simp only [B9X,Tree.den_leaf,Tree.den_bind,A95,Tree.den_fail,decide_eq_true_eq] at h
 all_goals
  obtain ⟨_,h1,rfl⟩:=h
  exact ⟨_,by simp only [A0Q]; rw [if_neg (by omega)]; rfl,rfl⟩
theorem C4f {op:BinOp} {x y:ByteArray} {w:W} (h:(C2G op x y).den=some w):∃ v,A0Q op (.str x) (.str y)=some v∧cW w=.p v:=by
 cases op <;> simp only [C2G,Tree.den_leaf,Tree.den_bind,Tree.den_ask,Tree.den_fail] at h
 case add =>
  obtain ⟨_,h1,rfl⟩:=h
  exact ⟨_,by simp only [A0Q]; rw [if_pos (Nat.ble_eq.mp h1)]; rfl,rfl⟩
 all_goals
  subst h
  exact ⟨_,by simp only [A0Q]; rfl,rfl⟩
theorem C2I {op:BinOp} {x y:Bool} {w:W} (h:(B9Y op x y).den=some w):∃ v,A0Q op (.bool x) (.bool y)=some v∧cW w=.p v:=by
 cases op <;> simp only [B9Y,Tree.den_leaf,Tree.den_fail] at h
 all_goals
  subst h
  exact ⟨_,by simp only [A0Q]; rfl,rfl⟩
def B4R (bl:Bool) (op:BinOp) (a b:MV):Option MV:=match a,b with
 | .p a,.p b=>if isB a=bl then (match A0Q op a b with | some v=>some (.p v) | none=>none) else none
 | _,_=>none
theorem C7q {bl:Bool} {op:BinOp} {a b w:W} (h:(C5P bl op a b).den=some w):B4R bl op (cW a) (cW b)=some (cW w):=by
 unfold C5P at h
 split at h
 · split at h
   · rename_i x y hx hy
     rw [B4I hx,B4I hy]
     obtain ⟨v,h1,h2⟩:=C2I h
     simp only [B4R,h1,h2,isB,if_true]
   · simp at h
 · split at h
   · rename_i k x k' y hx hy
     rw [A4g hx,A4g hy]
     split at h
     · obtain ⟨v,h1,h2⟩:=C2H (k':=k') h
       simp only [B4R,h1,h2,isB,if_true]
     · rename_i hs
       split at h
       · rename_i hk
         simp only [beq_iff_eq] at hk
         subst hk
         obtain ⟨v,h1,h2⟩:=C4e hs h
         simp only [B4R,h1,h2,isB,if_true]
       · simp at h
   · split at h
     · rename_i x y hx hy
       rw [A8Y hx,A8Y hy]
       obtain ⟨v,h1,h2⟩:=C4f h
       simp only [B4R,h1,h2,isB,if_true]
     · simp at h
mutual
def A5N:TD→Ty
 | .int k=>.int k
 | .bool=>.bool
 | .str=>.str
 | .agg l=>.agg (A14 l)
def A14:List TD→List Ty
 | []=>[]
 | t::r=>A5N t::A14 r
end
mutual
def eqE:(td:TD)→El (A5N td)→El (A5N td)→Bool
 | .int _,x,y=>(show Int from x) == y
 | .bool,x,y=>(show Bool from x) == y
 | .str,x,y=>B5Q x y
 | .agg l,x,y=>C2J l x y
def C2J:(l:List TD)→Els (A14 l)→Els (A14 l)→Bool
 | [],_,_=>true
 | [t],x,y=>eqE t (hdE [] x) (hdE [] y)
 | t::u::r,x,y=>eqE t (hdE (A14 (u::r)) x) (hdE (A14 (u::r)) y) && C2J (u::r) (tlE (A14 (u::r)) x) (tlE (A14 (u::r)) y)
end
mutual
theorem B9Z:∀ (td:TD) (x y:El (A5N td)),eqV (enc (A5N td) x) (enc (A5N td) y)=eqE td x y
 | .int _,x,y=>rfl
 | .bool,x,y=>rfl
 | .str,x,y=>rfl
 | .agg l,x,y=>C1x l x y
theorem C1x:∀ (l:List TD) (x y:Els (A14 l)),A7G (A05 (A14 l) x) (A05 (A14 l) y)=C2J l x y
 | [],x,y=>rfl
 | [t],x,y=>by
   have h:eqV (enc (A5N t) (hdE [] x)) (enc (A5N t) (hdE [] y))=eqE t (hdE [] x) (hdE [] y):=B9Z t _ _
   show (eqV (enc (A5N t) (hdE [] x)) (enc (A5N t) (hdE [] y)) && true)=eqE t (hdE [] x) (hdE [] y)
   rw [h,Bool.and_true]
 | t::u::r,x,y=>by
   have h1:=B9Z t (hdE (A14 (u::r)) x) (hdE (A14 (u::r)) y)
   have h2:=C1x (u::r) (tlE (A14 (u::r)) x) (tlE (A14 (u::r)) y)
   show (eqV (enc (A5N t) (hdE (A14 (u::r)) x)) (enc (A5N t) (hdE (A14 (u::r)) y)) && A7G (A05 (A14 (u::r)) (tlE (A14 (u::r)) x)) (A05 (A14 (u::r)) (tlE (A14 (u::r)) y)))=(eqE t (hdE (A14 (u::r)) x) (hdE (A14 (u::r)) y) && C2J (u::r) (tlE (A14 (u::r)) x) (tlE (A14 (u::r)) y))
   rw [h1,h2]
end
mutual
theorem C1y:∀ (td:TD) (x:El (A5N td)),A2o td (enc (A5N td) x)=true
 | .int _,x=>by simp [A5N,enc,A2o]
 | .bool,x=>rfl
 | .str,x=>rfl
 | .agg l,x=>B90 l x
theorem B90:∀ (l:List TD) (x:Els (A14 l)),A3o l (A05 (A14 l) x)=true
 | [],x=>rfl
 | t::r,x=>by
   simp only [A14,A05,A3o,Bool.and_eq_true]
   exact ⟨C1y t _,B90 r _⟩
end
def C5Q (neg:Bool) (td:TD) (a b:W):Tree W:=match as? (A5N td) a,as? (A5N td) b with
 | some x,some y=>.leaf (wB (match neg with | false=>eqE td x y | true=>!(eqE td x y)))
 | _,_=>.fail
def C2K (neg:Bool) (td:TD) (a b:MV):Option MV:=match a,b with
 | .p a,.p b=>if A2o td a && A2o td b then some (A73 (eqV a b != neg)) else none
 | _,_=>none
theorem C7r {neg:Bool} {td:TD} {a b w:W} (h:(C5Q neg td a b).den=some w):C2K neg td (cW a) (cW b)=some (cW w):=by
 unfold C5Q at h
 split at h
 · rename_i x y hx hy
   simp only [Tree.den_leaf] at h
   subst h
   rw [B0Q hx,B0Q hy]
   simp only [C2K,C1y,Bool.and_self,if_true,B9Z]
   cases neg <;> cases eqE td x y <;> rfl
 · simp at h
def wnd:W→Bool
 | .dead _=>false
 | _=>true
def un2:MOp→W→Tree W
 | .not _,w=>match w with
   | .c (.bool b)=>.leaf (.c (.bool !b))
   | w=>match B5J w with | some b=>.leaf (wB !b) | none=>.fail
 | .neg _,w=>match A7m w with | some (k,n)=>.leaf (wI k (k.wrap (0 - n))) | none=>.fail
 | .inv _,w=>match A7m w with | some (k,n)=>.leaf (wI k (C78 k (if k.signed then -1 else k.max) n)) | none=>.fail
 | .convI k _,w=>match A7m w with | some (_,n)=>.leaf (wI k (k.wrap n)) | none=>.fail
 | .convS _,w=>match B2S w with | some s=>.leaf (wS s) | none=>.fail
 | .convR _,w=>match A7m w with | some (_,n)=>.leaf (wS (Utf8.encode n)) | none=>.fail
 | .lenS _,w=>match B2S w with | some s=>.leaf (wI .i64 (s.size:Nat)) | none=>.fail
 | .capn _,w=>match w with | .nil _=>.leaf (wI .i64 (0:Nat)) | _=>.fail
 | .isnil fk neg _,w=>match fk,w with
   | false,.c .nilp=>.leaf (.c (.bool (true != neg)))
   | true,.c .nilf=>.leaf (.c (.bool (true != neg)))
   | false,.v .nilp _=>.leaf (.c (.bool (true != neg)))
   | true,.v .nilf _=>.leaf (.c (.bool (true != neg)))
   | false,.v (.ref _) _=>.leaf (.c (.bool (false != neg)))
   | false,.ptr ..=>.leaf (.c (.bool (false != neg)))
   | true,.v (.fn _ _) _=>.leaf (.c (.bool (false != neg)))
   | true,.c (.fn _ _)=>.leaf (.c (.bool (false != neg)))
   | true,.fn _ _=>.leaf (.c (.bool (false != neg)))
   | _,_=>.fail
 | .nilc _,w=>match w with
   | .v (.ref t) x=>.leaf (.v (.ref t) x)
   | .ptr id np rp g=>.leaf (.ptr id np rp g)
   | _=>.fail
 | .len _,w=>match w with
   | .v (.sl t) l=>.leaf (wI .i64 (List.length (α:=El t) l:Nat))
   | .c (.sl l)=>.leaf (.c (.int .i64 (l.length:Nat)))
   | .nil _=>.leaf (.c (.int .i64 0))
   | .own _ _ _ n _=>.leaf (wI .i64 (n:Nat))
   | _=>.fail
 | .cut0 z _,w=>match w with
   | .v (.sl _) _=>.leaf (.nil z)
   | .c (.sl _)=>.leaf (.nil z)
   | .nil _=>.leaf (.nil z)
   | .own ..=>.leaf (.nil z)
   | _=>.fail
 | .ext _ i,w=>match w with
   | .tup l=>Tree.ofO l[i]?
   | _=>.fail
 | .fld agg n o _ i,w=>match w with
   | .v (.agg ts) x=>match A9Z ts x i with
     | some v=>if Ty.css (ts.take i) == o && v.1.cs == n && v.1.isAgg == agg then .leaf (.v v.1 v.2) else .fail
     | none=>.fail
   | .c (.agg l)=>match l[i]? with
     | some v=>if PV.css (l.take i) == o && v.cs == n && v.isAgg == agg then .leaf (.c v) else .fail
     | none=>.fail
   | .agg l=>match l[i]? with
     | some v=>if B9K (l.take i) == o && wcs v == n && C2C v == agg && wnd v then .leaf v else .fail
     | none=>.fail
   | _=>.fail
 | .faddr _ i o,w=>match w with
   | .v (.ref (.agg ts)) x=>match A9Z ts x i with
     | some v=>if Ty.css (ts.take i) == o then .leaf (.v (.ref v.1) v.2) else .fail
     | none=>.fail
   | .ptr id np rp g=>.leaf (.ptr id np (rp++[.f i o]) g)
   | _=>.fail
 | _,_=>.fail
def B1R:MOp→Option Opd
 | .not x | .neg x | .inv x | .convI _ x | .convS x | .convR x | .lenS x | .capn x | .isnil _ _ x | .nilc x | .len x | .cut0 _ x | .ext x _ | .fld _ _ _ x _ | .faddr x _ _=>some x
 | _=>none
theorem B72 (v:W) (h:wnd v=true):B47 (cW v)=false:=by
 cases v <;> first | rfl | cases h
theorem C79 (K:A0t) (g:Nat) (d:Option Nat) (s:S2) (h:A0b) (op:MOp) (x:Opd) (w w':W) (ho:B1R op=some x) (hw:evO (cS s) x=cW w) (e:(un2 op w).den=some w'):A0a K g d (cS s) h op=some (cW w',h):=by
 cases op <;> simp only [B1R,Option.some.injEq,reduceCtorEq] at ho <;> subst ho <;> simp only [un2] at e <;> simp only [A0a,hw]
 case not =>
  split at e
  · simp only [Tree.den_leaf] at e; subst e; rfl
  · split at e
    · rename_i b hb; simp only [Tree.den_leaf] at e; subst e; rw [B4I hb]; rfl
    · simp at e
 case neg =>
  split at e
  · rename_i b hb; simp only [Tree.den_leaf] at e; subst e; rw [A4g hb]; rfl
  · simp at e
 case inv =>
  split at e
  · rename_i b hb; simp only [Tree.den_leaf] at e; subst e; rw [A4g hb]; rfl
  · simp at e
 case convI =>
  split at e
  · rename_i b hb; simp only [Tree.den_leaf] at e; subst e; rw [A4g hb]; rfl
  · simp at e
 case convS =>
  split at e
  · rename_i b hb; simp only [Tree.den_leaf] at e; subst e; rw [A8Y hb]; rfl
  · simp at e
 case convR =>
  split at e
  · rename_i b hb; simp only [Tree.den_leaf] at e; subst e; rw [A4g hb]; rfl
  · simp at e
 case lenS =>
  split at e
  · rename_i b hb; simp only [Tree.den_leaf] at e; subst e; rw [A8Y hb]; rfl
  · simp at e
 case capn =>
  split at e
  · simp only [Tree.den_leaf] at e; subst e; rfl
  · simp at e
 case isnil =>
  split at e <;> first | (simp only [Tree.den_leaf] at e; subst e; rfl) | simp at e
 case nilc =>
  split at e <;> first | (simp only [Tree.den_leaf] at e; subst e; rfl) | simp at e
 case len =>
  split at e
  · rename_i t l
    simp only [Tree.den_leaf] at e
    subst e
    have:∀ l:List (El t),(match A6Z (.p (.sl (l.map (enc t)))) with | some n=>some (A6Y n,h) | none=>none)=some (.p (.int .i64 (l.length:Nat)),h):=by intro l; simp [A6Z,A6Y]
    exact this l
  · simp only [Tree.den_leaf] at e; subst e; rfl
  · simp only [Tree.den_leaf] at e; subst e; rfl
  · simp only [Tree.den_leaf] at e; subst e; rfl
  · simp at e
 case cut0 =>
  split at e <;> first | (simp only [Tree.den_leaf] at e; subst e; rfl) | simp at e
 case ext =>
  split at e
  · rename_i l
    simp only [Tree.den_ofO] at e
    simp only [cW,A2b,List.getElem?_map,e]
    rfl
  · simp at e
 case fld =>
  split at e
  · rename_i ts x
    split at e
    · rename_i v hv
      obtain ⟨t,y⟩:=v
      split at e
      · rename_i hc
        simp only [Bool.and_eq_true,beq_iff_eq] at hc
        simp only [Tree.den_leaf] at e
        subst e
        have hv2:=(A9m 0 ts x _ t y hv).1
        have hcs:=A5j ts x
        simp only [cW,enc]
        rw [hv2]
        simp only
        rw [if_pos ⟨(hcs _).trans hc.1.1,(A6m _ _).trans hc.1.2,(A9V _ _).trans hc.2⟩]
      · simp at e
    · simp at e
  · rename_i l
    split at e
    · rename_i v hv
      split at e
      · rename_i hc
        simp only [Bool.and_eq_true,beq_iff_eq] at hc
        simp only [Tree.den_leaf] at e
        subst e
        simp only [cW]
        rw [hv]
        simp only
        rw [if_pos ⟨hc.1.1,hc.1.2,hc.2⟩]
      · simp at e
    · simp at e
  · rename_i l
    split at e
    · rename_i v hv
      split at e
      · rename_i hc
        simp only [Bool.and_eq_true,beq_iff_eq] at hc
        simp only [Tree.den_leaf] at e
        subst e
        simp only [cW,A2b,List.getElem?_map,hv,Option.map_some,← List.map_take]
        rw [← A2b,B6S,B5H,C1q,if_pos ⟨hc.1.1.1,hc.1.1.2,hc.1.2,B72 _ hc.2⟩]
      · simp at e
    · simp at e
  · simp at e
 case faddr =>
  split at e
  · rename_i ts x
    split at e
    · rename_i v hv
      obtain ⟨t,y⟩:=v
      split at e
      · rename_i hc
        simp only [beq_iff_eq] at hc
        simp only [Tree.den_leaf] at e
        subst e
        have hv2:=(A9m 0 ts x _ t y hv).1
        have hcs:=A5j ts x
        simp only [cW,enc]
        rw [hv2]
        simp only
        rw [if_pos ((hcs _).trans hc)]
      · simp at e
    · simp at e
  · simp only [Tree.den_leaf] at e
    subst e
    simp only [cW]
    rw [A7j,B1F]
    rfl
  · simp at e
end Go.Mid
/- Operations on symbolic states: owned memory. -/
namespace Go.Mid
set_option linter.unusedSimpArgs false
set_option linter.unusedVariables false
def B1S (np:Option (List Step)) (rp:List Step):List Step:=match np with | none=>rp | some p=>p++rp
theorem B1T (np:Option (List Step)) (rp:List Step):A4b (npI np) (ixs rp)=ixs (B1S np rp):=by
 cases np with
 | none=>rfl
 | some p=>simp only [A4b,npI,Option.getD_some,B1S,A7j]
def B8V (h:H2) (agg:Bool) (n:Nat):W→Tree W
 | .v (.ref t) x=>if t.cs == n && t.isAgg == agg then .leaf (.v t x) else .fail
 | .ptr id np rp g=>(Tree.ofO (A2q h id)).bind fun o=>(B1M o np rp).bind fun x=>if x.2 == g && tcs x.1 == n then
    (B4N id (B1S np rp) x.1).bind fun v=>if C2C v == agg && wnd v then .leaf v else .fail else .fail
 | _=>.fail
theorem B91 {h:H2} {agg:Bool} {n:Nat} {a w:W} (e:(B8V h agg n a).den=some w):A3f (cH h) agg n (cW a)=some (cW w):=by
 unfold B8V at e
 split at e
 · rename_i t x
   split at e
   · rename_i hc
     simp only [Bool.and_eq_true,beq_iff_eq] at hc
     simp only [Tree.den_leaf] at e
     subst e
     show (if (enc t x).cs=n∧(enc t x).isAgg=agg then some (MV.p (enc t x)) else none)=_
     rw [if_pos ⟨(A6m _ _).trans hc.1,(A9V _ _).trans hc.2⟩]
     rfl
   · simp at e
 · rename_i id np rp g
   simp only [Tree.den_bind,Tree.den_ofO] at e
   obtain ⟨o,h1,⟨t,s⟩,h2,e⟩:=e
   split at e
   · rename_i hc
     simp only [Bool.and_eq_true,beq_iff_eq] at hc
     simp only [Tree.den_bind] at e
     obtain ⟨v,h3,e⟩:=e
     split at e
     · rename_i hd
       simp only [Bool.and_eq_true,beq_iff_eq] at hd
       simp only [Tree.den_leaf] at e
       subst e
       simp only [cW,A3f]
       rw [A2f h1,A9n h2]
       simp only
       rw [B1T,C1w _ _ _ _ h3,C1q,B0R,if_pos ⟨hc.1,trivial,hc.2⟩,if_pos ⟨hd.1,B72 _ hd.2⟩]
     · simp at e
   · simp at e
 · simp at e
mutual
def tyT:T2→Ty
 | .e _ t _=>t
 | .vec _ z (.base _ t _) _=>.vec z t
 | .agg l=>.agg (C8a l)
 | _=>.bool
def C8a:List T2→List Ty
 | []=>[]
 | t::r=>tyT t::C8a r
end
def hdT:T2→Option (Nat×Nat×SL×Nat)
 | .vec g z l n=>some (g,z,l,n)
 | .e s (.vec z t) l=>some (s,z,.base s t l,List.length (α:=El t) l)
 | _=>none
theorem A9q {t:T2} {g z n:Nat} {l:SL} (h:hdT t=some (g,z,l,n)):cT t=.vec g z (cSL l) n:=by
 unfold hdT at h
 split at h
 · simp only [Option.some.injEq,Prod.mk.injEq] at h; obtain ⟨rfl,rfl,rfl,rfl⟩:=h; rfl
 · simp only [Option.some.injEq,Prod.mk.injEq] at h; obtain ⟨rfl,rfl,rfl,rfl⟩:=h; rfl
 · cases h
def A3Y:List Step→List Step→Tree Unit
 | [],[]=>.leaf ()
 | .f i _::r,.f j _::q=>(Tree.chk (i == j)).bind fun _=>A3Y r q
 | .k i _::r,.k j _::q=>(Tree.ask (Nat.beq i j)).bind fun _=>A3Y r q
 | _,_=>.fail
theorem B0x:∀ {p q:List Step} {u:Unit},(A3Y p q).den=some u→ixs p=ixs q
 | [],[],_,_=>rfl
 | .f i _::r,.f j _::q,u,h=>by
   simp only [A3Y,Tree.den_bind,Tree.den_chk,beq_iff_eq] at h
   obtain ⟨_,h1,h2⟩:=h
   simp only [ixs,Step.ix,h1,B0x h2]
 | .k i _::r,.k j _::q,u,h=>by
   simp only [A3Y,Tree.den_bind,Tree.den_ask] at h
   obtain ⟨_,h1,h2⟩:=h
   simp only [ixs,Step.ix,Nat.eq_of_beq_eq_true h1,B0x h2]
 | [],_::_,_,h=>by simp [A3Y] at h
 | .f _ _::_,[],_,h=>by simp [A3Y] at h
 | .k _ _::_,[],_,h=>by simp [A3Y] at h
 | .k _ _::_,.f _ _::_,_,h=>by simp [A3Y] at h
 | .f _ _::_,.k _ _::_,_,h=>by simp [A3Y] at h
def SL.cut (n:Nat):SL→Tree SL
 | .base s t l=>.leaf (.base s t (l.take n))
 | a=>(Tree.ask (Nat.beq n a.len)).bind fun _=>.leaf a
theorem SL.cut_eq {n:Nat} {a b:SL} (h:(SL.cut n a).den=some b):cSL b=(cSL a).take n:=by
 have key:∀ a:SL,((Tree.ask (Nat.beq n a.len)).bind fun _=>Tree.leaf a).den=some b→cSL b=(cSL a).take n:=by
  intro a h
  simp only [Tree.den_bind,Tree.den_ask,Tree.den_leaf] at h
  obtain ⟨_,h1,rfl⟩:=h
  rw [Nat.eq_of_beq_eq_true h1,List.take_of_length_le (by rw [SL.len_eq]; exact Nat.le_refl _)]
 cases a with
 | base s t l=>simp only [SL.cut,Tree.den_leaf] at h; subst h; simp only [cSL,List.map_take]
 | set a i u=>exact key _ h
 | app a u=>exact key _ h
def B5R (g:Nat) (h:H2) (n id:Nat) (p:List Step) (u:Ty) (x:W):Tree (W×H2) :=
 (A5y g (some u) h x).bind fun y=>if tcs y.1 == n then (Tree.ofO (A2q y.2 id)).bind fun o=>(A7n y.1 o p).bind fun o'=>.leaf (.dead 0,setA y.2 id o') else .fail
theorem B73 {g:Nat} {h:H2} {n id:Nat} {p:List Step} {u:Ty} {x w:W} {h':H2} (e:(B5R g h n id p u x).den=some (w,h')):A3R g (cH h) n id (ixs p) (cW x)=some (cW w,cH h'):=by
 unfold B5R at e
 simp only [Tree.den_bind] at e
 obtain ⟨⟨t,h1⟩,e1,e⟩:=e
 split at e
 · rename_i hc
   simp only [beq_iff_eq] at hc
   simp only [Tree.den_bind,Tree.den_ofO,Tree.den_leaf,Prod.mk.injEq] at e
   obtain ⟨o,e2,o',e3,rfl,rfl⟩:=e
   unfold A3R
   rw [B4Q g x _ h t h1 e1]
   simp only
   rw [B0R,if_pos hc,A2f e2,A41 e3]
   simp only
   rw [A1M]
   rfl
 · simp at e
def B92 (g:Nat) (h:H2) (n:Nat) (a x:W):Tree (W×H2) :=
 match a with
 | .ptr id np rp g0=>(Tree.ofO (A2q h id)).bind fun o=>(B1M o np rp).bind fun y=>if y.2 == g0 && tcs y.1 == n then
    (match x with
    | .own id' path' off len g'=>if id' == id then (match hdT y.1 with
       | some (a,z,l,n')=>if off.isNone && g' == a then (A3Y path' (B1S np rp)).bind fun _ =>
          (Tree.ask (Nat.ble len n')).bind fun _=>(SL.cut len l).bind fun l'=>(A7n (.vec a z l' len) o (B1S np rp)).bind fun o'=>.leaf (.dead 0,setA h id o')
         else .fail
       | none=>.fail)
      else B5R g h n id (B1S np rp) (tyT y.1) x
    | x=>B5R g h n id (B1S np rp) (tyT y.1) x)
    else .fail
 | _=>.fail
theorem C4g {g:Nat} {h:H2} {n:Nat} {a x w:W} {h':H2} (e:(B92 g h n a x).den=some (w,h')):A8U g (cH h) n (cW a) (cW x)=some (cW w,cH h'):=by
 unfold B92 at e
 split at e
 · rename_i id np rp g0
   simp only [Tree.den_bind,Tree.den_ofO] at e
   obtain ⟨o,h1,⟨t,s⟩,h2,e⟩:=e
   split at e
   · rename_i hc
     simp only [Bool.and_eq_true,beq_iff_eq] at hc
     have hl:=A9n h2
     simp only [cW,A8U]
     rw [A2f h1,hl]
     simp only
     rw [if_pos ⟨hc.1,trivial,(B0R t).trans hc.2⟩]
     split at e
     · rename_i id' path' off len g'
       split at e
       · rename_i hid
         simp only [beq_iff_eq] at hid
         subst hid
         split at e
         · rename_i a z l n' ht
           split at e
           · rename_i hq
             simp only [Bool.and_eq_true,beq_iff_eq,Option.isNone_iff_eq_none] at hq
             simp only [Tree.den_bind,Tree.den_ask,Tree.den_leaf,Prod.mk.injEq] at e
             obtain ⟨_,h8,_,h3,l',h9,o',h4,rfl,rfl⟩:=e
             have h3:=Nat.ble_eq.mp h3
             have hp:=A41 h4
             rw [A9q ht]
             simp only [cW]
             rw [B1T,hq.1,if_pos ⟨trivial,B0x h8,rfl,hq.2,h3⟩]
             simp only [cT,SL.cut_eq h9] at hp
             rw [hp,← A1M]
           · simp at e
         · simp at e
       · rename_i hid
         have hid:¬ id'=id:=by simpa using hid
         have e:=B73 e
         rw [B1T]
         simp only [cW] at e ⊢
         split
         · rw [if_neg (fun hh=>hid (by simp_all))]
           exact e
         · exact e
     · rename_i hno
       have e:=B73 e
       rw [B1T]
       have hx:∀ i p o l g,cW x=.own i p o l g→False:=by
        intro i p o l g hh
        cases x with
        | own a b c d f=>exact hno _ _ _ _ _ rfl
        | _=>cases hh
       split
       · rename_i hh _; exact (hx _ _ _ _ _ hh).elim
       · exact e
   · simp at e
 · simp at e
def A9r (w:W):Tree Nat:=match A7m w with
 | some (_,i)=>(A94 w (decide (0 ≤ i))).bind fun _=>.leaf i.toNat
 | none=>.fail
theorem C1z {w:W} {k:Nat} (h:(A9r w).den=some k):asI (cW w)=some (k:Int):=by
 unfold A9r at h
 split at h
 · rename_i k' i hi
   simp only [Tree.den_bind,A95,decide_eq_true_eq,Tree.den_leaf] at h
   obtain ⟨_,h1,rfl⟩:=h
   rw [A4g hi]
   simp only [asI,Option.some.injEq]
   omega
 · simp at h
theorem A7W {w:W} {k n:Nat} (h:(A9r w).den=some k) (hk:k < n):A8t n (cW w)=some k:=by
 unfold A8t
 rw [C1z h]
 simp only
 rw [if_pos ⟨by omega,by omega⟩]
 simp
theorem C7s {w:W} {k n:Nat} (h:(A9r w).den=some k) (hk:k ≤ n):A7H n (cW w)=some k:=by
 unfold A7H
 rw [C1z h]
 simp only
 rw [if_pos ⟨by omega,by omega⟩]
 simp
def bd2 (n:Nat):Option W→Tree (Option Nat)
 | none=>.leaf none
 | some w=>(A9r w).bind fun k=>(Tree.ask (Nat.ble k n)).bind fun _=>.leaf (some k)
theorem B0Z {n:Nat} {m:Nat} {w:Option W} {k:Option Nat} (h:(bd2 n w).den=some k):B2m n m (w.map cW)=some (k.getD m):=by
 cases w with
 | none=>simp only [bd2,Tree.den_leaf] at h; subst h; rfl
 | some w =>
   simp only [bd2,Tree.den_bind,Tree.den_ask,Tree.den_leaf] at h
   obtain ⟨j,h1,_,h2,rfl⟩:=h
   exact C7s h1 (Nat.ble_eq.mp h2)
def B1U (n:Nat) (lo hi:Option W):Tree (Option Nat×Option Nat) :=
 (bd2 n hi).bind fun b=>(bd2 (b.getD n) lo).bind fun a=>.leaf (a,b)
theorem B1V {n:Nat} {lo hi:Option W} {a b:Option Nat} (h:(B1U n lo hi).den=some (a,b)):B1g n (lo.map cW) (hi.map cW)=some (a.getD 0,b.getD n):=by
 simp only [B1U,Tree.den_bind,Tree.den_leaf,Prod.mk.injEq] at h
 obtain ⟨b',h1,a',h2,rfl,rfl⟩:=h
 unfold B1g
 rw [B0Z (m:=n) h1]
 simp only
 rw [B0Z (m:=0) h2]
def C2L {A:Type} (a b:Option Nat) (l:List A):List A :=
 let m:=match b with | none=>l | some b=>l.take b
 match a with | none=>m | some a=>m.drop a
theorem C7t {A B:Type} (f:A→B) (a b:Option Nat) (l:List A):(C2L a b l).map f=((l.map f).take (b.getD l.length)).drop (a.getD 0):=by
 unfold C2L
 cases a <;> cases b <;> simp [List.map_take,List.map_drop]
def B93 (h:H2) (z:Nat) (w:W) (lo hi:Option W):Tree W:=match w with
 | .v (.sl t) l=>if t.cs == z then (B1U (List.length (α:=El t) l) lo hi).bind fun x=>.leaf (.v (.sl t) (C2L (A:=El t) x.1 x.2 l)) else .fail
 | .nil z=>(B1U 0 lo hi).bind fun _=>.leaf (.nil z)
 | .own id path off len g=>(Tree.ofO (A2q h id)).bind fun o=>(A4O o path).bind fun y=>if y.1 == g && y.2.1 == z then
    (B1U len lo hi).bind fun x=>.leaf (.own id path (match x.1 with | none=>off | some a=>some (match off with | none=>a | some o=>o + a)) (match x.1 with | none=>x.2.getD len | some a=>x.2.getD len - a) g) else .fail
 | _=>.fail
theorem B3J (t:Ty) (z:Nat) (h:t.cs=z) (l:List (El t)):((l.map (enc t)).all fun v=>v.cs == z)=true:=by
 rw [List.all_eq_true]
 intro v hv
 obtain ⟨x,_,rfl⟩:=List.mem_map.1 hv
 simp [A6m,h]
theorem C4h {h:H2} {z:Nat} {w w':W} {lo hi:Option W} (e:(B93 h z w lo hi).den=some w'):A5p (cH h) z (cW w) (lo.map cW) (hi.map cW)=some (cW w'):=by
 unfold B93 at e
 split at e
 · rename_i t l
   split at e
   · rename_i hz
     simp only [beq_iff_eq] at hz
     simp only [Tree.den_bind,Tree.den_leaf] at e
     obtain ⟨⟨a,b⟩,h1,rfl⟩:=e
     have key:∀ l:List (El t),(B1U l.length lo hi).den=some (a,b)→A5p (cH h) z (.p (.sl (l.map (enc t)))) (lo.map cW) (hi.map cW)=some (.p (.sl ((C2L a b l).map (enc t)))):=by
      intro l h1
      simp only [A5p,List.length_map]
      rw [B1V h1]
      simp only
      rw [if_pos (B3J t z hz l),C7t]
     exact key l h1
   · simp at e
 · simp only [Tree.den_bind,Tree.den_leaf] at e
   obtain ⟨⟨a,b⟩,h1,rfl⟩:=e
   simp only [cW,A5p]
   rw [B1V h1]
 · rename_i id path off len g
   simp only [Tree.den_bind,Tree.den_ofO] at e
   obtain ⟨o,h1,⟨g',z',a'⟩,h2,e⟩:=e
   split at e
   · rename_i hc
     simp only [Bool.and_eq_true,beq_iff_eq] at hc
     simp only [Tree.den_bind,Tree.den_leaf] at e
     obtain ⟨⟨a,b⟩,h3,rfl⟩:=e
     simp only [cW,A5p]
     rw [B1V h3,A2f h1,A2W h2]
     simp only
     rw [if_pos hc]
     cases a <;> cases off <;> simp
   · simp at e
 · simp at e
def B63 (w:W) (lo hi:Option W):Tree W:=match B2S w with
 | some b=>(B1U b.size lo hi).bind fun x=>.leaf (wS (b.extract (x.1.getD 0) (x.2.getD b.size)))
 | none=>.fail
abbrev C9W {A:Type} (l:List A) (k:Nat):Option A:=l[k]?
def B94 (h:H2) (z:Nat) (w i:W):Tree W:=match w with
 | .v (.sl t) l=>if t.cs == z then (A9r i).bind fun k=>.opt (B6R t) (C9W (A:=El t) l k) fun x=>.leaf (.v (.ref t) x) else .fail
 | .own id path off len g=>(Tree.ofO (A2q h id)).bind fun o=>(A4O o path).bind fun y=>if y.1 == g && y.2.1 == z then
    (A9r i).bind fun k=>(Tree.ask (Nat.blt k len)).bind fun _=>.leaf (.ptr id (some path) [match off with | none=>B2T z k i | some o=>.k (o + k) z] g) else .fail
 | _=>.fail
theorem C4i {h:H2} {z:Nat} {w i w':W} (e:(B94 h z w i).den=some w'):A5q (cH h) z (cW w) (cW i)=some (cW w'):=by
 unfold B94 at e
 split at e
 · rename_i t l
   split at e
   · rename_i hz
     simp only [beq_iff_eq] at hz
     simp only [Tree.den_bind,Tree.den_opt,Tree.den_leaf] at e
     obtain ⟨k,h1,x,h2,rfl⟩:=e
     have key:∀ l:List (El t),l[k]?=some x→A5q (cH h) z (.p (.sl (l.map (enc t)))) (cW i)=some (.p (.ref (enc t x))):=by
      intro l h2
      have hk:=(List.getElem?_eq_some_iff.1 h2).1
      simp only [A5q,List.length_map]
      rw [A7W h1 hk]
      simp only [List.getElem?_map,h2,Option.map_some]
      rw [if_pos ((A6m _ _).trans hz)]
     exact key l h2
   · simp at e
 · rename_i id path off len g
   simp only [Tree.den_bind,Tree.den_ofO] at e
   obtain ⟨o,h1,⟨g',z',a'⟩,h2,e⟩:=e
   split at e
   · rename_i hc
     simp only [Bool.and_eq_true,beq_iff_eq] at hc
     simp only [Tree.den_bind,Tree.den_ask,Tree.den_leaf] at e
     obtain ⟨k,h3,_,h4,rfl⟩:=e
     simp only [cW,A5q]
     rw [A7W h3 (Nat.blt_eq.mp h4),A2f h1]
     simp only
     rw [A2W h2]
     simp only
     rw [if_pos hc]
     cases off with
     | none =>
       simp only [Option.getD_none,Nat.zero_add]
       cases i <;> simp [B2T,npI,ixs,ofs,Step.ix,Step.of]
     | some o=>simp [npI,ixs,ofs,Step.ix,Step.of]
   · simp at e
 · simp at e
def C2M (n z:Nat) (ts:List Ty) (x:Els ts) (i:W):Tree TV :=
 (A9r i).bind fun k=>match isC i with
   | true=>if Nat.blt k n && Ty.css (ts.take k) == k * z then Tree.ofO (A9Z ts x k) else .fail
   | false=>match B8Q ts z with
     | some t=>if ts.length == n then (Tree.ask (Nat.blt k n)).bind fun _=>(Tree.ofO (B6U t k ts x 0)).bind fun y=>.leaf ⟨t,y⟩ else .fail
     | none=>.fail
theorem C1A {n z:Nat} {ts:List Ty} {x:Els ts} {i:W} {v:TV} (h:(C2M n z ts x i).den=some v) :
 ∃ k,A8t n (cW i)=some k∧(A05 ts x)[k]?=some (enc v.1 v.2)∧PV.css ((A05 ts x).take k)=k * z:=by
 unfold C2M at h
 simp only [Tree.den_bind] at h
 obtain ⟨k,h1,h⟩:=h
 refine ⟨k,?_⟩
 split at h
 · split at h
   · rename_i hc
     simp only [Bool.and_eq_true,beq_iff_eq] at hc
     rw [Tree.den_ofO] at h
     obtain ⟨t,y⟩:=v
     exact ⟨A7W h1 (Nat.blt_eq.mp hc.1),(A9m 0 ts x k t y h).1,(A5j ts x k).trans hc.2⟩
   · simp at h
 · split at h
   · rename_i t ht
     split at h
     · rename_i hn
       simp only [beq_iff_eq] at hn
       simp only [Tree.den_bind,Tree.den_ask,Tree.den_ofO,Tree.den_leaf] at h
       obtain ⟨_,h2,y,h3,rfl⟩:=h
       have h2:=Nat.blt_eq.mp h2
       have hs:=(B6V 0 t k ts x 0 y h3 (Nat.zero_le _) (by omega)).1
       rw [Nat.sub_zero] at hs
       refine ⟨A7W h1 h2,hs,(A5j ts x k).trans ?_⟩
       unfold B8Q at ht
       split at ht
       · cases ht
       · split at ht
         · rename_i hc
           cases ht
           simp only [Bool.and_eq_true,beq_iff_eq] at hc
           rw [← hc.2]
           exact B2U hc.1 (by omega)
         · cases ht
     · simp at h
   · simp at h
def B95 (k:IntKind):List PV→Option (List Int)
 | []=>some []
 | .int l x::r=>if l == k then (match B95 k r with | some m=>some (x::m) | none=>none) else none
 | _=>none
theorem C1B {k:IntKind}:∀ {l:List PV} {m:List Int},B95 k l=some m→l=m.map (PV.int k)
 | [],m,h=>by simp only [B95,Option.some.injEq] at h; subst h; rfl
 | v::r,m,h=>by
   cases v with
   | int l x =>
     simp only [B95] at h
     split at h
     · rename_i hk
       split at h
       · rename_i q hq
         simp only [Option.some.injEq] at h
         subst h
         simp only [beq_iff_eq] at hk
         subst hk
         rw [C1B hq]
         rfl
       · cases h
     · cases h
   | _=>cases h
theorem B96 (k:IntKind):∀ m:List Int,PV.css (m.map (PV.int k))=m.length
 | []=>rfl
 | x::r=>by simp only [List.map_cons,PV.css,PV.cs,B96 k r,List.length_cons]; omega
def C9X:List PV→Option IntKind
 | .int k _::_=>some k
 | _=>none
def B64 (n z:Nat) (w i:W):Tree W:=match w with
 | .c (.ref (.agg l))=>match C9X l with
   | some k=>match B95 k l with
     | some m=>if z == 1 then (A9r i).bind fun j=>(Tree.ask (Nat.blt j n)).bind fun _=>.opt (0:Int) m[j]? fun v=>.leaf (.v (.ref (.int k)) v) else .fail
     | none=>.fail
   | none=>.fail
 | .v (.ref (.agg ts)) x=>(C2M n z ts x i).bind fun v=>.leaf (.v (.ref v.1) v.2)
 | .ptr id np rp g=>(A9r i).bind fun k=>(Tree.ask (Nat.blt k n)).bind fun _=>.leaf (.ptr id np (rp++[B2T z k i]) g)
 | _=>.fail
def C5R (agg:Bool) (z n:Nat) (w i:W):Tree W:=match pv? w with
 | some ⟨.agg ts,x⟩=>(C2M n z ts x i).bind fun v=>if v.1.cs == z && v.1.isAgg == agg then .leaf (.v v.1 v.2) else .fail
 | _=>.fail
def C2N (w i:W):Tree W:=match B2S w with
 | some b=>(A9r i).bind fun k=>.opt (0:UInt8) b.data[k]? fun c=>.leaf (wI .u8 c.toNat)
 | none=>.fail
theorem C2O {K:A0t} {g:Nat} {d:Option Nat} {s:S2} {h:A0b} {x:Opd} {lo hi:Option Opd} {w w':W} {wl wh:Option W}
 (hw:evO (cS s) x=cW w) (hl:lo.map (evO (cS s))=wl.map cW) (hh:hi.map (evO (cS s))=wh.map cW) (e:(B63 w wl wh).den=some w') :
 A0a K g d (cS s) h (.sliceS x lo hi)=some (cW w',h):=by
 unfold B63 at e
 split at e
 · rename_i b hb
   simp only [Tree.den_bind,Tree.den_leaf] at e
   obtain ⟨⟨i,j⟩,h1,rfl⟩:=e
   simp only [A0a,hw,hl,hh,A8Y hb]
   rw [B1V h1]
   rfl
 · simp at e
theorem C2P {K:A0t} {g:Nat} {d:Option Nat} {s:S2} {h:A0b} {n z:Nat} {x y:Opd} {w i w':W} (hw:evO (cS s) x=cW w) (hi:evO (cS s) y=cW i) (e:(B64 n z w i).den=some w') :
 A0a K g d (cS s) h (.iaddrA n z x y)=some (cW w',h):=by
 unfold B64 at e
 split at e
 · rename_i l
   split at e
   · rename_i k hk
     split at e
     · rename_i m hm
       split at e
       · rename_i hz
         simp only [beq_iff_eq] at hz
         subst hz
         simp only [Tree.den_bind,Tree.den_ask,Tree.den_opt,Tree.den_leaf] at e
         obtain ⟨j,h1,_,h2,v,h3,rfl⟩:=e
         have hl:=C1B hm
         subst hl
         simp only [A0a,hw,hi,A7W h1 (Nat.blt_eq.mp h2),cW]
         have hj:j < m.length:=(List.getElem?_eq_some_iff.1 h3).1
         rw [List.getElem?_map,h3]
         simp only [Option.map_some,← List.map_take,B96,List.length_take]
         rw [if_pos (by omega)]
         rfl
       · simp at e
     · simp at e
   · simp at e
 · rename_i ts q
   simp only [Tree.den_bind,Tree.den_leaf] at e
   obtain ⟨v,h1,rfl⟩:=e
   obtain ⟨k,h2,h3,h4⟩:=C1A h1
   simp only [A0a,hw,hi,h2,cW,enc]
   rw [h3]
   simp only
   rw [if_pos h4]
 · simp only [Tree.den_bind,Tree.den_ask,Tree.den_leaf] at e
   obtain ⟨k,h1,_,h2,rfl⟩:=e
   simp only [A0a,hw,hi,A7W h1 (Nat.blt_eq.mp h2),cW]
   rw [A7j,B1F]
   simp only [ixs,ofs,C38,C39,Nat.add_zero]
 · simp at e
theorem C7u {K:A0t} {g:Nat} {d:Option Nat} {s:S2} {h:A0b} {agg:Bool} {n z:Nat} {x y:Opd} {w i w':W} (hw:evO (cS s) x=cW w) (hi:evO (cS s) y=cW i) (e:(C5R agg z n w i).den=some w') :
 A0a K g d (cS s) h (.idx agg z n x y)=some (cW w',h):=by
 unfold C5R at e
 split at e
 · rename_i ts q hp
   simp only [Tree.den_bind] at e
   obtain ⟨v,h1,e⟩:=e
   split at e
   · rename_i hc
     simp only [Bool.and_eq_true,beq_iff_eq] at hc
     simp only [Tree.den_leaf] at e
     subst e
     obtain ⟨k,h2,h3,h4⟩:=C1A h1
     simp only [A0a,hw,hi,B0P hp,enc,h2]
     rw [h3]
     simp only
     rw [if_pos ⟨h4,(A6m _ _).trans hc.1,(A9V _ _).trans hc.2⟩]
     rfl
   · simp at e
 · simp at e
theorem C5S {K:A0t} {g:Nat} {d:Option Nat} {s:S2} {h:A0b} {x y:Opd} {w i w':W} (hw:evO (cS s) x=cW w) (hi:evO (cS s) y=cW i) (e:(C2N w i).den=some w') :
 A0a K g d (cS s) h (.idxS x y)=some (cW w',h):=by
 unfold C2N at e
 split at e
 · rename_i b hb
   simp only [Tree.den_bind,Tree.den_opt,Tree.den_leaf] at e
   obtain ⟨k,h1,c,h2,rfl⟩:=e
   have hk:k < b.size:=by
    obtain ⟨hk,_⟩:=Array.getElem?_eq_some_iff.1 h2
    exact hk
   simp only [A0a,hw,hi,A8Y hb,A7W h1 hk,h2]
   rfl
 · simp at e
end Go.Mid
