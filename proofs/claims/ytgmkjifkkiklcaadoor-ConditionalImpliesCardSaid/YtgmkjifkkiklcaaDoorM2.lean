/- Changing a place of an owned tree. -/
import Derived.Test.YtgmkjifkkiklcaaDoorM1
import Derived.Laws.IdiomCopy
namespace Go.Mid
set_option linter.unusedSimpArgs false
set_option linter.unusedVariables false
open Go.RowKit
section
variable {α β:Type}
theorem A8s:∀ {l:List (T α)} {vs:List PV},A1h l=some vs->l=vs.map .p
 | [],vs,h=>by simp only[A1h] at h;cases h;rfl
 |x::r,vs,h=>by
   cases x<;>simp only[A1h,reduceCtorEq] at h;split at h
   . rename_i l hl;cases h;simp[A8s hl]
   . cases h
theorem A7x:∀ (vs:List PV),A1h (vs.map (T.p (α:=α)))=some vs
 | []=>rfl
 |x::r=>by simp[A1h,A7x r]
theorem A5A (l:List (T α)):A0z l=.agg l∨∃vs,l=vs.map .p∧A0z l=.p (.agg vs):=by
 unfold A0z;cases h:A1h l with
 |none=>exact .inl rfl
 |some vs=>exact .inr ⟨vs,A8s h,rfl⟩
theorem B1I (vs:List PV):T.css (vs.map (T.p (α:=α)))=PV.css vs:=by
 induction vs with
 |nil=>rfl
 |cons x r ih=>simp[T.css,PV.css,T.cs,ih]
theorem C0B (l:List (T α)):(A0z l).cs=T.css l:=by
 rcases A5A l with h | ⟨vs,rfl,h⟩<;>rw[h]
 . rfl
 . rw[B1I];rfl
theorem B4N (l:List PV)(i:Nat)(r:List Nat):A0e (.p (.agg l):T α) (i::r)=A0e (.agg (l.map .p)) (i::r):=by
 simp only[A0e,List.getElem?_map];cases l[i]? <;> rfl
theorem B6y (l:List (T α))(i:Nat)(r:List Nat):A0e (A0z l) (i::r)=A0e (.agg l) (i::r):=by
 rcases A5A l with h | ⟨vs,rfl,h⟩<;>rw[h]
 exact B4N vs i r
theorem C73 (l:List PV)(i:Nat)(r:List Nat)(v:T α):putT (.p (.agg l)) (i::r) v=putT (.agg (l.map .p)) (i::r) v:=by
 simp only[putT,List.getElem?_map];cases l[i]? <;> rfl
theorem B54:∀ {l:List (T α)} {i:Nat} {t v:T α},l[i]?=some t->v.cs=t.cs->T.css (l.set i v)=T.css l
 | [],i,t,v,h,_=>by simp at h
 |x::r,0,t,v,h,k=>by simp at h;subst h;simp[T.css,k]
 |x::r,i+1,t,v,h,k=>by simp at h;simp[T.css,B54 h k]
theorem A6W:∀ (p:List Nat) (t u v t':T α),A0e t p=some u->putT t p v=some t'->v.cs=u.cs->t'.cs=t.cs
 | [],t,u,v,t',h,k,e=>by
   simp only[A0e,Option.some.injEq] at h;subst h;simp only[putT,Option.some.injEq] at k;subst k;exact e
 |i::r,.p (.agg l),u,v,t',h,k,e=>by
   rw[B4N] at h;rw[C73] at k;simp only[A0e,List.getElem?_map] at h;simp only[putT,List.getElem?_map] at k;cases hl:l[i]? with
   |none=>simp[hl] at h
   |some x =>
     simp only[hl,Option.map_some] at h k;split at k
     . rename_i w hw;cases k
       have:=A6W r _ u v w h hw e
       rw[C0B,B54 (t:=.p x) (by simp[hl]) this,B1I];rfl
     . cases k
 |i::r,.agg l,u,v,t',h,k,e=>by
   simp only[A0e] at h;simp only[putT] at k;cases hl:l[i]? with
   |none=>simp[hl] at h
   |some x =>
     simp only[hl] at h k;split at k
     . rename_i w hw;cases k
       have:=A6W r _ u v w h hw e
       rw[C0B,B54 (t:=x) hl this];rfl
     . cases k
 |i::r,.vec a z l n,u,v,t',h,k,e=>by
   simp only[putT] at k
   repeat' split at k
   all_goals cases k
   rfl
 |i::r,.mp a ks l,u,v,t',h,k,e=>by simp[A0e] at h
 |i::r,.p (.int ..),u,v,t',h,_,_=>by simp[A0e] at h
 |i::r,.p (.bool _),u,v,t',h,_,_=>by simp[A0e] at h
 |i::r,.p (.str _),u,v,t',h,_,_=>by simp[A0e] at h
 |i::r,.p (.sl _),u,v,t',h,_,_=>by simp[A0e] at h
 |i::r,.p (.ref _),u,v,t',h,_,_=>by simp[A0e] at h
 |i::r,.p (.fn ..),u,v,t',h,_,_=>by simp[A0e] at h
 |i::r,.p (.mp ..),u,v,t',h,_,_=>by simp[A0e] at h
 |i::r,.p .nilp,u,v,t',h,_,_=>by simp[A0e] at h
 |i::r,.p .nilf,u,v,t',h,_,_=>by simp[A0e] at h
 |i::r,.m _,u,v,t',h,_,_=>by simp[A0e] at h
 |i::r,.hole _,u,v,t',h,_,_=>by simp[A0e] at h
end
theorem A9Y {α:Type}{i:Nat}{r:List Nat}{t u v t':T α}(h:A0e t (i::r)=some u)(k:putT t (i::r) v=some t') :
 (∃l x w,(t=.agg l∨∃vs,t=.p (.agg vs)∧l=vs.map .p)∧l[i]?=some x∧A0e x r=some u∧putT x r v=some w∧t'=A0z (l.set i w)) ∨
 (∃a z l n x w,t=.vec a z l n∧l[i]?=some x∧A0e x r=some u∧putT x r v=some w∧t'=.vec a z (l.set i w) n) ∨
 (∃a ks l x w,t=.mp a ks l∧l[i]?=some x∧A0e x r=some u∧putT x r v=some w∧t'=.mp a ks (l.set i w)):=by
 have key:∀l,A0e (.agg l) (i::r)=some u->putT (.agg l) (i::r) v=some t'->∃x w,l[i]?=some x∧A0e x r=some u∧putT x r v=some w∧t'=A0z (l.set i w):=by
  intro l h k;simp only[A0e] at h;simp only[putT] at k;cases hl:l[i]? with
  |none=>simp[hl] at h
  |some x =>
    simp only[hl] at h k;split at k
    . rename_i w hw;cases k;exact⟨x,w,rfl,h,hw,rfl⟩
    . cases k
 cases t with
 |p pv =>
   cases pv<;>try (simp[A0e] at h;done)
   rename_i l;rw[B4N] at h;rw[C73] at k;obtain⟨x,w,h1⟩:=key _ h k;exact .inl ⟨_,x,w,.inr ⟨l,rfl,rfl⟩,h1⟩
 |m=>simp[A0e] at h
 |agg l =>
   obtain⟨x,w,h1⟩:=key _ h k;exact .inl ⟨_,x,w,.inl rfl,h1⟩
 |vec a z l n =>
   simp only[A0e] at h;simp only[putT] at k;cases hl:l[i]? with
   |none=>simp[hl] at h
   |some x =>
     simp only[hl] at h k;split at k
     . rename_i w hw;cases k;exact .inr (.inl ⟨a,z,l,n,x,w,rfl,hl,h,hw,rfl⟩)
     . cases k
 |mp a ks l=>simp[A0e] at h
 |hole=>simp[A0e] at h
section
variable {α β:Type}(f:α->β)
theorem B3r:∀ (l:List (T α)),A1h (l.map (T.mapA f))=A1h l
 | []=>rfl
 |x::r=>by
   have:=B3r r
   cases x<;>simp[A1h,T.mapA,this]
theorem A9J (l:List (T α)):(A0z l).mapA f=A0z (l.map (T.mapA f)):=by
 unfold A0z;rw[B3r];cases A1h l with
 |none=>simp[T.mapA,T.mapAs_eq]
 |some vs=>simp[T.mapA]
theorem A79:∀ (p:List Nat) (t v:T α),putT (t.mapA f) p (v.mapA f)=(putT t p v).map (T.mapA f)
 | [],t,v=>by simp[putT]
 |i::r,.p pv,v=>by
   cases pv<;>simp only[T.mapA,putT,Option.map_none];rename_i l;cases l[i]? with
   |none=>rfl
   |some x =>
     have:=A79 r (.p x) v
     simp only[T.mapA] at this;simp only[this];cases putT (.p x) r v with
     |none=>rfl
     |some w =>
       simp only[Option.map_some,A9J,List.map_set,List.map_map];congr 2
 |i::r,.m _,v=>by simp[T.mapA,putT]
 |i::r,.agg l,v=>by
   simp only[T.mapA,putT,T.mapAs_eq,List.getElem?_map];cases l[i]? with
   |none=>rfl
   |some x =>
     simp only[Option.map_some,A79 r x v];cases putT x r v with
     |none=>rfl
     |some w=>simp[A9J]
 |i::r,.vec a z l n,v=>by
   simp only[T.mapA,putT,T.mapAs_eq,List.getElem?_map];cases l[i]? with
   |none=>rfl
   |some x =>
     simp only[Option.map_some,A79 r x v];cases putT x r v with
     |none=>rfl
     |some w=>simp[T.mapA,T.mapAs_eq]
 |i::r,.mp a ks l,v=>by simp[T.mapA,putT]
 |i::r,.hole n,v=>by simp[T.mapA,putT]
theorem B0J (ob:Option (Obj α))(p:List Nat)(v:T α):put (ob.map (Obj.mapA f)) p (v.mapA f)=(put ob p v).map (Obj.mapA f):=by
 cases ob with
 |none=>cases p<;>rfl
 |some o =>
   cases o with
   |cell a t =>
     simp only[Option.map_some,Obj.mapA,put,A79];cases putT t p v<;>rfl
   |vec a z l =>
     cases p with
     |nil=>rfl
     |cons i r =>
       simp only[Option.map_some,Obj.mapA,put,T.mapAs_eq,List.getElem?_map];cases l[i]? with
       |none=>rfl
       |some x =>
         simp only[Option.map_some,A79 f r x v];cases putT x r v with
         |none=>rfl
         |some w=>simp[Obj.mapA,T.mapAs_eq]
   |mp a ks l=>cases p<;>rfl
   |gone=>cases p<;>rfl
end
theorem B0X (vs:List PV):T.blks (vs.map T.p)=[]:=by
 induction vs with
 |nil=>rfl
 |cons x r ih=>simp[T.blks,T.blk,ih]
theorem B0p (l:List (T An)):(A0z l).blk=T.blks l:=by
 rcases A5A l with h | ⟨vs,rfl,h⟩<;>rw[h]
 . rfl
 . rw[B0X];rfl
theorem A18:∀ (l m:List (T An)),T.blks (l++m)=T.blks l++T.blks m
 | [],m=>rfl
 |x::r,m=>by simp[T.blks,A18 r m]
theorem A8a:∀ {l:List (T An)} {i:Nat} {x:T An} (y:T An),l[i]?=some x->∃ rest,(T.blks l).Perm (x.blk++rest)∧(T.blks (l.set i y)).Perm (y.blk++rest)
 | [],i,x,y,h=>by simp at h
 |x::r,0,t,y,h=>by simp at h;subst h;exact⟨T.blks r,.refl _,.refl _⟩
 |x::r,i+1,t,y,h=>by
   simp at h;obtain⟨rest,h1,h2⟩:=A8a y h;refine⟨x.blk++rest,?_,?_⟩
   . simp only[T.blks];refine(h1.append_left x.blk).trans ?_;rw[←List.append_assoc,←List.append_assoc];exact List.perm_append_comm.append_right rest
   . simp only[T.blks,List.set_cons_succ];refine(h2.append_left x.blk).trans ?_;rw[←List.append_assoc,←List.append_assoc];exact List.perm_append_comm.append_right rest
theorem A9t {a b u v:List Nat}{r q s:List Nat}(h:a.Perm (u++r))(h':b.Perm (v++r))(k:u.Perm (s++q)):a.Perm (s++(q++r)):=by
 refine h.trans ?_;rw[←List.append_assoc];exact k.append_right r
theorem B3s:∀ (p:List Nat) (t u v t':T An),A0e t p=some u->putT t p v=some t'->∃ rest,t.blk.Perm (u.blk++rest)∧t'.blk.Perm (v.blk++rest)
 | [],t,u,v,t',h,k=>by
   simp only[A0e,Option.some.injEq] at h;subst h;simp only[putT,Option.some.injEq] at k;subst k;exact⟨[],by simp,by simp⟩
 |i::r,t,u,v,t',h,k=>by
   rcases A9Y h k with⟨l,x,w,ht,hl,h1,h2,rfl⟩ | ⟨a,z,l,n,x,w,rfl,hl,h1,h2,rfl⟩ | ⟨a,ks,l,x,w,rfl,hl,h1,h2,rfl⟩
   . obtain ⟨q,k1,k2⟩:=B3s r x u v w h1 h2;obtain ⟨rest,k3,k4⟩:=A8a w hl
     have:t.blk=T.blks l:=by
      rcases ht with rfl | ⟨vs,rfl,rfl⟩
      . rfl
      . rw[B0X];rfl
     rw[this,B0p];exact⟨q++rest,A9t k3 k4 k1,A9t k4 k3 k2⟩
   . obtain ⟨q,k1,k2⟩:=B3s r x u v w h1 h2;obtain ⟨rest,k3,k4⟩:=A8a w hl;simp only [T.blk];refine ⟨a.b.toList++(q++rest),?_,?_⟩
     . refine((A9t k3 k4 k1).append_left _).trans ?_;rw[←List.append_assoc,←List.append_assoc u.blk];exact List.perm_append_comm.append_right _
     . refine((A9t k4 k3 k2).append_left _).trans ?_;rw[←List.append_assoc,←List.append_assoc v.blk];exact List.perm_append_comm.append_right _
   . obtain ⟨q,k1,k2⟩:=B3s r x u v w h1 h2;obtain ⟨rest,k3,k4⟩:=A8a w hl;simp only [T.blk];refine ⟨a.b.toList++(q++rest),?_,?_⟩
     . refine((A9t k3 k4 k1).append_left _).trans ?_;rw[←List.append_assoc,←List.append_assoc u.blk];exact List.perm_append_comm.append_right _
     . refine((A9t k4 k3 k2).append_left _).trans ?_;rw[←List.append_assoc,←List.append_assoc v.blk];exact List.perm_append_comm.append_right _
theorem B55 {n:Stp}:∀ {l:List (T An)} {i:Nat} {y:T An},T.sts n l->y.st n->T.sts n (l.set i y)
 | [],i,y,h,_=>by simpa using h
 |x::r,0,y,h,k=>by simp only[List.set_cons_zero,T.sts] at h ⊢;exact⟨k,h.2⟩
 |x::r,i+1,y,h,k=>by simp only[List.set_cons_succ,T.sts] at h ⊢;exact⟨h.1,B55 h.2 k⟩
theorem C11 {n:Stp}(vs:List PV):T.sts n (vs.map T.p):=by
 induction vs with
 |nil=>trivial
 |cons x r ih=>exact⟨trivial,ih⟩
theorem B4O {n:Stp}{l:List (T An)}(h:T.sts n l):(A0z l).st n:=by
 rcases A5A l with e | ⟨vs,rfl,e⟩<;>rw[e]
 . exact h
 . trivial
theorem B0K {n:Stp}:∀ (p:List Nat) (t u v t':T An),A0e t p=some u->putT t p v=some t'->t.st n->v.st n->t'.st n
 | [],t,u,v,t',h,k,_,kv=>by
   simp only[putT,Option.some.injEq] at k;subst k;exact kv
 |i::r,t,u,v,t',h,k,kt,kv=>by
   rcases A9Y h k with⟨l,x,w,ht,hl,h1,h2,rfl⟩ | ⟨a,z,l,n,x,w,rfl,hl,h1,h2,rfl⟩ | ⟨a,ks,l,x,w,rfl,hl,h1,h2,rfl⟩
   . have:T.sts n l:=by
      rcases ht with rfl | ⟨vs,rfl,rfl⟩
      . exact kt
      . exact C11 vs
     exact B4O (B55 this (B0K r x u v w h1 h2 (T.sts_get this hl) kv))
   . simp only[T.st] at kt ⊢;exact⟨kt.1,B55 kt.2 (B0K r x u v w h1 h2 (T.sts_get kt.2 hl) kv)⟩
   . simp only[T.st] at kt ⊢;exact kt
def ndT {α:Type}(t:T α)(q:List Nat):Option (α×Option Nat) :=
 match A0e t q with
 |some (.vec a z _ _)=>some (a,some z)
 |some (.mp a _ _)=>some (a,none)
 |_=>none
theorem B2G {α:Type}(l:List (T α))(i:Nat)(r:List Nat):ndT (.agg l) (i::r)=(l[i]?).bind λt=>ndT t r:=by
 simp only[ndT,A0e];cases l[i]? <;> rfl
theorem C2w {α:Type}(l:List (T α))(i:Nat)(r:List Nat):ndT (A0z l) (i::r)=(l[i]?).bind λt=>ndT t r:=by
 rw[←B2G];simp only[ndT,B6y]
theorem A7y {α:Type}(a:α)(z:Nat)(l:List (T α))(n i:Nat)(r:List Nat):ndT (.vec a z l n) (i::r)=(l[i]?).bind λt=>ndT t r:=by
 simp only[ndT,A0e];cases l[i]? <;> rfl
theorem C2x {α:Type}(a:α)(ks:List PV)(l:List (T α))(i:Nat)(r:List Nat):ndT (.mp a ks l) (i::r)=none:=by
 simp only[ndT,A0e]
theorem B9B {α:Type}(l:List (T α)):ndT (A0z l) []=none:=by
 rcases A5A l with e | ⟨vs,rfl,e⟩<;>rw[e]<;>rfl
theorem B9C {α:Type}{l:List (T α)}{i:Nat}{x w:T α}(hl:l[i]?=some x){j:Nat}{q:List Nat}{y:α×Option Nat}
 (h:((l.set i w)[j]?).bind (λt=>ndT t q)=some y):(l[j]?).bind (λt=>ndT t q)=some y∨(j=i∧ndT w q=some y):=by
 rw[List.getElem?_set] at h;split at h
 . rename_i hij;subst hij;split at h
   . exact .inr ⟨rfl,h⟩
   . simp at h
 . exact .inl h
theorem B56 {α:Type}:∀ (p:List Nat) (t u v t':T α),A0e t p=some u->putT t p v=some t'->∀ q y,ndT t' q=some y->ndT t q=some y∨∃ r,q=p++r∧ndT v r=some y
 | [],t,u,v,t',h,k,q,y,hq=>by
   simp only[putT,Option.some.injEq] at k;subst k;exact .inr ⟨q,rfl,hq⟩
 |i::r,t,u,v,t',h,k,q,y,hq=>by
   rcases A9Y h k with⟨l,x,w,ht,hl,h1,h2,rfl⟩ | ⟨a,z,l,n,x,w,rfl,hl,h1,h2,rfl⟩ | ⟨a,ks,l,x,w,rfl,hl,h1,h2,rfl⟩
   . cases q with
     |nil=>rw[B9B] at hq;cases hq
     |cons j q =>
       rw[C2w] at hq;have ht':ndT t (j::q)=(l[j]?).bind λt=>ndT t q:=by
        rcases ht with rfl | ⟨vs,rfl,rfl⟩
        . exact B2G l j q
        . rw[←B2G];simp only[ndT,B4N]
       rw[ht'];rcases B9C hl hq with h3 | ⟨rfl,h3⟩
       . exact .inl h3
       . rcases B56 r x u v w h1 h2 q y h3 with h4 | ⟨s,rfl,h4⟩
         . exact .inl (by rw[hl];exact h4)
         . exact .inr ⟨s,rfl,h4⟩
   . cases q with
     |nil=>exact .inl hq
     |cons j q =>
       rw[A7y] at hq ⊢;rcases B9C hl hq with h3 | ⟨rfl,h3⟩
       . exact .inl h3
       . rcases B56 r x u v w h1 h2 q y h3 with h4 | ⟨s,rfl,h4⟩
         . exact .inl (by rw[hl];exact h4)
         . exact .inr ⟨s,rfl,h4⟩
   . cases q with
     |nil=>exact .inl hq
     |cons j q =>
       rw[C2x] at hq;cases hq
end Go.Mid
/- Writing in the world: cells,detached trees,a changed place. -/
namespace Go.Mid
set_option linter.unusedSimpArgs false
set_option linter.unusedVariables false
open Go.RowKit
theorem A9Z (w:World)(a:Addr)(v:Value){b:Nat}(h:b≠a.block):(w.setCell a v).heap[b]?=w.heap[b]?:=by
 simp[World.setCell,Array.getElem?_modify,Ne.symm h]
theorem A0U {b b':Nat}(h:b'≠b):∀ (vs:List Value) (o:Nat) (w:World),(w.setCells b o vs).heap[b']?=w.heap[b']?
 | [],_,_=>rfl
 |v::r,o,w=>by rw[World.setCells,A0U h r,A9Z _ _ _ h]
theorem A1Q (b:Nat):∀ (vs:List Value) (o:Nat) (w:World),(w.setCells b o vs).heap.size=w.heap.size∧(w.setCells b o vs).os=w.os∧(w.setCells b o vs).tape=w.tape∧(w.setCells b o vs).output=w.output
 | [],_,_=>⟨rfl,rfl,rfl,rfl⟩
 |v::r,o,w=>by
   have:=A1Q b r (o+1) (w.setCell ⟨b,o,none⟩ v)
   rw[World.setCells];exact⟨this.1.trans (World.size_setCell _ _ _),this.2.1,this.2.2.1,this.2.2.2⟩
theorem Blk.setCell {w:World}{a:Addr}{v:Value}{b n:Nat}(h:Blk w b n):Blk (w.setCell a v) b n:=by
 by_cases e:b=a.block
 . subst e;obtain⟨c,ty,h1,h2⟩:=h;simp only[Blk,World.setCell,Array.getElem?_modify,if_true,h1,Option.map_some];refine⟨_,ty,rfl,?_⟩;split<;>simp[h2]
 . exact h.frame (A9Z w a v e)
theorem Blk.setCells {b b' n:Nat}:∀ (vs:List Value) (o:Nat) (w:World),Blk w b' n->Blk (w.setCells b o vs) b' n
 | [],_,_,h=>h
 |v::r,o,w,h=>by rw[World.setCells];exact Blk.setCells r (o+1) _ h.setCell
theorem Blk.cell {w:World}{b n j:Nat}(h:Blk w b n)(hj:j<n):(w.cell? ⟨b,j,none⟩).isSome=true∧w.frozen? ⟨b,j,none⟩=false:=by
 obtain⟨c,ty,h1,h2⟩:=h;simp[World.cell?,World.frozen?,h1,h2,hj]
structure Wr (w w':World)(b o n:Nat)(X:List Nat):Prop where
 other:∀b',b'<w.heap.size->b'≠b->b'∉X->w'.heap[b']?=w.heap[b']?
 blk:∀m,Blk w b m->Blk w' b m
 cell:∀j,(j<o∨o+n<=j)->w'.cell? ⟨b,j,none⟩=w.cell? ⟨b,j,none⟩
theorem Row.lt {w:World}{b o:Nat}{v:Value}{cs:List Value}(h:Row w b o (v::cs)):b<w.heap.size:=by
 have:=h 0 v rfl
 simp only[World.cell?] at this;split at this
 . rename_i h1;exact(Array.getElem?_eq_some_iff.1 h1).1
 . cases this
theorem Blk.lt {w:World}{b n:Nat}(h:Blk w b n):b<w.heap.size:=by
 obtain⟨c,ty,h1,_⟩:=h;exact(Array.getElem?_eq_some_iff.1 h1).1
theorem Row.frameC {w w':World}{b o:Nat}{cs:List Value}(h:∀j,o<=j->j<o+cs.length->w'.cell? ⟨b,j,none⟩=w.cell? ⟨b,j,none⟩)(r:Row w b o cs):Row w' b o cs:=by
 intro j v hj
 have:=(List.getElem?_eq_some_iff.1 hj).1
 rw[h (o+j) (by omega) (by omega)]
 exact r j v hj
section
variable {w w':World}{A A':Nat->Prop}{E E':A0f An}{nx nx':Stp}
mutual
theorem TAt.frameC (f:Fr w w' A A' E E' nx nx'):∀ {t:T An} {b o:Nat},(∀ j,o<=j->j<o+t.cs->w'.cell? ⟨b,j,none⟩=w.cell? ⟨b,j,none⟩)->(∀ x∈t.blk,w'.heap[x]?=w.heap[x]?)->
 TAt w A E nx t b o->TAt w' A' E' nx' t b o
 |.p v,b,o,hb,_,h=>by
   simp only[TAt] at h ⊢;obtain⟨cs,h1,h2⟩:=h;exact⟨cs,h1.frame f.hA f.hw,h2.frameC (by rw[h1.len];exact hb)⟩
 |.m v,b,o,hb,_,h=>by
   simp only[TAt] at h ⊢;obtain⟨h0,h0',val,h1,h2⟩:=h;exact⟨h0,h0',val,h1.frame f,h2.frameC (by simpa only[T.cs,h0,List.length_singleton] using hb)⟩
 |.agg l,b,o,hb,hk,h=>by
   simp only[TAt] at h ⊢;exact TsAt.frameC f hb (by simpa only[T.blk] using hk) h
 |.vec an z l n,b,o,hb,hk,h=>by
   have hbb:∀{a:Option Addr} {cap:Nat},Row w b o [.slice a n cap]->Row w' b o [.slice a n cap]:=λr=>r.frameC (by simpa only[T.cs,List.length_singleton] using hb)
   simp only[TAt] at h ⊢;obtain⟨a,cap,h1,h2,h3,h4⟩:=h;refine⟨a,cap,hbb h1,h2,h3,?_⟩;cases hb':an.b with
   |none=>simpa only[hb'] using h4
   |some b' =>
     simp only[hb'] at h4 ⊢;simp only[T.blk,hb',Option.toList,List.cons_append,List.nil_append,List.mem_cons] at hk;exact⟨h4.1.frame (hk b' (.inl rfl)),h4.2.1,h4.2.2.1,TsAt.frame f (hk b' (.inl rfl)) (λx hx=>hk x (.inr hx)) h4.2.2.2⟩
 |.mp ..,_,_,_,_,h=>by simp only[TAt] at h
 |.hole n,b,o,hb,_,h=>by
   simp only[TAt] at h ⊢;intro j hj;rw[hb (o+j) (by omega) (by simp only[T.cs];omega)];exact h j hj
theorem TsAt.frameC (f:Fr w w' A A' E E' nx nx'):∀ {l:List (T An)} {b o:Nat},(∀ j,o<=j->j<o+T.css l->w'.cell? ⟨b,j,none⟩=w.cell? ⟨b,j,none⟩)->(∀ x∈T.blks l,w'.heap[x]?=w.heap[x]?)->
 TsAt w A E nx l b o->TsAt w' A' E' nx' l b o
 | [],b,o,_,_,h=>by simp only[TsAt]
 |t::r,b,o,hb,hk,h=>by
   simp only[TsAt] at h ⊢;simp only[T.blks,List.mem_append] at hk;simp only[T.css] at hb;exact⟨TAt.frameC f (λj h1 h2=>hb j h1 (by omega)) (λx hx=>hk x (.inl hx)) h.1,TsAt.frameC f (λj h1 h2=>hb j (by omega) (by omega)) (λx hx=>hk x (.inr hx)) h.2⟩
end
end
def A1p:T An->List Nat->Nat->Nat->Option (Nat×Nat)
 |_,[],b,o=>some (b,o)
 |.p (.agg l),i::r,b,o=>match l[i]? with | some v=>A1p (.p v) r b (o+PV.css (l.take i)) | none=>none
 |.agg l,i::r,b,o=>match l[i]? with | some t=>A1p t r b (o+T.css (l.take i)) | none=>none
 |.vec an z l _,i::r,_,_=>match an.b,l[i]? with | some b',some t=>A1p t r b' (i*z) | _,_=>none
 |_,_::_,_,_=>none
def A4m:Option (Obj An)->List Nat->Option (Nat×Nat)
 |some (.cell an t),p=>match an.b with | some b=>A1p t p b 0 | none=>none
 |some (.vec an z l),i::r=>match an.b,l[i]? with | some b',some t=>A1p t r b' (i*z) | _,_=>none
 |_,_=>none
theorem C2y (l:List PV)(i:Nat)(r:List Nat)(b o:Nat):A1p (.p (.agg l)) (i::r) b o=A1p (.agg (l.map .p)) (i::r) b o:=by
 simp only[A1p,List.getElem?_map,←List.map_take,B1I];cases l[i]? <;> rfl
theorem B1J (b:Nat):∀ (p:List Nat) (t u:T An) (o o':Nat),A1b t p o=some (u,o')->A1p t p b o=some (b,o')
 | [],t,u,o,o',h=>by
   simp only[A1b,Option.some.injEq,Prod.mk.injEq] at h;obtain⟨rfl,rfl⟩:=h;simp[A1p]
 |i::r,.p v,u,o,o',h=>by
   cases v<;>simp only[A1b,reduceCtorEq] at h;simp only[A1p];split at h
   . rename_i v hv;simp only[hv];exact B1J b r _ u _ o' h
   . cases h
 |i::r,.m v,u,o,o',h=>by simp[A1b] at h
 |i::r,.agg l,u,o,o',h=>by
   simp only[A1b] at h;simp only[A1p];split at h
   . rename_i v hv;simp only[hv];exact B1J b r _ u _ o' h
   . cases h
 |i::r,.vec a z l n,u,o,o',h=>by simp[A1b] at h
 |i::r,.mp a ks l,u,o,o',h=>by simp[A1b] at h
 |i::r,.hole n,u,o,o',h=>by simp[A1b] at h
theorem A7N:∀ (p q:List Nat) (t u:T An) (b o b' o':Nat),A0e t p=some u->A1p t p b o=some (b',o')->A1p t (p++q) b o=A1p u q b' o'
 | [],q,t,u,b,o,b',o',h,k=>by
   simp only[A0e,Option.some.injEq] at h;subst h;simp only[A1p,Option.some.injEq,Prod.mk.injEq] at k;obtain⟨rfl,rfl⟩:=k;rfl
 |i::r,q,.p v,u,b,o,b',o',h,k=>by
   cases v<;>simp only[A0e,reduceCtorEq] at h;simp only[A1p,List.cons_append] at k ⊢;split at h
   . rename_i v hv;simp only[hv] at k ⊢;exact A7N r q _ u _ _ _ _ h k
   . cases h
 |i::r,q,.m v,u,b,o,b',o',h,_=>by simp[A0e] at h
 |i::r,q,.agg l,u,b,o,b',o',h,k=>by
   simp only[A0e] at h;simp only[A1p,List.cons_append] at k ⊢;split at h
   . rename_i v hv;simp only[hv] at k ⊢;exact A7N r q _ u _ _ _ _ h k
   . cases h
 |i::r,q,.vec a z l n,u,b,o,b',o',h,k=>by
   simp only[A0e] at h;simp only[A1p,List.cons_append] at k ⊢;split at h
   . rename_i v hv;cases hb:a.b with
     |none=>simp[hb] at k
     |some b0=>simp only[hv,hb] at k ⊢;exact A7N r q _ u _ _ _ _ h k
   . cases h
 |i::r,q,.mp a ks l,u,b,o,b',o',h,k=>by simp[A1p] at k
 |i::r,q,.hole n,u,b,o,b',o',h,_=>by simp[A0e] at h
section
variable {w:World}{A:Nat->Prop}{E:A0f An}{nx:Stp}
theorem TsAt_p {vs:List PV}{b o:Nat}:TsAt w A E nx (vs.map .p) b o↔TAt w A E nx (.p (.agg vs)) b o:=by
 induction vs generalizing o with
 |nil=>simp only[List.map_nil,TsAt,TAt,PVc,PVcs,true_iff];exact⟨[],rfl,Row.nil⟩
 |cons x r ih =>
   simp only[List.map_cons,TsAt,ih];simp only[TAt,PVc,PVcs];constructor
   . rintro⟨⟨c,h1,h2⟩,d,h3,h4⟩;refine⟨c++d,⟨c,d,rfl,h1,h3⟩,Row.append.2 ⟨h2,?_⟩⟩;rw[h1.len];exact h4
   . rintro ⟨_,⟨c,d,rfl,h1,h3⟩,h2⟩;have h2:=Row.append.1 h2;refine ⟨⟨c,h1,h2.1⟩,d,h3,?_⟩
     have:=h2.2
     rw[h1.len] at this;exact this
theorem C6e {l:List (T An)}{b o:Nat}:TAt w A E nx (A0z l) b o↔TsAt w A E nx l b o:=by
 rcases A5A l with e | ⟨vs,rfl,e⟩<;>rw[e]
 . simp only[TAt]
 . exact TsAt_p.symm
theorem A2c {l:List (T An)}{i:Nat}{t:T An}(h:l[i]?=some t){b:Nat}(hb:b∈t.blk):b∈T.blks l:=by
 induction l generalizing i with
 |nil=>simp at h
 |cons x q ih =>
   cases i with
   |zero=>simp at h;subst h;simp[T.blks,hb]
   |succ i=>simp at h;simp[T.blks,ih h]
theorem A6q:∀ (p:List Nat) (t u:T An) (b o:Nat),A0e t p=some u->TAt w A E nx t b o->
 ∃b' o',A1p t p b o=some (b',o')∧TAt w A E nx u b' o'∧((b'=b∧o<=o'∧o'+u.cs<=o+t.cs)∨b'∈t.blk)∧(∀x∈u.blk,x∈t.blk)∧((b::t.blk).Nodup->b'∉u.blk)
 | [],t,u,b,o,h,k=>by
   simp only[A0e,Option.some.injEq] at h;subst h;exact⟨b,o,by simp[A1p],k,.inl ⟨rfl,Nat.le_refl _,Nat.le_refl _⟩,λ_ h=>h,λhn=>(List.nodup_cons.1 hn).1⟩
 |i::r,.p v,u,b,o,h,k=>by
   cases v<;>simp only[A0e,reduceCtorEq] at h;rename_i l;split at h
   . rename_i v hv;have k':=(TsAt_p.2 k).get (i:=i) (t:=.p v) (by simp [hv])
     rw[←List.map_take,B1I] at k';obtain⟨b',o',h0,h1,h2,h3,h4⟩:=A6q r (.p v) u b _ h k';refine⟨b',o',by simpa only[A1p,hv] using h0,h1,?_,λx hx=>by have:=h3 x hx;simp[T.blk] at this,λ_ hx=>by have:=h3 _ hx;simp[T.blk] at this⟩
     rcases h2 with⟨h5,h6,h7⟩ | h5
     . refine .inl ⟨h5,by omega,?_⟩
       have:PV.css (l.take i)+v.cs<=PV.css l:=by
        clear h k k' h1 h4 h7 h6 h0
        induction l generalizing i with
        |nil=>simp at hv
        |cons y q ih =>
          cases i with
          |zero=>simp at hv;subst hv;simp[PV.css]
          |succ i=>simp at hv;have:=ih i hv;simp[PV.css];omega
       simp only[T.cs,PV.cs] at h7 ⊢;omega
     . simp[T.blk] at h5
   . cases h
 |i::r,.m v,u,b,o,h,_=>by simp[A0e] at h
 |i::r,.agg l,u,b,o,h,k=>by
   simp only[A0e] at h;split at h
   . rename_i t ht;simp only [TAt] at k;obtain ⟨b',o',h0,h1,h2,h3,h4⟩:=A6q r t u b _ h (k.get ht);refine ⟨b',o',by simpa only [A1p,ht] using h0,h1,?_,λx hx=>A2c ht (h3 x hx),λhn=>h4 ?_⟩
     . rcases h2 with ⟨h5,h6,h7⟩ | h5
       . refine .inl ⟨h5,by omega,?_⟩
         have:T.css (l.take i)+t.cs<=T.css l:=by
          clear h k h1 h4 h7 h6 h0
          induction l generalizing i with
          |nil=>simp at ht
          |cons y q ih =>
            cases i with
            |zero=>simp at ht;subst ht;simp[T.css]
            |succ i=>simp at ht;have:=ih i ht;simp[T.css];omega
         simp only[T.cs];omega
       . exact .inr (A2c ht h5)
     . simp only [T.blk] at hn;obtain ⟨rest,h5,_⟩:=A8a t ht
       have:=(h5.cons b).nodup_iff.1 hn
       exact(List.nodup_append.1 (by simpa using this)).1
   . cases h
 |i::r,.vec a z l n,u,b,o,h,k=>by
   simp only[A0e] at h;split at h
   . rename_i t ht;simp only [TAt] at k;obtain ⟨p,cap,_,_,_,k4⟩:=k;cases hb:a.b with
     |none=>simp only[hb] at k4;rw[k4.1] at ht;simp at ht
     |some b0 =>
       simp only[hb] at k4;obtain⟨b',o',h0,h1,h2,h3,h4⟩:=A6q r t u b0 _ h (k4.2.2.2.elem k4.2.2.1 ht);refine⟨b',o',by simpa only[A1p,ht,hb] using h0,h1,.inr ?_,λx hx=>?_,λhn=>h4 ?_⟩
       . simp only [T.blk,hb,Option.toList,List.cons_append,List.nil_append,List.mem_cons];rcases h2 with ⟨h5,_⟩ | h5
         . exact .inl h5
         . exact .inr (A2c ht h5)
       . simp only[T.blk,hb,Option.toList,List.cons_append,List.nil_append,List.mem_cons];exact .inr (A2c ht (h3 x hx))
       . simp only [T.blk,hb,Option.toList,List.cons_append,List.nil_append] at hn;obtain ⟨rest,h5,_⟩:=A8a t ht
         have:=((h5.cons b0).nodup_iff).1 (List.nodup_cons.1 hn).2
         exact(List.nodup_append.1 (by simpa using this)).1
   . cases h
 |i::r,.mp a ks l,u,b,o,_,k=>by simp only[TAt] at k
 |i::r,.hole n,u,b,o,h,_=>by simp[A0e] at h
end
end Go.Mid
/- A changed place of an owned tree,in the world;the state after a change. -/
namespace Go.Mid
set_option linter.unusedSimpArgs false
set_option linter.unusedVariables false
open Go.RowKit
section
variable {w:World}{A:Nat->Prop}{E:A0f An}{nx:Stp}
theorem A6r:∀ {l:List (T An)} {b o:Nat},TsAt w A E nx l b o↔∀ (j:Nat) (y:T An),l[j]?=some y->TAt w A E nx y b (o+T.css (l.take j))
 | [],b,o=>by simp[TsAt]
 |t::r,b,o=>by
   simp only[TsAt,A6r (l:=r)];constructor
   . rintro ⟨h1,h2⟩ j y hj;cases j with
     |zero=>simp at hj;subst hj;simpa [T.css] using h1
     |succ j =>
       simp at hj
       have:=h2 j y hj
       rwa [List.take_succ_cons,T.css,←Nat.add_assoc]
   . intro h;refine ⟨by simpa [T.css] using h 0 t rfl,λj y hj=>?_⟩
     have:=h (j+1) y (by simpa using hj)
     rwa [List.take_succ_cons,T.css,←Nat.add_assoc] at this
theorem B2g {α:Type}:∀ {l:List (T α)} {i j:Nat} {x:T α},l[i]?=some x->i<j->T.css (l.take i)+x.cs<=T.css (l.take j)
 | [],i,j,x,h,_=>by simp at h
 |t::r,0,j+1,x,h,_=>by simp at h;subst h;simp[T.css]
 |t::r,i+1,j+1,x,h,k=>by
   simp at h
   have:=B2g h (show i<j by omega)
   simp[T.css];omega
theorem A8N {α:Type}{l:List (T α)}{i j:Nat}{x y:T α}(h:l[i]?=some x)(k:y.cs=x.cs):T.css ((l.set i y).take j)=T.css (l.take j):=by
 by_cases hij:i<j
 . have:(l.set i y).take j=(l.take j).set i y:=by rw [List.take_set]
   rw[this];exact B54 (by rw[List.getElem?_take_of_lt hij];exact h) k
 . rw[List.take_set_of_le (by omega)]
theorem C0C:∀ {l:List (T An)} {i j:Nat} {x y:T An},(T.blks l).Nodup->l[i]?=some x->l[j]?=some y->j≠i->∀ b∈x.blk,b∉y.blk
 | [],i,j,x,y,_,h,_,_=>by simp at h
 |t::r,0,0,x,y,_,_,_,h=>by simp at h
 |t::r,0,j+1,x,y,hn,h,k,_=>by
   simp at h k;subst h;intro b hb hb';simp only[T.blks] at hn;exact(List.nodup_append.1 hn).2.2 b hb b (A2c k hb') rfl
 |t::r,i+1,0,x,y,hn,h,k,_=>by
   simp at h k;subst k;intro b hb hb';simp only[T.blks] at hn;exact(List.nodup_append.1 hn).2.2 b hb' b (A2c h hb) rfl
 |t::r,i+1,j+1,x,y,hn,h,k,hij=>by
   simp at h k;simp only[T.blks] at hn;exact C0C (List.nodup_append.1 hn).2.1 h k (by omega)
theorem B0q {l:List (T An)}{i:Nat}{x:T An}{b:Nat}(hn:(b::T.blks l).Nodup)(h:l[i]?=some x):(b::x.blk).Nodup:=by
 obtain⟨rest,h5,_⟩:=A8a x h
 have:=(h5.cons b).nodup_iff.1 hn
 exact(List.nodup_append.1 (by simpa using this:((b::x.blk)++rest).Nodup)).1
end
section
variable {w w':World}{A A':Nat->Prop}{E E':A0f An}{nx nx':Stp}
theorem B68 (f:Fr w w' A A' E E' nx nx'){l:List (T An)}{i b o b1 o1:Nat}{x x' u:T An}{r:List Nat}(hts:TsAt w A E nx l b o)(hl:l[i]?=some x)
 (hnd:(b::T.blks l).Nodup) (hsz:∀y∈b::T.blks l,y<w.heap.size) (hsub:A0e x r=some u) (hloc:A1p x r b (o+T.css (l.take i))=some (b1,o1))
 (W:Wr w w' b1 o1 u.cs u.blk) (hx':TAt w' A' E' nx' x' b (o+T.css (l.take i))) (hcs:x'.cs=x.cs):TsAt w' A' E' nx' (l.set i x') b o:=by
 rw[A6r];intro j y hj;rw[A8N hl hcs];rw[List.getElem?_set] at hj;split at hj
 . rename_i hij;subst hij;split at hj
   . cases hj;exact hx'
   . cases hj
 . rename_i hij;have hy:=A6r.1 hts j y hj;have hx:=A6r.1 hts i x hl;obtain ⟨b',o',h0,h1,h2,h3,h4⟩:=A6q r x u b _ hsub hx;rw [h0] at hloc;cases hloc;have hdj:=C0C (List.nodup_cons.1 hnd).2 hl hj (Ne.symm hij);have hbl:=(List.nodup_cons.1 hnd).1;refine TAt.frameC f (λk hk1 hk2=>?_) (λz hz=>?_) hy
   . rcases h2 with ⟨rfl,h5,h6⟩ | h5
     . refine W.cell k ?_;by_cases hlt:j<i
       . have:=B2g hj hlt;omega
       . have:=B2g hl (show i<j by omega);omega
     . refine A8M (W.other b (hsz b (by simp)) ?_ ?_) k
       . rintro rfl;exact hbl (A2c hl h5)
       . intro hb;exact hbl (A2c hl (h3 b hb))
   . refine W.other z (hsz z (by simp [A2c hj hz])) ?_ ?_
     . rintro rfl;rcases h2 with ⟨rfl,_⟩ | h5
       . exact hbl (A2c hj hz)
       . exact hdj _ h5 hz
     . intro hz';exact hdj z (h3 z hz') hz
theorem B57 (f:Fr w w' A A' E E' nx nx'):∀ (p:List Nat) (t u v t':T An) (b o b1 o1:Nat),A0e t p=some u->putT t p v=some t'->A1p t p b o=some (b1,o1)->TAt w A E nx t b o->
 (b::t.blk).Nodup->(∀y∈b::t.blk,y<w.heap.size)->v.cs=u.cs->Wr w w' b1 o1 u.cs u.blk->TAt w' A' E' nx' v b1 o1->TAt w' A' E' nx' t' b o
 | [],t,u,v,t',b,o,b1,o1,h,k,hl,_,_,_,_,_,hv=>by
   simp only[putT,Option.some.injEq] at k;subst k;simp only[A1p,Option.some.injEq,Prod.mk.injEq] at hl;obtain⟨rfl,rfl⟩:=hl;exact hv
 |i::r,t,u,v,t',b,o,b1,o1,h,k,hloc,hk,hnd,hsz,hcs,W,hv=>by
   rcases A9Y h k with⟨l,x,y,ht,hl,h1,h2,rfl⟩ | ⟨a,z,l,n,x,y,rfl,hl,h1,h2,rfl⟩ | ⟨a,ks,l,x,y,rfl,hl,h1,h2,rfl⟩
   . have hts:TsAt w A E nx l b o:=by
      rcases ht with rfl | ⟨vs,rfl,rfl⟩
      . simpa only[TAt] using hk
      . exact TsAt_p.2 hk
     have hb:t.blk=T.blks l:=by
      rcases ht with rfl | ⟨vs,rfl,rfl⟩
      . rfl
      . rw[B0X];rfl
     have hloc':A1p x r b (o+T.css (l.take i))=some (b1,o1):=by
      have:A1p (.agg l) (i::r) b o=some (b1,o1):=by
       rcases ht with rfl | ⟨vs,rfl,rfl⟩
       . exact hloc
       . rw[←C2y];exact hloc
      simpa only[A1p,hl] using this
     rw[hb] at hnd hsz;have hx:=B57 f r x u v y b _ b1 o1 h1 h2 hloc' (A6r.1 hts i x hl) (B0q hnd hl) (λy hy=>hsz y (by
      rcases List.mem_cons.1 hy with rfl | hy
      . simp
      . simp[A2c hl hy])) hcs W hv
     exact C6e.2 (B68 f hts hl hnd hsz h1 hloc' W hx (A6W r x u v y h1 h2 hcs))
   . simp only [TAt] at hk ⊢;obtain ⟨p,cap,k1,k2,k3,k4⟩:=hk;cases hb:a.b with
     |none=>simp only[hb] at k4;rw[k4.1] at hl;simp at hl
     |some b0 =>
       simp only[hb] at k4 ⊢;simp only[T.blk,hb,Option.toList,List.cons_append,List.nil_append] at hnd hsz;have hnd':=(List.nodup_cons.1 hnd).2;have hsz':∀y∈b0::T.blks l,y<w.heap.size:=λy hy=>hsz y (by simp only[List.mem_cons] at hy ⊢;exact .inr hy)
       have e:i*z=0+T.css (l.take i):=by rw[A5U k4.2.2.1 (Nat.le_of_lt (List.getElem?_eq_some_iff.1 hl).1)];omega
       have hloc':A1p x r b0 (0+T.css (l.take i))=some (b1,o1):=by
        rw[←e];simpa only[A1p,hl,hb] using hloc
       have hx:=B57 f r x u v y b0 _ b1 o1 h1 h2 hloc' (A6r.1 k4.2.2.2 i x hl) (B0q hnd' hl) (λy hy=>hsz' y (by
        rcases List.mem_cons.1 hy with rfl | hy
        . simp
        . simp[A2c hl hy])) hcs W hv
       have hxcs:=A6W r x u v y h1 h2 hcs;obtain⟨b',o',h0,_,h5,h3,h4⟩:=A6q r x u b0 _ h1 (A6r.1 k4.2.2.2 i x hl);rw[h0] at hloc';cases hloc';have hbl:=(List.nodup_cons.1 hnd).1;have hb1:b1=b0∨b1∈T.blks l:=h5.imp (·.1) (A2c hl);have hbh:w'.heap[b]?=w.heap[b]?:=by
        refine W.other b (hsz b (by simp)) ?_ ?_
        . rintro rfl;exact hbl (List.mem_cons.2 hb1)
        . intro hb;exact hbl (by simp[A2c hl (h3 b hb)])
       refine⟨p,cap,k1.frame hbh,by rw[List.length_set];exact k2,k3,?_,by rw[List.length_set];exact k4.2.1,?_,B68 f k4.2.2.2 hl hnd' hsz' h1 h0 W hx hxcs⟩
       . by_cases hbb:b0=b1
         . subst hbb;exact W.blk _ k4.1
         . refine k4.1.frame (W.other b0 (hsz b0 (by simp)) hbb ?_)
           intro hb;exact(List.nodup_cons.1 hnd').1 (A2c hl (h3 b0 hb))
       . intro q hq;rcases List.mem_or_eq_of_mem_set hq with hq | rfl
         . exact k4.2.2.1 q hq
         . rw[hxcs];exact k4.2.2.1 x (List.mem_of_getElem? hl)
   . simp only[TAt] at hk
end
theorem A5B {α:Type}(a:α)(t:T α)(p:List Nat):A0j (some (.cell a t)) p=A0e t p:=by cases p<;>rfl
theorem C4C {α:Type}(ob:Option (Obj α))(q:List Nat):A0h ob (some q)=match ob,q with
 |some (.cell _ t),q=>ndT t q
 |some (.vec a z l),q=>ndT (.vec a z l 0) q
 |some (.mp a ks l),q=>ndT (.mp a ks l) q
 |_,_=>none:=by
 cases ob with
 |none=>cases q<;>rfl
 |some o =>
   cases o with
   |cell a t =>
     simp only[A0h,ndT,A5B];cases A0e t q with
     |none=>rfl
     |some x=>cases x<;>rfl
   |vec a z l =>
     cases q with
     |nil=>rfl
     |cons i r =>
       simp only[A0h,ndT,A0j,A0e];cases l[i]? with
       |none=>rfl
       |some t =>
         simp only;cases A0e t r with
         |none=>rfl
         |some x=>cases x<;>rfl
   |mp a ks l=>cases q<;>rfl
   |gone=>cases q<;>rfl
def Obj.asT {α:Type}:Obj α->T α
 |.cell _ t=>t
 |.vec a z l=>.vec a z l 0
 |.mp a ks l=>.mp a ks l
 |.gone=>.hole 0
theorem A1F {α:Type}(o:Obj α)(q:List Nat):A0h (some o) (some q)=ndT o.asT q:=by
 rw[C4C];cases o<;>try rfl
 cases q<;>rfl
theorem A7z {α:Type}{o o':Obj α}{p:List Nat}{u v:T α}(h:A0j (some o) p=some u)(k:put (some o) p v=some o') :
 (∃a t t',o=.cell a t∧o'=.cell a t'∧A0e t p=some u∧putT t p v=some t') ∨
 (∃a z l l' i r x y,o=.vec a z l∧o'=.vec a z l'∧p=i::r∧l[i]?=some x∧A0e x r=some u∧putT x r v=some y∧l'=l.set i y) ∨
 (∃a ks l l' i r x y,o=.mp a ks l∧o'=.mp a ks l'∧p=i::r∧l[i]?=some x∧A0e x r=some u∧putT x r v=some y∧l'=l.set i y):=by
 cases o with
 |cell a t =>
   rw[A5B] at h;have e:put (some (.cell a t)) p v=match putT t p v with | some w=>some (.cell a w) | none=>none:=by cases p<;>rfl
   rw[e] at k;split at k
   . rename_i w hw;cases k;exact .inl ⟨a,t,w,rfl,rfl,h,hw⟩
   . cases k
 |vec a z l =>
   cases p with
   |nil=>simp[A0j] at h
   |cons i r =>
     simp only[A0j] at h;simp only[put] at k;cases hl:l[i]? with
     |none=>simp[hl] at h
     |some x =>
       simp only[hl] at h k;split at k
       . rename_i y hy;cases k;exact .inr (.inl ⟨a,z,l,_,i,r,x,y,rfl,rfl,rfl,hl,h,hy,rfl⟩)
       . cases k
 |mp a ks l=>cases p<;>simp[A0j] at h
 |gone=>cases p<;>simp[A0j] at h
theorem B9D {α:Type}{o o':Obj α}{p:List Nat}{u v:T α}(h:A0j (some o) p=some u)(k:put (some o) p v=some o') :
 A0e o.asT p=some u∧putT o.asT p v=some o'.asT:=by
 rcases A7z h k with⟨a,t,t',rfl,rfl,h1,h2⟩ | ⟨a,z,l,l',i,r,x,y,rfl,rfl,rfl,hl,h1,h2,rfl⟩ | ⟨a,ks,l,l',i,r,x,y,rfl,rfl,rfl,hl,h1,h2,rfl⟩
 . exact⟨h1,h2⟩
 . exact⟨by simp only[Obj.asT,A0e,hl,h1],by simp only[Obj.asT,putT,hl,h2]⟩
 . simp[A0j] at h
theorem A9u {o o':Obj An}{p:List Nat}{u v:T An}(h:A0j (some o) p=some u)(k:put (some o) p v=some o') :
 ∃rest,o.blk.Perm (u.blk++rest)∧o'.blk.Perm (v.blk++rest):=by
 obtain⟨h1,h2⟩:=B9D h k;obtain⟨rest,h3,h4⟩:=B3s p _ _ _ _ h1 h2;rcases A7z h k with⟨a,t,t',rfl,rfl,_,_⟩ | ⟨a,z,l,l',i,r,x,y,rfl,rfl,rfl,hl,_,_,rfl⟩ | ⟨a,ks,l,l',i,r,x,y,rfl,rfl,rfl,hl,_,_,rfl⟩
 . simp only [Obj.asT] at h3 h4;refine ⟨a.b.toList++rest,?_,?_⟩
   . refine(h3.append_left a.b.toList).trans ?_;rw[←List.append_assoc,←List.append_assoc];exact List.perm_append_comm.append_right _
   . refine(h4.append_left a.b.toList).trans ?_;rw[←List.append_assoc,←List.append_assoc];exact List.perm_append_comm.append_right _
 . exact⟨rest,h3,h4⟩
 . exact⟨rest,h3,h4⟩
theorem D3f {n:Stp}{o o':Obj An}{p:List Nat}{u v:T An}(h:A0j (some o) p=some u)(k:put (some o) p v=some o')(ho:o.st n)(hv:v.st n):o'.st n:=by
 obtain⟨h1,h2⟩:=B9D h k;rcases A7z h k with⟨a,t,t',rfl,rfl,_,_⟩ | ⟨a,z,l,l',i,r,x,y,rfl,rfl,rfl,hl,_,_,rfl⟩ | ⟨a,ks,l,l',i,r,x,y,rfl,rfl,rfl,hl,_,_,rfl⟩
 . exact⟨ho.1,B0K p _ _ _ _ h1 h2 ho.2 hv⟩
 . exact B0K (i::r) _ _ _ _ h1 h2 ho hv
 . exact B0K (i::r) _ _ _ _ h1 h2 ho hv
theorem C74 {α:Type}{o o':Obj α}{p:List Nat}{u v:T α}(h:A0j (some o) p=some u)(k:put (some o) p v=some o'){np:Option (List Nat)}{y:α×Option Nat}
 (hy:A0h (some o') np=some y):A0h (some o) np=some y∨∃r,np=some (p++r)∧ndT v r=some y:=by
 obtain⟨h1,h2⟩:=B9D h k;cases np with
 |none =>
   rcases A7z h k with⟨a,t,t',rfl,rfl,_,_⟩ | ⟨a,z,l,l',i,r,x,y,rfl,rfl,rfl,hl,_,_,rfl⟩ | ⟨a,ks,l,l',i,r,x,y,rfl,rfl,rfl,hl,_,_,rfl⟩
   . exact .inl hy
   . simp[A0h] at hy
   . simp[A0h] at hy
 |some q =>
   rw[A1F] at hy ⊢;rcases B56 p _ _ _ _ h1 h2 q y hy with h3 | ⟨r,rfl,h3⟩
   . exact .inl h3
   . exact .inr ⟨r,rfl,h3⟩
end Go.Mid
/- Places stay where they are when another place is changed. (built after MidP) -/
namespace Go.Mid
set_option linter.unusedSimpArgs false
set_option linter.unusedVariables false
open Go.RowKit
theorem C4Z (l:List (T An))(i:Nat)(r:List Nat)(b o:Nat):A1p (A0z l) (i::r) b o=A1p (.agg l) (i::r) b o:=by
 rcases A5A l with e | ⟨vs,rfl,e⟩<;>rw[e]
 exact C2y vs i r b o
theorem A9v:∀ (p:List Nat) (t u v t':T An),A0e t p=some u->putT t p v=some t'->v.cs=u.cs->∀ q y,A0e t' q=some y->
 (∃i r,q=p++i::r∧A0e v (i::r)=some y)∨∃y',A0e t q=some y'∧y'.cs=y.cs∧∀b o,A1p t' q b o=A1p t q b o
 | [],t,u,v,t',h,k,e,q,y,hq=>by
   simp only[putT,Option.some.injEq] at k;subst k;simp only[A0e,Option.some.injEq] at h;subst h;cases q with
   |nil=>simp only[A0e,Option.some.injEq] at hq;subst hq;exact .inr ⟨t,by simp[A0e],e.symm,λb o=>by simp[A1p]⟩
   |cons i r=>exact .inl ⟨i,r,rfl,hq⟩
 |i::r,t,u,v,t',h,k,e,q,y,hq=>by
   cases q with
   |nil =>
     simp only[A0e,Option.some.injEq] at hq;subst hq;exact .inr ⟨t,by simp[A0e],(A6W _ _ _ _ _ h k e).symm,λb o=>by simp[A1p]⟩
   |cons j q =>
     rcases A9Y h k with⟨l,x,w,ht,hl,h1,h2,rfl⟩ | ⟨a,z,l,n,x,w,rfl,hl,h1,h2,rfl⟩ | ⟨a,ks,l,x,w,rfl,hl,h1,h2,rfl⟩
     . have hs:A0e t (j::q)=A0e (.agg l) (j::q):=by
        rcases ht with rfl | ⟨vs,rfl,rfl⟩
        . rfl
        . exact B4N vs j q
       have hlc:∀b o,A1p t (j::q) b o=A1p (.agg l) (j::q) b o:=by
        intro b o;rcases ht with rfl | ⟨vs,rfl,rfl⟩
        . rfl
        . exact C2y vs j q b o
       have hw:=A6W _ _ _ _ _ h1 h2 e;rw[B6y] at hq;simp only[A0e] at hq;rw[hs];simp only[A0e];cases hj:(l.set i w)[j]? with
       |none=>simp[hj] at hq
       |some y0 =>
         simp only[hj] at hq;have hj0:=hj;rw[List.getElem?_set] at hj;split at hj
         . rename_i hij;subst hij;split at hj
           . cases hj;rcases A9v r x u v w h1 h2 e q y hq with ⟨i',r',rfl,h3⟩ | ⟨y',h3,h4,h5⟩
             . exact .inl ⟨i',r',rfl,h3⟩
             . refine .inr ⟨y',by rw [hl];exact h3,h4,λb o=>?_⟩
               rw[C4Z,hlc];simp only[A1p,hj0,hl,A8N hl hw,h5]
           . cases hj
         . refine .inr ⟨y,by rw [hj];exact hq,rfl,λb o=>?_⟩
           rw[C4Z,hlc];simp only[A1p,hj0,hj,A8N hl hw]
     . have hw:=A6W _ _ _ _ _ h1 h2 e;simp only [A0e] at hq ⊢;cases hj:(l.set i w)[j]? with
       |none=>simp[hj] at hq
       |some y0 =>
         simp only[hj] at hq;have hj0:=hj;rw[List.getElem?_set] at hj;split at hj
         . rename_i hij;subst hij;split at hj
           . cases hj;rcases A9v r x u v w h1 h2 e q y hq with ⟨i',r',rfl,h3⟩ | ⟨y',h3,h4,h5⟩
             . exact .inl ⟨i',r',rfl,h3⟩
             . refine .inr ⟨y',by rw [hl];exact h3,h4,λb o=>?_⟩
               simp only[A1p,hj0,hl];cases a.b with
               |none=>rfl
               |some b'=>exact h5 b' _
           . cases hj
         . refine .inr ⟨y,by rw [hj];exact hq,rfl,λb o=>?_⟩
           simp only[A1p,hj0,hj]
     . simp[A0e] at hq
def LSub (E E':A0f An):Prop:=∀id p u,A0j (E' id) p=some u->∃u',A0j (E id) p=some u'∧u'.cs=u.cs∧A4m (E' id) p=A4m (E id) p
theorem LSub.refl (E:A0f An):LSub E E:=λ_ _ u h=>⟨u,h,rfl,rfl⟩
theorem LSub.trans {E E' E'':A0f An}(h:LSub E E')(k:LSub E' E''):LSub E E'':=λid p u hu=>by
 obtain⟨u',h1,h2,h3⟩:=k id p u hu;obtain⟨u'',h4,h5,h6⟩:=h id p u' h1;exact⟨u'',h4,h5.trans h2,h3.trans h6⟩
theorem LSub.gone (E:A0f An)(id:Nat):LSub E (upd E id (some .gone)):=by
 intro i p u hu;by_cases e:i=id
 . subst e;simp only[upd,if_true] at hu;cases p<;>simp[A0j] at hu
 . simp only[upd,e,if_false] at hu ⊢;exact⟨u,hu,rfl,trivial⟩
theorem D1M {o o':Obj An}{p:List Nat}{u:T An}{n:Nat}(hs:A0j (some o) p=some u)(hp:put (some o) p (.hole n)=some o')(hc:u.cs=n){q:List Nat}{y:T An}(hq:A0j (some o') q=some y) :
 ∃y',A0j (some o) q=some y'∧y'.cs=y.cs∧A4m (some o') q=A4m (some o) q:=by
 have hole:∀i r,A0e (.hole n:T An) (i::r)≠some y:=by intro i r h;simp[A0e] at h
 rcases A7z hs hp with⟨a,t,t',rfl,rfl,h1,h2⟩ | ⟨a,z,l,l',i,r,x,w,rfl,rfl,rfl,hx,h1,h2,rfl⟩ | ⟨a,ks,l,l',i,r,x,w,rfl,rfl,rfl,hx,h1,h2,rfl⟩
 . rw [A5B] at hq;rcases A9v p t u _ t' h1 h2 hc.symm q y hq with ⟨i,r,_,h3⟩ | ⟨y',h3,h4,h5⟩
   . exact absurd h3 (hole i r)
   . refine ⟨y',by rw [A5B];exact h3,h4,?_⟩
     simp only[A4m,h5]
 . cases q with
   |nil=>simp[A0j] at hq
   |cons j q =>
     have h1':A0e (.vec a z l 0) (i::r)=some u:=by simp only[A0e,hx,h1]
     have h2':putT (.vec a z l 0) (i::r) (.hole n)=some (.vec a z (l.set i w) 0):=by simp only[putT,hx,h2]
     rcases A9v (i::r) _ u _ _ h1' h2' hc.symm (j::q) y (by simpa only[A0j,A0e] using hq) with⟨i',r',_,h3⟩ | ⟨y',h3,h4,h5⟩
     . exact absurd h3 (hole i' r')
     . refine ⟨y',by simpa only [A0j,A0e] using h3,h4,?_⟩
       have:=h5 0 0
       simpa only[A4m,A1p] using this
 . simp[A0j] at hs
theorem LSub.hole {E:A0f An}{id:Nat}{o o':Obj An}{p:List Nat}{u:T An}{n:Nat}(hE:E id=some o)(hs:A0j (some o) p=some u)(hp:put (some o) p (.hole n)=some o')(hc:u.cs=n):LSub E (upd E id (some o')):=by
 intro i q y hy;by_cases e:i=id
 . subst e;simp only[upd,if_true] at hy ⊢;rw[hE];exact D1M hs hp hc hy
 . simp only[upd,e,if_false] at hy ⊢;exact⟨y,hy,rfl,trivial⟩
end Go.Mid
/- The state after a root is changed. -/
namespace Go.Mid
set_option linter.unusedSimpArgs false
set_option linter.unusedVariables false
open Go.RowKit
section
variable {w w':World}{A:Nat->Prop}{E:A0f An}{h:A0b}{nx nx':Stp}
theorem A0L {α:Type}(f:Nat->α)(k:Nat)(v:α):upd f k v k=v:=by simp[upd]
theorem A0C {α:Type}(f:Nat->α){k i:Nat}(v:α)(h:i≠k):upd f k v i=f i:=by simp[upd,h]
theorem MR.notA (m:MR w A E h nx){i:Nat}{o:Obj An}(ho:E i=some o){b:Nat}(hb:b∈o.blk):b<w.heap.size∧¬A b:=m.lt b ⟨i,o,ho,hb⟩
structure SetOk (w w':World)(A:Nat->Prop)(E:A0f An)(nx nx':Stp)(id:Nat)(o':Obj An):Prop where
 hn:nx.le nx'
 sz:w.heap.size<=w'.heap.size
 ch:∀b,b<w.heap.size->(∀o,E id=some o->b∉o.blk)->w'.heap[b]?=w.heap[b]?
 ns:∀np y,A0h (some o') np=some y->nx y.1.g->A0h (E id) np=some y
 lt:∀b∈o'.blk,b<w'.heap.size∧¬A b
 nd:o'.blk.Nodup
 dj:∀b∈o'.blk,∀j o,j≠id->E j=some o->b∉o.blk
 st:o'.st nx'
theorem SetOk.fr {id:Nat}{o':Obj An}(m:MR w A E h nx)(s:SetOk w w' A E nx nx' id o'):Fr w w' A A E (upd E id (some o')) nx nx' :=
 ⟨λ_ h=>h,λb hb=>s.ch b (m.im b hb) (λo ho hbo=>(m.notA ho hbo).2 hb),λi np an z hnode hg=>by
   by_cases e:i=id
   . subst e;rw[A0L] at hnode;exact s.ns np _ hnode hg
   . rw[A0C E _ e] at hnode;exact hnode,s.hn⟩
theorem MR.set (m:MR w A E h nx){id:Nat}{o':Obj An}(s:SetOk w w' A E nx nx' id o')(hat:OAt w' A (upd E id (some o')) nx' o') :
 MR w' A (upd E id (some o')) (upd h id (some (o'.mapA An.g))) nx':=by
 have f:=s.fr m;constructor
 . intro i;by_cases e:i=id
   . subst e;simp[upd]
   . simp[upd,e,m.er i]
 . intro i o ho;by_cases e:i=id
   . subst e;rw[A0L] at ho;cases ho;exact hat
   . rw[A0C E _ e] at ho;refine OAt.frame f (λx hx=>s.ch x (m.notA ho hx).1 (λo1 ho1 hx1=>m.dj i id o o1 e ho ho1 x hx hx1)) (m.at_ i o ho)
 . rintro b ⟨i,o,ho,hb⟩;by_cases e:i=id
   . subst e;rw[A0L] at ho;cases ho;exact s.lt b hb
   . rw [A0C E _ e] at ho
     have:=m.notA ho hb
     exact⟨Nat.lt_of_lt_of_le this.1 s.sz,this.2⟩
 . intro i o ho;by_cases e:i=id
   . subst e;rw[A0L] at ho;cases ho;exact s.nd
   . rw[A0C E _ e] at ho;exact m.nd i o ho
 . intro i j o o1 hij ho ho1 b hb hb1;by_cases e:i=id
   . subst e;rw[A0L] at ho;cases ho;rw[A0C E _ (Ne.symm hij)] at ho1;exact s.dj b hb j o1 (Ne.symm hij) ho1 hb1
   . rw [A0C E _ e] at ho;by_cases e':j=id
     . subst e';rw[A0L] at ho1;cases ho1;exact s.dj b hb1 i o e ho hb
     . rw[A0C E _ e'] at ho1;exact m.dj i j o o1 hij ho ho1 b hb hb1
 . intro b hb;exact Nat.lt_of_lt_of_le (m.im b hb) s.sz
 . intro i o ho;by_cases e:i=id
   . subst e;rw[A0L] at ho;cases ho;exact s.st
   . rw[A0C E _ e] at ho;exact Obj.st_mono s.hn (m.st i o ho)
theorem A4P {id:Nat}{o':Obj An}{b:Nat}(k:A0B (upd E id (some o')) b):b∈o'.blk∨∃i o,i≠id∧E i=some o∧b∈o.blk:=by
 obtain⟨i,o,ho,hb⟩:=k;by_cases e:i=id
 . subst e;rw[A0L] at ho;cases ho;exact .inl hb
 . rw[A0C E _ e] at ho;exact .inr ⟨i,o,e,ho,hb⟩
theorem B6z {α:Type}(np:Option (List Nat)):A0h (some (.gone:Obj α)) np=none:=by
 cases np with
 |none=>rfl
 |some p=>cases p<;>rfl
theorem SetOk.gone (hn:nx.le nx')(id:Nat):SetOk w w A E nx nx' id .gone where
 hn:=hn
 sz:=Nat.le_refl _
 ch:=λ_ _ _=>rfl
 ns:=λnp y h=>by rw[B6z] at h;cases h
 lt:=λb hb=>by simp[Obj.blk] at hb
 nd:=by simp[Obj.blk]
 dj:=λb hb=>by simp[Obj.blk] at hb
 st:=trivial
theorem MR.gone (m:MR w A E h nx)(id:Nat):MR w A (upd E id (some .gone)) (upd h id (some .gone)) nx :=
 m.set (SetOk.gone (Stp.le_refl _) id) (by simp only[OAt])
theorem A5V {o:Obj An}{p:List Nat}{u:T An}(hs:A0j (some o) p=some u)(k:OAt w A E nx o) :
 ∃b' o',A4m (some o) p=some (b',o')∧TAt w A E nx u b' o'∧b'∈o.blk∧(∀x∈u.blk,x∈o.blk)∧(o.blk.Nodup->b'∉u.blk):=by
 cases o with
 |cell a t =>
   rw[A5B] at hs;simp only[OAt] at k;obtain⟨b,hb,h1,h2⟩:=k;obtain⟨b',o',h0,h3,h4,h5,h6⟩:=A6q p t u b 0 hs h2;refine⟨b',o',?_,h3,?_,?_,?_⟩
   . cases p<;>simpa only[A4m,hb] using h0
   . simp only[Obj.blk,hb,Option.toList,List.cons_append,List.nil_append,List.mem_cons];exact h4.imp (·.1) id
   . intro x hx;simp only[Obj.blk,List.mem_append];exact .inr (h5 x hx)
   . intro hn;simp only[Obj.blk,hb,Option.toList,List.cons_append,List.nil_append] at hn;exact h6 hn
 |vec a z l =>
   cases p with
   |nil=>simp[A0j] at hs
   |cons i r =>
     simp only[A0j] at hs;split at hs
     . rename_i t ht;simp only [OAt,VB] at k;cases hb:a.b with
       |none=>simp only[hb] at k;rw[k.1] at ht;simp at ht
       |some b =>
         simp only[hb] at k;obtain⟨b',o',h0,h3,h4,h5,h6⟩:=A6q r t u b _ hs (k.2.2.2.elem k.2.2.1 ht);refine⟨b',o',by simpa only[A4m,hb,ht] using h0,h3,?_,?_,?_⟩
         . simp only [Obj.blk,hb,Option.toList,List.cons_append,List.nil_append,List.mem_cons];rcases h4 with h4 | h4
           . exact .inl h4.1
           . exact .inr (A2c ht h4)
         . intro x hx;simp only[Obj.blk,List.mem_append];exact .inr (A2c ht (h5 x hx))
         . intro hn;simp only[Obj.blk,hb,Option.toList,List.cons_append,List.nil_append] at hn;exact h6 (B0q hn ht)
     . cases hs
 |mp=>cases p<;>simp[A0j] at hs
 |gone=>cases p<;>simp[A0j] at hs
theorem C9P {an:An}{z n b0:Nat}{l:List (T An)}{i:Nat}{t:T An}{r:List Nat}{b o:Nat}(hb:an.b=some b0)(ht:l[i]?=some t):A1p (.vec an z l n) (i::r) b o=A1p t r b0 (i*z):=by
 simp only[A1p,hb,ht]
theorem C4D {o:Obj An}{p:List Nat}{u:T An}{b' o':Nat}(hs:A0j (some o) p=some u)(hl:A4m (some o) p=some (b',o'))(q:List Nat):A4m (some o) (p++q)=A1p u q b' o':=by
 cases o with
 |cell a t =>
   rw[A5B] at hs;simp only[A4m] at hl ⊢;cases hb:a.b with
   |none=>simp[hb] at hl
   |some b=>simp only[hb] at hl ⊢;exact A7N p q t u b 0 b' o' hs hl
 |vec a z l =>
   cases p with
   |nil=>simp[A0j] at hs
   |cons i r =>
     simp only[A0j] at hs;simp only[A4m,List.cons_append] at hl ⊢;split at hs
     . rename_i t ht;cases hb:a.b with
       |none=>simp[hb] at hl
       |some b=>simp only[hb,ht] at hl ⊢;exact A7N r q t u b _ b' o' hs hl
     . cases hs
 |mp a ks l=>cases p<;>simp[A4m] at hl
 |gone=>cases p<;>simp[A0j] at hs
theorem MR.lookLoc (m:MR w A E h nx){id:Nat}{ob:Obj An}(hE:E id=some ob){np:Option (List Nat)}{rp:List Nat}{an:An}{o b:Nat}{t:T An}(hv:Mid.look (some ob) np rp=some (t,an,o))(hb:an.b=some b) :
 A4m (some ob) (A5q np rp)=some (b,o):=by
 cases np with
 |none =>
   cases ob<;>simp only[Mid.look,reduceCtorEq] at hv;rename_i a t0;split at hv
   . rename_i u o' hl;simp only [Option.some.injEq,Prod.mk.injEq] at hv;obtain ⟨rfl,rfl,rfl⟩:=hv
     have:=B1J b rp t0 u 0 o' hl
     simp only[A5q,Option.getD_none,List.nil_append];cases rp<;>simpa only[A4m,hb] using this
   . cases hv
 |some p =>
   simp only[Mid.look] at hv;simp only[A5q,Option.getD_some];split at hv
   . rename_i a z l i r hvec;split at hv
     . rename_i t0 ht0;split at hv
       . rename_i u o' hl;simp only [Option.some.injEq,Prod.mk.injEq] at hv;obtain ⟨rfl,rfl,rfl⟩:=hv;have h1:=B1J b r t0 u _ o' hl;rcases B1G hvec with ⟨rfl,he⟩ | ⟨n,hs⟩
         . cases he;simpa only[List.nil_append,A4m,hb,ht0] using h1
         . obtain⟨b',o'',h2,_⟩:=A5V hs (m.at_ id ob hE);rw[C4D hs h2,C9P hb ht0];exact h1
       . cases hv
     . cases hv
   . cases hv
theorem OAt.put {o o':Obj An}{p:List Nat}{u v:T An}{A':Nat->Prop}{E':A0f An}(f:Fr w w' A A' E E' nx nx')(hs:A0j (some o) p=some u)(hp:put (some o) p v=some o'){b1 o1:Nat}(hl:A4m (some o) p=some (b1,o1))
 (hcs:v.cs=u.cs) (W:Wr w w' b1 o1 u.cs u.blk) (hnd:o.blk.Nodup) (hsz:∀y∈o.blk,y<w.heap.size) (k:OAt w A E nx o) (hv:TAt w' A' E' nx' v b1 o1):OAt w' A' E' nx' o':=by
 rcases A7z hs hp with⟨a,t,t',rfl,rfl,h1,h2⟩ | ⟨a,z,l,l',i,r,x,y,rfl,rfl,rfl,hx,h1,h2,rfl⟩ | ⟨a,ks,l,l',i,r,x,y,rfl,rfl,rfl,hx,h1,h2,rfl⟩
 . simp only [OAt] at k ⊢;obtain ⟨b,hb,k1,k2⟩:=k;have hl':A1p t p b 0=some (b1,o1):=by
    cases p<;>simpa only[A4m,hb] using hl
   simp only[Obj.blk,hb,Option.toList,List.cons_append,List.nil_append] at hnd hsz;refine⟨b,hb,?_,B57 f p t u v t' b 0 b1 o1 h1 h2 hl' k2 hnd hsz hcs W hv⟩;rw[A6W p t u v t' h1 h2 hcs];by_cases e:b=b1
   . subst e;exact W.blk _ k1
   . obtain⟨b',o',h0,_,h5,h3,h4⟩:=A6q p t u b _ h1 k2;refine k1.frame (W.other b (hsz b (by simp)) e λhb=>(List.nodup_cons.1 hnd).1 (h3 b hb))
 . simp only [OAt,VB] at k ⊢;cases hb:a.b with
   |none=>simp only[hb] at k;rw[k.1] at hx;simp at hx
   |some b0 =>
     simp only[hb] at k ⊢;simp only[Obj.blk,hb,Option.toList,List.cons_append,List.nil_append] at hnd hsz;have e:i*z=0+T.css (l.take i):=by rw[A5U k.2.2.1 (Nat.le_of_lt (List.getElem?_eq_some_iff.1 hx).1)];omega
     have hloc':A1p x r b0 (0+T.css (l.take i))=some (b1,o1):=by
      rw[←e];simpa only[A4m,hx,hb] using hl
     have hy:=B57 f r x u v y b0 _ b1 o1 h1 h2 hloc' (A6r.1 k.2.2.2 i x hx) (B0q hnd hx) (λy hy=>hsz y (by
      rcases List.mem_cons.1 hy with rfl | hy
      . simp
      . simp[A2c hx hy])) hcs W hv
     have hycs:=A6W r x u v y h1 h2 hcs;obtain⟨b',o',h0,_,h5,h3,h4⟩:=A6q r x u b0 _ h1 (A6r.1 k.2.2.2 i x hx);refine⟨?_,by rw[List.length_set];exact k.2.1,?_,B68 f k.2.2.2 hx hnd hsz h1 hloc' W hy hycs⟩
     . by_cases hbb:b0=b1
       . subst hbb;exact W.blk _ k.1
       . exact k.1.frame (W.other b0 (hsz b0 (by simp)) hbb λhb=>(List.nodup_cons.1 hnd).1 (A2c hx (h3 b0 hb)))
     . intro q hq;rcases List.mem_or_eq_of_mem_set hq with hq | rfl
       . exact k.2.2.1 q hq
       . rw[hycs];exact k.2.2.1 x (List.mem_of_getElem? hx)
 . simp[A0j] at hs
structure PutOk (w w':World)(A:Nat->Prop)(E:A0f An)(nx nx':Stp)(id:Nat)(o:Obj An)(p:List Nat)(u v:T An)(b1 o1:Nat):Prop where
 hn:nx.le nx'
 sz:w.heap.size<=w'.heap.size
 hE:E id=some o
 hs:A0j (some o) p=some u
 hl:A4m (some o) p=some (b1,o1)
 cs:v.cs=u.cs
 W:Wr w w' b1 o1 u.cs u.blk
 ns:∀r y,ndT v r=some y->nx y.1.g->ndT u r=some y
 lt:∀b∈v.blk,b<w'.heap.size∧¬A b
 nd:v.blk.Nodup
 dj:∀b∈v.blk,b∈u.blk∨¬A0B E b
 st:v.st nx'
theorem B0r {α:Type}{o:Obj α}{u:T α}{p r:List Nat}(h:A0j (some o) p=some u):A0h (some o) (some (p++r))=ndT u r:=by
 rw[A1F]
 have:A0e o.asT p=some u:=by
  cases o with
  |cell a t=>rw[A5B] at h;exact h
  |vec a z l =>
    cases p with
    |nil=>simp[A0j] at h
    |cons i r=>simpa only[A0j,A0e,Obj.asT] using h
  |mp a ks l =>
    cases p with
    |nil=>simp[A0j] at h
    |cons i r=>simpa only[A0j,A0e,Obj.asT] using h
  |gone=>cases p<;>simp[A0j] at h
 simp only[ndT,A4O,this,Option.bind_some]
theorem PutOk.setOk {id:Nat}{o o':Obj An}{p:List Nat}{u v:T An}{b1 o1:Nat}(m:MR w A E h nx)(k:PutOk w w' A E nx nx' id o p u v b1 o1)(hp:put (some o) p v=some o') :
 SetOk w w' A E nx nx' id o':=by
 obtain⟨rest,h1,h2⟩:=A9u k.hs hp;have hnd:=m.nd id o k.hE;obtain⟨b',o'',h3,h4,h5,h6,h7⟩:=A5V k.hs (m.at_ id o k.hE);rw[k.hl] at h3;cases h3;have hnd':=h1.nodup_iff.1 hnd;have hrest:∀b∈rest,b∈o.blk:=λb hb=>h1.mem_iff.2 (by simp[hb])
 have hmem:∀b∈o'.blk,b∈v.blk∨b∈rest:=λb hb=>by simpa using h2.mem_iff.1 hb
 constructor
 . exact k.hn
 . exact k.sz
 . intro b hb hbo;exact k.W.other b hb (λe=>hbo o k.hE (e ▸ h5)) (λhbu=>hbo o k.hE (h6 b hbu))
 . intro np y hy hg;rw [k.hE];rcases C74 k.hs hp hy with h8 | ⟨r,rfl,h8⟩
   . exact h8
   . rw[B0r k.hs];exact k.ns r y h8 hg
 . intro b hb;rcases hmem b hb with h8 | h8
   . exact k.lt b h8
   . have:=m.notA k.hE (hrest b h8)
     exact⟨Nat.lt_of_lt_of_le this.1 k.sz,this.2⟩
 . refine h2.nodup_iff.2 (List.nodup_append.2 ⟨k.nd,(List.nodup_append.1 hnd').2.1,?_⟩);rintro b hb _ hb' rfl;rcases k.dj b hb with h8 | h8
   . exact(List.nodup_append.1 hnd').2.2 b h8 b hb' rfl
   . exact h8 ⟨id,o,k.hE,hrest b hb'⟩
 . intro b hb j oj hj hoj hbj;rcases hmem b hb with h8 | h8
   . rcases k.dj b h8 with h9 | h9
     . exact m.dj id j o oj (Ne.symm hj) k.hE hoj b (h6 b h9) hbj
     . exact h9 ⟨j,oj,hoj,hbj⟩
   . exact m.dj id j o oj (Ne.symm hj) k.hE hoj b (hrest b h8) hbj
 . exact D3f k.hs hp (Obj.st_mono k.hn (m.st id o k.hE)) k.st
theorem MR.put {id:Nat}{o o':Obj An}{p:List Nat}{u v:T An}{b1 o1:Nat}(m:MR w A E h nx)(k:PutOk w w' A E nx nx' id o p u v b1 o1)(hp:put (some o) p v=some o')
 (hv:Fr w w' A A E (upd E id (some o')) nx nx'->TAt w' A (upd E id (some o')) nx' v b1 o1) :
 MR w' A (upd E id (some o')) (upd h id (some (o'.mapA An.g))) nx':=by
 have s:=k.setOk m hp;have f:=s.fr m;exact m.set s (OAt.put f k.hs hp k.hl k.cs k.W (m.nd id o k.hE) (λy hy=>(m.notA k.hE hy).1) (m.at_ id o k.hE) (hv f))
theorem PutOk.owned {id:Nat}{o o':Obj An}{p:List Nat}{u v:T An}{b1 o1:Nat}(k:PutOk w w' A E nx nx' id o p u v b1 o1)(m:MR w A E h nx)(hp:Mid.put (some o) p v=some o'){b:Nat}(hb:A0B (upd E id (some o')) b) :
 b∈v.blk∨(A0B E b∧b∉u.blk):=by
 obtain⟨rest,h1,h2⟩:=A9u k.hs hp;have hnd':=h1.nodup_iff.1 (m.nd id o k.hE);rcases A4P hb with hb | ⟨i,oi,hi,hoi,hb⟩
 . rcases List.mem_append.1 (h2.mem_iff.1 hb) with h3 | h3
   . exact .inl h3
   . exact .inr ⟨⟨id,o,k.hE,h1.mem_iff.2 (by simp[h3])⟩,λhu=>(List.nodup_append.1 hnd').2.2 b hu b h3 rfl⟩
 . exact .inr ⟨⟨i,oi,hoi,hb⟩,λhu=>m.dj id i o oi (Ne.symm hi) k.hE hoi b (h1.mem_iff.2 (by simp[hu])) hb⟩
end
end Go.Mid
/- Values on their way into owned memory. -/
namespace Go.Mid
set_option linter.unusedSimpArgs false
set_option linter.unusedVariables false
open Go.RowKit
section
variable (w:World)(A:Nat->Prop)(E:A0f An)(nx:Stp)
mutual
def TC:T An->List Value->Prop
 |.p v,cs=>PVc w A v cs
 |.m v,cs=>v.cs=1∧v.isAgg=false∧∃val,MVv w A E nx v val∧cs=[val]
 |.agg l,cs=>TCs l cs
 |.vec an z l n,cs=>∃a cap,cs=[.slice a n cap]∧n<=l.length∧A0I an z 0 n a cap∧VB w A E nx an z l
 |.mp ..,_=>False
 |.hole n,cs=>cs.length=n
def TCs:List (T An)->List Value->Prop
 | [],cs=>cs=[]
 |t::r,cs=>∃c d,cs=c++d∧TC t c∧TCs r d
end
end
section
variable {w w':World}{A A':Nat->Prop}{E E':A0f An}{nx nx':Stp}
mutual
theorem TC.len:∀ {t:T An} {cs:List Value},TC w A E nx t cs->cs.length=t.cs
 |.p v,cs,h=>by simp only[TC] at h;exact h.len
 |.m v,cs,h=>by simp only[TC] at h;obtain⟨h1,_,val,_,rfl⟩:=h;simp[T.cs,h1]
 |.agg l,cs,h=>by simp only[TC] at h;exact TCs.len h
 |.vec ..,cs,h=>by simp only[TC] at h;obtain⟨a,cap,rfl,_⟩:=h;rfl
 |.mp ..,cs,h=>by simp only[TC] at h
 |.hole n,cs,h=>by simp only[TC] at h;exact h
theorem TCs.len:∀ {l:List (T An)} {cs:List Value},TCs w A E nx l cs->cs.length=T.css l
 | [],cs,h=>by simp only[TCs] at h;subst h;rfl
 |t::r,cs,h=>by
   simp only[TCs] at h;obtain⟨c,d,rfl,h1,h2⟩:=h;rw[List.length_append,TC.len h1,TCs.len h2];rfl
end
mutual
theorem TC.at_:∀ {t:T An} {cs:List Value} {b o:Nat},TC w A E nx t cs->Row w b o cs->TAt w A E nx t b o
 |.p v,cs,b,o,h,k=>by simp only[TC] at h;simp only[TAt];exact⟨cs,h,k⟩
 |.m v,cs,b,o,h,k=>by simp only[TC] at h;obtain⟨h1,h2,val,h3,rfl⟩:=h;simp only[TAt];exact⟨h1,h2,val,h3,k⟩
 |.agg l,cs,b,o,h,k=>by simp only[TC] at h;simp only[TAt];exact TCs.at_ h k
 |.vec an z l n,cs,b,o,h,k=>by
   simp only[TC,VB] at h;obtain⟨a,cap,rfl,h1,h2,h3⟩:=h;simp only[TAt];exact⟨a,cap,k,h1,h2,h3⟩
 |.mp ..,cs,b,o,h,_=>by simp only[TC] at h
 |.hole n,cs,b,o,h,k=>by
   simp only[TC] at h;simp only[TAt];intro j hj
   have:j<cs.length:=by omega
   exact⟨cs[j],k j _ (by simp[this])⟩
theorem TCs.at_:∀ {l:List (T An)} {cs:List Value} {b o:Nat},TCs w A E nx l cs->Row w b o cs->TsAt w A E nx l b o
 | [],cs,b,o,_,_=>by simp only[TsAt]
 |t::r,cs,b,o,h,k=>by
   simp only[TCs] at h;obtain⟨c,d,rfl,h1,h2⟩:=h;have k:=Row.append.1 k;simp only[TsAt];refine⟨TC.at_ h1 k.1,?_⟩
   have:=TCs.at_ h2 k.2
   rwa [h1.len] at this
end
theorem VB.frame (f:Fr w w' A A' E E' nx nx'){an:An}{z:Nat}{l:List (T An)}(hk:∀x∈an.b.toList++T.blks l,w'.heap[x]?=w.heap[x]?)(h:VB w A E nx an z l):VB w' A' E' nx' an z l:=by
 simp only[VB] at h ⊢;cases hb:an.b with
 |none=>simpa only[hb] using h
 |some b =>
   simp only[hb] at h ⊢;simp only[hb,Option.toList,List.cons_append,List.nil_append,List.mem_cons] at hk;exact⟨h.1.frame (hk b (.inl rfl)),h.2.1,h.2.2.1,TsAt.frame f (hk b (.inl rfl)) (λx hx=>hk x (.inr hx)) h.2.2.2⟩
mutual
theorem TC.frame (f:Fr w w' A A' E E' nx nx'):∀ {t:T An} {cs:List Value},(∀ x∈t.blk,w'.heap[x]?=w.heap[x]?)->TC w A E nx t cs->TC w' A' E' nx' t cs
 |.p v,cs,_,h=>by simp only[TC] at h ⊢;exact h.frame f.hA f.hw
 |.m v,cs,_,h=>by simp only[TC] at h ⊢;obtain⟨h1,h2,val,h3,h4⟩:=h;exact⟨h1,h2,val,h3.frame f,h4⟩
 |.agg l,cs,hk,h=>by simp only[TC] at h ⊢;exact TCs.frame f hk h
 |.vec an z l n,cs,hk,h=>by
   simp only[TC] at h ⊢;obtain⟨a,cap,h1,h2,h3,h4⟩:=h;exact⟨a,cap,h1,h2,h3,VB.frame f hk h4⟩
 |.mp ..,cs,_,h=>by simp only[TC] at h
 |.hole n,cs,_,h=>by simp only[TC] at h ⊢;exact h
theorem TCs.frame (f:Fr w w' A A' E E' nx nx'):∀ {l:List (T An)} {cs:List Value},(∀ x∈T.blks l,w'.heap[x]?=w.heap[x]?)->TCs w A E nx l cs->TCs w' A' E' nx' l cs
 | [],cs,_,h=>by simp only[TCs] at h ⊢;exact h
 |t::r,cs,hk,h=>by
   simp only[TCs] at h ⊢;simp only[T.blks,List.mem_append] at hk;obtain⟨c,d,h1,h2,h3⟩:=h;exact⟨c,d,h1,TC.frame f (λx hx=>hk x (.inl hx)) h2,TCs.frame f (λx hx=>hk x (.inr hx)) h3⟩
end
theorem TCs_p {vs:List PV}{cs:List Value}:TCs w A E nx (vs.map .p) cs↔PVcs w A vs cs:=by
 induction vs generalizing cs with
 |nil=>simp only[List.map_nil,TCs,PVcs]
 |cons x r ih=>simp only[List.map_cons,TCs,PVcs,TC,ih]
theorem C0D {l:List (T An)}{cs:List Value}:TC w A E nx (A0z l) cs↔TCs w A E nx l cs:=by
 rcases A5A l with e | ⟨vs,rfl,e⟩<;>rw[e]
 . simp only[TC]
 . simp only[TC,PVc];exact TCs_p.symm
def A0Q (g:Nat)(an:An):An:={ an with g:=g }
mutual
theorem B2h (g:Nat):∀ {t:T An} {b o:Nat},TAt w A E nx t b o->TAt w A E nx (t.mapA (A0Q g)) b o
 |.p v,b,o,h=>h
 |.m v,b,o,h=>h
 |.agg l,b,o,h=>by simp only[TAt,T.mapA] at h ⊢;exact A8O g h
 |.vec an z l n,b,o,h=>by
   simp only[TAt,T.mapA] at h ⊢;obtain⟨a,cap,h1,h2,h3,h4⟩:=h;refine⟨a,cap,h1,by rw[T.mapAs_eq,List.length_map];exact h2,h3,?_⟩
   cases hb:an.b with
   |none=>simp only[A0Q,hb] at h4 ⊢;exact⟨by rw[h4.1];rfl,h4.2⟩
   |some b' =>
     simp only[A0Q,hb] at h4 ⊢;refine⟨h4.1,by rw[T.mapAs_eq,List.length_map];exact h4.2.1,?_,A8O g h4.2.2.2⟩
     intro t ht;rw[T.mapAs_eq] at ht;obtain⟨u,hu,rfl⟩:=List.mem_map.1 ht;rw[T.cs_map];exact h4.2.2.1 u hu
 |.mp ..,b,o,h=>by simp only[TAt] at h
 |.hole n,b,o,h=>h
theorem A8O (g:Nat):∀ {l:List (T An)} {b o:Nat},TsAt w A E nx l b o->TsAt w A E nx (T.mapAs (A0Q g) l) b o
 | [],b,o,h=>by simp only[TsAt,T.mapAs]
 |t::r,b,o,h=>by
   simp only[TsAt,T.mapAs] at h ⊢;rw[T.cs_map];exact⟨B2h g h.1,A8O g h.2⟩
end
theorem B75 (g:Nat){an:An}{z:Nat}{l:List (T An)}(h:VB w A E nx an z l):VB w A E nx (A0Q g an) z (T.mapAs (A0Q g) l):=by
 simp only[VB] at h ⊢;cases hb:an.b with
 |none=>simp only[A0Q,hb] at h ⊢;exact⟨by rw[h.1];rfl,h.2⟩
 |some b' =>
   simp only[A0Q,hb] at h ⊢;refine⟨h.1,by rw[T.mapAs_eq,List.length_map];exact h.2.1,?_,A8O g h.2.2.2⟩
   intro t ht;rw[T.mapAs_eq] at ht;obtain⟨u,hu,rfl⟩:=List.mem_map.1 ht;rw[T.cs_map];exact h.2.2.1 u hu
end
mutual
theorem B6A (g:Nat):∀ (t:T An),(t.mapA (A0Q g)).blk=t.blk
 |.p _=>rfl
 |.m _=>rfl
 |.agg l=>A2t g l
 |.vec an _ l _=>by simp only[T.mapA,T.blk,A2t g l];rfl
 |.mp an _ l=>by simp only[T.mapA,T.blk,A2t g l];rfl
 |.hole _=>rfl
theorem A2t (g:Nat):∀ (l:List (T An)),T.blks (T.mapAs (A0Q g) l)=T.blks l
 | []=>rfl
 |t::r=>by simp only[T.mapAs,T.blks,B6A g t,A2t g r]
end
mutual
theorem B76 (n:Stp)(g:Nat):∀ (t:T An),(t.mapA (A0Q g)).st (n.add g)
 |.p _=>trivial
 |.m _=>trivial
 |.agg l=>A4Q n g l
 |.vec an _ l _=>⟨n.mem_add g,A4Q n g l⟩
 |.mp an _ l=>n.mem_add g
 |.hole _=>trivial
theorem A4Q (n:Stp)(g:Nat):∀ (l:List (T An)),T.sts (n.add g) (T.mapAs (A0Q g) l)
 | []=>trivial
 |t::r=>⟨B76 n g t,A4Q n g r⟩
end
mutual
theorem B77 (g:Nat):∀ (t:T An),(t.mapA (A0Q g)).mapA An.g=A7L g (t.mapA An.g)
 |.p _=>rfl
 |.m _=>rfl
 |.agg l=>by have:=A4R g l;simp only[A0N] at this;simp only[T.mapA,A7L,A0R,this]
 |.vec an _ l _=>by have:=A4R g l;simp only[A0N] at this;simp only[T.mapA,A7L,A0R,this];rfl
 |.mp an _ l=>by have:=A4R g l;simp only[A0N] at this;simp only[T.mapA,A7L,A0R,this];rfl
 |.hole _=>rfl
theorem A4R (g:Nat):∀ (l:List (T An)),T.mapAs An.g (T.mapAs (A0Q g) l)=A0N g (T.mapAs An.g l)
 | []=>rfl
 |t::r=>by
   have h1:=B77 g t;have h2:=A4R g r;simp only[A7L] at h1;simp only[A0N] at h2;simp only[T.mapAs,A0N,A0H,h1,h2]
end
theorem C40 {α β:Type}(f:α->β)(t:T α)(q:List Nat):ndT (t.mapA f) q=(ndT t q).map λy=>(f y.1,y.2):=by
 simp only[ndT,A7f];cases A0e t q with
 |none=>rfl
 |some u=>cases u<;>rfl
theorem A7O {g:Nat}{t:T An}{q:List Nat}{y:An×Option Nat}(h:ndT (t.mapA (A0Q g)) q=some y):y.1.g=g:=by
 rw[C40] at h;cases hq:ndT t q with
 |none=>simp[hq] at h
 |some x=>simp[hq] at h;rw[←h];rfl
section
variable {w:World}{A:Nat->Prop}{E:A0f An}{nx:Stp}
mutual
theorem PVc.oneCell:∀ {v:PV} {cs:List Value},PVc w A v cs->∀ c∈cs,c.oneCell'=true
 |.int ..,cs,h,c,hc=>by simp only[PVc] at h;subst h;simp at hc;subst hc;rfl
 |.bool ..,cs,h,c,hc=>by simp only[PVc] at h;subst h;simp at hc;subst hc;rfl
 |.str ..,cs,h,c,hc=>by simp only[PVc] at h;subst h;simp at hc;subst hc;rfl
 |.agg l,cs,h,c,hc=>by simp only[PVc] at h;exact PVcs.oneCell h c hc
 |.sl ..,cs,h,c,hc=>by simp only[PVc] at h;obtain⟨_,_,rfl,_⟩:=h;simp at hc;subst hc;rfl
 |.ref ..,cs,h,c,hc=>by simp only[PVc] at h;obtain⟨_,_,rfl,_⟩:=h;simp at hc;subst hc;rfl
 |.fn ..,cs,h,c,hc=>by simp only[PVc] at h;obtain⟨_,rfl,_⟩:=h;simp at hc;subst hc;unfold fnV;split<;>rfl
 |.mp ..,cs,h,c,hc=>by
   simp only[PVc] at h;rcases h with⟨rfl,_⟩ | ⟨_,_,_,rfl,_⟩<;>(simp at hc;subst hc;rfl)
 |.nilp,cs,h,c,hc=>by simp only[PVc] at h;subst h;simp at hc;subst hc;rfl
 |.nilf,cs,h,c,hc=>by simp only[PVc] at h;subst h;simp at hc;subst hc;rfl
theorem PVcs.oneCell:∀ {l:List PV} {cs:List Value},PVcs w A l cs->∀ c∈cs,c.oneCell'=true
 | [],cs,h,c,hc=>by simp only[PVcs] at h;subst h;simp at hc
 |x::r,cs,h,c,hc=>by
   simp only[PVcs] at h;obtain⟨a,d,rfl,h1,h2⟩:=h;rcases List.mem_append.1 hc with hc | hc
   . exact PVc.oneCell h1 c hc
   . exact PVcs.oneCell h2 c hc
end
end
def NSub (E E':A0f An):Prop:=∀id np y,A0h (E' id) np=some y->A0h (E id) np=some y
theorem NSub.refl (E:A0f An):NSub E E:=λ_ _ _ h=>h
theorem NSub.trans {E E' E'':A0f An}(h:NSub E E')(k:NSub E' E''):NSub E E'':=λi np y hy=>h i np y (k i np y hy)
theorem NSub.nst {E E':A0f An}(h:NSub E E')(n:Stp):NSt n E E':=λi np an z hh _=>h i np _ hh
theorem NSub.fr {w:World}{A:Nat->Prop}{E E':A0f An}(h:NSub E E'){n m:Stp}(hn:n.le m):Fr w w A A E E' n m:=⟨λ_ h=>h,λ_ _=>rfl,h.nst n,hn⟩
structure Into (w:World)(A:Nat->Prop)(E:A0f An)(nx:Stp)(γ:Nat)(cs:List Value)(t:T Nat)(h1:A0b)(E1:A0f An)(tA:T An):Prop where
 er:tA.mapA An.g=t
 mr:MR w A E1 h1 nx
 tc:TC w A E1 nx tA cs
 nd:tA.blk.Nodup
 own:∀b∈tA.blk,A0B E b∧¬A0B E1 b
 sub:∀b,A0B E1 b->A0B E b
 st:tA.st (nx.add γ)
 ns:NSub E E1
 new:∀q y,ndT tA q=some y->y.1.g=γ
 one:∀c∈cs,c.oneCell'=true
 ls:LSub E E1
structure IntoL (w:World)(A:Nat->Prop)(E:A0f An)(nx:Stp)(γ:Nat)(cs:List Value)(l:List (T Nat))(h1:A0b)(E1:A0f An)(lA:List (T An)):Prop where
 er:lA.map (T.mapA An.g)=l
 mr:MR w A E1 h1 nx
 tc:TCs w A E1 nx lA cs
 nd:(T.blks lA).Nodup
 own:∀b∈T.blks lA,A0B E b∧¬A0B E1 b
 sub:∀b,A0B E1 b->A0B E b
 st:T.sts (nx.add γ) lA
 ns:NSub E E1
 new:∀(i:Nat) (t:T An),lA[i]?=some t->∀q y,ndT t q=some y->y.1.g=γ
 one:∀c∈cs,c.oneCell'=true
 ls:LSub E E1
section
variable {w:World}{A:Nat->Prop}{nx:Stp}{γ:Nat}
theorem Into.idle {E:A0f An}{h:A0b}{cs:List Value}{t:T Nat}{tA:T An}(m:MR w A E h nx)(er:tA.mapA An.g=t)(tc:TC w A E nx tA cs)(hb:tA.blk=[])(hst:tA.st (nx.add γ))(hnd:∀ q y,ndT tA q=some y->y.1.g=γ)
 (one:∀c∈cs,c.oneCell'=true):Into w A E nx γ cs t h E tA :=
 ⟨er,m,tc,by simp[hb],by simp[hb],λ_ h=>h,hst,NSub.refl E,hnd,one,LSub.refl E⟩
theorem Wr.refl (w:World)(b o n:Nat)(X:List Nat):Wr w w b o n X:=⟨λ_ _ _ _=>rfl,λ_ h=>h,λ_ _=>rfl⟩
theorem NSub.gone (E:A0f An)(id:Nat):NSub E (upd E id (some .gone)):=by
 intro i np y hy;by_cases e:i=id
 . subst e;rw[A0L,B6z] at hy;cases hy
 . rwa [A0C E _ e] at hy
theorem NSub.hole {E:A0f An}{id:Nat}{o o':Obj An}{p:List Nat}{u:T An}{n:Nat}(hE:E id=some o)(hs:A0j (some o) p=some u)(hp:put (some o) p (.hole n)=some o'):NSub E (upd E id (some o')):=by
 intro i np y hy;by_cases e:i=id
 . subst e;rw [A0L] at hy;rw [hE];rcases C74 hs hp hy with h | ⟨r,_,h⟩
   . exact h
   . cases r<;>simp[ndT,A0e] at h
 . rwa [A0C E _ e] at hy
theorem MR.takeOut {E:A0f An}{h:A0b}(m:MR w A E h nx){id:Nat}{path:List Nat}{g z n:Nat}{l:List (T Nat)}{oh:Obj Nat}(hs:A0j (h id) path=some (.vec g z l n))(hp:Mid.put (h id) path (.hole 1)=some oh) :
 ∃ E1 an l',A0j (E id) path=some (.vec an z l' n)∧A0h (E id) (some path)=some (an,some z)∧an.g=g∧l=l'.map (T.mapA An.g)∧MR w A E1 (upd h id (some oh)) nx∧VB w A E nx an z l' ∧
  (an.b.toList++T.blks l').Nodup∧(∀b∈an.b.toList++T.blks l',A0B E b∧¬A0B E1 b)∧(∀b,A0B E1 b->A0B E b)∧NSub E E1∧LSub E E1:=by
 obtain⟨t',ht,he⟩:=m.sub hs;cases t'<;>simp only[T.mapA,reduceCtorEq,T.vec.injEq] at he;rename_i an z' l' n';obtain⟨rfl,rfl,rfl,rfl⟩:=he;cases hE:E id with
 |none=>rw[hE] at ht;cases path<;>simp[A0j] at ht
 |some o =>
   rw[hE] at ht;rw[m.er id,hE,show (T.hole 1:T Nat)=(T.hole 1:T An).mapA An.g from rfl,B0J] at hp;cases hp':Mid.put (some o) path (T.hole 1:T An) with
   |none=>simp[hp'] at hp
   |some o' =>
     simp only[hp',Option.map_some,Option.some.injEq] at hp;obtain⟨b1,o1,h1,h2,h3,h4,h5⟩:=A5V ht (m.at_ id o hE);have hpo:PutOk w w A E nx nx id o path (.vec an z l' n) (.hole 1) b1 o1:=by
      refine⟨Stp.le_refl _,Nat.le_refl _,hE,ht,h1,rfl,Wr.refl _ _ _ _ _,?_,by simp[T.blk],by simp[T.blk],by simp[T.blk],trivial⟩
      intro r y hy;cases r<;>simp[ndT,A0e] at hy
     have hmr:=m.put hpo hp' (λf=>by
      simp only[TAt] at h2 ⊢;obtain⟨a,cap,k1,_⟩:=h2;intro j hj
      have:j=0:=by omega
      subst this;exact⟨_,k1 0 _ rfl⟩)
     have hnode:A0h (some o) (some path)=some (an,some z):=by
      have:=B0r (r:=[]) ht
      rw[List.append_nil] at this;exact this
     obtain⟨rest,p1,_⟩:=A9u ht hp';have hnd:=(List.nodup_append.1 (p1.nodup_iff.1 (m.nd id o hE))).1;refine⟨upd E id (some o'),an,l',ht,hnode,rfl,T.mapAs_eq _ _,by rw[hp] at hmr;exact hmr,?_,hnd,?_,?_,NSub.hole hE ht hp',LSub.hole hE ht hp' rfl⟩
     . simp only[TAt] at h2;obtain⟨a,cap,_,_,_,k⟩:=h2;simp only[VB];exact k
     . intro b hb;refine ⟨⟨id,o,hE,h4 b hb⟩,λho=>?_⟩
       rcases hpo.owned m hp' ho with k | k
       . simp[T.blk] at k
       . exact k.2 hb
     . intro b ho;rcases hpo.owned m hp' ho with k | k
       . simp[T.blk] at k
       . exact k.1
theorem MR.takeRoot {E:A0f An}{h:A0b}(m:MR w A E h nx){id:Nat}{g z:Nat}{l:List (T Nat)}(hs:h id=some (.vec g z l)) :
 ∃ an l',E id=some (.vec an z l')∧an.g=g∧l=l'.map (T.mapA An.g)∧MR w A (upd E id (some .gone)) (upd h id (some .gone)) nx∧VB w A E nx an z l' ∧
  (an.b.toList++T.blks l').Nodup∧(∀b∈an.b.toList++T.blks l',A0B E b∧¬A0B (upd E id (some .gone)) b)∧(∀b,A0B (upd E id (some .gone)) b->A0B E b):=by
 rw[m.er id] at hs;cases hE:E id with
 |none=>simp[hE] at hs
 |some o =>
   cases o<;>simp only[hE,Option.map_some,Obj.mapA,reduceCtorEq,Option.some.injEq,Obj.vec.injEq] at hs;rename_i an z' l';obtain⟨rfl,rfl,rfl⟩:=hs;have hown:∀b,A0B (upd E id (some .gone)) b->∃i o,i≠id∧E i=some o∧b∈o.blk:=λb ho=>(A4P ho).resolve_left (by simp[Obj.blk])
   refine⟨an,l',rfl,rfl,T.mapAs_eq _ _,m.gone id,?_,m.nd id _ hE,?_,?_⟩
   . have:=m.at_ id _ hE;simpa only[OAt] using this
   . intro b hb;refine ⟨⟨id,_,hE,hb⟩,λho=>?_⟩
     obtain⟨i,o,hi,ho,hbo⟩:=hown b ho;exact m.dj id i _ o (Ne.symm hi) hE ho b hb hbo
   . intro b ho;obtain⟨i,o,hi,ho,hbo⟩:=hown b ho;exact⟨i,o,ho,hbo⟩
theorem Into.vec {E E1:A0f An}{h1:A0b}{an:An}{z len cap:Nat}{a:Option Addr}{l':List (T An)}(hm:MR w A E1 h1 nx)(hv:VB w A E nx an z l')(hnd:(an.b.toList++T.blks l').Nodup)
 (hown:∀b∈an.b.toList++T.blks l',A0B E b∧¬A0B E1 b) (hsub:∀b,A0B E1 b->A0B E b) (hns:NSub E E1) (hls:LSub E E1) (hlen:len<=l'.length) (hh:A0I an z 0 len a cap) :
 Into w A E nx γ [.slice a len cap] (.vec γ z (A0N γ (l'.map (T.mapA An.g))) len) h1 E1 (.vec (A0Q γ an) z (T.mapAs (A0Q γ) l') len) where
 er:=by
  have:=A4R γ l'
  rw[T.mapAs_eq An.g l'] at this;simp only[T.mapA,this];rfl
 mr:=hm
 tc:=by
  simp only[TC];exact⟨a,cap,rfl,by rw[T.mapAs_eq,List.length_map];exact hlen,hh,B75 γ (VB.frame (NSub.fr hns (Stp.le_refl nx)) (λ_ _=>rfl) hv)⟩
 nd:=by simp only[T.blk,A2t];exact hnd
 own:=by simp only[T.blk,A2t];exact hown
 sub:=hsub
 st:=⟨nx.mem_add γ,A4Q nx γ l'⟩
 ns:=hns
 new:=by
  intro q y hy;exact A7O (t:=.vec an z l' len) hy
 one:=by intro c hc;simp at hc;subst hc;rfl
 ls:=hls
end
end Go.Mid
/- Values on their way into owned memory: the middle semantics' move is sound. -/
namespace Go.Mid
set_option linter.unusedSimpArgs false
set_option linter.unusedVariables false
open Go.RowKit
def cellsOf (vs:List Value):List Value:=vs.flatMap λv=>v.cells.toList
section
variable {w:World}{A:Nat->Prop}{nx:Stp}{γ:Nat}
theorem MVcs.vs {E:A0f An}:∀ {l:List MV} {cs:List Value},MVcs w A E nx l cs->∃ vs,MVvs w A E nx l vs∧cs=cellsOf vs
 | [],cs,h=>by simp only[MVcs] at h;subst h;exact⟨[],by simp only[MVvs],rfl⟩
 |x::r,cs,h=>by
   simp only[MVcs] at h;obtain⟨v,d,rfl,h1,h2,h3,h4⟩:=h;obtain⟨vs,h5,rfl⟩:=MVcs.vs h4;exact⟨v::vs,by simp only[MVvs];exact⟨v,vs,rfl,h3,h5⟩,by simp[cellsOf]⟩
theorem IntoL.agg {E:A0f An}{cs:List Value}{ts:List (T Nat)}{h1:A0b}{E1:A0f An}{lA:List (T An)}(k:IntoL w A E nx γ cs ts h1 E1 lA):Into w A E nx γ cs (A0z ts) h1 E1 (A0z lA) where
 er:=by rw[A9J,k.er]
 mr:=k.mr
 tc:=C0D.2 k.tc
 nd:=by rw[B0p];exact k.nd
 own:=by rw[B0p];exact k.own
 sub:=k.sub
 st:=B4O k.st
 ns:=k.ns
 new:=by
  intro q y hy;cases q with
  |nil=>rw[B9B] at hy;cases hy
  |cons i r =>
    rw[C2w] at hy;cases hl:lA[i]? with
    |none=>simp[hl] at hy
    |some t=>simp only[hl,Option.bind_some] at hy;exact k.new i t hl r y hy
 one:=k.one
 ls:=k.ls
theorem Into.cons {E:A0f An}{cs ds:List Value}{t:T Nat}{ts:List (T Nat)}{h1 h2:A0b}{E1 E2:A0f An}{tA:T An}{lA:List (T An)}(k:Into w A E nx γ cs t h1 E1 tA)(k':IntoL w A E1 nx γ ds ts h2 E2 lA) :
 IntoL w A E nx γ (cs++ds) (t::ts) h2 E2 (tA::lA) where
 er:=by simp[k.er,k'.er]
 mr:=k'.mr
 tc:=by
  simp only[TCs];exact⟨cs,ds,rfl,k.tc.frame (k'.ns.fr (Stp.le_refl _)) (λ_ _=>rfl),k'.tc⟩
 nd:=by
  simp only[T.blks];refine List.nodup_append.2 ⟨k.nd,k'.nd,?_⟩;rintro b hb _ hb' rfl;exact(k.own b hb).2 (k'.own b hb').1
 own:=by
  intro b hb;simp only[T.blks,List.mem_append] at hb;rcases hb with hb | hb
  . exact⟨(k.own b hb).1,λho=>(k.own b hb).2 (k'.sub b ho)⟩
  . exact⟨k.sub b (k'.own b hb).1,(k'.own b hb).2⟩
 sub:=λb hb=>k.sub b (k'.sub b hb)
 st:=⟨k.st,k'.st⟩
 ns:=k.ns.trans k'.ns
 new:=by
  intro i t ht q y hy;cases i with
  |zero=>simp at ht;subst ht;exact k.new q y hy
  |succ i=>simp at ht;exact k'.new i t ht q y hy
 one:=by
  intro c hc;rcases List.mem_append.1 hc with hc | hc
  . exact k.one c hc
  . exact k'.one c hc
 ls:=k.ls.trans k'.ls
mutual
theorem B4P:∀ (x:MV) {E:A0f An} {h:A0b} {t:T Nat} {h1:A0b} {val:Value},A2b γ h x=some (t,h1)->MR w A E h nx->MVv w A E nx x val->∃ E1 tA,Into w A E nx γ val.cells.toList t h1 E1 tA
 |.p v,E,h,t,h1,val,hi,hm,hv=>by
   simp only[A2b,Option.some.injEq,Prod.mk.injEq] at hi;obtain⟨rfl,rfl⟩:=hi;simp only[MVv,PVv] at hv;obtain⟨c,hc,rfl⟩:=hv;rw[hc.pk_cells];refine⟨E,.p v,Into.idle hm rfl (by simp only[TC];exact hc) rfl trivial ?_ hc.oneCell⟩
   intro q y hy;simp only[ndT] at hy;split at hy<;>rename_i heq
   . rename_i a z l n;exfalso
     have:∀(q:List Nat) (v:PV) (u:T An),A0e (.p v) q=some u->∃v',u=.p v':=by
      intro q
      induction q with
      |nil=>intro v u h;simp only[A0e,Option.some.injEq] at h;exact⟨v,h.symm⟩
      |cons i r ih =>
        intro v u h;cases v<;>simp only[A0e,reduceCtorEq] at h;split at h
        . exact ih _ _ h
        . cases h
     obtain⟨v',e⟩:=this _ _ _ heq;cases e
   . exfalso
     have:∀(q:List Nat) (v:PV) (u:T An),A0e (.p v) q=some u->∃v',u=.p v':=by
      intro q
      induction q with
      |nil=>intro v u h;simp only[A0e,Option.some.injEq] at h;exact⟨v,h.symm⟩
      |cons i r ih =>
        intro v u h;cases v<;>simp only[A0e,reduceCtorEq] at h;split at h
        . exact ih _ _ h
        . cases h
     obtain⟨v',e⟩:=this _ _ _ heq;cases e
   . cases hy
 |.nil z,E,h,t,h1,val,hi,hm,hv=>by
   simp only[A2b,Option.some.injEq,Prod.mk.injEq] at hi;obtain⟨rfl,rfl⟩:=hi;simp only[MVv] at hv;obtain⟨a,rfl⟩:=hv;refine⟨E,.vec ⟨γ,none,0⟩ z [] 0,Into.idle hm rfl ?_ rfl ⟨nx.mem_add γ,trivial⟩ ?_ ?_⟩
   . simp only[TC,VB,Value.cells];exact⟨a,0,rfl,Nat.le_refl _,⟨rfl,rfl⟩,trivial,trivial⟩
   . intro q y hy;cases q with
     |nil=>simp[ndT,A0e] at hy;rw[←hy]
     |cons i r=>simp[ndT,A0e] at hy
   . intro c hc;simp[Value.cells] at hc;subst hc;rfl
 |.own id path off len g',E,h,t,h1,val,hi,hm,hv=>by
   simp only[MVv] at hv;obtain⟨hg,a,cap,rfl,hlc,hh⟩:=hv;simp only[A2b] at hi;split at hi
   . rename_i g'' z l hid;split at hi
     . rename_i hc;obtain ⟨rfl,rfl,hlen⟩:=hc;simp only [Option.some.injEq,Prod.mk.injEq] at hi;obtain ⟨rfl,rfl⟩:=hi;obtain ⟨an,l',hE,hag,rfl,hmr,hvb,hnd,hown,hsub⟩:=hm.takeRoot hid;have hdr:=hh an z (by rw [hE];rfl) hag
       refine⟨_,_,Into.vec hmr hvb hnd hown hsub (NSub.gone E id) (LSub.gone E id) (by simpa using hlen) hdr⟩
     . cases hi
   . split at hi
     . rename_i g'' z l n hs;split at hi
       . rename_i hc;obtain ⟨rfl,rfl,hlen⟩:=hc;split at hi
         . rename_i oh hp;simp only[Option.some.injEq,Prod.mk.injEq] at hi;obtain⟨rfl,rfl⟩:=hi;obtain⟨E1,an,l',hE,hnode,hag,rfl,hmr,hvb,hnd,hown,hsub,hns,hls⟩:=hm.takeOut hs hp;have hdr:=hh an z hnode hag;refine⟨_,_,Into.vec hmr hvb hnd hown hsub hns hls (by simpa using hlen) hdr⟩
         . cases hi
       . cases hi
     . cases hi
 |.ptr id np rp g o,E,h,t,h1,val,hi,hm,hv=>by
   simp only[A2b,Option.some.injEq,Prod.mk.injEq] at hi;obtain⟨rfl,rfl⟩:=hi;have hv0:=hv;simp only[MVv] at hv;obtain⟨_,a,rfl,_⟩:=hv;refine⟨E,.m (.ptr id np rp g o),Into.idle hm rfl ?_ rfl trivial ?_ ?_⟩
   . simp only[TC,Value.cells];exact⟨rfl,rfl,_,hv0,rfl⟩
   . intro q y hy;cases q<;>simp[ndT,A0e] at hy
   . intro c hc;simp[Value.cells] at hc;subst hc;rfl
 |.mref id path g,E,h,t,h1,val,hi,hm,hv=>by
   simp only[A2b,Option.some.injEq,Prod.mk.injEq] at hi;obtain⟨rfl,rfl⟩:=hi;have hv0:=hv;simp only[MVv] at hv;obtain⟨_,a,rfl,_⟩:=hv;refine⟨E,.m (.mref id path g),Into.idle hm rfl ?_ rfl trivial ?_ ?_⟩
   . simp only[TC,Value.cells];exact⟨rfl,rfl,_,hv0,rfl⟩
   . intro q y hy;cases q<;>simp[ndT,A0e] at hy
   . intro c hc;simp[Value.cells] at hc;subst hc;rfl
 |.agg l,E,h,t,h1,val,hi,hm,hv=>by
   simp only[A2b] at hi;split at hi
   . rename_i ts h' hts;simp only [Option.some.injEq,Prod.mk.injEq] at hi;obtain ⟨rfl,rfl⟩:=hi;simp only [MVv] at hv;obtain ⟨cs,rfl,hcs⟩:=hv;obtain ⟨vs,hvs,rfl⟩:=hcs.vs;obtain ⟨E1,lA,k⟩:=B3t l hts hm hvs;refine ⟨E1,A0z lA,?_⟩
     have:=k.agg
     simpa [Value.cells] using this
   . cases hi
 |.fn f caps,E,h,t,h1,val,hi,hm,hv=>by
   simp only[A2b,Option.some.injEq,Prod.mk.injEq] at hi;obtain⟨rfl,rfl⟩:=hi;have hv0:=hv;simp only[MVv] at hv;obtain⟨vs,rfl,_⟩:=hv;refine⟨E,.m (.fn f caps),Into.idle hm rfl ?_ rfl trivial ?_ ?_⟩
   . simp only[TC,B1E];exact⟨rfl,rfl,_,hv0,rfl⟩
   . intro q y hy;cases q<;>simp[ndT,A0e] at hy
   . intro c hc;simp[B1E] at hc;subst hc;unfold fnV;split<;>rfl
 |.tup _,E,h,t,h1,val,hi,_,_=>by simp[A2b] at hi
 |.dead _,E,h,t,h1,val,hi,_,_=>by simp[A2b] at hi
theorem B3t:∀ (l:List MV) {E:A0f An} {h:A0b} {ts:List (T Nat)} {h1:A0b} {vs:List Value},A36 γ h l=some (ts,h1)->MR w A E h nx->MVvs w A E nx l vs->
 ∃E1 lA,IntoL w A E nx γ (cellsOf vs) ts h1 E1 lA
 | [],E,h,ts,h1,vs,hi,hm,hv=>by
   simp only[A36,Option.some.injEq,Prod.mk.injEq] at hi;obtain⟨rfl,rfl⟩:=hi;simp only[MVvs] at hv;subst hv;exact⟨E,[],rfl,hm,by simp only[TCs,cellsOf,List.flatMap_nil],by simp[T.blks],by simp[T.blks],λ_ h=>h,trivial,NSub.refl E,by simp,by simp[cellsOf],LSub.refl E⟩
 |x::r,E,h,ts,h1,vs,hi,hm,hv=>by
   simp only[A36] at hi;split at hi
   . rename_i t h' ht;split at hi
     . rename_i ts' h'' hts;simp only [Option.some.injEq,Prod.mk.injEq] at hi;obtain ⟨rfl,rfl⟩:=hi;simp only [MVvs] at hv;obtain ⟨v,d,rfl,hx,hr⟩:=hv;obtain ⟨E1,tA,k⟩:=B4P x ht hm hx;obtain ⟨E2,lA,k'⟩:=B3t r hts k.mr (hr.frame (k.ns.fr (Stp.le_refl _)));refine ⟨E2,tA::lA,?_⟩
       have:=k.cons k'
       simpa [cellsOf] using this
     . cases hi
   . cases hi
end
theorem Go1.of {E E1:A0f An}{w':World}{E2:A0f An}(h:w'.os=w.os∧w'.tape=w.tape∧w'.output=w.output)(hs:w.heap.size<=w'.heap.size)
 (hk:∀b,b<w.heap.size->¬A0B E b->w'.heap[b]?=w.heap[b]?) (ho:∀b,b<w.heap.size->A0B E2 b->A0B E b) (hn:NSt nx E E1) (hn':NSt nx E1 E2):Go1 w A E nx w' A E2 :=
 ⟨h.1,h.2.1,h.2.2,hs,hk,λ_ h=>h,λ_ _ h=>.inl h,ho,hn.trans hn' (Stp.le_refl _)⟩
end
end Go.Mid
/- Composite literals: how the model fills the zero value's cells. -/
namespace Go.Mid
set_option linter.unusedSimpArgs false
set_option linter.unusedVariables false
open Go.RowKit
theorem C0E (A B:List Value):∀ (new old done:List Value),new.length=old.length->
 ((new.zipIdx done.length).foldl (λ(cs:Array Value) (p:Value×Nat)=>cs.setIfInBounds (A.length+p.2) p.1) (A++done++old++B).toArray)=(A++done++new++B).toArray
 | [],[],done,_=>rfl
 |v::r,x::q,done,h=>by
   simp only[List.length_cons,Nat.add_right_cancel_iff] at h;rw[List.zipIdx_cons,List.foldl_cons];have e:(A++done++x::q++B).toArray.setIfInBounds (A.length+done.length) v=(A++(done++[v])++q++B).toArray:=by
    apply Array.ext';simp only[Array.toList_setIfInBounds]
    have:A++done++x::q++B=(A++done)++(x::(q++B)):=by simp
    rw[this,List.set_append_right _ _ (by simp)]
    simp
   simp only[e]
   have:=C0E A B r q (done++[v]) h
   rw[List.length_append,List.length_singleton] at this;rw[this];simp
 | [],x::q,done,h=>by simp at h
 |v::r,[],done,h=>by simp at h
theorem C6f (A B old:List Value)(new:Array Value)(h:new.size=old.length) :
 (new.zipIdx.foldl (λ(cs:Array Value) (x:Value×Nat)=>match x with | (c,j)=>cs.setIfInBounds (A.length+j) c) (A++old++B).toArray)=(A++new.toList++B).toArray:=by
 have:=C0E A B new.toList old [] (by simpa using h)
 simp only[List.append_nil,List.length_nil] at this;rw[←this,←Array.foldl_toList,Array.toList_zipIdx]
def D8Q (ps:List (Nat×Value))(i:Nat)(c:List Value):List Value:=match ps.find? (·.1==i) with | some (_,v)=>v.cells.toList | none=>c
def A52 (ps:List (Nat×Value)):Nat->List (List Value)->List (List Value)
 |_,[]=>[]
 |i,c::r=>D8Q ps i c::A52 ps (i+1) r
theorem C0F:∀ (i:Nat) (l:List (List Value)),A52 [] i l=l
 |_,[]=>rfl
 |i,c::r=>by simp[A52,D8Q,C0F]
theorem B78 {k:Nat}{v:Value}{ps:List (Nat×Value)}(hk:∀ p∈ps,p.1≠k):∀ (i:Nat) (l:List (List Value)),i<=k->A52 ((k,v)::ps) i l=A52 ps i (l.set (k-i) v.cells.toList)
 |_,[],_=>by simp[A52]
 |i,c::r,hi=>by
   by_cases e:k=i
   . subst e;simp only [Nat.sub_self,List.set_cons_zero,A52];have h1:D8Q ((k,v)::ps) k c=v.cells.toList:=by simp [D8Q]
     have h2:D8Q ps k v.cells.toList=v.cells.toList:=by
      unfold D8Q;rw[List.find?_eq_none.2 (λp hp=>by simpa using hk p hp)]
     rw[h1,h2];congr 1
     have:∀(i:Nat) (l:List (List Value)),k<i->A52 ((k,v)::ps) i l=A52 ps i l:=by
      intro i l
      induction l generalizing i with
      |nil=>intro _;rfl
      |cons c r ih =>
        intro hi;simp only[A52];rw[ih _ (by omega)]
        congr 1;simp only[D8Q,List.find?_cons,show ((k,v).1==i)=false by simp;omega]
     exact this _ _ (by omega)
   . have e1:k-i=(k-(i+1))+1:=by omega
     rw[e1,List.set_cons_succ,A52,A52,B78 hk (i+1) r (by omega)]
     congr 1;simp only[D8Q,List.find?_cons,show ((k,v).1==i)=false by simp;omega]
theorem C4E {l:List (List Value)}{i:Nat}{c d:List Value}(h:l[i]?=some c):(l.set i d).flatten=(l.take i).flatten++d++(l.drop (i+1)).flatten:=by
 induction l generalizing i with
 |nil=>simp at h
 |cons x r ih =>
   cases i with
   |zero=>simp
   |succ i=>simp at h;simp[ih h]
theorem C4F {l:List (List Value)}{i:Nat}{c:List Value}(h:l[i]?=some c):l.flatten=(l.take i).flatten++c++(l.drop (i+1)).flatten:=by
 induction l generalizing i with
 |nil=>simp at h
 |cons x r ih =>
   cases i with
   |zero=>simp at h;subst h;simp
   |succ i=>simp at h;rw[List.flatten_cons,ih h];simp
theorem C2z {l:List (List Value)}{i:Nat}{c d:List Value}(h:l[i]?=some c)(hd:d.length=c.length)(j:Nat):((l.set i d).take j).flatten.length=(l.take j).flatten.length:=by
 induction l generalizing i j with
 |nil=>simp
 |cons x r ih =>
   cases j with
   |zero=>simp
   |succ j =>
     cases i with
     |zero=>simp at h;subst h;simp[hd]
     |succ i=>simp at h;simp only[List.set_cons_succ,List.take_succ_cons,List.flatten_cons,List.length_append];rw[ih h j]
theorem B6B (place:Nat->Option (Nat×Nat)):∀ (ps:List (Nat×Value)) (cks:List (List Value)),(ps.map (·.1)).Nodup->(∀ p∈ps,∃ c,cks[p.1]?=some c∧p.2.cells.size=c.length)->
 (∀i c,cks[i]?=some c->place i=some ((cks.take i).flatten.length,c.length))->Instr.fill place cks.flatten.toArray ps=some (A52 ps 0 cks).flatten.toArray
 | [],cks,_,_,_=>by simp[Instr.fill,C0F]
 |(k,v)::ps,cks,hn,hp,hpl=>by
   simp only[List.map_cons,List.nodup_cons] at hn;obtain⟨c,hc,hsz⟩:=hp (k,v) (by simp)
   simp only at hc hsz;simp only[Instr.fill,hpl k c hc];have e:=C4F hc;have hle:(cks.take k).flatten.length+v.cells.size<=cks.flatten.toArray.size:=by
    simp only[List.size_toArray];rw[e];simp only[List.length_append];omega
   rw[if_neg (by simp only[ne_eq,gt_iff_lt,Bool.or_eq_true,decide_eq_true_eq,not_or,Nat.not_lt,Decidable.not_not];exact⟨hsz,hle⟩)]
   have hset:(v.cells.zipIdx.foldl (λ(cs:Array Value) (x:Value×Nat)=>match x with | (c,j)=>cs.setIfInBounds ((cks.take k).flatten.length+j) c) cks.flatten.toArray)=(cks.set k v.cells.toList).flatten.toArray:=by
    rw[C4E hc,e];exact C6f _ _ _ _ hsz
   rw[hset];have hlen:v.cells.toList.length=c.length:=by simpa using hsz
   rw[B6B place ps (cks.set k v.cells.toList) hn.2 ?_ ?_,B78 (k:=k) (v:=v) (ps:=ps) ?_ 0 cks (Nat.zero_le _),Nat.sub_zero]
   . intro p hp' e;exact hn.1 (by rw[←e];exact List.mem_map_of_mem (f:=(·.1)) hp')
   . intro p hp';obtain ⟨c',hc',hs'⟩:=hp p (by simp [hp'])
     by_cases e':k=p.1
     . exact absurd (List.mem_map_of_mem (f:=(·.1)) hp') (by rw[←e'];exact hn.1)
     . exact⟨c',by rw[List.getElem?_set_ne e'];exact hc',hs'⟩
   . intro i ci hi;rw [C2z hc hlen];rw [List.getElem?_set] at hi;split at hi
     . rename_i hki;split at hi
       . cases hi;subst hki;rw[hpl k c hc,hlen]
       . cases hi
     . exact hpl i ci hi
section
variable {w:World}{A:Nat->Prop}{E:A0f An}{nx:Stp}
mutual
theorem B3u:∀ {v:PV} {cs r:List Value},A9p v cs=some r->∃ c,cs=c++r∧PVc w A v c
 |.int k n,cs,r,h=>by
   simp only[A9p] at h;split at h
   . split at h
     . rename_i hc;obtain⟨rfl,rfl⟩:=hc;cases h;exact⟨[_],rfl,by simp only[PVc]⟩
     . cases h
   . cases h
 |.bool b,cs,r,h=>by
   simp only[A9p] at h;split at h
   . split at h
     . rename_i hc;subst hc;cases h;exact⟨[_],rfl,by simp only[PVc]⟩
     . cases h
   . cases h
 |.str s,cs,r,h=>by
   simp only[A9p] at h;split at h
   . rename_i s' _;split at h
     . rename_i hc;cases h;refine ⟨[_],rfl,?_⟩;simp only [PVc];have h1:s=⟨#[]⟩:=by
        obtain⟨d⟩:=s;congr 1;exact Array.eq_empty_of_size_eq_zero hc.1
       have h2:s'=⟨#[]⟩:=by
        obtain⟨d⟩:=s';congr 1;exact Array.eq_empty_of_size_eq_zero hc.2
       rw[h1,h2]
     . cases h
   . cases h
 |.agg l,cs,r,h=>by
   simp only[A9p] at h;obtain⟨c,h1,h2⟩:=C0G h;exact⟨c,h1,by simp only[PVc];exact h2⟩
 |.nilp,cs,r,h=>by
   simp only[A9p] at h;split at h
   . cases h;exact⟨[_],rfl,by simp only[PVc]⟩
   . cases h
 |.nilf,cs,r,h=>by
   simp only[A9p] at h;split at h
   . cases h;exact⟨[_],rfl,by simp only[PVc]⟩
   . cases h
 |.mp ks vs,cs,r,h=>by
   simp only[A9p] at h;split at h
   . split at h
     . rename_i hc;simp only[Bool.and_eq_true,List.isEmpty_iff] at hc;obtain⟨rfl,rfl⟩:=hc;cases h;exact⟨[_],rfl,by simp only[PVc];exact .inl ⟨trivial,trivial,trivial⟩⟩
     . cases h
   . cases h
 |.sl _,cs,r,h=>by simp[A9p] at h
 |.ref _,cs,r,h=>by simp[A9p] at h
 |.fn ..,cs,r,h=>by simp[A9p] at h
theorem C0G:∀ {l:List PV} {cs r:List Value},B7Y l cs=some r->∃ c,cs=c++r∧PVcs w A l c
 | [],cs,r,h=>by simp only[B7Y,Option.some.injEq] at h;subst h;exact⟨[],rfl,by simp only[PVcs]⟩
 |x::q,cs,r,h=>by
   simp only[B7Y] at h;split at h
   . rename_i d hd;obtain⟨c,rfl,h1⟩:=B3u hd;obtain⟨c',rfl,h2⟩:=C0G h;exact⟨c++c',by simp,by simp only[PVcs];exact⟨c,c',rfl,h1,h2⟩⟩
   . cases h
end
def CellR (w:World)(A:Nat->Prop)(E:A0f An)(nx:Stp)(x:MV)(cs:List Value):Prop:=∃v:Value,v.cells.toList=cs∧v.cells.size=x.cs∧(∀c,v=.agg c->x.isAgg=true∨∃n,x=.dead n)∧MVv w A E nx x v
theorem CellR.cons {x:MV}{r:List MV}{c d:List Value}(h:CellR w A E nx x c)(k:MVcs w A E nx r d):MVcs w A E nx (x::r) (c++d):=by
 obtain⟨v,rfl,h1,h2,h3⟩:=h;simp only[MVcs];exact⟨v,d,rfl,h1,h2,h3,k⟩
theorem PVc.cellR {v:PV}{c:List Value}(h:PVc w A v c):CellR w A E nx (.p v) c:=by
 refine⟨pk v.isAgg c,by rw[h.pk_cells],by rw[h.pk_cells];simpa [MV.cs] using h.len,?_,by simp only[MVv,PVv];exact⟨c,h,rfl⟩⟩
 intro c' e;cases hg:v.isAgg with
 |true=>exact .inl hg
 |false =>
   rw[hg] at e;obtain⟨x,rfl,hx⟩:=h.one hg;simp only[pk,Bool.false_eq_true,if_false,List.headD_cons] at e;subst e;exact(C2s hx).elim
theorem B3v:∀ {l:List MV} {cs:List Value},MVcs w A E nx l cs->cs.length=MV.css l
 | [],cs,h=>by simp only[MVcs] at h;subst h;rfl
 |x::r,cs,h=>by
   simp only[MVcs] at h;obtain⟨v,d,rfl,h1,_,_,h4⟩:=h;rw[List.length_append,Array.length_toList,h1,B3v h4];rfl
theorem MVv.cellR {x:MV}{v:Value}(h:MVv w A E nx x v)(hl:A3Z x=true):CellR w A E nx x v.cells.toList:=by
 cases x with
 |p pv =>
   simp only[MVv,PVv] at h;obtain⟨c,hc,rfl⟩:=h
   have:=hc.cellR (E:=E) (nx:=nx)
   rwa [hc.pk_cells]
 |agg l =>
   have h0:=h;simp only[MVv] at h;obtain⟨cs,rfl,hcs⟩:=h;exact⟨.agg cs.toArray,rfl,by simpa [Value.cells,MV.cs] using B3v hcs,λ_ _=>.inl rfl,h0⟩
 |tup=>simp[A3Z] at hl
 |dead=>simp[A3Z] at hl
 |mref =>
   have h0:=h;simp only[MVv] at h;obtain⟨_,a,rfl,_⟩:=h;exact⟨_,rfl,rfl,by rintro c ⟨⟩,h0⟩
 |nil z =>
   have h0:=h;simp only[MVv] at h;obtain⟨a,rfl⟩:=h;exact⟨_,rfl,rfl,by rintro c ⟨⟩,h0⟩
 |own =>
   have h0:=h;simp only[MVv] at h;obtain⟨_,a,cap,rfl,_⟩:=h;exact⟨_,rfl,rfl,by rintro c ⟨⟩,h0⟩
 |ptr =>
   have h0:=h;simp only[MVv] at h;obtain⟨_,a,rfl,_⟩:=h;exact⟨_,rfl,rfl,by rintro c ⟨⟩,h0⟩
 |fn f0 l0 =>
   have h0:=h;simp only[MVv] at h;obtain⟨vs,hv,_⟩:=h;obtain⟨g,i,c,hq⟩:=C2k f0 vs.toArray;rw[hq] at hv;subst hv;exact⟨_,rfl,rfl,by rintro c ⟨⟩,h0⟩
mutual
theorem B69:∀ {v:MV} {cs r:List Value},A56 v cs=some r->∃ c,cs=c++r∧CellR w A E nx v c
 |.p v,cs,r,h=>by
   simp only[A56] at h;obtain⟨c,h1,h2⟩:=B3u (w:=w) (A:=A) h;exact⟨c,h1,h2.cellR⟩
 |.nil z,cs,r,h=>by
   simp only[A56] at h;split at h
   . rename_i a r';cases h;refine⟨[.slice a 0 0],rfl,.slice a 0 0,rfl,rfl,by rintro c ⟨⟩,by simp only[MVv];exact⟨_,rfl⟩⟩
   . cases h
 |.agg l,cs,r,h=>by
   simp only[A56] at h;obtain⟨c,h1,h2⟩:=C0H h;exact⟨c,h1,.agg c.toArray,rfl,by simpa [Value.cells,MV.cs] using B3v h2,λ_ _=>.inl rfl,by simp only[MVv];exact⟨c,rfl,h2⟩⟩
 |.own ..,cs,r,h=>by simp[A56] at h
 |.ptr ..,cs,r,h=>by simp[A56] at h
 |.mref ..,cs,r,h=>by simp[A56] at h
 |.fn ..,cs,r,h=>by simp[A56] at h
 |.tup _,cs,r,h=>by simp[A56] at h
 |.dead _,cs,r,h=>by simp[A56] at h
theorem C0H:∀ {l:List MV} {cs r:List Value},B1B l cs=some r->∃ c,cs=c++r∧MVcs w A E nx l c
 | [],cs,r,h=>by simp only[B1B,Option.some.injEq] at h;subst h;exact⟨[],rfl,by simp only[MVcs]⟩
 |x::q,cs,r,h=>by
   simp only[B1B] at h;split at h
   . rename_i d hd;obtain⟨c,rfl,h1⟩:=B69 hd;obtain⟨c',rfl,h2⟩:=C0H h;exact⟨c++c',by simp,h1.cons h2⟩
   . cases h
end
end
end Go.Mid
/- Composite literals. -/
namespace Go.Mid
set_option linter.unusedSimpArgs false
set_option linter.unusedVariables false
open Go.RowKit
section
variable {P:Program}{w:World}{A:Nat->Prop}{E:A0f An}{nx:Stp}{s:A0o}{a:Act}
theorem C2A {z:Nat}{zs:List Nat}{v:MV}{vs:List MV}(h:okB (z::zs) (v::vs)=true):v.cs=z∧A3Z v=true∧okB zs vs=true:=by
 simp only[okB,Bool.and_eq_true,beq_iff_eq] at h;exact⟨h.1.1,h.1.2,h.2⟩
def evP (a:Act)(parts:List (Nat×Operand)):List (Nat×Value):=parts.map λp=>(p.1,a.eval p.2)
theorem C2B (parts:List (Nat×Operand))(i:Nat):(evP a parts).find? (·.1==i)=(parts.find? (·.1==i)).map λp=>(p.1,a.eval p.2):=by
 unfold evP;rw[List.find?_map];rfl
theorem B3w (hs:SlR P w A E nx s a){parts:List (Nat×Operand)}:∀ {ts:List TypeId} {i:Nat} {rest:List Value} {os:List Opd},A6K P parts ts i rest=some os->
 ∃ cks:List (List Value),rest=cks.flatten∧cks.map List.length=ts.map P.cellsOf∧os.length=ts.length∧(okB (ts.map P.cellsOf) (os.map (evO s))=true->
  MVcs w A E nx (os.map (evO s)) (A52 (evP a parts) i cks).flatten ∧
  ∀j k x,i<=j->j<i+ts.length->parts.find? (·.1==j)=some (k,x)->∃c,cks[j-i]?=some c∧(a.eval x).cells.size=c.length)
 | [],i,rest,os,h=>by
   simp only[A6K] at h;split at h
   . rename_i hr;cases h;refine⟨[],by simpa using hr,rfl,rfl,λ_=>⟨by simp[A52,MVcs],λj k x h1 h2=>by simp at h2;omega⟩⟩
   . cases h
 |t::r,i,rest,os,h=>by
   simp only[A6K] at h;split at h
   . rename_i hlen;split at h
     . rename_i o os' ho hos;cases h;obtain ⟨cks,h1,h2,h3,h4⟩:=B3w hs hos;refine ⟨rest.take (P.cellsOf t)::cks,?_,?_,by simp [h3],λhok=>?_⟩
       . rw[List.flatten_cons,←h1,List.take_append_drop]
       . simp only[List.map_cons,hlen,h2]
       . simp only [List.map_cons] at hok;obtain ⟨hz,hl,hok⟩:=C2A hok;obtain ⟨h5,h6⟩:=h4 hok;have hhead:CellR w A E nx (evO s o) (D8Q (evP a parts) i (rest.take (P.cellsOf t)))∧∀ k x,parts.find? (·.1==i)=some (k,x)->(a.eval x).cells.size=P.cellsOf t:=by
          split at ho
          . rename_i k x hf;have hv:=A0l hs ho;have hc:=hv.cellR hl;have e:D8Q (evP a parts) i (rest.take (P.cellsOf t))=(a.eval x).cells.toList:=by
             unfold D8Q;rw[C2B,hf];rfl
            refine⟨by rw[e];exact hc,λk' x' hf'=>?_⟩
            rw[hf] at hf';cases hf';obtain⟨v',e1,e2,_⟩:=hc;rw[←hz,←e2,←Array.length_toList,←Array.length_toList,e1]
          . rename_i hf;have e:D8Q (evP a parts) i (rest.take (P.cellsOf t))=rest.take (P.cellsOf t):=by
             unfold D8Q;rw[C2B,hf];rfl
            refine⟨?_,λk' x' hf'=>by rw[hf] at hf';cases hf'⟩
            rw[e];split at ho
            . rename_i v hv;split at ho
              . rename_i hc;cases ho;obtain⟨c,e1,e2⟩:=B69 (w:=w) (A:=A) (E:=E) (nx:=nx) hc;rw[List.append_nil] at e1;rw[e1];exact e2
              . cases ho
            . cases ho
         constructor
         . simp only[List.map_cons,A52,List.flatten_cons];exact hhead.1.cons h5
         . intro j k x hij hj hf;by_cases e:j=i
           . subst e;refine ⟨_,by simp;rfl,?_⟩
             rw[hlen];exact hhead.2 k x hf
           . obtain ⟨c,e1,e2⟩:=h6 j k x (by omega) (by simp only [List.length_cons] at hj;omega) hf
             refine⟨c,?_,e2⟩;rw[show j-i=(j-(i+1))+1 by omega,List.getElem?_cons_succ]
             exact e1
     . cases h
   . cases h
theorem B79:∀ {l:List Nat},B7Z l=true->l.Nodup
 | [],_=>List.nodup_nil
 |x::r,h=>by
   simp only[B7Z,Bool.and_eq_true,Bool.not_eq_true',List.contains_eq_mem,decide_eq_false_iff_not] at h;exact List.nodup_cons.2 ⟨h.1,B79 h.2⟩
theorem C75 {parts:List (Nat×Operand)}(hn:(parts.map (·.1)).Nodup){p:Nat×Operand}(hp:p∈parts):parts.find? (·.1==p.1)=some p:=by
 induction parts with
 |nil=>simp at hp
 |cons q r ih =>
   simp only[List.map_cons,List.nodup_cons] at hn;rcases List.mem_cons.1 hp with rfl | hp
   . simp
   . have:q.1≠p.1:=by rintro e;exact hn.1 (by rw [e];exact List.mem_map_of_mem (f:=(·.1)) hp)
     rw[List.find?_cons,show (q.1==p.1)=false by simpa using this]
     exact ih hn.2 hp
theorem C2C:∀ {cks:List (List Value)} {zs:List Nat} (i:Nat),cks.map List.length=zs->(cks.take i).flatten.length=(zs.take i).sum
 | [],zs,i,h=>by simp at h;subst h;simp
 |c::r,zs,0,h=>by simp
 |c::r,zs,i+1,h=>by
   subst h;simp only[List.map_cons,List.take_succ_cons,List.flatten_cons,List.length_append,List.sum_cons];rw[C2C i rfl]
theorem B7a (hs:SlR P w A E nx s a){parts:Array (Nat×Operand)}{ts:List TypeId}{rest:List Value}{os:List Opd}(hp:A6K P parts.toList ts 0 rest=some os)(hok:A6T ts.length parts.toList=true)
 (hb:okB (ts.map P.cellsOf) (os.map (evO s))=true) (place:Nat->Option (Nat×Nat)) (hpl:∀i t,ts[i]?=some t->place i=some (((ts.take i).map P.cellsOf).sum,P.cellsOf t)) :
 ∃cs,MVcs w A E nx (os.map (evO s)) cs∧Instr.fill place rest.toArray (parts.map λ(i,x)=>(i,a.eval x)).toList=some cs.toArray:=by
 obtain⟨cks,h1,h2,_,h3⟩:=B3w hs hp;obtain⟨h4,h5⟩:=h3 hb;simp only[A6T,Bool.and_eq_true,List.all_eq_true,decide_eq_true_eq] at hok;have hn:=B79 hok.2.1;refine⟨_,h4,?_⟩;have e:(parts.map λ(i,x)=>(i,a.eval x)).toList=evP a parts.toList:=by rw[Array.toList_map];rfl
 rw[e,h1];refine B6B place _ cks ?_ ?_ ?_
 . unfold evP;rw[List.map_map];exact hn
 . intro p hp;obtain ⟨q,hq,rfl⟩:=List.mem_map.1 hp
   have:=h5 q.1 q.1 q.2 (Nat.zero_le _) (by rw[Nat.zero_add];exact hok.1 q hq) (C75 hn hq)
   simpa using this
 . intro i c hi;have hlt:i<ts.length:=by
    have h6:=congrArg List.length h2;simp only[List.length_map] at h6
    have:=(List.getElem?_eq_some_iff.1 hi).1
    omega
   rw[hpl i ts[i] (by simp[hlt]),C2C i h2,List.map_take]
   congr 2
   have:=congrArg (·[i]?) h2
   simp only[List.getElem?_map,hi,Option.map_some] at this;rw[List.getElem?_eq_getElem hlt] at this;simpa using this.symm
theorem A5C {t:TypeId}{zc:List Value}(h:A42 P t=some zc)(w:World):∃z,(zeroValue t).run P w=.ok z w∧z.cells=zc.toArray∧∃i,P.info? t=some i∧i.zero=some z:=by
 unfold A42 at h;split at h
 . rename_i i hi;split at h
   . rename_i z hz;cases h;exact⟨z,by simp[zeroValue,typeInfo,hi,hz],by simp,i,hi,hz⟩
   . cases h
 . cases h
theorem C41 {α β:Type}(f:α->Sem β)(g:α->β)(w:World):∀ (l:List α),(∀ x∈l,(f x).run P w=.ok (g x) w)->(l.mapM f).run P w=.ok (l.map g) w
 | [],_=>by simp
 |x::r,h=>by
   rw[List.mapM_cons];simp only[Sem.run_bind,h x (by simp),Result.andThen_ok,C41 f g w r (λy hy=>h y (by simp[hy])),Sem.run_pure,List.map_cons]
theorem B3x:∀ {fs:List Field} {o i:Nat} {f:Field},A8K P fs o=true->fs[i]?=some f->f.offset=o+((fs.take i).map λf=>P.cellsOf f.type).sum∧A4l P f.type=true
 | [],o,i,f,_,h=>by simp at h
 |x::r,o,0,f,h,k=>by
   simp at k;subst k;simp only[A8K,Bool.and_eq_true,beq_iff_eq] at h;exact⟨by simp[h.1.1],h.1.2⟩
 |x::r,o,i+1,f,h,k=>by
   simp at k;simp only[A8K,Bool.and_eq_true,beq_iff_eq] at h;obtain⟨h1,h2⟩:=B3x h.2 k;exact⟨by rw[h1,List.take_succ_cons,List.map_cons,List.sum_cons];omega,h2⟩
theorem B2H (n z:Nat):(List.replicate n z).sum=n*z:=by
 induction n with
 |zero=>simp
 |succ n ih=>rw[List.replicate_succ,List.sum_cons,ih,Nat.succ_mul];omega
end
section
variable {P:Program}{o:Oper}{a:Act}{w:World}{A:Nat->Prop}{E:A0f An}{nx:Stp}{γ:Nat}{v:MV}{h h':A0b}{s:A0o}{K:A0w}{d:Option Nat}
 (hs:SlR P w A E nx s a) (hm:MR w A E h nx)
include hs hm
theorem C6g {t:TypeId}{parts:Array (Nat×Operand)}{zc:List Value}{fs:Array Field}{l:List Opd}(ho:o.op=.build t parts)(hz:A42 P t=some zc)(hu:P.underlying t=some (.struct fs))
 (hok:A6T fs.size parts.toList=true) (hoff:A8K P fs.toList 0=true) (hl:A6K P parts.toList (fs.toList.map (·.type)) 0 zc=some l)
 (he:A0a K γ d s h (.build (fs.toList.map λf=>P.cellsOf f.type) l)=some (v,h')):OpOk P o a w A E nx γ v h':=by
 simp only[A0a] at he;split at he
 . rename_i hb;simp only [Option.some.injEq,Prod.mk.injEq] at he;obtain ⟨rfl,rfl⟩:=he;obtain ⟨z,hzr,hzc,_⟩:=A5C hz w;have hplaces:(fs.mapM λ(f:Field)=>do pure (f.offset,← sizeOf f.type)).run P w=.ok (fs.map λ(f:Field)=>(f.offset,P.cellsOf f.type)) w:=by
    have e:fs=fs.toList.toArray:=by simp
    rw[e,List.mapM_toArray];simp only[map_eq_pure_bind,Sem.run_bind];rw[C41 _ (λ(f:Field)=>(f.offset,P.cellsOf f.type)) w fs.toList ?_]
    . simp only[Result.andThen_ok,Sem.run_pure];congr 1;apply Array.ext';simp
    . intro f hf;obtain ⟨i,hi⟩:=List.getElem?_of_mem hf
      have:=(B3x hoff hi).2
      simp only[Sem.run_bind,A44 w this,Result.andThen_ok,Sem.run_pure]
   obtain⟨cs,h1,h2⟩:=B7a hs hl (by simpa using hok) (by rw[List.map_map];exact hb) (λi=>(fs.map λ(f:Field)=>(f.offset,P.cellsOf f.type))[i]?) (by
    intro i t ht;rw[List.getElem?_map] at ht;cases hf:fs.toList[i]? with
    |none=>rw[hf] at ht;cases ht
    |some f =>
      rw[hf] at ht;simp only[Option.map_some,Option.some.injEq] at ht;subst ht;have h3:=(B3x hoff hf).1;have hf':fs[i]?=some f:=by simpa using hf
      simp only[Array.getElem?_map,hf',Option.map_some,h3,Nat.zero_add];congr 2;rw[←List.map_take,List.map_map];rfl)
   refine OpOk.idle (val:=.agg cs.toArray) ?_ (B1H h1) hm;simp only[execOp,ho,Instr.build,Sem.run_bind,hzr,Result.andThen_ok,run_underlying hu,hplaces,hzc];rw[h2];rfl
 . cases he
theorem C6h {t e:TypeId}{n:Nat}{parts:Array (Nat×Operand)}{zc:List Value}{l:List Opd}(ho:o.op=.build t parts)(hz:A42 P t=some zc)(hu:P.underlying t=some (.array n e))
 (hok:A6T n parts.toList=true) (hU:A4l P e=true) (hl:A6K P parts.toList (List.replicate n e) 0 zc=some l)
 (he:A0a K γ d s h (.build (List.replicate n (P.cellsOf e)) l)=some (v,h')):OpOk P o a w A E nx γ v h':=by
 simp only[A0a] at he;split at he
 . rename_i hb;simp only [Option.some.injEq,Prod.mk.injEq] at he;obtain ⟨rfl,rfl⟩:=he;obtain ⟨z,hzr,hzc,_⟩:=A5C hz w;obtain ⟨cs,h1,h2⟩:=B7a hs hl (by simpa using hok) (by simpa using hb) (λi=>some (i*P.cellsOf e,P.cellsOf e)) (by
    intro i t ht;rw[List.getElem?_replicate] at ht;split at ht
    . rename_i hi;cases ht;rw[List.take_replicate,List.map_replicate,B2H,Nat.min_eq_left (by omega)]
    . cases ht)
   refine OpOk.idle (val:=.agg cs.toArray) ?_ (B1H h1) hm;simp only[execOp,ho,Instr.build,Sem.run_bind,hzr,Result.andThen_ok,run_underlying hu,A44 w hU,hzc];rw[h2];rfl
 . cases he
end
end Go.Mid
