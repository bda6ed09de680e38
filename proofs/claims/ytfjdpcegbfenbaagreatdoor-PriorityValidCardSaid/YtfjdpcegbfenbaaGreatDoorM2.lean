/- Changing a place of an owned tree. -/
import Derived.Test.YtfjdpcegbfenbaaGreatDoorM1
import Derived.Laws.IdiomCopy
set_option linter.unusedSimpArgs false
set_option linter.unusedVariables false
open Array renaming getElem?_modify → kJ, getElem?_eq_some_iff → c7, ext' → gG, eq_empty_of_size_eq_zero → eP, length_toList → dX
open Bool renaming and_eq_true → aj
open Go.Instr renaming fill → pV, build → wL
open Go.Result renaming andThen_ok → aU
open Go.Sem renaming run_bind → bn, run_pure → bL
open Go.Value renaming cells → de
open Go.World renaming setCell → tX, setCells → ma, cell? → mL
open List renaming getElem?_map → aL, map_map → sk, append_assoc → bg, perm_append_comm → dq, set_cons_succ → ev, set_cons_zero → dR, getElem?_set → dD, getElem?_eq_some_iff → aJ, length_singleton → dN, cons_append → aS, nil_append → a7, mem_cons → aG, mem_append → az, map_take → bP, map_nil → cr, map_cons → aF, nodup_cons → bZ, nodup_append → aT, take_succ_cons → bU, length_set → iy, mem_or_eq_of_mem_set → bx, mem_of_getElem? → bH, length_append → aR, length_map → aB, mem_map → bp, append_nil → bD, length_cons → bf, find?_cons → iz, flatten_cons → ec, mem_map_of_mem → dY, length → cz, sum_cons → mT, replicate → au
open Nat renaming le_refl → ay, add_assoc → bV, le_of_lt → fH, lt_of_lt_of_le → br, zero_le → dg, zero_add → bS
open Ne renaming symm → dv
open Option renaming map_some → ak, toList → cg, bind_some → ai
open Option.some renaming injEq → aa
open Prod.mk renaming injEq → ae
namespace Go.Mid
open Go.RowKit
section
variable {α β:Type}
theorem H7:∀ {l:List (T α)} {vs:List PV},ml l=some vs->l=vs.map .p
 | [],vs,h=>by simp only [ml] at h;cases h;rfl
 | x::r,vs,h=>by
   cases x<;>simp only [ml,reduceCtorEq] at h;split at h
   . rename_i l hl;cases h;simp [H7 hl]
   . cases h
theorem Dg:∀ (vs:List PV),ml (vs.map (T.p (α:=α)))=some vs
 | []=>rfl
 | x::r=>by simp [ml,Dg r]
theorem Dh (l:List (T α)):j2 l=.agg l∨∃ vs,l=vs.map .p∧j2 l=.p (.agg vs):=by
 unfold j2;cases h:ml l with
 | none=>exact .inl rfl
 | some vs=>exact .inr ⟨vs,H7 h,rfl⟩
theorem EI (vs:List PV):T.db (vs.map (T.p (α:=α)))=PV.db vs:=by
 induction vs with
 | nil=>rfl
 | cons x r ih=>simp [T.db,PV.db,T.cs,ih]
theorem YJ (l:List (T α)):(j2 l).cs=T.db l:=by
 rcases Dh l with h | ⟨vs,rfl,h⟩<;>rw [h]
 . rfl
 . rw [EI];rfl
theorem J8 (l:List PV)(i:Nat)(r:List Nat):cR (.p (.agg l):T α) (i::r)=cR (.agg (l.map .p)) (i::r):=by
 simp only [cR,aL];cases l[i]? <;> rfl
theorem YK (l:List (T α))(i:Nat)(r:List Nat):cR (j2 l) (i::r)=cR (.agg l) (i::r):=by
 rcases Dh l with h | ⟨vs,rfl,h⟩<;>rw [h]
 exact J8 vs i r
theorem YL (l:List PV)(i:Nat)(r:List Nat)(v:T α):c8 (.p (.agg l)) (i::r) v=c8 (.agg (l.map .p)) (i::r) v:=by
 simp only [c8,aL];cases l[i]? <;> rfl
theorem Oa:∀ {l:List (T α)} {i:Nat} {t v:T α},l[i]?=some t->v.cs=t.cs->T.db (l.set i v)=T.db l
 | [],i,t,v,h,_=>by simp at h
 | x::r,0,t,v,h,k=>by simp at h;subst h;simp [T.db,k]
 | x::r,i+1,t,v,h,k=>by simp at h;simp [T.db,Oa h k]
theorem Cu:∀ (p:List Nat) (t u v t':T α),cR t p=some u->c8 t p v=some t'->v.cs=u.cs->t'.cs=t.cs
 | [],t,u,v,t',h,k,e=>by
   simp only [cR,aa] at h;subst h;simp only [c8,aa] at k;subst k;exact e
 | i::r,.p (.agg l),u,v,t',h,k,e=>by
   rw [J8] at h;rw [YL] at k;simp only [cR,aL] at h;simp only [c8,aL] at k;cases hl:l[i]? with
   | none=>simp [hl] at h
   | some x =>
     simp only [hl,ak] at h k;split at k
     . rename_i w hw;cases k
       have:=Cu r _ u v w h hw e
       rw [YJ,Oa (t:=.p x) (by simp [hl]) this,EI];rfl
     . cases k
 | i::r,.agg l,u,v,t',h,k,e=>by
   simp only [cR] at h;simp only [c8] at k;cases hl:l[i]? with
   | none=>simp [hl] at h
   | some x =>
     simp only [hl] at h k;split at k
     . rename_i w hw;cases k
       have:=Cu r _ u v w h hw e
       rw [YJ,Oa (t:=x) hl this];rfl
     . cases k
 | i::r,.vec a z l n,u,v,t',h,k,e=>by
   simp only [c8] at k
   repeat' split at k
   all_goals cases k
   rfl
 | i::r,.mp a ks l,u,v,t',h,k,e=>by simp [cR] at h
 | i::r,.p (.int ..),u,v,t',h,_,_=>by simp [cR] at h
 | i::r,.p (.bool _),u,v,t',h,_,_=>by simp [cR] at h
 | i::r,.p (.str _),u,v,t',h,_,_=>by simp [cR] at h
 | i::r,.p (.sl _),u,v,t',h,_,_=>by simp [cR] at h
 | i::r,.p (.ref _),u,v,t',h,_,_=>by simp [cR] at h
 | i::r,.p (.fn ..),u,v,t',h,_,_=>by simp [cR] at h
 | i::r,.p (.mp ..),u,v,t',h,_,_=>by simp [cR] at h
 | i::r,.p .eM,u,v,t',h,_,_=>by simp [cR] at h
 | i::r,.p .fa,u,v,t',h,_,_=>by simp [cR] at h
 | i::r,.m _,u,v,t',h,_,_=>by simp [cR] at h
 | i::r,.hole _,u,v,t',h,_,_=>by simp [cR] at h
end
theorem J9 {α:Type}{i:Nat}{r:List Nat}{t u v t':T α}(h:cR t (i::r)=some u)(k:c8 t (i::r) v=some t') :
 (∃ l x w,(t=.agg l∨∃ vs,t=.p (.agg vs)∧l=vs.map .p)∧l[i]?=some x∧cR x r=some u∧c8 x r v=some w∧t'=j2 (l.set i w)) ∨
 (∃ a z l n x w,t=.vec a z l n∧l[i]?=some x∧cR x r=some u∧c8 x r v=some w∧t'=.vec a z (l.set i w) n) ∨
 (∃ a ks l x w,t=.mp a ks l∧l[i]?=some x∧cR x r=some u∧c8 x r v=some w∧t'=.mp a ks (l.set i w)):=by
 have key:∀ l,cR (.agg l) (i::r)=some u->c8 (.agg l) (i::r) v=some t'->∃ x w,l[i]?=some x∧cR x r=some u∧c8 x r v=some w∧t'=j2 (l.set i w):=by
  intro l h k;simp only [cR] at h;simp only [c8] at k;cases hl:l[i]? with
  | none=>simp [hl] at h
  | some x =>
    simp only [hl] at h k;split at k
    . rename_i w hw;cases k;exact ⟨x,w,rfl,h,hw,rfl⟩
    . cases k
 cases t with
 | p pv =>
   cases pv<;>try (simp [cR] at h;done)
   rename_i l;rw [J8] at h;rw [YL] at k;obtain ⟨x,w,h1⟩:=key _ h k;exact .inl ⟨_,x,w,.inr ⟨l,rfl,rfl⟩,h1⟩
 | m=>simp [cR] at h
 | agg l =>
   obtain ⟨x,w,h1⟩:=key _ h k;exact .inl ⟨_,x,w,.inl rfl,h1⟩
 | vec a z l n =>
   simp only [cR] at h;simp only [c8] at k;cases hl:l[i]? with
   | none=>simp [hl] at h
   | some x =>
     simp only [hl] at h k;split at k
     . rename_i w hw;cases k;exact .inr (.inl ⟨a,z,l,n,x,w,rfl,hl,h,hw,rfl⟩)
     . cases k
 | mp a ks l=>simp [cR] at h
 | hole=>simp [cR] at h
section
variable {α β:Type}(f:α->β)
theorem R1:∀ (l:List (T α)),ml (l.map (T.mapA f))=ml l
 | []=>rfl
 | x::r=>by
   have:=R1 r
   cases x<;>simp [ml,T.mapA,this]
theorem Ob (l:List (T α)):(j2 l).mapA f=j2 (l.map (T.mapA f)):=by
 unfold j2;rw [R1];cases ml l with
 | none=>simp [T.mapA,T.mapAs_eq]
 | some vs=>simp [T.mapA]
theorem F3:∀ (p:List Nat) (t v:T α),c8 (t.mapA f) p (v.mapA f)=(c8 t p v).map (T.mapA f)
 | [],t,v=>by simp [c8]
 | i::r,.p pv,v=>by
   cases pv<;>simp only [T.mapA,c8,Option.map_none];rename_i l;cases l[i]? with
   | none=>rfl
   | some x =>
     have:=F3 r (.p x) v
     simp only [T.mapA] at this;simp only [this];cases c8 (.p x) r v with
     | none=>rfl
     | some w =>
       simp only [ak,Ob,List.map_set,sk];congr 2
 | i::r,.m _,v=>by simp [T.mapA,c8]
 | i::r,.agg l,v=>by
   simp only [T.mapA,c8,T.mapAs_eq,aL];cases l[i]? with
   | none=>rfl
   | some x =>
     simp only [ak,F3 r x v];cases c8 x r v with
     | none=>rfl
     | some w=>simp [Ob]
 | i::r,.vec a z l n,v=>by
   simp only [T.mapA,c8,T.mapAs_eq,aL];cases l[i]? with
   | none=>rfl
   | some x =>
     simp only [ak,F3 r x v];cases c8 x r v with
     | none=>rfl
     | some w=>simp [T.mapA,T.mapAs_eq]
 | i::r,.mp a ks l,v=>by simp [T.mapA,c8]
 | i::r,.hole n,v=>by simp [T.mapA,c8]
theorem H8 (ob:Option (Obj α))(p:List Nat)(v:T α):put (ob.map (Obj.mapA f)) p (v.mapA f)=(put ob p v).map (Obj.mapA f):=by
 cases ob with
 | none=>cases p<;>rfl
 | some o =>
   cases o with
   | cell a t =>
     simp only [ak,Obj.mapA,put,F3];cases c8 t p v<;>rfl
   | vec a z l =>
     cases p with
     | nil=>rfl
     | cons i r =>
       simp only [ak,Obj.mapA,put,T.mapAs_eq,aL];cases l[i]? with
       | none=>rfl
       | some x =>
         simp only [ak,F3 f r x v];cases c8 x r v with
         | none=>rfl
         | some w=>simp [Obj.mapA,T.mapAs_eq]
   | mp a ks l=>cases p<;>rfl
   | gone=>cases p<;>rfl
end
theorem F4 (vs:List PV):T.b4 (vs.map T.p)=[]:=by
 induction vs with
 | nil=>rfl
 | cons x r ih=>simp [T.b4,T.blk,ih]
theorem Oc (l:List (T An)):(j2 l).blk=T.b4 l:=by
 rcases Dh l with h | ⟨vs,rfl,h⟩<;>rw [h]
 . rfl
 . rw [F4];rfl
theorem yB:∀ (l m:List (T An)),T.b4 (l++m)=T.b4 l++T.b4 m
 | [],m=>rfl
 | x::r,m=>by simp [T.b4,yB r m]
theorem F5:∀ {l:List (T An)} {i:Nat} {x:T An} (y:T An),l[i]?=some x->∃ rest,(T.b4 l).Perm (x.blk++rest)∧(T.b4 (l.set i y)).Perm (y.blk++rest)
 | [],i,x,y,h=>by simp at h
 | x::r,0,t,y,h=>by simp at h;subst h;exact ⟨T.b4 r,.refl _,.refl _⟩
 | x::r,i+1,t,y,h=>by
   simp at h;obtain ⟨rest,h1,h2⟩:=F5 y h;refine ⟨x.blk++rest,?_,?_⟩
   . simp only [T.b4];refine (h1.append_left x.blk).trans ?_;rw [← bg,← bg];exact dq.append_right rest
   . simp only [T.b4,ev];refine (h2.append_left x.blk).trans ?_;rw [← bg,← bg];exact dq.append_right rest
theorem H9 {a b u v:List Nat}{r q s:List Nat}(h:a.Perm (u++r))(h':b.Perm (v++r))(k:u.Perm (s++q)):a.Perm (s++(q++r)):=by
 refine h.trans ?_;rw [← bg];exact k.append_right r
theorem Od:∀ (p:List Nat) (t u v t':T An),cR t p=some u->c8 t p v=some t'->∃ rest,t.blk.Perm (u.blk++rest)∧t'.blk.Perm (v.blk++rest)
 | [],t,u,v,t',h,k=>by
   simp only [cR,aa] at h;subst h;simp only [c8,aa] at k;subst k;exact ⟨[],by simp,by simp⟩
 | i::r,t,u,v,t',h,k=>by
   rcases J9 h k with ⟨l,x,w,ht,hl,h1,h2,rfl⟩ | ⟨a,z,l,n,x,w,rfl,hl,h1,h2,rfl⟩ | ⟨a,ks,l,x,w,rfl,hl,h1,h2,rfl⟩
   . obtain ⟨q,k1,k2⟩:=Od r x u v w h1 h2;obtain ⟨rest,k3,k4⟩:=F5 w hl
     have:t.blk=T.b4 l:=by
      rcases ht with rfl | ⟨vs,rfl,rfl⟩
      . rfl
      . rw [F4];rfl
     rw [this,Oc];exact ⟨q++rest,H9 k3 k4 k1,H9 k4 k3 k2⟩
   . obtain ⟨q,k1,k2⟩:=Od r x u v w h1 h2;obtain ⟨rest,k3,k4⟩:=F5 w hl;simp only [T.blk];refine ⟨a.b.toList++(q++rest),?_,?_⟩
     . refine ((H9 k3 k4 k1).append_left _).trans ?_;rw [← bg,← bg u.blk];exact dq.append_right _
     . refine ((H9 k4 k3 k2).append_left _).trans ?_;rw [← bg,← bg v.blk];exact dq.append_right _
   . obtain ⟨q,k1,k2⟩:=Od r x u v w h1 h2;obtain ⟨rest,k3,k4⟩:=F5 w hl;simp only [T.blk];refine ⟨a.b.toList++(q++rest),?_,?_⟩
     . refine ((H9 k3 k4 k1).append_left _).trans ?_;rw [← bg,← bg u.blk];exact dq.append_right _
     . refine ((H9 k4 k3 k2).append_left _).trans ?_;rw [← bg,← bg v.blk];exact dq.append_right _
theorem Oe {n:di}:∀ {l:List (T An)} {i:Nat} {y:T An},T.j9 n l->y.st n->T.j9 n (l.set i y)
 | [],i,y,h,_=>by simpa using h
 | x::r,0,y,h,k=>by simp only [dR,T.j9] at h ⊢;exact ⟨k,h.2⟩
 | x::r,i+1,y,h,k=>by simp only [ev,T.j9] at h ⊢;exact ⟨h.1,Oe h.2 k⟩
theorem Of {n:di}(vs:List PV):T.j9 n (vs.map T.p):=by
 induction vs with
 | nil=>trivial
 | cons x r ih=>exact ⟨trivial,ih⟩
theorem R3 {n:di}{l:List (T An)}(h:T.j9 n l):(j2 l).st n:=by
 rcases Dh l with e | ⟨vs,rfl,e⟩<;>rw [e]
 . exact h
 . trivial
theorem Ia {n:di}:∀ (p:List Nat) (t u v t':T An),cR t p=some u->c8 t p v=some t'->t.st n->v.st n->t'.st n
 | [],t,u,v,t',h,k,_,kv=>by
   simp only [c8,aa] at k;subst k;exact kv
 | i::r,t,u,v,t',h,k,kt,kv=>by
   rcases J9 h k with ⟨l,x,w,ht,hl,h1,h2,rfl⟩ | ⟨a,z,l,n,x,w,rfl,hl,h1,h2,rfl⟩ | ⟨a,ks,l,x,w,rfl,hl,h1,h2,rfl⟩
   . have:T.j9 n l:=by
      rcases ht with rfl | ⟨vs,rfl,rfl⟩
      . exact kt
      . exact Of vs
     exact R3 (Oe this (Ia r x u v w h1 h2 (T.qh this hl) kv))
   . simp only [T.st] at kt ⊢;exact ⟨kt.1,Oe kt.2 (Ia r x u v w h1 h2 (T.qh kt.2 hl) kv)⟩
   . simp only [T.st] at kt ⊢;exact kt
def fE {α:Type}(t:T α)(q:List Nat):Option (α×Option Nat) :=
 match cR t q with
 | some (.vec a z _ _)=>some (a,some z)
 | some (.mp a _ _)=>some (a,none)
 | _=>none
theorem Ka {α:Type}(l:List (T α))(i:Nat)(r:List Nat):fE (.agg l) (i::r)=(l[i]?).bind λt=>fE t r:=by
 simp only [fE,cR];cases l[i]? <;> rfl
theorem R4 {α:Type}(l:List (T α))(i:Nat)(r:List Nat):fE (j2 l) (i::r)=(l[i]?).bind λt=>fE t r:=by
 rw [← Ka];simp only [fE,YK]
theorem Di {α:Type}(a:α)(z:Nat)(l:List (T α))(n i:Nat)(r:List Nat):fE (.vec a z l n) (i::r)=(l[i]?).bind λt=>fE t r:=by
 simp only [fE,cR];cases l[i]? <;> rfl
theorem R5 {α:Type}(a:α)(ks:List PV)(l:List (T α))(i:Nat)(r:List Nat):fE (.mp a ks l) (i::r)=none:=by
 simp only [fE,cR]
theorem R6 {α:Type}(l:List (T α)):fE (j2 l) []=none:=by
 rcases Dh l with e | ⟨vs,rfl,e⟩<;>rw [e]<;>rfl
theorem R7 {α:Type}{l:List (T α)}{i:Nat}{x w:T α}(hl:l[i]?=some x){j:Nat}{q:List Nat}{y:α×Option Nat}
 (h:((l.set i w)[j]?).bind (λt=>fE t q)=some y):(l[j]?).bind (λt=>fE t q)=some y∨(j=i∧fE w q=some y):=by
 rw [dD] at h;split at h
 . rename_i gM;subst gM;split at h
   . exact .inr ⟨rfl,h⟩
   . simp at h
 . exact .inl h
theorem Og {α:Type}:∀ (p:List Nat) (t u v t':T α),cR t p=some u->c8 t p v=some t'->∀ q y,fE t' q=some y->fE t q=some y∨∃ r,q=p++r∧fE v r=some y
 | [],t,u,v,t',h,k,q,y,hq=>by
   simp only [c8,aa] at k;subst k;exact .inr ⟨q,rfl,hq⟩
 | i::r,t,u,v,t',h,k,q,y,hq=>by
   rcases J9 h k with ⟨l,x,w,ht,hl,h1,h2,rfl⟩ | ⟨a,z,l,n,x,w,rfl,hl,h1,h2,rfl⟩ | ⟨a,ks,l,x,w,rfl,hl,h1,h2,rfl⟩
   . cases q with
     | nil=>rw [R6] at hq;cases hq
     | cons j q =>
       rw [R4] at hq;have Ib:fE t (j::q)=(l[j]?).bind λt=>fE t q:=by
        rcases ht with rfl | ⟨vs,rfl,rfl⟩
        . exact Ka l j q
        . rw [← Ka];simp only [fE,J8]
       rw [Ib];rcases R7 hl hq with h3 | ⟨rfl,h3⟩
       . exact .inl h3
       . rcases Og r x u v w h1 h2 q y h3 with h4 | ⟨s,rfl,h4⟩
         . exact .inl (by rw [hl];exact h4)
         . exact .inr ⟨s,rfl,h4⟩
   . cases q with
     | nil=>exact .inl hq
     | cons j q =>
       rw [Di] at hq ⊢;rcases R7 hl hq with h3 | ⟨rfl,h3⟩
       . exact .inl h3
       . rcases Og r x u v w h1 h2 q y h3 with h4 | ⟨s,rfl,h4⟩
         . exact .inl (by rw [hl];exact h4)
         . exact .inr ⟨s,rfl,h4⟩
   . cases q with
     | nil=>exact .inl hq
     | cons j q =>
       rw [R5] at hq;cases hq
end Go.Mid
namespace Go.Mid
open Go.RowKit
theorem YM (w:World)(a:Addr)(v:Value){b:Nat}(h:b≠a.block):(w.setCell a v).heap[b]?=w.heap[b]?:=by
 simp [tX,kJ,dv h]
theorem yC {b b':Nat}(h:b'≠b):∀ (vs:List Value) (o:Nat) (w:World),(w.setCells b o vs).heap[b']?=w.heap[b']?
 | [],_,_=>rfl
 | v::r,o,w=>by rw [ma,yC h r,YM _ _ _ h]
theorem zi (b:Nat):∀ (vs:List Value) (o:Nat) (w:World),(w.setCells b o vs).heap.size=w.heap.size∧(w.setCells b o vs).os=w.os∧(w.setCells b o vs).tape=w.tape∧(w.setCells b o vs).output=w.output∧w.drawn<=(w.setCells b o vs).drawn
 | [],_,_=>⟨rfl,rfl,rfl,rfl,ay _⟩
 | v::r,o,w=>by
   have:=zi b r (o+1) (w.setCell ⟨b,o,none⟩ v)
   rw [ma];exact ⟨this.1.trans (World.size_setCell _ _ _),this.2.1,this.2.2.1,this.2.2.2⟩
theorem lX.setCell {w:World}{a:Addr}{v:Value}{b n:Nat}(h:lX w b n):lX (w.setCell a v) b n:=by
 by_cases e:b=a.block
 . subst e;obtain ⟨c,ty,h1,h2⟩:=h;simp only [lX,tX,kJ,if_true,h1,ak];refine ⟨_,ty,rfl,?_⟩;split<;>simp [h2]
 . exact h.frame (YM w a v e)
theorem lX.setCells {b b' n:Nat}:∀ (vs:List Value) (o:Nat) (w:World),lX w b' n->lX (w.setCells b o vs) b' n
 | [],_,_,h=>h
 | v::r,o,w,h=>by rw [ma];exact lX.setCells r (o+1) _ h.setCell
theorem lX.cell {w:World}{b n j:Nat}(h:lX w b n)(hj:j<n):(w.cell? ⟨b,j,none⟩).isSome=true∧w.frozen? ⟨b,j,none⟩=false:=by
 obtain ⟨c,ty,h1,h2⟩:=h;simp [mL,World.frozen?,h1,h2,hj]
structure Wr (w w':World)(b o n:Nat)(X:List Nat):Prop where
 other:∀ b',b'<w.heap.size->b'≠b->b'∉X->w'.heap[b']?=w.heap[b']?
 blk:∀ m,lX w b m->lX w' b m
 cell:∀ j,(j<o∨o+n<=j)->w'.cell? ⟨b,j,none⟩=w.cell? ⟨b,j,none⟩
theorem Row.lt {w:World}{b o:Nat}{v:Value}{cs:List Value}(h:Row w b o (v::cs)):b<w.heap.size:=by
 have:=h 0 v rfl
 simp only [mL] at this;split at this
 . rename_i h1;exact (c7.1 h1).1
 . cases this
theorem lX.lt {w:World}{b n:Nat}(h:lX w b n):b<w.heap.size:=by
 obtain ⟨c,ty,h1,_⟩:=h;exact (c7.1 h1).1
theorem Row.iT {w w':World}{b o:Nat}{cs:List Value}(h:∀ j,o<=j->j<o+cs.length->w'.cell? ⟨b,j,none⟩=w.cell? ⟨b,j,none⟩)(r:Row w b o cs):Row w' b o cs:=by
 intro j v hj
 have:=(aJ.1 hj).1
 rw [h (o+j) (by omega) (by omega)]
 exact r j v hj
section
variable {w w':World}{A A':Nat->Prop}{E E':dP An}{nx nx':di}
mutual
theorem TAt.iT (f:Fr w w' A A' E E' nx nx'):∀ {t:T An} {b o:Nat},(∀ j,o<=j->j<o+t.cs->w'.cell? ⟨b,j,none⟩=w.cell? ⟨b,j,none⟩)->(∀ x∈t.blk,w'.heap[x]?=w.heap[x]?)->
 TAt w A E nx t b o->TAt w' A' E' nx' t b o
 | .p v,b,o,hb,_,h=>by
   simp only [TAt] at h ⊢;obtain ⟨cs,h1,h2⟩:=h;exact ⟨cs,h1.frame f.hA f.hw,h2.iT (by rw [h1.len];exact hb)⟩
 | .m v,b,o,hb,_,h=>by
   simp only [TAt] at h ⊢;obtain ⟨h0,Db,val,h1,h2⟩:=h;exact ⟨h0,Db,val,h1.frame f,h2.iT (by simpa only [T.cs,h0,dN] using hb)⟩
 | .agg l,b,o,hb,hk,h=>by
   simp only [TAt] at h ⊢;exact cD.iT f hb (by simpa only [T.blk] using hk) h
 | .vec an z l n,b,o,hb,hk,h=>by
   have kE:∀ {a:Option Addr} {cap:Nat},Row w b o [.slice a n cap]->Row w' b o [.slice a n cap]:=λr=>r.iT (by simpa only [T.cs,dN] using hb)
   simp only [TAt] at h ⊢;obtain ⟨a,cap,h1,h2,h3,h4⟩:=h;refine ⟨a,cap,kE h1,h2,h3,?_⟩;cases js:an.b with
   | none=>simpa only [js] using h4
   | some b' =>
     simp only [js] at h4 ⊢;simp only [T.blk,js,cg,aS,a7,aG] at hk;exact ⟨h4.1.frame (hk b' (.inl rfl)),h4.2.1,h4.2.2.1,cD.frame f (hk b' (.inl rfl)) (λx hx=>hk x (.inr hx)) h4.2.2.2⟩
 | .mp ..,_,_,_,_,h=>by simp only [TAt] at h
 | .hole n,b,o,hb,_,h=>by
   simp only [TAt] at h ⊢;intro j hj;rw [hb (o+j) (by omega) (by simp only [T.cs];omega)];exact h j hj
theorem cD.iT (f:Fr w w' A A' E E' nx nx'):∀ {l:List (T An)} {b o:Nat},(∀ j,o<=j->j<o+T.db l->w'.cell? ⟨b,j,none⟩=w.cell? ⟨b,j,none⟩)->(∀ x∈T.b4 l,w'.heap[x]?=w.heap[x]?)->
 cD w A E nx l b o->cD w' A' E' nx' l b o
 | [],b,o,_,_,h=>by simp only [cD]
 | t::r,b,o,hb,hk,h=>by
   simp only [cD] at h ⊢;simp only [T.b4,az] at hk;simp only [T.db] at hb;exact ⟨TAt.iT f (λj h1 h2=>hb j h1 (by omega)) (λx hx=>hk x (.inl hx)) h.1,cD.iT f (λj h1 h2=>hb j (by omega) (by omega)) (λx hx=>hk x (.inr hx)) h.2⟩
end
end
def kW:T An->List Nat->Nat->Nat->Option (Nat×Nat)
 | _,[],b,o=>some (b,o)
 | .p (.agg l),i::r,b,o=>match l[i]? with | some v=>kW (.p v) r b (o+PV.db (l.take i)) | none=>none
 | .agg l,i::r,b,o=>match l[i]? with | some t=>kW t r b (o+T.db (l.take i)) | none=>none
 | .vec an z l _,i::r,_,_=>match an.b,l[i]? with | some b',some t=>kW t r b' (i*z) | _,_=>none
 | _,_::_,_,_=>none
def rW:Option (Obj An)->List Nat->Option (Nat×Nat)
 | some (.cell an t),p=>match an.b with | some b=>kW t p b 0 | none=>none
 | some (.vec an z l),i::r=>match an.b,l[i]? with | some b',some t=>kW t r b' (i*z) | _,_=>none
 | _,_=>none
theorem R8 (l:List PV)(i:Nat)(r:List Nat)(b o:Nat):kW (.p (.agg l)) (i::r) b o=kW (.agg (l.map .p)) (i::r) b o:=by
 simp only [kW,aL,← bP,EI];cases l[i]? <;> rfl
theorem Oh (b:Nat):∀ (p:List Nat) (t u:T An) (o o':Nat),lT t p o=some (u,o')->kW t p b o=some (b,o')
 | [],t,u,o,o',h=>by
   simp only [lT,aa,ae] at h;obtain ⟨rfl,rfl⟩:=h;simp [kW]
 | i::r,.p v,u,o,o',h=>by
   cases v<;>simp only [lT,reduceCtorEq] at h;simp only [kW];split at h
   . rename_i v hv;simp only [hv];exact Oh b r _ u _ o' h
   . cases h
 | i::r,.m v,u,o,o',h=>by simp [lT] at h
 | i::r,.agg l,u,o,o',h=>by
   simp only [lT] at h;simp only [kW];split at h
   . rename_i v hv;simp only [hv];exact Oh b r _ u _ o' h
   . cases h
 | i::r,.vec a z l n,u,o,o',h=>by simp [lT] at h
 | i::r,.mp a ks l,u,o,o',h=>by simp [lT] at h
 | i::r,.hole n,u,o,o',h=>by simp [lT] at h
theorem Kb:∀ (p q:List Nat) (t u:T An) (b o b' o':Nat),cR t p=some u->kW t p b o=some (b',o')->kW t (p++q) b o=kW u q b' o'
 | [],q,t,u,b,o,b',o',h,k=>by
   simp only [cR,aa] at h;subst h;simp only [kW,aa,ae] at k;obtain ⟨rfl,rfl⟩:=k;rfl
 | i::r,q,.p v,u,b,o,b',o',h,k=>by
   cases v<;>simp only [cR,reduceCtorEq] at h;simp only [kW,aS] at k ⊢;split at h
   . rename_i v hv;simp only [hv] at k ⊢;exact Kb r q _ u _ _ _ _ h k
   . cases h
 | i::r,q,.m v,u,b,o,b',o',h,_=>by simp [cR] at h
 | i::r,q,.agg l,u,b,o,b',o',h,k=>by
   simp only [cR] at h;simp only [kW,aS] at k ⊢;split at h
   . rename_i v hv;simp only [hv] at k ⊢;exact Kb r q _ u _ _ _ _ h k
   . cases h
 | i::r,q,.vec a z l n,u,b,o,b',o',h,k=>by
   simp only [cR] at h;simp only [kW,aS] at k ⊢;split at h
   . rename_i v hv;cases hb:a.b with
     | none=>simp [hb] at k
     | some b0=>simp only [hv,hb] at k ⊢;exact Kb r q _ u _ _ _ _ h k
   . cases h
 | i::r,q,.mp a ks l,u,b,o,b',o',h,k=>by simp [kW] at k
 | i::r,q,.hole n,u,b,o,b',o',h,_=>by simp [cR] at h
section
variable {w:World}{A:Nat->Prop}{E:dP An}{nx:di}
theorem sy {vs:List PV}{b o:Nat}:cD w A E nx (vs.map .p) b o↔TAt w A E nx (.p (.agg vs)) b o:=by
 induction vs generalizing o with
 | nil=>simp only [cr,cD,TAt,dU,cK,true_iff];exact ⟨[],rfl,Row.nil⟩
 | cons x r ih =>
   simp only [aF,cD,ih];simp only [TAt,dU,cK];constructor
   . rintro ⟨⟨c,h1,h2⟩,d,h3,h4⟩;refine ⟨c++d,⟨c,d,rfl,h1,h3⟩,Row.append.2 ⟨h2,?_⟩⟩;rw [h1.len];exact h4
   . rintro ⟨_,⟨c,d,rfl,h1,h3⟩,h2⟩;have h2:=Row.append.1 h2;refine ⟨⟨c,h1,h2.1⟩,d,h3,?_⟩
     have:=h2.2
     rw [h1.len] at this;exact this
theorem C6e {l:List (T An)}{b o:Nat}:TAt w A E nx (j2 l) b o↔cD w A E nx l b o:=by
 rcases Dh l with e | ⟨vs,rfl,e⟩<;>rw [e]
 . simp only [TAt]
 . exact sy.symm
theorem uI {l:List (T An)}{i:Nat}{t:T An}(h:l[i]?=some t){b:Nat}(hb:b∈t.blk):b∈T.b4 l:=by
 induction l generalizing i with
 | nil=>simp at h
 | cons x q ih =>
   cases i with
   | zero=>simp at h;subst h;simp [T.b4,hb]
   | succ i=>simp at h;simp [T.b4,ih h]
theorem Dj:∀ (p:List Nat) (t u:T An) (b o:Nat),cR t p=some u->TAt w A E nx t b o->
 ∃ b' o',kW t p b o=some (b',o')∧TAt w A E nx u b' o'∧((b'=b∧o<=o'∧o'+u.cs<=o+t.cs)∨b'∈t.blk)∧(∀ x∈u.blk,x∈t.blk)∧((b::t.blk).Nodup->b'∉u.blk)
 | [],t,u,b,o,h,k=>by
   simp only [cR,aa] at h;subst h;exact ⟨b,o,by simp [kW],k,.inl ⟨rfl,ay _,ay _⟩,λ_ h=>h,λhn=>(bZ.1 hn).1⟩
 | i::r,.p v,u,b,o,h,k=>by
   cases v<;>simp only [cR,reduceCtorEq] at h;rename_i l;split at h
   . rename_i v hv;have k':=(sy.2 k).get (i:=i) (t:=.p v) (by simp [hv])
     rw [← bP,EI] at k';obtain ⟨b',o',h0,h1,h2,h3,h4⟩:=Dj r (.p v) u b _ h k';refine ⟨b',o',by simpa only [kW,hv] using h0,h1,?_,λx hx=>by have:=h3 x hx;simp [T.blk] at this,λ_ hx=>by have:=h3 _ hx;simp [T.blk] at this⟩
     rcases h2 with ⟨h5,h6,h7⟩ | h5
     . refine .inl ⟨h5,by omega,?_⟩
       have:PV.db (l.take i)+v.cs<=PV.db l:=by
        clear h k k' h1 h4 h7 h6 h0
        induction l generalizing i with
        | nil=>simp at hv
        | cons y q ih =>
          cases i with
          | zero=>simp at hv;subst hv;simp [PV.db]
          | succ i=>simp at hv;have:=ih i hv;simp [PV.db];omega
       simp only [T.cs,PV.cs] at h7 ⊢;omega
     . simp [T.blk] at h5
   . cases h
 | i::r,.m v,u,b,o,h,_=>by simp [cR] at h
 | i::r,.agg l,u,b,o,h,k=>by
   simp only [cR] at h;split at h
   . rename_i t ht;simp only [TAt] at k;obtain ⟨b',o',h0,h1,h2,h3,h4⟩:=Dj r t u b _ h (k.get ht);refine ⟨b',o',by simpa only [kW,ht] using h0,h1,?_,λx hx=>uI ht (h3 x hx),λhn=>h4 ?_⟩
     . rcases h2 with ⟨h5,h6,h7⟩ | h5
       . refine .inl ⟨h5,by omega,?_⟩
         have:T.db (l.take i)+t.cs<=T.db l:=by
          clear h k h1 h4 h7 h6 h0
          induction l generalizing i with
          | nil=>simp at ht
          | cons y q ih =>
            cases i with
            | zero=>simp at ht;subst ht;simp [T.db]
            | succ i=>simp at ht;have:=ih i ht;simp [T.db];omega
         simp only [T.cs];omega
       . exact .inr (uI ht h5)
     . simp only [T.blk] at hn;obtain ⟨rest,h5,_⟩:=F5 t ht
       have:=(h5.cons b).nodup_iff.1 hn
       exact (aT.1 (by simpa using this)).1
   . cases h
 | i::r,.vec a z l n,u,b,o,h,k=>by
   simp only [cR] at h;split at h
   . rename_i t ht;simp only [TAt] at k;obtain ⟨p,cap,_,_,_,k4⟩:=k;cases hb:a.b with
     | none=>simp only [hb] at k4;rw [k4.1] at ht;simp at ht
     | some b0 =>
       simp only [hb] at k4;obtain ⟨b',o',h0,h1,h2,h3,h4⟩:=Dj r t u b0 _ h (k4.2.2.2.elem k4.2.2.1 ht);refine ⟨b',o',by simpa only [kW,ht,hb] using h0,h1,.inr ?_,λx hx=>?_,λhn=>h4 ?_⟩
       . simp only [T.blk,hb,cg,aS,a7,aG];rcases h2 with ⟨h5,_⟩ | h5
         . exact .inl h5
         . exact .inr (uI ht h5)
       . simp only [T.blk,hb,cg,aS,a7,aG];exact .inr (uI ht (h3 x hx))
       . simp only [T.blk,hb,cg,aS,a7] at hn;obtain ⟨rest,h5,_⟩:=F5 t ht
         have:=((h5.cons b0).nodup_iff).1 (bZ.1 hn).2
         exact (aT.1 (by simpa using this)).1
   . cases h
 | i::r,.mp a ks l,u,b,o,_,k=>by simp only [TAt] at k
 | i::r,.hole n,u,b,o,h,_=>by simp [cR] at h
end
end Go.Mid
namespace Go.Mid
open Go.RowKit
section
variable {w:World}{A:Nat->Prop}{E:dP An}{nx:di}
theorem Dk:∀ {l:List (T An)} {b o:Nat},cD w A E nx l b o↔∀ (j:Nat) (y:T An),l[j]?=some y->TAt w A E nx y b (o+T.db (l.take j))
 | [],b,o=>by simp [cD]
 | t::r,b,o=>by
   simp only [cD,Dk (l:=r)];constructor
   . rintro ⟨h1,h2⟩ j y hj;cases j with
     | zero=>simp at hj;subst hj;simpa [T.db] using h1
     | succ j =>
       simp at hj
       have:=h2 j y hj
       rwa [bU,T.db,← bV]
   . intro h;refine ⟨by simpa [T.db] using h 0 t rfl,λj y hj=>?_⟩
     have:=h (j+1) y (by simpa using hj)
     rwa [bU,T.db,← bV] at this
theorem R9 {α:Type}:∀ {l:List (T α)} {i j:Nat} {x:T α},l[i]?=some x->i<j->T.db (l.take i)+x.cs<=T.db (l.take j)
 | [],i,j,x,h,_=>by simp at h
 | t::r,0,j+1,x,h,_=>by simp at h;subst h;simp [T.db]
 | t::r,i+1,j+1,x,h,k=>by
   simp at h
   have:=R9 h (show i<j by omega)
   simp [T.db];omega
theorem Oi {α:Type}{l:List (T α)}{i j:Nat}{x y:T α}(h:l[i]?=some x)(k:y.cs=x.cs):T.db ((l.set i y).take j)=T.db (l.take j):=by
 by_cases gM:i<j
 . have:(l.set i y).take j=(l.take j).set i y:=by rw [List.take_set]
   rw [this];exact Oa (by rw [List.getElem?_take_of_lt gM];exact h) k
 . rw [List.take_set_of_le (by omega)]
theorem YN:∀ {l:List (T An)} {i j:Nat} {x y:T An},(T.b4 l).Nodup->l[i]?=some x->l[j]?=some y->j≠i->∀ b∈x.blk,b∉y.blk
 | [],i,j,x,y,_,h,_,_=>by simp at h
 | t::r,0,0,x,y,_,_,_,h=>by simp at h
 | t::r,0,j+1,x,y,hn,h,k,_=>by
   simp at h k;subst h;intro b hb js;simp only [T.b4] at hn;exact (aT.1 hn).2.2 b hb b (uI k js) rfl
 | t::r,i+1,0,x,y,hn,h,k,_=>by
   simp at h k;subst k;intro b hb js;simp only [T.b4] at hn;exact (aT.1 hn).2.2 b js b (uI h hb) rfl
 | t::r,i+1,j+1,x,y,hn,h,k,gM=>by
   simp at h k;simp only [T.b4] at hn;exact YN (aT.1 hn).2.1 h k (by omega)
theorem Oj {l:List (T An)}{i:Nat}{x:T An}{b:Nat}(hn:(b::T.b4 l).Nodup)(h:l[i]?=some x):(b::x.blk).Nodup:=by
 obtain ⟨rest,h5,_⟩:=F5 x h
 have:=(h5.cons b).nodup_iff.1 hn
 exact (aT.1 (by simpa using this:((b::x.blk)++rest).Nodup)).1
end
section
variable {w w':World}{A A':Nat->Prop}{E E':dP An}{nx nx':di}
theorem Sa (f:Fr w w' A A' E E' nx nx'){l:List (T An)}{i b o b1 o1:Nat}{x x' u:T An}{r:List Nat}(te:cD w A E nx l b o)(hl:l[i]?=some x)
 (hnd:(b::T.b4 l).Nodup) (hsz:∀ y∈b::T.b4 l,y<w.heap.size) (dK:cR x r=some u) (jC:kW x r b (o+T.db (l.take i))=some (b1,o1))
 (W:Wr w w' b1 o1 u.cs u.blk) (J1:TAt w' A' E' nx' x' b (o+T.db (l.take i))) (eV:x'.cs=x.cs):cD w' A' E' nx' (l.set i x') b o:=by
 rw [Dk];intro j y hj;rw [Oi hl eV];rw [dD] at hj;split at hj
 . rename_i gM;subst gM;split at hj
   . cases hj;exact J1
   . cases hj
 . rename_i gM;have hy:=Dk.1 te j y hj;have hx:=Dk.1 te i x hl;obtain ⟨b',o',h0,h1,h2,h3,h4⟩:=Dj r x u b _ dK hx;rw [h0] at jC;cases jC;have YO:=YN (bZ.1 hnd).2 hl hj (dv gM);have vn:=(bZ.1 hnd).1;refine TAt.iT f (λk Ic YP=>?_) (λz hz=>?_) hy
   . rcases h2 with ⟨rfl,h5,h6⟩ | h5
     . refine W.cell k ?_;by_cases eC:j<i
       . have:=R9 hj eC;omega
       . have:=R9 hl (show i<j by omega);omega
     . refine NY (W.other b (hsz b (by simp)) ?_ ?_) k
       . rintro rfl;exact vn (uI hl h5)
       . intro hb;exact vn (uI hl (h3 b hb))
   . refine W.other z (hsz z (by simp [uI hj hz])) ?_ ?_
     . rintro rfl;rcases h2 with ⟨rfl,_⟩ | h5
       . exact vn (uI hj hz)
       . exact YO _ h5 hz
     . intro Co;exact YO z (h3 z Co) hz
theorem Ol (f:Fr w w' A A' E E' nx nx'):∀ (p:List Nat) (t u v t':T An) (b o b1 o1:Nat),cR t p=some u->c8 t p v=some t'->kW t p b o=some (b1,o1)->TAt w A E nx t b o->
 (b::t.blk).Nodup->(∀ y∈b::t.blk,y<w.heap.size)->v.cs=u.cs->Wr w w' b1 o1 u.cs u.blk->TAt w' A' E' nx' v b1 o1->TAt w' A' E' nx' t' b o
 | [],t,u,v,t',b,o,b1,o1,h,k,hl,_,_,_,_,_,hv=>by
   simp only [c8,aa] at k;subst k;simp only [kW,aa,ae] at hl;obtain ⟨rfl,rfl⟩:=hl;exact hv
 | i::r,t,u,v,t',b,o,b1,o1,h,k,jC,hk,hnd,hsz,eV,W,hv=>by
   rcases J9 h k with ⟨l,x,y,ht,hl,h1,h2,rfl⟩ | ⟨a,z,l,n,x,y,rfl,hl,h1,h2,rfl⟩ | ⟨a,ks,l,x,y,rfl,hl,h1,h2,rfl⟩
   . have te:cD w A E nx l b o:=by
      rcases ht with rfl | ⟨vs,rfl,rfl⟩
      . simpa only [TAt] using hk
      . exact sy.2 hk
     have hb:t.blk=T.b4 l:=by
      rcases ht with rfl | ⟨vs,rfl,rfl⟩
      . rfl
      . rw [F4];rfl
     have qj:kW x r b (o+T.db (l.take i))=some (b1,o1):=by
      have:kW (.agg l) (i::r) b o=some (b1,o1):=by
       rcases ht with rfl | ⟨vs,rfl,rfl⟩
       . exact jC
       . rw [← R8];exact jC
      simpa only [kW,hl] using this
     rw [hb] at hnd hsz;have hx:=Ol f r x u v y b _ b1 o1 h1 h2 qj (Dk.1 te i x hl) (Oj hnd hl) (λy hy=>hsz y (by
      rcases aG.1 hy with rfl | hy
      . simp
      . simp [uI hl hy])) eV W hv
     exact C6e.2 (Sa f te hl hnd hsz h1 qj W hx (Cu r x u v y h1 h2 eV))
   . simp only [TAt] at hk ⊢;obtain ⟨p,cap,k1,k2,k3,k4⟩:=hk;cases hb:a.b with
     | none=>simp only [hb] at k4;rw [k4.1] at hl;simp at hl
     | some b0 =>
       simp only [hb] at k4 ⊢;simp only [T.blk,hb,cg,aS,a7] at hnd hsz;have tD:=(bZ.1 hnd).2;have Kc:∀ y∈b0::T.b4 l,y<w.heap.size:=λy hy=>hsz y (by simp only [aG] at hy ⊢;exact .inr hy)
       have e:i*z=0+T.db (l.take i):=by rw [Cq k4.2.2.1 (fH (aJ.1 hl).1)];omega
       have qj:kW x r b0 (0+T.db (l.take i))=some (b1,o1):=by
        rw [← e];simpa only [kW,hl,hb] using jC
       have hx:=Ol f r x u v y b0 _ b1 o1 h1 h2 qj (Dk.1 k4.2.2.2 i x hl) (Oj tD hl) (λy hy=>Kc y (by
        rcases aG.1 hy with rfl | hy
        . simp
        . simp [uI hl hy])) eV W hv
       have Kd:=Cu r x u v y h1 h2 eV;obtain ⟨b',o',h0,_,h5,h3,h4⟩:=Dj r x u b0 _ h1 (Dk.1 k4.2.2.2 i x hl);rw [h0] at qj;cases qj;have vn:=(bZ.1 hnd).1;have ot:b1=b0∨b1∈T.b4 l:=h5.imp (·.1) (uI hl);have hbh:w'.heap[b]?=w.heap[b]?:=by
        refine W.other b (hsz b (by simp)) ?_ ?_
        . rintro rfl;exact vn (aG.2 ot)
        . intro hb;exact vn (by simp [uI hl (h3 b hb)])
       refine ⟨p,cap,k1.frame hbh,by rw [iy];exact k2,k3,?_,by rw [iy];exact k4.2.1,?_,Sa f k4.2.2.2 hl tD Kc h1 h0 W hx Kd⟩
       . by_cases kE:b0=b1
         . subst kE;exact W.blk _ k4.1
         . refine k4.1.frame (W.other b0 (hsz b0 (by simp)) kE ?_)
           intro hb;exact (bZ.1 tD).1 (uI hl (h3 b0 hb))
       . intro q hq;rcases bx hq with hq | rfl
         . exact k4.2.2.1 q hq
         . rw [Kd];exact k4.2.2.1 x (bH hl)
   . simp only [TAt] at hk
end
theorem Dl {α:Type}(a:α)(t:T α)(p:List Nat):ef (some (.cell a t)) p=cR t p:=by cases p<;>rfl
theorem C4C {α:Type}(ob:Option (Obj α))(q:List Nat):fc ob (some q)=match ob,q with
 | some (.cell _ t),q=>fE t q
 | some (.vec a z l),q=>fE (.vec a z l 0) q
 | some (.mp a ks l),q=>fE (.mp a ks l) q
 | _,_=>none:=by
 cases ob with
 | none=>cases q<;>rfl
 | some o =>
   cases o with
   | cell a t =>
     simp only [fc,fE,Dl];cases cR t q with
     | none=>rfl
     | some x=>cases x<;>rfl
   | vec a z l =>
     cases q with
     | nil=>rfl
     | cons i r =>
       simp only [fc,fE,ef,cR];cases l[i]? with
       | none=>rfl
       | some t =>
         simp only;cases cR t r with
         | none=>rfl
         | some x=>cases x<;>rfl
   | mp a ks l=>cases q<;>rfl
   | gone=>cases q<;>rfl
def Obj.qk {α:Type}:Obj α->T α
 | .cell _ t=>t
 | .vec a z l=>.vec a z l 0
 | .mp a ks l=>.mp a ks l
 | .gone=>.hole 0
theorem uJ {α:Type}(o:Obj α)(q:List Nat):fc (some o) (some q)=fE o.qk q:=by
 rw [C4C];cases o<;>try rfl
 cases q<;>rfl
theorem Ie {α:Type}{o o':Obj α}{p:List Nat}{u v:T α}(h:ef (some o) p=some u)(k:put (some o) p v=some o') :
 (∃ a t t',o=.cell a t∧o'=.cell a t'∧cR t p=some u∧c8 t p v=some t') ∨
 (∃ a z l l' i r x y,o=.vec a z l∧o'=.vec a z l'∧p=i::r∧l[i]?=some x∧cR x r=some u∧c8 x r v=some y∧l'=l.set i y) ∨
 (∃ a ks l l' i r x y,o=.mp a ks l∧o'=.mp a ks l'∧p=i::r∧l[i]?=some x∧cR x r=some u∧c8 x r v=some y∧l'=l.set i y):=by
 cases o with
 | cell a t =>
   rw [Dl] at h;have e:put (some (.cell a t)) p v=match c8 t p v with | some w=>some (.cell a w) | none=>none:=by cases p<;>rfl
   rw [e] at k;split at k
   . rename_i w hw;cases k;exact .inl ⟨a,t,w,rfl,rfl,h,hw⟩
   . cases k
 | vec a z l =>
   cases p with
   | nil=>simp [ef] at h
   | cons i r =>
     simp only [ef] at h;simp only [put] at k;cases hl:l[i]? with
     | none=>simp [hl] at h
     | some x =>
       simp only [hl] at h k;split at k
       . rename_i y hy;cases k;exact .inr (.inl ⟨a,z,l,_,i,r,x,y,rfl,rfl,rfl,hl,h,hy,rfl⟩)
       . cases k
 | mp a ks l=>cases p<;>simp [ef] at h
 | gone=>cases p<;>simp [ef] at h
theorem Sb {α:Type}{o o':Obj α}{p:List Nat}{u v:T α}(h:ef (some o) p=some u)(k:put (some o) p v=some o') :
 cR o.qk p=some u∧c8 o.qk p v=some o'.qk:=by
 rcases Ie h k with ⟨a,t,t',rfl,rfl,h1,h2⟩ | ⟨a,z,l,l',i,r,x,y,rfl,rfl,rfl,hl,h1,h2,rfl⟩ | ⟨a,ks,l,l',i,r,x,y,rfl,rfl,rfl,hl,h1,h2,rfl⟩
 . exact ⟨h1,h2⟩
 . exact ⟨by simp only [Obj.qk,cR,hl,h1],by simp only [Obj.qk,c8,hl,h2]⟩
 . simp [ef] at h
theorem F6 {o o':Obj An}{p:List Nat}{u v:T An}(h:ef (some o) p=some u)(k:put (some o) p v=some o') :
 ∃ rest,o.blk.Perm (u.blk++rest)∧o'.blk.Perm (v.blk++rest):=by
 obtain ⟨h1,h2⟩:=Sb h k;obtain ⟨rest,h3,h4⟩:=Od p _ _ _ _ h1 h2;rcases Ie h k with ⟨a,t,t',rfl,rfl,_,_⟩ | ⟨a,z,l,l',i,r,x,y,rfl,rfl,rfl,hl,_,_,rfl⟩ | ⟨a,ks,l,l',i,r,x,y,rfl,rfl,rfl,hl,_,_,rfl⟩
 . simp only [Obj.qk] at h3 h4;refine ⟨a.b.toList++rest,?_,?_⟩
   . refine (h3.append_left a.b.toList).trans ?_;rw [← bg,← bg];exact dq.append_right _
   . refine (h4.append_left a.b.toList).trans ?_;rw [← bg,← bg];exact dq.append_right _
 . exact ⟨rest,h3,h4⟩
 . exact ⟨rest,h3,h4⟩
theorem D3f {n:di}{o o':Obj An}{p:List Nat}{u v:T An}(h:ef (some o) p=some u)(k:put (some o) p v=some o')(ho:o.st n)(hv:v.st n):o'.st n:=by
 obtain ⟨h1,h2⟩:=Sb h k;rcases Ie h k with ⟨a,t,t',rfl,rfl,_,_⟩ | ⟨a,z,l,l',i,r,x,y,rfl,rfl,rfl,hl,_,_,rfl⟩ | ⟨a,ks,l,l',i,r,x,y,rfl,rfl,rfl,hl,_,_,rfl⟩
 . exact ⟨ho.1,Ia p _ _ _ _ h1 h2 ho.2 hv⟩
 . exact Ia (i::r) _ _ _ _ h1 h2 ho hv
 . exact Ia (i::r) _ _ _ _ h1 h2 ho hv
theorem YQ {α:Type}{o o':Obj α}{p:List Nat}{u v:T α}(h:ef (some o) p=some u)(k:put (some o) p v=some o'){np:Option (List Nat)}{y:α×Option Nat}
 (hy:fc (some o') np=some y):fc (some o) np=some y∨∃ r,np=some (p++r)∧fE v r=some y:=by
 obtain ⟨h1,h2⟩:=Sb h k;cases np with
 | none =>
   rcases Ie h k with ⟨a,t,t',rfl,rfl,_,_⟩ | ⟨a,z,l,l',i,r,x,y,rfl,rfl,rfl,hl,_,_,rfl⟩ | ⟨a,ks,l,l',i,r,x,y,rfl,rfl,rfl,hl,_,_,rfl⟩
   . exact .inl hy
   . simp [fc] at hy
   . simp [fc] at hy
 | some q =>
   rw [uJ] at hy ⊢;rcases Og p _ _ _ _ h1 h2 q y hy with h3 | ⟨r,rfl,h3⟩
   . exact .inl h3
   . exact .inr ⟨r,rfl,h3⟩
end Go.Mid
namespace Go.Mid
open Go.RowKit
theorem YR (l:List (T An))(i:Nat)(r:List Nat)(b o:Nat):kW (j2 l) (i::r) b o=kW (.agg l) (i::r) b o:=by
 rcases Dh l with e | ⟨vs,rfl,e⟩<;>rw [e]
 exact R8 vs i r b o
theorem Ig:∀ (p:List Nat) (t u v t':T An),cR t p=some u->c8 t p v=some t'->v.cs=u.cs->∀ q y,cR t' q=some y->
 (∃ i r,q=p++i::r∧cR v (i::r)=some y)∨∃ y',cR t q=some y'∧y'.cs=y.cs∧∀ b o,kW t' q b o=kW t q b o
 | [],t,u,v,t',h,k,e,q,y,hq=>by
   simp only [c8,aa] at k;subst k;simp only [cR,aa] at h;subst h;cases q with
   | nil=>simp only [cR,aa] at hq;subst hq;exact .inr ⟨t,by simp [cR],e.symm,λb o=>by simp [kW]⟩
   | cons i r=>exact .inl ⟨i,r,rfl,hq⟩
 | i::r,t,u,v,t',h,k,e,q,y,hq=>by
   cases q with
   | nil =>
     simp only [cR,aa] at hq;subst hq;exact .inr ⟨t,by simp [cR],(Cu _ _ _ _ _ h k e).symm,λb o=>by simp [kW]⟩
   | cons j q =>
     rcases J9 h k with ⟨l,x,w,ht,hl,h1,h2,rfl⟩ | ⟨a,z,l,n,x,w,rfl,hl,h1,h2,rfl⟩ | ⟨a,ks,l,x,w,rfl,hl,h1,h2,rfl⟩
     . have hs:cR t (j::q)=cR (.agg l) (j::q):=by
        rcases ht with rfl | ⟨vs,rfl,rfl⟩
        . rfl
        . exact J8 vs j q
       have nU:∀ b o,kW t (j::q) b o=kW (.agg l) (j::q) b o:=by
        intro b o;rcases ht with rfl | ⟨vs,rfl,rfl⟩
        . rfl
        . exact R8 vs j q b o
       have hw:=Cu _ _ _ _ _ h1 h2 e;rw [YK] at hq;simp only [cR] at hq;rw [hs];simp only [cR];cases hj:(l.set i w)[j]? with
       | none=>simp [hj] at hq
       | some y0 =>
         simp only [hj] at hq;have EJ:=hj;rw [dD] at hj;split at hj
         . rename_i gM;subst gM;split at hj
           . cases hj;rcases Ig r x u v w h1 h2 e q y hq with ⟨i',r',rfl,h3⟩ | ⟨y',h3,h4,h5⟩
             . exact .inl ⟨i',r',rfl,h3⟩
             . refine .inr ⟨y',by rw [hl];exact h3,h4,λb o=>?_⟩
               rw [YR,nU];simp only [kW,EJ,hl,Oi hl hw,h5]
           . cases hj
         . refine .inr ⟨y,by rw [hj];exact hq,rfl,λb o=>?_⟩
           rw [YR,nU];simp only [kW,EJ,hj,Oi hl hw]
     . have hw:=Cu _ _ _ _ _ h1 h2 e;simp only [cR] at hq ⊢;cases hj:(l.set i w)[j]? with
       | none=>simp [hj] at hq
       | some y0 =>
         simp only [hj] at hq;have EJ:=hj;rw [dD] at hj;split at hj
         . rename_i gM;subst gM;split at hj
           . cases hj;rcases Ig r x u v w h1 h2 e q y hq with ⟨i',r',rfl,h3⟩ | ⟨y',h3,h4,h5⟩
             . exact .inl ⟨i',r',rfl,h3⟩
             . refine .inr ⟨y',by rw [hl];exact h3,h4,λb o=>?_⟩
               simp only [kW,EJ,hl];cases a.b with
               | none=>rfl
               | some b'=>exact h5 b' _
           . cases hj
         . refine .inr ⟨y,by rw [hj];exact hq,rfl,λb o=>?_⟩
           simp only [kW,EJ,hj]
     . simp [cR] at hq
def mS (E E':dP An):Prop:=∀ id p u,ef (E' id) p=some u->∃ u',ef (E id) p=some u'∧u'.cs=u.cs∧rW (E' id) p=rW (E id) p
theorem mS.refl (E:dP An):mS E E:=λ_ _ u h=>⟨u,h,rfl,rfl⟩
theorem mS.trans {E E' AR:dP An}(h:mS E E')(k:mS E' AR):mS E AR:=λid p u hu=>by
 obtain ⟨u',h1,h2,h3⟩:=k id p u hu;obtain ⟨u'',h4,h5,h6⟩:=h id p u' h1;exact ⟨u'',h4,h5.trans h2,h3.trans h6⟩
theorem mS.gone (E:dP An)(id:Nat):mS E (cq E id (some .gone)):=by
 intro i p u hu;by_cases e:i=id
 . subst e;simp only [cq,if_true] at hu;cases p<;>simp [ef] at hu
 . simp only [cq,e,if_false] at hu ⊢;exact ⟨u,hu,rfl,trivial⟩
theorem D1M {o o':Obj An}{p:List Nat}{u:T An}{n:Nat}(hs:ef (some o) p=some u)(hp:put (some o) p (.hole n)=some o')(hc:u.cs=n){q:List Nat}{y:T An}(hq:ef (some o') q=some y) :
 ∃ y',ef (some o) q=some y'∧y'.cs=y.cs∧rW (some o') q=rW (some o) q:=by
 have hole:∀ i r,cR (.hole n:T An) (i::r)≠some y:=by intro i r h;simp [cR] at h
 rcases Ie hs hp with ⟨a,t,t',rfl,rfl,h1,h2⟩ | ⟨a,z,l,l',i,r,x,w,rfl,rfl,rfl,hx,h1,h2,rfl⟩ | ⟨a,ks,l,l',i,r,x,w,rfl,rfl,rfl,hx,h1,h2,rfl⟩
 . rw [Dl] at hq;rcases Ig p t u _ t' h1 h2 hc.symm q y hq with ⟨i,r,_,h3⟩ | ⟨y',h3,h4,h5⟩
   . exact absurd h3 (hole i r)
   . refine ⟨y',by rw [Dl];exact h3,h4,?_⟩
     simp only [rW,h5]
 . cases q with
   | nil=>simp [ef] at hq
   | cons j q =>
     have vR:cR (.vec a z l 0) (i::r)=some u:=by simp only [cR,hx,h1]
     have sA:c8 (.vec a z l 0) (i::r) (.hole n)=some (.vec a z (l.set i w) 0):=by simp only [c8,hx,h2]
     rcases Ig (i::r) _ u _ _ vR sA hc.symm (j::q) y (by simpa only [ef,cR] using hq) with ⟨i',r',_,h3⟩ | ⟨y',h3,h4,h5⟩
     . exact absurd h3 (hole i' r')
     . refine ⟨y',by simpa only [ef,cR] using h3,h4,?_⟩
       have:=h5 0 0
       simpa only [rW,kW] using this
 . simp [ef] at hs
theorem mS.hole {E:dP An}{id:Nat}{o o':Obj An}{p:List Nat}{u:T An}{n:Nat}(hE:E id=some o)(hs:ef (some o) p=some u)(hp:put (some o) p (.hole n)=some o')(hc:u.cs=n):mS E (cq E id (some o')):=by
 intro i q y hy;by_cases e:i=id
 . subst e;simp only [cq,if_true] at hy ⊢;rw [hE];exact D1M hs hp hc hy
 . simp only [cq,e,if_false] at hy ⊢;exact ⟨y,hy,rfl,trivial⟩
end Go.Mid
namespace Go.Mid
open Go.RowKit
section
variable {w w':World}{A:Nat->Prop}{E:dP An}{h:cj}{nx nx':di}
theorem nV {α:Type}(f:Nat->α)(k:Nat)(v:α):cq f k v k=v:=by simp [cq]
theorem A0C {α:Type}(f:Nat->α){k i:Nat}(v:α)(h:i≠k):cq f k v i=f i:=by simp [cq,h]
theorem MR.j6 (m:MR w A E h nx){i:Nat}{o:Obj An}(ho:E i=some o){b:Nat}(hb:b∈o.blk):b<w.heap.size∧¬ A b:=m.lt b ⟨i,o,ho,hb⟩
structure nW (w w':World)(A:Nat->Prop)(E:dP An)(nx nx':di)(id:Nat)(o':Obj An):Prop where
 hn:nx.le nx'
 sz:w.heap.size<=w'.heap.size
 ch:∀ b,b<w.heap.size->(∀ o,E id=some o->b∉o.blk)->w'.heap[b]?=w.heap[b]?
 ns:∀ np y,fc (some o') np=some y->nx y.1.g->fc (E id) np=some y
 lt:∀ b∈o'.blk,b<w'.heap.size∧¬ A b
 nd:o'.blk.Nodup
 dj:∀ b∈o'.blk,∀ j o,j≠id->E j=some o->b∉o.blk
 st:o'.st nx'
theorem nW.fr {id:Nat}{o':Obj An}(m:MR w A E h nx)(s:nW w w' A E nx nx' id o'):Fr w w' A A E (cq E id (some o')) nx nx' :=
 ⟨λ_ h=>h,λb hb=>s.ch b (m.im b hb) (λo ho lZ=>(m.j6 ho lZ).2 hb),λi np an z bW hg=>by
   by_cases e:i=id
   . subst e;rw [nV] at bW;exact s.ns np _ bW hg
   . rw [A0C E _ e] at bW;exact bW,s.hn⟩
theorem MR.set (m:MR w A E h nx){id:Nat}{o':Obj An}(s:nW w w' A E nx nx' id o')(kV:OAt w' A (cq E id (some o')) nx' o') :
 MR w' A (cq E id (some o')) (cq h id (some (o'.mapA An.g))) nx':=by
 have f:=s.fr m;constructor
 . intro i;by_cases e:i=id
   . subst e;simp [cq]
   . simp [cq,e,m.er i]
 . intro i o ho;by_cases e:i=id
   . subst e;rw [nV] at ho;cases ho;exact kV
   . rw [A0C E _ e] at ho;refine OAt.frame f (λx hx=>s.ch x (m.j6 ho hx).1 (λo1 nr w7=>m.dj i id o o1 e ho nr x hx w7)) (m.at_ i o ho)
 . rintro b ⟨i,o,ho,hb⟩;by_cases e:i=id
   . subst e;rw [nV] at ho;cases ho;exact s.lt b hb
   . rw [A0C E _ e] at ho
     have:=m.j6 ho hb
     exact ⟨br this.1 s.sz,this.2⟩
 . intro i o ho;by_cases e:i=id
   . subst e;rw [nV] at ho;cases ho;exact s.nd
   . rw [A0C E _ e] at ho;exact m.nd i o ho
 . intro i j o o1 gM ho nr b hb ot;by_cases e:i=id
   . subst e;rw [nV] at ho;cases ho;rw [A0C E _ (dv gM)] at nr;exact s.dj b hb j o1 (dv gM) nr ot
   . rw [A0C E _ e] at ho;by_cases e':j=id
     . subst e';rw [nV] at nr;cases nr;exact s.dj b ot i o e ho hb
     . rw [A0C E _ e'] at nr;exact m.dj i j o o1 gM ho nr b hb ot
 . intro b hb;exact br (m.im b hb) s.sz
 . intro i o ho;by_cases e:i=id
   . subst e;rw [nV] at ho;cases ho;exact s.st
   . rw [A0C E _ e] at ho;exact Obj.ka s.hn (m.st i o ho)
theorem Cv {id:Nat}{o':Obj An}{b:Nat}(k:jr (cq E id (some o')) b):b∈o'.blk∨∃ i o,i≠id∧E i=some o∧b∈o.blk:=by
 obtain ⟨i,o,ho,hb⟩:=k;by_cases e:i=id
 . subst e;rw [nV] at ho;cases ho;exact .inl hb
 . rw [A0C E _ e] at ho;exact .inr ⟨i,o,e,ho,hb⟩
theorem YS {α:Type}(np:Option (List Nat)):fc (some (.gone:Obj α)) np=none:=by
 cases np with
 | none=>rfl
 | some p=>cases p<;>rfl
theorem nW.gone (hn:nx.le nx')(id:Nat):nW w w A E nx nx' id .gone where
 hn:=hn
 sz:=ay _
 ch:=λ_ _ _=>rfl
 ns:=λnp y h=>by rw [YS] at h;cases h
 lt:=λb hb=>by simp [Obj.blk] at hb
 nd:=by simp [Obj.blk]
 dj:=λb hb=>by simp [Obj.blk] at hb
 st:=trivial
theorem MR.gone (m:MR w A E h nx)(id:Nat):MR w A (cq E id (some .gone)) (cq h id (some .gone)) nx :=
 m.set (nW.gone (di.le_refl _) id) (by simp only [OAt])
theorem Cw {o:Obj An}{p:List Nat}{u:T An}(hs:ef (some o) p=some u)(k:OAt w A E nx o) :
 ∃ b' o',rW (some o) p=some (b',o')∧TAt w A E nx u b' o'∧b'∈o.blk∧(∀ x∈u.blk,x∈o.blk)∧(o.blk.Nodup->b'∉u.blk):=by
 cases o with
 | cell a t =>
   rw [Dl] at hs;simp only [OAt] at k;obtain ⟨b,hb,h1,h2⟩:=k;obtain ⟨b',o',h0,h3,h4,h5,h6⟩:=Dj p t u b 0 hs h2;refine ⟨b',o',?_,h3,?_,?_,?_⟩
   . cases p<;>simpa only [rW,hb] using h0
   . simp only [Obj.blk,hb,cg,aS,a7,aG];exact h4.imp (·.1) id
   . intro x hx;simp only [Obj.blk,az];exact .inr (h5 x hx)
   . intro hn;simp only [Obj.blk,hb,cg,aS,a7] at hn;exact h6 hn
 | vec a z l =>
   cases p with
   | nil=>simp [ef] at hs
   | cons i r =>
     simp only [ef] at hs;split at hs
     . rename_i t ht;simp only [OAt,VB] at k;cases hb:a.b with
       | none=>simp only [hb] at k;rw [k.1] at ht;simp at ht
       | some b =>
         simp only [hb] at k;obtain ⟨b',o',h0,h3,h4,h5,h6⟩:=Dj r t u b _ hs (k.2.2.2.elem k.2.2.1 ht);refine ⟨b',o',by simpa only [rW,hb,ht] using h0,h3,?_,?_,?_⟩
         . simp only [Obj.blk,hb,cg,aS,a7,aG];rcases h4 with h4 | h4
           . exact .inl h4.1
           . exact .inr (uI ht h4)
         . intro x hx;simp only [Obj.blk,az];exact .inr (uI ht (h5 x hx))
         . intro hn;simp only [Obj.blk,hb,cg,aS,a7] at hn;exact h6 (Oj hn ht)
     . cases hs
 | mp=>cases p<;>simp [ef] at hs
 | gone=>cases p<;>simp [ef] at hs
theorem C9P {an:An}{z n b0:Nat}{l:List (T An)}{i:Nat}{t:T An}{r:List Nat}{b o:Nat}(hb:an.b=some b0)(ht:l[i]?=some t):kW (.vec an z l n) (i::r) b o=kW t r b0 (i*z):=by
 simp only [kW,hb,ht]
theorem C4D {o:Obj An}{p:List Nat}{u:T An}{b' o':Nat}(hs:ef (some o) p=some u)(hl:rW (some o) p=some (b',o'))(q:List Nat):rW (some o) (p++q)=kW u q b' o':=by
 cases o with
 | cell a t =>
   rw [Dl] at hs;simp only [rW] at hl ⊢;cases hb:a.b with
   | none=>simp [hb] at hl
   | some b=>simp only [hb] at hl ⊢;exact Kb p q t u b 0 b' o' hs hl
 | vec a z l =>
   cases p with
   | nil=>simp [ef] at hs
   | cons i r =>
     simp only [ef] at hs;simp only [rW,aS] at hl ⊢;split at hs
     . rename_i t ht;cases hb:a.b with
       | none=>simp [hb] at hl
       | some b=>simp only [hb,ht] at hl ⊢;exact Kb r q t u b _ b' o' hs hl
     . cases hs
 | mp a ks l=>cases p<;>simp [rW] at hl
 | gone=>cases p<;>simp [ef] at hs
theorem MR.yD (m:MR w A E h nx){id:Nat}{ob:Obj An}(hE:E id=some ob){np:Option (List Nat)}{rp:List Nat}{an:An}{o b:Nat}{t:T An}(hv:Mid.look (some ob) np rp=some (t,an,o))(hb:an.b=some b) :
 rW (some ob) (sZ np rp)=some (b,o):=by
 cases np with
 | none =>
   cases ob<;>simp only [Mid.look,reduceCtorEq] at hv;rename_i a t0;split at hv
   . rename_i u o' hl;simp only [aa,ae] at hv;obtain ⟨rfl,rfl,rfl⟩:=hv
     have:=Oh b rp t0 u 0 o' hl
     simp only [sZ,Option.getD_none,a7];cases rp<;>simpa only [rW,hb] using this
   . cases hv
 | some p =>
   simp only [Mid.look] at hv;simp only [sZ,Option.getD_some];split at hv
   . rename_i a z l i r iD;split at hv
     . rename_i t0 Cr;split at hv
       . rename_i u o' hl;simp only [aa,ae] at hv;obtain ⟨rfl,rfl,rfl⟩:=hv;have h1:=Oh b r t0 u _ o' hl;rcases N5 iD with ⟨rfl,he⟩ | ⟨n,hs⟩
         . cases he;simpa only [a7,rW,hb,Cr] using h1
         . obtain ⟨b',Dm,h2,_⟩:=Cw hs (m.at_ id ob hE);rw [C4D hs h2,C9P hb Cr];exact h1
       . cases hv
     . cases hv
   . cases hv
theorem OAt.put {o o':Obj An}{p:List Nat}{u v:T An}{A':Nat->Prop}{E':dP An}(f:Fr w w' A A' E E' nx nx')(hs:ef (some o) p=some u)(hp:put (some o) p v=some o'){b1 o1:Nat}(hl:rW (some o) p=some (b1,o1))
 (eV:v.cs=u.cs) (W:Wr w w' b1 o1 u.cs u.blk) (hnd:o.blk.Nodup) (hsz:∀ y∈o.blk,y<w.heap.size) (k:OAt w A E nx o) (hv:TAt w' A' E' nx' v b1 o1):OAt w' A' E' nx' o':=by
 rcases Ie hs hp with ⟨a,t,t',rfl,rfl,h1,h2⟩ | ⟨a,z,l,l',i,r,x,y,rfl,rfl,rfl,hx,h1,h2,rfl⟩ | ⟨a,ks,l,l',i,r,x,y,rfl,rfl,rfl,hx,h1,h2,rfl⟩
 . simp only [OAt] at k ⊢;obtain ⟨b,hb,k1,k2⟩:=k;have zj:kW t p b 0=some (b1,o1):=by
    cases p<;>simpa only [rW,hb] using hl
   simp only [Obj.blk,hb,cg,aS,a7] at hnd hsz;refine ⟨b,hb,?_,Ol f p t u v t' b 0 b1 o1 h1 h2 zj k2 hnd hsz eV W hv⟩;rw [Cu p t u v t' h1 h2 eV];by_cases e:b=b1
   . subst e;exact W.blk _ k1
   . obtain ⟨b',o',h0,_,h5,h3,h4⟩:=Dj p t u b _ h1 k2;refine k1.frame (W.other b (hsz b (by simp)) e λhb=>(bZ.1 hnd).1 (h3 b hb))
 . simp only [OAt,VB] at k ⊢;cases hb:a.b with
   | none=>simp only [hb] at k;rw [k.1] at hx;simp at hx
   | some b0 =>
     simp only [hb] at k ⊢;simp only [Obj.blk,hb,cg,aS,a7] at hnd hsz;have e:i*z=0+T.db (l.take i):=by rw [Cq k.2.2.1 (fH (aJ.1 hx).1)];omega
     have qj:kW x r b0 (0+T.db (l.take i))=some (b1,o1):=by
      rw [← e];simpa only [rW,hx,hb] using hl
     have hy:=Ol f r x u v y b0 _ b1 o1 h1 h2 qj (Dk.1 k.2.2.2 i x hx) (Oj hnd hx) (λy hy=>hsz y (by
      rcases aG.1 hy with rfl | hy
      . simp
      . simp [uI hx hy])) eV W hv
     have zk:=Cu r x u v y h1 h2 eV;obtain ⟨b',o',h0,_,h5,h3,h4⟩:=Dj r x u b0 _ h1 (Dk.1 k.2.2.2 i x hx);refine ⟨?_,by rw [iy];exact k.2.1,?_,Sa f k.2.2.2 hx hnd hsz h1 qj W hy zk⟩
     . by_cases kE:b0=b1
       . subst kE;exact W.blk _ k.1
       . exact k.1.frame (W.other b0 (hsz b0 (by simp)) kE λhb=>(bZ.1 hnd).1 (uI hx (h3 b0 hb)))
     . intro q hq;rcases bx hq with hq | rfl
       . exact k.2.2.1 q hq
       . rw [zk];exact k.2.2.1 x (bH hx)
 . simp [ef] at hs
structure ph (w w':World)(A:Nat->Prop)(E:dP An)(nx nx':di)(id:Nat)(o:Obj An)(p:List Nat)(u v:T An)(b1 o1:Nat):Prop where
 hn:nx.le nx'
 sz:w.heap.size<=w'.heap.size
 hE:E id=some o
 hs:ef (some o) p=some u
 hl:rW (some o) p=some (b1,o1)
 cs:v.cs=u.cs
 W:Wr w w' b1 o1 u.cs u.blk
 ns:∀ r y,fE v r=some y->nx y.1.g->fE u r=some y
 lt:∀ b∈v.blk,b<w'.heap.size∧¬ A b
 nd:v.blk.Nodup
 dj:∀ b∈v.blk,b∈u.blk∨¬ jr E b
 st:v.st nx'
theorem Om {α:Type}{o:Obj α}{u:T α}{p r:List Nat}(h:ef (some o) p=some u):fc (some o) (some (p++r))=fE u r:=by
 rw [uJ]
 have:cR o.qk p=some u:=by
  cases o with
  | cell a t=>rw [Dl] at h;exact h
  | vec a z l =>
    cases p with
    | nil=>simp [ef] at h
    | cons i r=>simpa only [ef,cR,Obj.qk] using h
  | mp a ks l =>
    cases p with
    | nil=>simp [ef] at h
    | cons i r=>simpa only [ef,cR,Obj.qk] using h
  | gone=>cases p<;>simp [ef] at h
 simp only [fE,EG,this,ai]
theorem ph.vS {id:Nat}{o o':Obj An}{p:List Nat}{u v:T An}{b1 o1:Nat}(m:MR w A E h nx)(k:ph w w' A E nx nx' id o p u v b1 o1)(hp:put (some o) p v=some o') :
 nW w w' A E nx nx' id o':=by
 obtain ⟨rest,h1,h2⟩:=F6 k.hs hp;have hnd:=m.nd id o k.hE;obtain ⟨b',Dm,h3,h4,h5,h6,h7⟩:=Cw k.hs (m.at_ id o k.hE);rw [k.hl] at h3;cases h3;have tD:=h1.nodup_iff.1 hnd;have ou:∀ b∈rest,b∈o.blk:=λb hb=>h1.mem_iff.2 (by simp [hb])
 have pE:∀ b∈o'.blk,b∈v.blk∨b∈rest:=λb hb=>by simpa using h2.mem_iff.1 hb
 constructor
 . exact k.hn
 . exact k.sz
 . intro b hb lZ;exact k.W.other b hb (λe=>lZ o k.hE (e ▸ h5)) (λhbu=>lZ o k.hE (h6 b hbu))
 . intro np y hy hg;rw [k.hE];rcases YQ k.hs hp hy with h8 | ⟨r,rfl,h8⟩
   . exact h8
   . rw [Om k.hs];exact k.ns r y h8 hg
 . intro b hb;rcases pE b hb with h8 | h8
   . exact k.lt b h8
   . have:=m.j6 k.hE (ou b h8)
     exact ⟨br this.1 k.sz,this.2⟩
 . refine h2.nodup_iff.2 (aT.2 ⟨k.nd,(aT.1 tD).2.1,?_⟩);rintro b hb _ js rfl;rcases k.dj b hb with h8 | h8
   . exact (aT.1 tD).2.2 b h8 b js rfl
   . exact h8 ⟨id,o,k.hE,ou b js⟩
 . intro b hb j oj hj Dn Sc;rcases pE b hb with h8 | h8
   . rcases k.dj b h8 with h9 | h9
     . exact m.dj id j o oj (dv hj) k.hE Dn b (h6 b h9) Sc
     . exact h9 ⟨j,oj,Dn,Sc⟩
   . exact m.dj id j o oj (dv hj) k.hE Dn b (ou b h8) Sc
 . exact D3f k.hs hp (Obj.ka k.hn (m.st id o k.hE)) k.st
theorem MR.put {id:Nat}{o o':Obj An}{p:List Nat}{u v:T An}{b1 o1:Nat}(m:MR w A E h nx)(k:ph w w' A E nx nx' id o p u v b1 o1)(hp:put (some o) p v=some o')
 (hv:Fr w w' A A E (cq E id (some o')) nx nx'->TAt w' A (cq E id (some o')) nx' v b1 o1) :
 MR w' A (cq E id (some o')) (cq h id (some (o'.mapA An.g))) nx':=by
 have s:=k.vS m hp;have f:=s.fr m;exact m.set s (OAt.put f k.hs hp k.hl k.cs k.W (m.nd id o k.hE) (λy hy=>(m.j6 k.hE hy).1) (m.at_ id o k.hE) (hv f))
theorem ph.owned {id:Nat}{o o':Obj An}{p:List Nat}{u v:T An}{b1 o1:Nat}(k:ph w w' A E nx nx' id o p u v b1 o1)(m:MR w A E h nx)(hp:Mid.put (some o) p v=some o'){b:Nat}(hb:jr (cq E id (some o')) b) :
 b∈v.blk∨(jr E b∧b∉u.blk):=by
 obtain ⟨rest,h1,h2⟩:=F6 k.hs hp;have tD:=h1.nodup_iff.1 (m.nd id o k.hE);rcases Cv hb with hb | ⟨i,oi,hi,tE,hb⟩
 . rcases az.1 (h2.mem_iff.1 hb) with h3 | h3
   . exact .inl h3
   . exact .inr ⟨⟨id,o,k.hE,h1.mem_iff.2 (by simp [h3])⟩,λhu=>(aT.1 tD).2.2 b hu b h3 rfl⟩
 . exact .inr ⟨⟨i,oi,tE,hb⟩,λhu=>m.dj id i o oi (dv hi) k.hE tE b (h1.mem_iff.2 (by simp [hu])) hb⟩
end
end Go.Mid
namespace Go.Mid
open Go.RowKit
section
variable (w:World)(A:Nat->Prop)(E:dP An)(nx:di)
mutual
def TC:T An->List Value->Prop
 | .p v,cs=>dU w A v cs
 | .m v,cs=>v.cs=1∧v.isAgg=false∧∃ val,bR w A E nx v val∧cs=[val]
 | .agg l,cs=>j7 l cs
 | .vec an z l n,cs=>∃ a cap,cs=[.slice a n cap]∧n<=l.length∧kU an z 0 n a cap∧VB w A E nx an z l
 | .mp ..,_=>False
 | .hole n,cs=>cs.length=n
def j7:List (T An)->List Value->Prop
 | [],cs=>cs=[]
 | t::r,cs=>∃ c d,cs=c++d∧TC t c∧j7 r d
end
end
section
variable {w w':World}{A A':Nat->Prop}{E E':dP An}{nx nx':di}
mutual
theorem TC.len:∀ {t:T An} {cs:List Value},TC w A E nx t cs->cs.length=t.cs
 | .p v,cs,h=>by simp only [TC] at h;exact h.len
 | .m v,cs,h=>by simp only [TC] at h;obtain ⟨h1,_,val,_,rfl⟩:=h;simp [T.cs,h1]
 | .agg l,cs,h=>by simp only [TC] at h;exact j7.len h
 | .vec ..,cs,h=>by simp only [TC] at h;obtain ⟨a,cap,rfl,_⟩:=h;rfl
 | .mp ..,cs,h=>by simp only [TC] at h
 | .hole n,cs,h=>by simp only [TC] at h;exact h
theorem j7.len:∀ {l:List (T An)} {cs:List Value},j7 w A E nx l cs->cs.length=T.db l
 | [],cs,h=>by simp only [j7] at h;subst h;rfl
 | t::r,cs,h=>by
   simp only [j7] at h;obtain ⟨c,d,rfl,h1,h2⟩:=h;rw [aR,TC.len h1,j7.len h2];rfl
end
mutual
theorem TC.at_:∀ {t:T An} {cs:List Value} {b o:Nat},TC w A E nx t cs->Row w b o cs->TAt w A E nx t b o
 | .p v,cs,b,o,h,k=>by simp only [TC] at h;simp only [TAt];exact ⟨cs,h,k⟩
 | .m v,cs,b,o,h,k=>by simp only [TC] at h;obtain ⟨h1,h2,val,h3,rfl⟩:=h;simp only [TAt];exact ⟨h1,h2,val,h3,k⟩
 | .agg l,cs,b,o,h,k=>by simp only [TC] at h;simp only [TAt];exact j7.at_ h k
 | .vec an z l n,cs,b,o,h,k=>by
   simp only [TC,VB] at h;obtain ⟨a,cap,rfl,h1,h2,h3⟩:=h;simp only [TAt];exact ⟨a,cap,k,h1,h2,h3⟩
 | .mp ..,cs,b,o,h,_=>by simp only [TC] at h
 | .hole n,cs,b,o,h,k=>by
   simp only [TC] at h;simp only [TAt];intro j hj
   have:j<cs.length:=by omega
   exact ⟨cs[j],k j _ (by simp [this])⟩
theorem j7.at_:∀ {l:List (T An)} {cs:List Value} {b o:Nat},j7 w A E nx l cs->Row w b o cs->cD w A E nx l b o
 | [],cs,b,o,_,_=>by simp only [cD]
 | t::r,cs,b,o,h,k=>by
   simp only [j7] at h;obtain ⟨c,d,rfl,h1,h2⟩:=h;have k:=Row.append.1 k;simp only [cD];refine ⟨TC.at_ h1 k.1,?_⟩
   have:=j7.at_ h2 k.2
   rwa [h1.len] at this
end
theorem VB.frame (f:Fr w w' A A' E E' nx nx'){an:An}{z:Nat}{l:List (T An)}(hk:∀ x∈an.b.toList++T.b4 l,w'.heap[x]?=w.heap[x]?)(h:VB w A E nx an z l):VB w' A' E' nx' an z l:=by
 simp only [VB] at h ⊢;cases hb:an.b with
 | none=>simpa only [hb] using h
 | some b =>
   simp only [hb] at h ⊢;simp only [hb,cg,aS,a7,aG] at hk;exact ⟨h.1.frame (hk b (.inl rfl)),h.2.1,h.2.2.1,cD.frame f (hk b (.inl rfl)) (λx hx=>hk x (.inr hx)) h.2.2.2⟩
mutual
theorem TC.frame (f:Fr w w' A A' E E' nx nx'):∀ {t:T An} {cs:List Value},(∀ x∈t.blk,w'.heap[x]?=w.heap[x]?)->TC w A E nx t cs->TC w' A' E' nx' t cs
 | .p v,cs,_,h=>by simp only [TC] at h ⊢;exact h.frame f.hA f.hw
 | .m v,cs,_,h=>by simp only [TC] at h ⊢;obtain ⟨h1,h2,val,h3,h4⟩:=h;exact ⟨h1,h2,val,h3.frame f,h4⟩
 | .agg l,cs,hk,h=>by simp only [TC] at h ⊢;exact j7.frame f hk h
 | .vec an z l n,cs,hk,h=>by
   simp only [TC] at h ⊢;obtain ⟨a,cap,h1,h2,h3,h4⟩:=h;exact ⟨a,cap,h1,h2,h3,VB.frame f hk h4⟩
 | .mp ..,cs,_,h=>by simp only [TC] at h
 | .hole n,cs,_,h=>by simp only [TC] at h ⊢;exact h
theorem j7.frame (f:Fr w w' A A' E E' nx nx'):∀ {l:List (T An)} {cs:List Value},(∀ x∈T.b4 l,w'.heap[x]?=w.heap[x]?)->j7 w A E nx l cs->j7 w' A' E' nx' l cs
 | [],cs,_,h=>by simp only [j7] at h ⊢;exact h
 | t::r,cs,hk,h=>by
   simp only [j7] at h ⊢;simp only [T.b4,az] at hk;obtain ⟨c,d,h1,h2,h3⟩:=h;exact ⟨c,d,h1,TC.frame f (λx hx=>hk x (.inl hx)) h2,j7.frame f (λx hx=>hk x (.inr hx)) h3⟩
end
theorem vT {vs:List PV}{cs:List Value}:j7 w A E nx (vs.map .p) cs↔cK w A vs cs:=by
 induction vs generalizing cs with
 | nil=>simp only [cr,j7,cK]
 | cons x r ih=>simp only [aF,j7,cK,TC,ih]
theorem YT {l:List (T An)}{cs:List Value}:TC w A E nx (j2 l) cs↔j7 w A E nx l cs:=by
 rcases Dh l with e | ⟨vs,rfl,e⟩<;>rw [e]
 . simp only [TC]
 . simp only [TC,dU];exact vT.symm
def A0Q (g:Nat)(an:An):An:={ an with g:=g }
mutual
theorem Sd (g:Nat):∀ {t:T An} {b o:Nat},TAt w A E nx t b o->TAt w A E nx (t.mapA (A0Q g)) b o
 | .p v,b,o,h=>h
 | .m v,b,o,h=>h
 | .agg l,b,o,h=>by simp only [TAt,T.mapA] at h ⊢;exact On g h
 | .vec an z l n,b,o,h=>by
   simp only [TAt,T.mapA] at h ⊢;obtain ⟨a,cap,h1,h2,h3,h4⟩:=h;refine ⟨a,cap,h1,by rw [T.mapAs_eq,aB];exact h2,h3,?_⟩
   cases hb:an.b with
   | none=>simp only [A0Q,hb] at h4 ⊢;exact ⟨by rw [h4.1];rfl,h4.2⟩
   | some b' =>
     simp only [A0Q,hb] at h4 ⊢;refine ⟨h4.1,by rw [T.mapAs_eq,aB];exact h4.2.1,?_,On g h4.2.2.2⟩
     intro t ht;rw [T.mapAs_eq] at ht;obtain ⟨u,hu,rfl⟩:=bp.1 ht;rw [T.kb];exact h4.2.2.1 u hu
 | .mp ..,b,o,h=>by simp only [TAt] at h
 | .hole n,b,o,h=>h
theorem On (g:Nat):∀ {l:List (T An)} {b o:Nat},cD w A E nx l b o->cD w A E nx (T.cI (A0Q g) l) b o
 | [],b,o,h=>by simp only [cD,T.cI]
 | t::r,b,o,h=>by
   simp only [cD,T.cI] at h ⊢;rw [T.kb];exact ⟨Sd g h.1,On g h.2⟩
end
theorem YU (g:Nat){an:An}{z:Nat}{l:List (T An)}(h:VB w A E nx an z l):VB w A E nx (A0Q g an) z (T.cI (A0Q g) l):=by
 simp only [VB] at h ⊢;cases hb:an.b with
 | none=>simp only [A0Q,hb] at h ⊢;exact ⟨by rw [h.1];rfl,h.2⟩
 | some b' =>
   simp only [A0Q,hb] at h ⊢;refine ⟨h.1,by rw [T.mapAs_eq,aB];exact h.2.1,?_,On g h.2.2.2⟩
   intro t ht;rw [T.mapAs_eq] at ht;obtain ⟨u,hu,rfl⟩:=bp.1 ht;rw [T.kb];exact h.2.2.1 u hu
end
mutual
theorem YV (g:Nat):∀ (t:T An),(t.mapA (A0Q g)).blk=t.blk
 | .p _=>rfl
 | .m _=>rfl
 | .agg l=>AZ g l
 | .vec an _ l _=>by simp only [T.mapA,T.blk,AZ g l];rfl
 | .mp an _ l=>by simp only [T.mapA,T.blk,AZ g l];rfl
 | .hole _=>rfl
theorem AZ (g:Nat):∀ (l:List (T An)),T.b4 (T.cI (A0Q g) l)=T.b4 l
 | []=>rfl
 | t::r=>by simp only [T.cI,T.b4,YV g t,AZ g r]
end
mutual
theorem YW (n:di)(g:Nat):∀ (t:T An),(t.mapA (A0Q g)).st (n.add g)
 | .p _=>trivial
 | .m _=>trivial
 | .agg l=>EK n g l
 | .vec an _ l _=>⟨n.iG g,EK n g l⟩
 | .mp an _ l=>n.iG g
 | .hole _=>trivial
theorem EK (n:di)(g:Nat):∀ (l:List (T An)),T.j9 (n.add g) (T.cI (A0Q g) l)
 | []=>trivial
 | t::r=>⟨YW n g t,EK n g r⟩
end
mutual
theorem YX (g:Nat):∀ (t:T An),(t.mapA (A0Q g)).mapA An.g=Cc g (t.mapA An.g)
 | .p _=>rfl
 | .m _=>rfl
 | .agg l=>by have:=EL g l;simp only [n4] at this;simp only [T.mapA,Cc,iS,this]
 | .vec an _ l _=>by have:=EL g l;simp only [n4] at this;simp only [T.mapA,Cc,iS,this];rfl
 | .mp an _ l=>by have:=EL g l;simp only [n4] at this;simp only [T.mapA,Cc,iS,this];rfl
 | .hole _=>rfl
theorem EL (g:Nat):∀ (l:List (T An)),T.cI An.g (T.cI (A0Q g) l)=n4 g (T.cI An.g l)
 | []=>rfl
 | t::r=>by
   have h1:=YX g t;have h2:=EL g r;simp only [Cc] at h1;simp only [n4] at h2;simp only [T.cI,n4,jy,h1,h2]
end
theorem YY {α β:Type}(f:α->β)(t:T α)(q:List Nat):fE (t.mapA f) q=(fE t q).map λy=>(f y.1,y.2):=by
 simp only [fE,EF];cases cR t q with
 | none=>rfl
 | some u=>cases u<;>rfl
theorem Ke {g:Nat}{t:T An}{q:List Nat}{y:An×Option Nat}(h:fE (t.mapA (A0Q g)) q=some y):y.1.g=g:=by
 rw [YY] at h;cases hq:fE t q with
 | none=>simp [hq] at h
 | some x=>simp [hq] at h;rw [← h];rfl
section
variable {w:World}{A:Nat->Prop}{E:dP An}{nx:di}
mutual
theorem dU.ke:∀ {v:PV} {cs:List Value},dU w A v cs->∀ c∈cs,c.oneCell'=true
 | .int ..,cs,h,c,hc=>by simp only [dU] at h;subst h;simp at hc;subst hc;rfl
 | .bool ..,cs,h,c,hc=>by simp only [dU] at h;subst h;simp at hc;subst hc;rfl
 | .str ..,cs,h,c,hc=>by simp only [dU] at h;subst h;simp at hc;subst hc;rfl
 | .agg l,cs,h,c,hc=>by simp only [dU] at h;exact cK.ke h c hc
 | .sl ..,cs,h,c,hc=>by simp only [dU] at h;obtain ⟨_,_,rfl,_⟩:=h;simp at hc;subst hc;rfl
 | .ref ..,cs,h,c,hc=>by simp only [dU] at h;obtain ⟨_,_,rfl,_⟩:=h;simp at hc;subst hc;rfl
 | .fn ..,cs,h,c,hc=>by simp only [dU] at h;obtain ⟨_,rfl,_⟩:=h;simp at hc;subst hc;unfold xC;split<;>rfl
 | .mp ..,cs,h,c,hc=>by
   simp only [dU] at h;rcases h with ⟨rfl,_⟩ | ⟨_,_,_,rfl,_⟩<;>(simp at hc;subst hc;rfl)
 | .eM,cs,h,c,hc=>by simp only [dU] at h;subst h;simp at hc;subst hc;rfl
 | .fa,cs,h,c,hc=>by simp only [dU] at h;subst h;simp at hc;subst hc;rfl
theorem cK.ke:∀ {l:List PV} {cs:List Value},cK w A l cs->∀ c∈cs,c.oneCell'=true
 | [],cs,h,c,hc=>by simp only [cK] at h;subst h;simp at hc
 | x::r,cs,h,c,hc=>by
   simp only [cK] at h;obtain ⟨a,d,rfl,h1,h2⟩:=h;rcases az.1 hc with hc | hc
   . exact dU.ke h1 c hc
   . exact cK.ke h2 c hc
end
end
def jt (E E':dP An):Prop:=∀ id np y,fc (E' id) np=some y->fc (E id) np=some y
theorem jt.refl (E:dP An):jt E E:=λ_ _ _ h=>h
theorem jt.trans {E E' AR:dP An}(h:jt E E')(k:jt E' AR):jt E AR:=λi np y hy=>h i np y (k i np y hy)
theorem jt.F7 {E E':dP An}(h:jt E E')(n:di):pf n E E':=λi np an z hh _=>h i np _ hh
theorem jt.fr {w:World}{A:Nat->Prop}{E E':dP An}(h:jt E E'){n m:di}(hn:n.le m):Fr w w A A E E' n m:=⟨λ_ h=>h,λ_ _=>rfl,h.F7 n,hn⟩
structure pF (w:World)(A:Nat->Prop)(E:dP An)(nx:di)(γ:Nat)(cs:List Value)(t:T Nat)(h1:cj)(E1:dP An)(tA:T An):Prop where
 er:tA.mapA An.g=t
 mr:MR w A E1 h1 nx
 tc:TC w A E1 nx tA cs
 nd:tA.blk.Nodup
 own:∀ b∈tA.blk,jr E b∧¬ jr E1 b
 sub:∀ b,jr E1 b->jr E b
 st:tA.st (nx.add γ)
 ns:jt E E1
 new:∀ q y,fE tA q=some y->y.1.g=γ
 one:∀ c∈cs,c.oneCell'=true
 ls:mS E E1
structure l4 (w:World)(A:Nat->Prop)(E:dP An)(nx:di)(γ:Nat)(cs:List Value)(l:List (T Nat))(h1:cj)(E1:dP An)(lA:List (T An)):Prop where
 er:lA.map (T.mapA An.g)=l
 mr:MR w A E1 h1 nx
 tc:j7 w A E1 nx lA cs
 nd:(T.b4 lA).Nodup
 own:∀ b∈T.b4 lA,jr E b∧¬ jr E1 b
 sub:∀ b,jr E1 b->jr E b
 st:T.j9 (nx.add γ) lA
 ns:jt E E1
 new:∀ (i:Nat) (t:T An),lA[i]?=some t->∀ q y,fE t q=some y->y.1.g=γ
 one:∀ c∈cs,c.oneCell'=true
 ls:mS E E1
section
variable {w:World}{A:Nat->Prop}{nx:di}{γ:Nat}
theorem pF.idle {E:dP An}{h:cj}{cs:List Value}{t:T Nat}{tA:T An}(m:MR w A E h nx)(er:tA.mapA An.g=t)(tc:TC w A E nx tA cs)(hb:tA.blk=[])(hst:tA.st (nx.add γ))(hnd:∀ q y,fE tA q=some y->y.1.g=γ)
 (one:∀ c∈cs,c.oneCell'=true):pF w A E nx γ cs t h E tA :=
 ⟨er,m,tc,by simp [hb],by simp [hb],λ_ h=>h,hst,jt.refl E,hnd,one,mS.refl E⟩
theorem Wr.refl (w:World)(b o n:Nat)(X:List Nat):Wr w w b o n X:=⟨λ_ _ _ _=>rfl,λ_ h=>h,λ_ _=>rfl⟩
theorem jt.gone (E:dP An)(id:Nat):jt E (cq E id (some .gone)):=by
 intro i np y hy;by_cases e:i=id
 . subst e;rw [nV,YS] at hy;cases hy
 . rwa [A0C E _ e] at hy
theorem jt.hole {E:dP An}{id:Nat}{o o':Obj An}{p:List Nat}{u:T An}{n:Nat}(hE:E id=some o)(hs:ef (some o) p=some u)(hp:put (some o) p (.hole n)=some o'):jt E (cq E id (some o')):=by
 intro i np y hy;by_cases e:i=id
 . subst e;rw [nV] at hy;rw [hE];rcases YQ hs hp hy with h | ⟨r,_,h⟩
   . exact h
   . cases r<;>simp [fE,cR] at h
 . rwa [A0C E _ e] at hy
theorem MR.yE {E:dP An}{h:cj}(m:MR w A E h nx){id:Nat}{path:List Nat}{g z n:Nat}{l:List (T Nat)}{oh:Obj Nat}(hs:ef (h id) path=some (.vec g z l n))(hp:Mid.put (h id) path (.hole 1)=some oh) :
 ∃ E1 an l',ef (E id) path=some (.vec an z l' n)∧fc (E id) (some path)=some (an,some z)∧an.g=g∧l=l'.map (T.mapA An.g)∧MR w A E1 (cq h id (some oh)) nx∧VB w A E nx an z l' ∧
  (an.b.toList++T.b4 l').Nodup∧(∀ b∈an.b.toList++T.b4 l',jr E b∧¬ jr E1 b)∧(∀ b,jr E1 b->jr E b)∧jt E E1∧mS E E1:=by
 obtain ⟨t',ht,he⟩:=m.sub hs;cases t'<;>simp only [T.mapA,reduceCtorEq,T.vec.injEq] at he;rename_i an z' l' n';obtain ⟨rfl,rfl,rfl,rfl⟩:=he;cases hE:E id with
 | none=>rw [hE] at ht;cases path<;>simp [ef] at ht
 | some o =>
   rw [hE] at ht;rw [m.er id,hE,show (T.hole 1:T Nat)=(T.hole 1:T An).mapA An.g from rfl,H8] at hp;cases iw:Mid.put (some o) path (T.hole 1:T An) with
   | none=>simp [iw] at hp
   | some o' =>
     simp only [iw,ak,aa] at hp;obtain ⟨b1,o1,h1,h2,h3,h4,h5⟩:=Cw ht (m.at_ id o hE);have xG:ph w w A E nx nx id o path (.vec an z l' n) (.hole 1) b1 o1:=by
      refine ⟨di.le_refl _,ay _,hE,ht,h1,rfl,Wr.refl _ _ _ _ _,?_,by simp [T.blk],by simp [T.blk],by simp [T.blk],trivial⟩
      intro r y hy;cases r<;>simp [fE,cR] at hy
     have Ab:=m.put xG iw (λf=>by
      simp only [TAt] at h2 ⊢;obtain ⟨a,cap,k1,_⟩:=h2;intro j hj
      have:j=0:=by omega
      subst this;exact ⟨_,k1 0 _ rfl⟩)
     have bW:fc (some o) (some path)=some (an,some z):=by
      have:=Om (r:=[]) ht
      rw [bD] at this;exact this
     obtain ⟨rest,p1,_⟩:=F6 ht iw;have hnd:=(aT.1 (p1.nodup_iff.1 (m.nd id o hE))).1;refine ⟨cq E id (some o'),an,l',ht,bW,rfl,T.mapAs_eq _ _,by rw [hp] at Ab;exact Ab,?_,hnd,?_,?_,jt.hole hE ht iw,mS.hole hE ht iw rfl⟩
     . simp only [TAt] at h2;obtain ⟨a,cap,_,_,_,k⟩:=h2;simp only [VB];exact k
     . intro b hb;refine ⟨⟨id,o,hE,h4 b hb⟩,λho=>?_⟩
       rcases xG.owned m iw ho with k | k
       . simp [T.blk] at k
       . exact k.2 hb
     . intro b ho;rcases xG.owned m iw ho with k | k
       . simp [T.blk] at k
       . exact k.1
theorem MR.vU {E:dP An}{h:cj}(m:MR w A E h nx){id:Nat}{g z:Nat}{l:List (T Nat)}(hs:h id=some (.vec g z l)) :
 ∃ an l',E id=some (.vec an z l')∧an.g=g∧l=l'.map (T.mapA An.g)∧MR w A (cq E id (some .gone)) (cq h id (some .gone)) nx∧VB w A E nx an z l' ∧
  (an.b.toList++T.b4 l').Nodup∧(∀ b∈an.b.toList++T.b4 l',jr E b∧¬ jr (cq E id (some .gone)) b)∧(∀ b,jr (cq E id (some .gone)) b->jr E b):=by
 rw [m.er id] at hs;cases hE:E id with
 | none=>simp [hE] at hs
 | some o =>
   cases o<;>simp only [hE,ak,Obj.mapA,reduceCtorEq,aa,Obj.vec.injEq] at hs;rename_i an z' l';obtain ⟨rfl,rfl,rfl⟩:=hs;have iL:∀ b,jr (cq E id (some .gone)) b->∃ i o,i≠id∧E i=some o∧b∈o.blk:=λb ho=>(Cv ho).resolve_left (by simp [Obj.blk])
   refine ⟨an,l',rfl,rfl,T.mapAs_eq _ _,m.gone id,?_,m.nd id _ hE,?_,?_⟩
   . have:=m.at_ id _ hE;simpa only [OAt] using this
   . intro b hb;refine ⟨⟨id,_,hE,hb⟩,λho=>?_⟩
     obtain ⟨i,o,hi,ho,lZ⟩:=iL b ho;exact m.dj id i _ o (dv hi) hE ho b hb lZ
   . intro b ho;obtain ⟨i,o,hi,ho,lZ⟩:=iL b ho;exact ⟨i,o,ho,lZ⟩
theorem pF.vec {E E1:dP An}{h1:cj}{an:An}{z len cap:Nat}{a:Option Addr}{l':List (T An)}(hm:MR w A E1 h1 nx)(hv:VB w A E nx an z l')(hnd:(an.b.toList++T.b4 l').Nodup)
 (iL:∀ b∈an.b.toList++T.b4 l',jr E b∧¬ jr E1 b) (dK:∀ b,jr E1 b->jr E b) (xH:jt E E1) (Ih:mS E E1) (hlen:len<=l'.length) (hh:kU an z 0 len a cap) :
 pF w A E nx γ [.slice a len cap] (.vec γ z (n4 γ (l'.map (T.mapA An.g))) len) h1 E1 (.vec (A0Q γ an) z (T.cI (A0Q γ) l') len) where
 er:=by
  have:=EL γ l'
  rw [T.mapAs_eq An.g l'] at this;simp only [T.mapA,this];rfl
 mr:=hm
 tc:=by
  simp only [TC];exact ⟨a,cap,rfl,by rw [T.mapAs_eq,aB];exact hlen,hh,YU γ (VB.frame (jt.fr xH (di.le_refl nx)) (λ_ _=>rfl) hv)⟩
 nd:=by simp only [T.blk,AZ];exact hnd
 own:=by simp only [T.blk,AZ];exact iL
 sub:=dK
 st:=⟨nx.iG γ,EK nx γ l'⟩
 ns:=xH
 new:=by
  intro q y hy;exact Ke (t:=.vec an z l' len) hy
 one:=by intro c hc;simp at hc;subst hc;rfl
 ls:=Ih
end
end Go.Mid
namespace Go.Mid
open Go.RowKit
def cellsOf (vs:List Value):List Value:=vs.flatMap λv=>v.cells.toList
section
variable {w:World}{A:Nat->Prop}{nx:di}{γ:Nat}
theorem dW.vs {E:dP An}:∀ {l:List MV} {cs:List Value},dW w A E nx l cs->∃ vs,c9 w A E nx l vs∧cs=cellsOf vs
 | [],cs,h=>by simp only [dW] at h;subst h;exact ⟨[],by simp only [c9],rfl⟩
 | x::r,cs,h=>by
   simp only [dW] at h;obtain ⟨v,d,rfl,h1,h2,h3,h4⟩:=h;obtain ⟨vs,h5,rfl⟩:=dW.vs h4;exact ⟨v::vs,by simp only [c9];exact ⟨v,vs,rfl,h3,h5⟩,by simp [cellsOf]⟩
theorem l4.agg {E:dP An}{cs:List Value}{ts:List (T Nat)}{h1:cj}{E1:dP An}{lA:List (T An)}(k:l4 w A E nx γ cs ts h1 E1 lA):pF w A E nx γ cs (j2 ts) h1 E1 (j2 lA) where
 er:=by rw [Ob,k.er]
 mr:=k.mr
 tc:=YT.2 k.tc
 nd:=by rw [Oc];exact k.nd
 own:=by rw [Oc];exact k.own
 sub:=k.sub
 st:=R3 k.st
 ns:=k.ns
 new:=by
  intro q y hy;cases q with
  | nil=>rw [R6] at hy;cases hy
  | cons i r =>
    rw [R4] at hy;cases hl:lA[i]? with
    | none=>simp [hl] at hy
    | some t=>simp only [hl,ai] at hy;exact k.new i t hl r y hy
 one:=k.one
 ls:=k.ls
theorem pF.cons {E:dP An}{cs ds:List Value}{t:T Nat}{ts:List (T Nat)}{h1 h2:cj}{E1 E2:dP An}{tA:T An}{lA:List (T An)}(k:pF w A E nx γ cs t h1 E1 tA)(k':l4 w A E1 nx γ ds ts h2 E2 lA) :
 l4 w A E nx γ (cs++ds) (t::ts) h2 E2 (tA::lA) where
 er:=by simp [k.er,k'.er]
 mr:=k'.mr
 tc:=by
  simp only [j7];exact ⟨cs,ds,rfl,k.tc.frame (k'.ns.fr (di.le_refl _)) (λ_ _=>rfl),k'.tc⟩
 nd:=by
  simp only [T.b4];refine aT.2 ⟨k.nd,k'.nd,?_⟩;rintro b hb _ js rfl;exact (k.own b hb).2 (k'.own b js).1
 own:=by
  intro b hb;simp only [T.b4,az] at hb;rcases hb with hb | hb
  . exact ⟨(k.own b hb).1,λho=>(k.own b hb).2 (k'.sub b ho)⟩
  . exact ⟨k.sub b (k'.own b hb).1,(k'.own b hb).2⟩
 sub:=λb hb=>k.sub b (k'.sub b hb)
 st:=⟨k.st,k'.st⟩
 ns:=k.ns.trans k'.ns
 new:=by
  intro i t ht q y hy;cases i with
  | zero=>simp at ht;subst ht;exact k.new q y hy
  | succ i=>simp at ht;exact k'.new i t ht q y hy
 one:=by
  intro c hc;rcases az.1 hc with hc | hc
  . exact k.one c hc
  . exact k'.one c hc
 ls:=k.ls.trans k'.ls
mutual
theorem Se:∀ (x:MV) {E:dP An} {h:cj} {t:T Nat} {h1:cj} {val:Value},pA γ h x=some (t,h1)->MR w A E h nx->bR w A E nx x val->∃ E1 tA,pF w A E nx γ val.cells.toList t h1 E1 tA
 | .p v,E,h,t,h1,val,hi,hm,hv=>by
   simp only [pA,aa,ae] at hi;obtain ⟨rfl,rfl⟩:=hi;simp only [bR,pD] at hv;obtain ⟨c,hc,rfl⟩:=hv;rw [hc.avn];refine ⟨E,.p v,pF.idle hm rfl (by simp only [TC];exact hc) rfl trivial ?_ hc.ke⟩
   intro q y hy;simp only [fE] at hy;split at hy<;>rename_i heq
   . rename_i a z l n;exfalso
     have:∀ (q:List Nat) (v:PV) (u:T An),cR (.p v) q=some u->∃ v',u=.p v':=by
      intro q
      induction q with
      | nil=>intro v u h;simp only [cR,aa] at h;exact ⟨v,h.symm⟩
      | cons i r ih =>
        intro v u h;cases v<;>simp only [cR,reduceCtorEq] at h;split at h
        . exact ih _ _ h
        . cases h
     obtain ⟨v',e⟩:=this _ _ _ heq;cases e
   . exfalso
     have:∀ (q:List Nat) (v:PV) (u:T An),cR (.p v) q=some u->∃ v',u=.p v':=by
      intro q
      induction q with
      | nil=>intro v u h;simp only [cR,aa] at h;exact ⟨v,h.symm⟩
      | cons i r ih =>
        intro v u h;cases v<;>simp only [cR,reduceCtorEq] at h;split at h
        . exact ih _ _ h
        . cases h
     obtain ⟨v',e⟩:=this _ _ _ heq;cases e
   . cases hy
 | .nil z,E,h,t,h1,val,hi,hm,hv=>by
   simp only [pA,aa,ae] at hi;obtain ⟨rfl,rfl⟩:=hi;simp only [bR] at hv;obtain ⟨a,rfl⟩:=hv;refine ⟨E,.vec ⟨γ,none,0⟩ z [] 0,pF.idle hm rfl ?_ rfl ⟨nx.iG γ,trivial⟩ ?_ ?_⟩
   . simp only [TC,VB,de];exact ⟨a,0,rfl,ay _,⟨rfl,rfl⟩,trivial,trivial⟩
   . intro q y hy;cases q with
     | nil=>simp [fE,cR] at hy;rw [← hy]
     | cons i r=>simp [fE,cR] at hy
   . intro c hc;simp [de] at hc;subst hc;rfl
 | .own id path off len g',E,h,t,h1,val,hi,hm,hv=>by
   simp only [bR] at hv;obtain ⟨hg,a,cap,rfl,nU,hh⟩:=hv;simp only [pA] at hi;split at hi
   . rename_i wW z l gk;split at hi
     . rename_i hc;obtain ⟨rfl,rfl,hlen⟩:=hc;simp only [aa,ae] at hi;obtain ⟨rfl,rfl⟩:=hi;obtain ⟨an,l',hE,F2,rfl,Ab,l5,hnd,iL,dK⟩:=hm.vU gk;have kG:=hh an z (by rw [hE];rfl) F2
       refine ⟨_,_,pF.vec Ab l5 hnd iL dK (jt.gone E id) (mS.gone E id) (by simpa using hlen) kG⟩
     . cases hi
   . split at hi
     . rename_i wW z l n hs;split at hi
       . rename_i hc;obtain ⟨rfl,rfl,hlen⟩:=hc;split at hi
         . rename_i oh hp;simp only [aa,ae] at hi;obtain ⟨rfl,rfl⟩:=hi;obtain ⟨E1,an,l',hE,bW,F2,rfl,Ab,l5,hnd,iL,dK,xH,Ih⟩:=hm.yE hs hp;have kG:=hh an z bW F2;refine ⟨_,_,pF.vec Ab l5 hnd iL dK xH Ih (by simpa using hlen) kG⟩
         . cases hi
       . cases hi
     . cases hi
 | .ptr id np rp g o,E,h,t,h1,val,hi,hm,hv=>by
   simp only [pA,aa,ae] at hi;obtain ⟨rfl,rfl⟩:=hi;have A0:=hv;simp only [bR] at hv;obtain ⟨_,a,rfl,_⟩:=hv;refine ⟨E,.m (.ptr id np rp g o),pF.idle hm rfl ?_ rfl trivial ?_ ?_⟩
   . simp only [TC,de];exact ⟨rfl,rfl,_,A0,rfl⟩
   . intro q y hy;cases q<;>simp [fE,cR] at hy
   . intro c hc;simp [de] at hc;subst hc;rfl
 | .auG id path g,E,h,t,h1,val,hi,hm,hv=>by
   simp only [pA,aa,ae] at hi;obtain ⟨rfl,rfl⟩:=hi;have A0:=hv;simp only [bR] at hv;obtain ⟨_,a,rfl,_⟩:=hv;refine ⟨E,.m (.auG id path g),pF.idle hm rfl ?_ rfl trivial ?_ ?_⟩
   . simp only [TC,de];exact ⟨rfl,rfl,_,A0,rfl⟩
   . intro q y hy;cases q<;>simp [fE,cR] at hy
   . intro c hc;simp [de] at hc;subst hc;rfl
 | .agg l,E,h,t,h1,val,hi,hm,hv=>by
   simp only [pA] at hi;split at hi
   . rename_i ts h' te;simp only [aa,ae] at hi;obtain ⟨rfl,rfl⟩:=hi;simp only [bR] at hv;obtain ⟨cs,rfl,eV⟩:=hv;obtain ⟨vs,fN,rfl⟩:=eV.vs;obtain ⟨E1,lA,k⟩:=Sf l te hm fN;refine ⟨E1,j2 lA,?_⟩
     have:=k.agg
     simpa [de] using this
   . cases hi
 | .fn f iR,E,h,t,h1,val,hi,hm,hv=>by
   simp only [pA,aa,ae] at hi;obtain ⟨rfl,rfl⟩:=hi;have A0:=hv;simp only [bR] at hv;obtain ⟨vs,rfl,_⟩:=hv;refine ⟨E,.m (.fn f iR),pF.idle hm rfl ?_ rfl trivial ?_ ?_⟩
   . simp only [TC,NX];exact ⟨rfl,rfl,_,A0,rfl⟩
   . intro q y hy;cases q<;>simp [fE,cR] at hy
   . intro c hc;simp [NX] at hc;subst hc;unfold xC;split<;>rfl
 | .eI _,E,h,t,h1,val,hi,_,_=>by simp [pA] at hi
 | .dead _,E,h,t,h1,val,hi,_,_=>by simp [pA] at hi
theorem Sf:∀ (l:List MV) {E:dP An} {h:cj} {ts:List (T Nat)} {h1:cj} {vs:List Value},vB γ h l=some (ts,h1)->MR w A E h nx->c9 w A E nx l vs->
 ∃ E1 lA,l4 w A E nx γ (cellsOf vs) ts h1 E1 lA
 | [],E,h,ts,h1,vs,hi,hm,hv=>by
   simp only [vB,aa,ae] at hi;obtain ⟨rfl,rfl⟩:=hi;simp only [c9] at hv;subst hv;exact ⟨E,[],rfl,hm,by simp only [j7,cellsOf,List.flatMap_nil],by simp [T.b4],by simp [T.b4],λ_ h=>h,trivial,jt.refl E,by simp,by simp [cellsOf],mS.refl E⟩
 | x::r,E,h,ts,h1,vs,hi,hm,hv=>by
   simp only [vB] at hi;split at hi
   . rename_i t h' ht;split at hi
     . rename_i Sh JT te;simp only [aa,ae] at hi;obtain ⟨rfl,rfl⟩:=hi;simp only [c9] at hv;obtain ⟨v,d,rfl,hx,hr⟩:=hv;obtain ⟨E1,tA,k⟩:=Se x ht hm hx;obtain ⟨E2,lA,k'⟩:=Sf r te k.mr (hr.frame (k.ns.fr (di.le_refl _)));refine ⟨E2,tA::lA,?_⟩
       have:=k.cons k'
       simpa [cellsOf] using this
     . cases hi
   . cases hi
end
theorem gC.of {E E1:dP An}{w':World}{E2:dP An}(h:w'.os=w.os∧w'.tape=w.tape∧w'.output=w.output∧w.drawn<=w'.drawn)(hs:w.heap.size<=w'.heap.size)
 (hk:∀ b,b<w.heap.size->¬ jr E b->w'.heap[b]?=w.heap[b]?) (ho:∀ b,b<w.heap.size->jr E2 b->jr E b) (hn:pf nx E E1) (rV:pf nx E1 E2):gC w A E nx w' A E2 :=
 ⟨h.1,h.2.1,h.2.2,hs,hk,λ_ h=>h,λ_ _ h=>.inl h,ho,hn.trans rV (di.le_refl _)⟩
end
end Go.Mid
namespace Go.Mid
open Go.RowKit
theorem YZ (A B:List Value):∀ (new old done:List Value),new.length=old.length->
 ((new.zipIdx done.length).foldl (λ(cs:Array Value) (p:Value×Nat)=>cs.setIfInBounds (A.length+p.2) p.1) (A++done++old++B).toArray)=(A++done++new++B).toArray
 | [],[],done,_=>rfl
 | v::r,x::q,done,h=>by
   simp only [bf,Nat.add_right_cancel_iff] at h;rw [List.zipIdx_cons,List.foldl_cons];have e:(A++done++x::q++B).toArray.setIfInBounds (A.length+done.length) v=(A++(done++[v])++q++B).toArray:=by
    apply gG;simp only [Array.toList_setIfInBounds]
    have:A++done++x::q++B=(A++done)++(x::(q++B)):=by simp
    rw [this,List.set_append_right _ _ (by simp)]
    simp
   simp only [e]
   have:=YZ A B r q (done++[v]) h
   rw [aR,dN] at this;rw [this];simp
 | [],x::q,done,h=>by simp at h
 | v::r,[],done,h=>by simp at h
theorem C6f (A B old:List Value)(new:Array Value)(h:new.size=old.length) :
 (new.zipIdx.foldl (λ(cs:Array Value) (x:Value×Nat)=>match x with | (c,j)=>cs.setIfInBounds (A.length+j) c) (A++old++B).toArray)=(A++new.toList++B).toArray:=by
 have:=YZ A B new.toList old [] (by simpa using h)
 simp only [bD,List.length_nil] at this;rw [← this,← Array.foldl_toList,Array.toList_zipIdx]
def pickL (ps:List (Nat×Value))(i:Nat)(c:List Value):List Value:=match ps.find? (·.1==i) with | some (_,v)=>v.cells.toList | none=>c
def w9 (ps:List (Nat×Value)):Nat->List (List Value)->List (List Value)
 | _,[]=>[]
 | i,c::r=>pickL ps i c::w9 ps (i+1) r
theorem Y0:∀ (i:Nat) (l:List (List Value)),w9 [] i l=l
 | _,[]=>rfl
 | i,c::r=>by simp [w9,pickL,Y0]
theorem Y1 {k:Nat}{v:Value}{ps:List (Nat×Value)}(hk:∀ p∈ps,p.1≠k):∀ (i:Nat) (l:List (List Value)),i<=k->w9 ((k,v)::ps) i l=w9 ps i (l.set (k-i) v.cells.toList)
 | _,[],_=>by simp [w9]
 | i,c::r,hi=>by
   by_cases e:k=i
   . subst e;simp only [Nat.sub_self,dR,w9];have h1:pickL ((k,v)::ps) k c=v.cells.toList:=by simp [pickL]
     have h2:pickL ps k v.cells.toList=v.cells.toList:=by
      unfold pickL;rw [List.find?_eq_none.2 (λp hp=>by simpa using hk p hp)]
     rw [h1,h2];congr 1
     have:∀ (i:Nat) (l:List (List Value)),k<i->w9 ((k,v)::ps) i l=w9 ps i l:=by
      intro i l
      induction l generalizing i with
      | nil=>intro _;rfl
      | cons c r ih =>
        intro hi;simp only [w9];rw [ih _ (by omega)]
        congr 1;simp only [pickL,iz,show ((k,v).1==i)=false by simp;omega]
     exact this _ _ (by omega)
   . have e1:k-i=(k-(i+1))+1:=by omega
     rw [e1,ev,w9,w9,Y1 hk (i+1) r (by omega)]
     congr 1;simp only [pickL,iz,show ((k,v).1==i)=false by simp;omega]
theorem C4E {l:List (List Value)}{i:Nat}{c d:List Value}(h:l[i]?=some c):(l.set i d).flatten=(l.take i).flatten++d++(l.drop (i+1)).flatten:=by
 induction l generalizing i with
 | nil=>simp at h
 | cons x r ih =>
   cases i with
   | zero=>simp
   | succ i=>simp at h;simp [ih h]
theorem C4F {l:List (List Value)}{i:Nat}{c:List Value}(h:l[i]?=some c):l.flatten=(l.take i).flatten++c++(l.drop (i+1)).flatten:=by
 induction l generalizing i with
 | nil=>simp at h
 | cons x r ih =>
   cases i with
   | zero=>simp at h;subst h;simp
   | succ i=>simp at h;rw [ec,ih h];simp
theorem C2z {l:List (List Value)}{i:Nat}{c d:List Value}(h:l[i]?=some c)(hd:d.length=c.length)(j:Nat):((l.set i d).take j).flatten.length=(l.take j).flatten.length:=by
 induction l generalizing i j with
 | nil=>simp
 | cons x r ih =>
   cases j with
   | zero=>simp
   | succ j =>
     cases i with
     | zero=>simp at h;subst h;simp [hd]
     | succ i=>simp at h;simp only [ev,bU,ec,aR];rw [ih h j]
theorem Y2 (place:Nat->Option (Nat×Nat)):∀ (ps:List (Nat×Value)) (qV:List (List Value)),(ps.map (·.1)).Nodup->(∀ p∈ps,∃ c,qV[p.1]?=some c∧p.2.cells.size=c.length)->
 (∀ i c,qV[i]?=some c->place i=some ((qV.take i).flatten.length,c.length))->pV place qV.flatten.toArray ps=some (w9 ps 0 qV).flatten.toArray
 | [],qV,_,_,_=>by simp [pV,Y0]
 | (k,v)::ps,qV,hn,hp,qN=>by
   simp only [aF,bZ] at hn;obtain ⟨c,hc,hsz⟩:=hp (k,v) (by simp)
   simp only at hc hsz;simp only [pV,qN k c hc];have e:=C4F hc;have hle:(qV.take k).flatten.length+v.cells.size<=qV.flatten.toArray.size:=by
    simp only [List.size_toArray];rw [e];simp only [aR];omega
   rw [if_neg (by simp only [ne_eq,gt_iff_lt,Bool.or_eq_true,decide_eq_true_eq,not_or,Nat.not_lt,Decidable.not_not];exact ⟨hsz,hle⟩)]
   have sB:(v.cells.zipIdx.foldl (λ(cs:Array Value) (x:Value×Nat)=>match x with | (c,j)=>cs.setIfInBounds ((qV.take k).flatten.length+j) c) qV.flatten.toArray)=(qV.set k v.cells.toList).flatten.toArray:=by
    rw [C4E hc,e];exact C6f _ _ _ _ hsz
   rw [sB];have hlen:v.cells.toList.length=c.length:=by simpa using hsz
   rw [Y2 place ps (qV.set k v.cells.toList) hn.2 ?_ ?_,Y1 (k:=k) (v:=v) (ps:=ps) ?_ 0 qV (dg _),Nat.sub_zero]
   . intro p iw e;exact hn.1 (by rw [← e];exact dY (f:=(·.1)) iw)
   . intro p iw;obtain ⟨c',zm,F8⟩:=hp p (by simp [iw])
     by_cases e':k=p.1
     . exact absurd (dY (f:=(·.1)) iw) (by rw [← e'];exact hn.1)
     . exact ⟨c',by rw [List.getElem?_set_ne e'];exact zm,F8⟩
   . intro i ci hi;rw [C2z hc hlen];rw [dD] at hi;split at hi
     . rename_i Dp;split at hi
       . cases hi;subst Dp;rw [qN k c hc,hlen]
       . cases hi
     . exact qN i ci hi
section
variable {w:World}{A:Nat->Prop}{E:dP An}{nx:di}
mutual
theorem Oo:∀ {v:PV} {cs r:List Value},zf v cs=some r->∃ c,cs=c++r∧dU w A v c
 | .int k n,cs,r,h=>by
   simp only [zf] at h;split at h
   . split at h
     . rename_i hc;obtain ⟨rfl,rfl⟩:=hc;cases h;exact ⟨[_],rfl,by simp only [dU]⟩
     . cases h
   . cases h
 | .bool b,cs,r,h=>by
   simp only [zf] at h;split at h
   . split at h
     . rename_i hc;subst hc;cases h;exact ⟨[_],rfl,by simp only [dU]⟩
     . cases h
   . cases h
 | .str s,cs,r,h=>by
   simp only [zf] at h;split at h
   . rename_i s' _;split at h
     . rename_i hc;cases h;refine ⟨[_],rfl,?_⟩;simp only [dU];have h1:s=⟨#[]⟩:=by
        obtain ⟨d⟩:=s;congr 1;exact eP hc.1
       have h2:s'=⟨#[]⟩:=by
        obtain ⟨d⟩:=s';congr 1;exact eP hc.2
       rw [h1,h2]
     . cases h
   . cases h
 | .agg l,cs,r,h=>by
   simp only [zf] at h;obtain ⟨c,h1,h2⟩:=Y3 h;exact ⟨c,h1,by simp only [dU];exact h2⟩
 | .eM,cs,r,h=>by
   simp only [zf] at h;split at h
   . cases h;exact ⟨[_],rfl,by simp only [dU]⟩
   . cases h
 | .fa,cs,r,h=>by
   simp only [zf] at h;split at h
   . cases h;exact ⟨[_],rfl,by simp only [dU]⟩
   . cases h
 | .mp ks vs,cs,r,h=>by
   simp only [zf] at h;split at h
   . split at h
     . rename_i hc;simp only [aj,List.isEmpty_iff] at hc;obtain ⟨rfl,rfl⟩:=hc;cases h;exact ⟨[_],rfl,by simp only [dU];exact .inl ⟨trivial,trivial,trivial⟩⟩
     . cases h
   . cases h
 | .sl _,cs,r,h=>by simp [zf] at h
 | .ref _,cs,r,h=>by simp [zf] at h
 | .fn ..,cs,r,h=>by simp [zf] at h
theorem Y3:∀ {l:List PV} {cs r:List Value},JX l cs=some r->∃ c,cs=c++r∧cK w A l c
 | [],cs,r,h=>by simp only [JX,aa] at h;subst h;exact ⟨[],rfl,by simp only [cK]⟩
 | x::q,cs,r,h=>by
   simp only [JX] at h;split at h
   . rename_i d hd;obtain ⟨c,rfl,h1⟩:=Oo hd;obtain ⟨c',rfl,h2⟩:=Y3 h;exact ⟨c++c',by simp,by simp only [cK];exact ⟨c,c',rfl,h1,h2⟩⟩
   . cases h
end
def uu (w:World)(A:Nat->Prop)(E:dP An)(nx:di)(x:MV)(cs:List Value):Prop:=∃ v:Value,v.cells.toList=cs∧v.cells.size=x.cs∧(∀ c,v=.agg c->x.isAgg=true∨∃ n,x=.dead n)∧bR w A E nx x v
theorem uu.cons {x:MV}{r:List MV}{c d:List Value}(h:uu w A E nx x c)(k:dW w A E nx r d):dW w A E nx (x::r) (c++d):=by
 obtain ⟨v,rfl,h1,h2,h3⟩:=h;simp only [dW];exact ⟨v,d,rfl,h1,h2,h3,k⟩
theorem dU.vV {v:PV}{c:List Value}(h:dU w A v c):uu w A E nx (.p v) c:=by
 refine ⟨pk v.isAgg c,by rw [h.avn],by rw [h.avn];simpa [MV.cs] using h.len,?_,by simp only [bR,pD];exact ⟨c,h,rfl⟩⟩
 intro c' e;cases hg:v.isAgg with
 | true=>exact .inl hg
 | false =>
   rw [hg] at e;obtain ⟨x,rfl,hx⟩:=h.one hg;simp only [pk,Bool.false_eq_true,if_false,List.headD_cons] at e;subst e;exact (YD hx).elim
theorem Oq:∀ {l:List MV} {cs:List Value},dW w A E nx l cs->cs.length=MV.db l
 | [],cs,h=>by simp only [dW] at h;subst h;rfl
 | x::r,cs,h=>by
   simp only [dW] at h;obtain ⟨v,d,rfl,h1,_,_,h4⟩:=h;rw [aR,dX,h1,Oq h4];rfl
theorem bR.vV {x:MV}{v:Value}(h:bR w A E nx x v)(hl:tw x=true):uu w A E nx x v.cells.toList:=by
 cases x with
 | p pv =>
   simp only [bR,pD] at h;obtain ⟨c,hc,rfl⟩:=h
   have:=hc.vV (E:=E) (nx:=nx)
   rwa [hc.avn]
 | agg l =>
   have h0:=h;simp only [bR] at h;obtain ⟨cs,rfl,eV⟩:=h;exact ⟨.agg cs.toArray,rfl,by simpa [de,MV.cs] using Oq eV,λ_ _=>.inl rfl,h0⟩
 | eI=>simp [tw] at hl
 | dead=>simp [tw] at hl
 | auG =>
   have h0:=h;simp only [bR] at h;obtain ⟨_,a,rfl,_⟩:=h;exact ⟨_,rfl,rfl,by rintro c ⟨⟩,h0⟩
 | nil z =>
   have h0:=h;simp only [bR] at h;obtain ⟨a,rfl⟩:=h;exact ⟨_,rfl,rfl,by rintro c ⟨⟩,h0⟩
 | own =>
   have h0:=h;simp only [bR] at h;obtain ⟨_,a,cap,rfl,_⟩:=h;exact ⟨_,rfl,rfl,by rintro c ⟨⟩,h0⟩
 | ptr =>
   have h0:=h;simp only [bR] at h;obtain ⟨_,a,rfl,_⟩:=h;exact ⟨_,rfl,rfl,by rintro c ⟨⟩,h0⟩
 | fn f0 l0 =>
   have h0:=h;simp only [bR] at h;obtain ⟨vs,hv,_⟩:=h;obtain ⟨g,i,c,hq⟩:=RL f0 vs.toArray;rw [hq] at hv;subst hv;exact ⟨_,rfl,rfl,by rintro c ⟨⟩,h0⟩
mutual
theorem Si:∀ {v:MV} {cs r:List Value},uo v cs=some r->∃ c,cs=c++r∧uu w A E nx v c
 | .p v,cs,r,h=>by
   simp only [uo] at h;obtain ⟨c,h1,h2⟩:=Oo (w:=w) (A:=A) h;exact ⟨c,h1,h2.vV⟩
 | .nil z,cs,r,h=>by
   simp only [uo] at h;split at h
   . rename_i a r';cases h;refine ⟨[.slice a 0 0],rfl,.slice a 0 0,rfl,rfl,by rintro c ⟨⟩,by simp only [bR];exact ⟨_,rfl⟩⟩
   . cases h
 | .agg l,cs,r,h=>by
   simp only [uo] at h;obtain ⟨c,h1,h2⟩:=Y4 h;exact ⟨c,h1,.agg c.toArray,rfl,by simpa [de,MV.cs] using Oq h2,λ_ _=>.inl rfl,by simp only [bR];exact ⟨c,rfl,h2⟩⟩
 | .own ..,cs,r,h=>by simp [uo] at h
 | .ptr ..,cs,r,h=>by simp [uo] at h
 | .auG ..,cs,r,h=>by simp [uo] at h
 | .fn ..,cs,r,h=>by simp [uo] at h
 | .eI _,cs,r,h=>by simp [uo] at h
 | .dead _,cs,r,h=>by simp [uo] at h
theorem Y4:∀ {l:List MV} {cs r:List Value},EB l cs=some r->∃ c,cs=c++r∧dW w A E nx l c
 | [],cs,r,h=>by simp only [EB,aa] at h;subst h;exact ⟨[],rfl,by simp only [dW]⟩
 | x::q,cs,r,h=>by
   simp only [EB] at h;split at h
   . rename_i d hd;obtain ⟨c,rfl,h1⟩:=Si hd;obtain ⟨c',rfl,h2⟩:=Y4 h;exact ⟨c++c',by simp,h1.cons h2⟩
   . cases h
end
end
end Go.Mid
namespace Go.Mid
open Go.RowKit
section
variable {P:Program}{w:World}{A:Nat->Prop}{E:dP An}{nx:di}{s:gB}{a:Act}
theorem Y5 {z:Nat}{zs:List Nat}{v:MV}{vs:List MV}(h:okB (z::zs) (v::vs)=true):v.cs=z∧tw v=true∧okB zs vs=true:=by
 simp only [okB,aj,beq_iff_eq] at h;exact ⟨h.1.1,h.1.2,h.2⟩
def EM (a:Act)(parts:List (Nat×Operand)):List (Nat×Value):=parts.map λp=>(p.1,a.eval p.2)
theorem Y6 (parts:List (Nat×Operand))(i:Nat):(EM a parts).find? (·.1==i)=(parts.find? (·.1==i)).map λp=>(p.1,a.eval p.2):=by
 unfold EM;rw [List.find?_map];rfl
theorem Sj (hs:qM P w A E nx s a){parts:List (Nat×Operand)}:∀ {ts:List TypeId} {i:Nat} {rest:List Value} {os:List dJ},z7 P parts ts i rest=some os->
 ∃ qV:List (List Value),rest=qV.flatten∧qV.map cz=ts.map P.cellsOf∧os.length=ts.length∧(okB (ts.map P.cellsOf) (os.map (cJ s))=true->
  dW w A E nx (os.map (cJ s)) (w9 (EM a parts) i qV).flatten ∧
  ∀ j k x,i<=j->j<i+ts.length->parts.find? (·.1==j)=some (k,x)->∃ c,qV[j-i]?=some c∧(a.eval x).cells.size=c.length)
 | [],i,rest,os,h=>by
   simp only [z7] at h;split at h
   . rename_i hr;cases h;refine ⟨[],by simpa using hr,rfl,rfl,λ_=>⟨by simp [w9,dW],λj k x h1 h2=>by simp at h2;omega⟩⟩
   . cases h
 | t::r,i,rest,os,h=>by
   simp only [z7] at h;split at h
   . rename_i hlen;split at h
     . rename_i o Yl ho hos;cases h;obtain ⟨qV,h1,h2,h3,h4⟩:=Sj hs hos;refine ⟨rest.take (P.cellsOf t)::qV,?_,?_,by simp [h3],λkN=>?_⟩
       . rw [ec,← h1,List.take_append_drop]
       . simp only [aF,hlen,h2]
       . simp only [aF] at kN;obtain ⟨hz,hl,kN⟩:=Y5 kN;obtain ⟨h5,h6⟩:=h4 kN;have EN:uu w A E nx (cJ s o) (pickL (EM a parts) i (rest.take (P.cellsOf t)))∧∀ k x,parts.find? (·.1==i)=some (k,x)->(a.eval x).cells.size=P.cellsOf t:=by
          split at ho
          . rename_i k x hf;have hv:=jP hs ho;have hc:=hv.vV hl;have e:pickL (EM a parts) i (rest.take (P.cellsOf t))=(a.eval x).cells.toList:=by
             unfold pickL;rw [Y6,hf];rfl
            refine ⟨by rw [e];exact hc,λk' x' F9=>?_⟩
            rw [hf] at F9;cases F9;obtain ⟨v',e1,e2,_⟩:=hc;rw [← hz,← e2,← dX,← dX,e1]
          . rename_i hf;have e:pickL (EM a parts) i (rest.take (P.cellsOf t))=rest.take (P.cellsOf t):=by
             unfold pickL;rw [Y6,hf];rfl
            refine ⟨?_,λk' x' F9=>by rw [hf] at F9;cases F9⟩
            rw [e];split at ho
            . rename_i v hv;split at ho
              . rename_i hc;cases ho;obtain ⟨c,e1,e2⟩:=Si (w:=w) (A:=A) (E:=E) (nx:=nx) hc;rw [bD] at e1;rw [e1];exact e2
              . cases ho
            . cases ho
         constructor
         . simp only [aF,w9,ec];exact EN.1.cons h5
         . intro j k x gM hj hf;by_cases e:j=i
           . subst e;refine ⟨_,by simp;rfl,?_⟩
             rw [hlen];exact EN.2 k x hf
           . obtain ⟨c,e1,e2⟩:=h6 j k x (by omega) (by simp only [bf] at hj;omega) hf
             refine ⟨c,?_,e2⟩;rw [show j-i=(j-(i+1))+1 by omega,List.getElem?_cons_succ]
             exact e1
     . cases h
   . cases h
theorem Y7:∀ {l:List Nat},NS l=true->l.Nodup
 | [],_=>List.nodup_nil
 | x::r,h=>by
   simp only [NS,aj,Bool.not_eq_true',List.contains_eq_mem,decide_eq_false_iff_not] at h;exact bZ.2 ⟨h.1,Y7 h.2⟩
theorem C75 {parts:List (Nat×Operand)}(hn:(parts.map (·.1)).Nodup){p:Nat×Operand}(hp:p∈parts):parts.find? (·.1==p.1)=some p:=by
 induction parts with
 | nil=>simp at hp
 | cons q r ih =>
   simp only [aF,bZ] at hn;rcases aG.1 hp with rfl | hp
   . simp
   . have:q.1≠p.1:=by rintro e;exact hn.1 (by rw [e];exact dY (f:=(·.1)) hp)
     rw [iz,show (q.1==p.1)=false by simpa using this]
     exact ih hn.2 hp
theorem Y8:∀ {qV:List (List Value)} {zs:List Nat} (i:Nat),qV.map cz=zs->(qV.take i).flatten.length=(zs.take i).sum
 | [],zs,i,h=>by simp at h;subst h;simp
 | c::r,zs,0,h=>by simp
 | c::r,zs,i+1,h=>by
   subst h;simp only [aF,bU,ec,aR,mT];rw [Y8 i rfl]
theorem Sk (hs:qM P w A E nx s a){parts:Array (Nat×Operand)}{ts:List TypeId}{rest:List Value}{os:List dJ}(hp:z7 P parts.toList ts 0 rest=some os)(kN:Ck ts.length parts.toList=true)
 (hb:okB (ts.map P.cellsOf) (os.map (cJ s))=true) (place:Nat->Option (Nat×Nat)) (qN:∀ i t,ts[i]?=some t->place i=some (((ts.take i).map P.cellsOf).sum,P.cellsOf t)) :
 ∃ cs,dW w A E nx (os.map (cJ s)) cs∧pV place rest.toArray (parts.map λ(i,x)=>(i,a.eval x)).toList=some cs.toArray:=by
 obtain ⟨qV,h1,h2,_,h3⟩:=Sj hs hp;obtain ⟨h4,h5⟩:=h3 hb;simp only [Ck,aj,List.all_eq_true,decide_eq_true_eq] at kN;have hn:=Y7 kN.2.1;refine ⟨_,h4,?_⟩;have e:(parts.map λ(i,x)=>(i,a.eval x)).toList=EM a parts.toList:=by rw [Array.toList_map];rfl
 rw [e,h1];refine Y2 place _ qV ?_ ?_ ?_
 . unfold EM;rw [sk];exact hn
 . intro p hp;obtain ⟨q,hq,rfl⟩:=bp.1 hp
   have:=h5 q.1 q.1 q.2 (dg _) (by rw [bS];exact kN.1 q hq) (C75 hn hq)
   simpa using this
 . intro i c hi;have eC:i<ts.length:=by
    have h6:=congrArg cz h2;simp only [aB] at h6
    have:=(aJ.1 hi).1
    omega
   rw [qN i ts[i] (by simp [eC]),Y8 i h2,bP]
   congr 2
   have:=congrArg (·[i]?) h2
   simp only [aL,hi,ak] at this;rw [List.getElem?_eq_getElem eC] at this;simpa using this.symm
theorem EO {t:TypeId}{zc:List Value}(h:xA P t=some zc)(w:World):∃ z,(zeroValue t).run P w=.ok z w∧z.cells=zc.toArray∧∃ i,P.info? t=some i∧i.zero=some z:=by
 unfold xA at h;split at h
 . rename_i i hi;split at h
   . rename_i z hz;cases h;exact ⟨z,by simp [zeroValue,typeInfo,hi,hz],by simp,i,hi,hz⟩
   . cases h
 . cases h
theorem Y9 {α β:Type}(f:α->Sem β)(g:α->β)(w:World):∀ (l:List α),(∀ x∈l,(f x).run P w=.ok (g x) w)->(l.mapM f).run P w=.ok (l.map g) w
 | [],_=>by simp
 | x::r,h=>by
   rw [List.mapM_cons];simp only [bn,h x (by simp),aU,Y9 f g w r (λy hy=>h y (by simp [hy])),bL,aF]
theorem Sl:∀ {fs:List Field} {o i:Nat} {f:Field},C9 P fs o=true->fs[i]?=some f->f.offset=o+((fs.take i).map λf=>P.cellsOf f.type).sum∧rS P f.type=true
 | [],o,i,f,_,h=>by simp at h
 | x::r,o,0,f,h,k=>by
   simp at k;subst k;simp only [C9,aj,beq_iff_eq] at h;exact ⟨by simp [h.1.1],h.1.2⟩
 | x::r,o,i+1,f,h,k=>by
   simp at k;simp only [C9,aj,beq_iff_eq] at h;obtain ⟨h1,h2⟩:=Sl h.2 k;exact ⟨by rw [h1,bU,aF,mT];omega,h2⟩
theorem Za (n z:Nat):(au n z).sum=n*z:=by
 induction n with
 | zero=>simp
 | succ n ih=>rw [List.replicate_succ,mT,ih,Nat.succ_mul];omega
end
section
variable {P:Program}{o:Oper}{a:Act}{w:World}{A:Nat->Prop}{E:dP An}{nx:di}{γ:Nat}{v:MV}{h h':cj}{s:gB}{K:jm}{d:Option Nat}
 (hs:qM P w A E nx s a) (hm:MR w A E h nx)
include hs hm
theorem C6g {t:TypeId}{parts:Array (Nat×Operand)}{zc:List Value}{fs:Array Field}{l:List dJ}(ho:o.op=.build t parts)(hz:xA P t=some zc)(hu:P.underlying t=some (.struct fs))
 (kN:Ck fs.size parts.toList=true) (lD:C9 P fs.toList 0=true) (hl:z7 P parts.toList (fs.toList.map (·.type)) 0 zc=some l)
 (he:b6 K γ d s h (.build (fs.toList.map λf=>P.cellsOf f.type) l)=some (v,h')):cC P o a w A E nx γ v h':=by
 simp only [b6] at he;split at he
 . rename_i hb;simp only [aa,ae] at he;obtain ⟨rfl,rfl⟩:=he;obtain ⟨z,Ga,tF,_⟩:=EO hz w;have Dq:(fs.mapM λ(f:Field)=>do pure (f.offset,← sizeOf f.type)).run P w=.ok (fs.map λ(f:Field)=>(f.offset,P.cellsOf f.type)) w:=by
    have e:fs=fs.toList.toArray:=by simp
    rw [e,List.mapM_toArray];simp only [map_eq_pure_bind,bn];rw [Y9 _ (λ(f:Field)=>(f.offset,P.cellsOf f.type)) w fs.toList ?_]
    . simp only [aU,bL];congr 1;apply gG;simp
    . intro f hf;obtain ⟨i,hi⟩:=List.getElem?_of_mem hf
      have:=(Sl lD hi).2
      simp only [bn,FX w this,aU,bL]
   obtain ⟨cs,h1,h2⟩:=Sk hs hl (by simpa using kN) (by rw [sk];exact hb) (λi=>(fs.map λ(f:Field)=>(f.offset,P.cellsOf f.type))[i]?) (by
    intro i t ht;rw [aL] at ht;cases hf:fs.toList[i]? with
    | none=>rw [hf] at ht;cases ht
    | some f =>
      rw [hf] at ht;simp only [ak,aa] at ht;subst ht;have h3:=(Sl lD hf).1;have F9:fs[i]?=some f:=by simpa using hf
      simp only [Array.getElem?_map,F9,ak,h3,bS];congr 2;rw [← bP,sk];rfl)
   refine cC.idle (val:=.agg cs.toArray) ?_ (N7 h1) hm;simp only [execOp,ho,wL,bn,Ga,aU,run_underlying hu,Dq,tF];rw [h2];rfl
 . cases he
theorem C6h {t e:TypeId}{n:Nat}{parts:Array (Nat×Operand)}{zc:List Value}{l:List dJ}(ho:o.op=.build t parts)(hz:xA P t=some zc)(hu:P.underlying t=some (.array n e))
 (kN:Ck n parts.toList=true) (hU:rS P e=true) (hl:z7 P parts.toList (au n e) 0 zc=some l)
 (he:b6 K γ d s h (.build (au n (P.cellsOf e)) l)=some (v,h')):cC P o a w A E nx γ v h':=by
 simp only [b6] at he;split at he
 . rename_i hb;simp only [aa,ae] at he;obtain ⟨rfl,rfl⟩:=he;obtain ⟨z,Ga,tF,_⟩:=EO hz w;obtain ⟨cs,h1,h2⟩:=Sk hs hl (by simpa using kN) (by simpa using hb) (λi=>some (i*P.cellsOf e,P.cellsOf e)) (by
    intro i t ht;rw [List.getElem?_replicate] at ht;split at ht
    . rename_i hi;cases ht;rw [List.take_replicate,List.map_replicate,Za,Nat.min_eq_left (by omega)]
    . cases ht)
   refine cC.idle (val:=.agg cs.toArray) ?_ (N7 h1) hm;simp only [execOp,ho,wL,bn,Ga,aU,run_underlying hu,FX w hU,tF];rw [h2];rfl
 . cases he
end
end Go.Mid
