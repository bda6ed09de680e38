/- Changing a place of an owned tree. -/
import Derived.Test.YtfjdpcegbfenbaaGreatDoorM1
import Derived.Laws.IdiomCopy
set_option linter.unusedSimpArgs false
set_option linter.unusedVariables false
open Array renaming getElem?_modify → kR, getElem?_eq_some_iff → de, ext' → gP, eq_empty_of_size_eq_zero → fa, length_toList → eg
open Bool renaming and_eq_true → ak
open Go.Result renaming andThen_ok → aV
open Go.Sem renaming run_bind → bx, run_pure → bM
open Go.Value renaming cells → dp
open Go.World renaming setCells → mg, cell? → mK
open List renaming getElem?_map → aN, map_map → cu, append_assoc → bh, perm_append_comm → dy, set_cons_succ → eG, set_cons_zero → dY, getElem?_set → dG, getElem?_eq_some_iff → aL, length_singleton → dz, cons_append → aS, nil_append → a7, mem_cons → aM, mem_append → ay, map_take → bO, map_nil → cr, map_cons → aH, nodup_cons → b5, nodup_append → aT, take_succ_cons → bV, length_set → iN, mem_or_eq_of_mem_set → bm, mem_of_getElem? → bH, length_append → aQ, length_map → aE, mem_map → bj, append_nil → bE, length_cons → bf, find?_cons → lO, flatten_cons → ek, mem_map_of_mem → eh, length → cF, sum_cons → mT, replicate → az
open Nat renaming le_refl → au, add_assoc → bX, le_of_lt → fT, lt_of_lt_of_le → br, zero_le → dq, zero_add → bS
open Ne renaming symm → dB
open Option renaming map_some → ar, toList → cp, bind_some → ah
open Option.some renaming injEq → aa
open Prod.mk renaming injEq → ae
namespace Go.Mid
open Go.RowKit
section
variable {α β:Type}
theorem Gm:∀ {l:List (T α)} {vs:List PV},mu l=some vs→l=vs.map .p
 | [],vs,h=>by simp only [mu] at h;cases h;rfl
 | x::r,vs,h=>by
   cases x<;>simp only [mu,reduceCtorEq] at h;split at h
   · rename_i l hl;cases h;simp [Gm hl]
   · cases h
theorem BB:∀ (vs:List PV),mu (vs.map (T.p (α:=α)))=some vs
 | []=>rfl
 | x::r=>by simp [mu,BB r]
theorem BC (l:List (T α)):ke l=.agg l∨∃ vs,l=vs.map .p∧ke l=.p (.agg vs):=by
 unfold ke;cases h:mu l with
 | none=>exact .inl rfl
 | some vs=>exact .inr ⟨vs,Gm h,rfl⟩
theorem CU (vs:List PV):T.dm (vs.map (T.p (α:=α)))=PV.dm vs:=by
 induction vs with
 | nil=>rfl
 | cons x r ih=>simp [T.dm,PV.dm,T.cs,ih]
theorem X5 (l:List (T α)):(ke l).cs=T.dm l:=by
 rcases BC l with h | ⟨vs,rfl,h⟩<;>rw [h]
 · rfl
 · rw [CU];rfl
theorem Ix (l:List PV)(i:Nat)(r:List Nat):c6 (.p (.agg l):T α) (i::r)=c6 (.agg (l.map .p)) (i::r):=by
 simp only [c6,aN];cases l[i]? <;> rfl
theorem X6 (l:List (T α))(i:Nat)(r:List Nat):c6 (ke l) (i::r)=c6 (.agg l) (i::r):=by
 rcases BC l with h | ⟨vs,rfl,h⟩<;>rw [h]
 exact Ix vs i r
theorem X7 (l:List PV)(i:Nat)(r:List Nat)(v:T α):dg (.p (.agg l)) (i::r) v=dg (.agg (l.map .p)) (i::r) v:=by
 simp only [dg,aN];cases l[i]? <;> rfl
theorem MS:∀ {l:List (T α)} {i:Nat} {t v:T α},l[i]?=some t→v.cs=t.cs→T.dm (l.set i v)=T.dm l
 | [],i,t,v,h,_=>by simp at h
 | x::r,0,t,v,h,k=>by simp at h;subst h;simp [T.dm,k]
 | x::r,i+1,t,v,h,k=>by simp at h;simp [T.dm,MS h k]
theorem AL:∀ (p:List Nat) (t u v t':T α),c6 t p=some u→dg t p v=some t'→v.cs=u.cs→t'.cs=t.cs
 | [],t,u,v,t',h,k,e=>by
   simp only [c6,aa] at h;subst h;simp only [dg,aa] at k;subst k;exact e
 | i::r,.p (.agg l),u,v,t',h,k,e=>by
   rw [Ix] at h;rw [X7] at k;simp only [c6,aN] at h;simp only [dg,aN] at k;cases hl:l[i]? with
   | none=>simp [hl] at h
   | some x =>
     simp only [hl,ar] at h k;split at k
     · rename_i w hw;cases k
       have:=AL r _ u v w h hw e
       rw [X5,MS (t:=.p x) (by simp [hl]) this,CU];rfl
     · cases k
 | i::r,.agg l,u,v,t',h,k,e=>by
   simp only [c6] at h;simp only [dg] at k;cases hl:l[i]? with
   | none=>simp [hl] at h
   | some x =>
     simp only [hl] at h k;split at k
     · rename_i w hw;cases k
       have:=AL r _ u v w h hw e
       rw [X5,MS (t:=x) hl this];rfl
     · cases k
 | i::r,.vec a z l n,u,v,t',h,k,e=>by
   simp only [dg] at k
   repeat' split at k
   all_goals cases k
   rfl
 | i::r,.mp a ks l,u,v,t',h,k,e=>by
   simp only [dg] at k
   repeat' split at k
   all_goals cases k
   rfl
 | i::r,.p (.int ..),u,v,t',h,_,_=>by simp [c6] at h
 | i::r,.p (.bool _),u,v,t',h,_,_=>by simp [c6] at h
 | i::r,.p (.str _),u,v,t',h,_,_=>by simp [c6] at h
 | i::r,.p (.sl _),u,v,t',h,_,_=>by simp [c6] at h
 | i::r,.p (.ref _),u,v,t',h,_,_=>by simp [c6] at h
 | i::r,.p (.fn ..),u,v,t',h,_,_=>by simp [c6] at h
 | i::r,.p (.mp ..),u,v,t',h,_,_=>by simp [c6] at h
 | i::r,.p .eX,u,v,t',h,_,_=>by simp [c6] at h
 | i::r,.p .ff,u,v,t',h,_,_=>by simp [c6] at h
 | i::r,.m _,u,v,t',h,_,_=>by simp [c6] at h
 | i::r,.hole _,u,v,t',h,_,_=>by simp [c6] at h
end
theorem Iy {α:Type}{i:Nat}{r:List Nat}{t u v t':T α}(h:c6 t (i::r)=some u)(k:dg t (i::r) v=some t') :
 (∃ l x w,(t=.agg l∨∃ vs,t=.p (.agg vs)∧l=vs.map .p)∧l[i]?=some x∧c6 x r=some u∧dg x r v=some w∧t'=ke (l.set i w)) ∨
 (∃ a z l n x w,t=.vec a z l n∧l[i]?=some x∧c6 x r=some u∧dg x r v=some w∧t'=.vec a z (l.set i w) n) ∨
 (∃ a ks l x w,t=.mp a ks l∧l[i]?=some x∧c6 x r=some u∧dg x r v=some w∧t'=.mp a ks (l.set i w)):=by
 have key:∀ l,c6 (.agg l) (i::r)=some u→dg (.agg l) (i::r) v=some t'→∃ x w,l[i]?=some x∧c6 x r=some u∧dg x r v=some w∧t'=ke (l.set i w):=by
  intro l h k;simp only [c6] at h;simp only [dg] at k;cases hl:l[i]? with
  | none=>simp [hl] at h
  | some x =>
    simp only [hl] at h k;split at k
    · rename_i w hw;cases k;exact ⟨x,w,rfl,h,hw,rfl⟩
    · cases k
 cases t with
 | p pv =>
   cases pv<;>try (simp [c6] at h;done)
   rename_i l;rw [Ix] at h;rw [X7] at k;obtain ⟨x,w,h1⟩:=key _ h k;exact .inl ⟨_,x,w,.inr ⟨l,rfl,rfl⟩,h1⟩
 | m=>simp [c6] at h
 | agg l =>
   obtain ⟨x,w,h1⟩:=key _ h k;exact .inl ⟨_,x,w,.inl rfl,h1⟩
 | vec a z l n =>
   simp only [c6] at h;simp only [dg] at k;cases hl:l[i]? with
   | none=>simp [hl] at h
   | some x =>
     simp only [hl] at h k;split at k
     · rename_i w hw;cases k;exact .inr (.inl ⟨a,z,l,n,x,w,rfl,hl,h,hw,rfl⟩)
     · cases k
 | mp a ks l =>
   simp only [c6] at h;simp only [dg] at k;cases hl:l[i]? with
   | none=>simp [hl] at h
   | some x =>
     simp only [hl] at h k;split at k
     · rename_i w hw;cases k;exact .inr (.inr ⟨a,ks,l,x,w,rfl,hl,h,hw,rfl⟩)
     · cases k
 | hole=>simp [c6] at h
section
variable {α β:Type}(f:α→β)
theorem Q4:∀ (l:List (T α)),mu (l.map (T.mapA f))=mu l
 | []=>rfl
 | x::r=>by
   have:=Q4 r
   cases x<;>simp [mu,T.mapA,this]
theorem MT (l:List (T α)):(ke l).mapA f=ke (l.map (T.mapA f)):=by
 unfold ke;rw [Q4];cases mu l with
 | none=>simp [T.mapA,T.mapAs_eq]
 | some vs=>simp [T.mapA]
theorem Ee:∀ (p:List Nat) (t v:T α),dg (t.mapA f) p (v.mapA f)=(dg t p v).map (T.mapA f)
 | [],t,v=>by simp [dg]
 | i::r,.p pv,v=>by
   cases pv<;>simp only [T.mapA,dg,Option.map_none];rename_i l;cases l[i]? with
   | none=>rfl
   | some x =>
     have:=Ee r (.p x) v
     simp only [T.mapA] at this;simp only [this];cases dg (.p x) r v with
     | none=>rfl
     | some w =>
       simp only [ar,MT,List.map_set,cu];congr 2
 | i::r,.m _,v=>by simp [T.mapA,dg]
 | i::r,.agg l,v=>by
   simp only [T.mapA,dg,T.mapAs_eq,aN];cases l[i]? with
   | none=>rfl
   | some x =>
     simp only [ar,Ee r x v];cases dg x r v with
     | none=>rfl
     | some w=>simp [MT]
 | i::r,.vec a z l n,v=>by
   simp only [T.mapA,dg,T.mapAs_eq,aN];cases l[i]? with
   | none=>rfl
   | some x =>
     simp only [ar,Ee r x v];cases dg x r v with
     | none=>rfl
     | some w=>simp [T.mapA,T.mapAs_eq]
 | i::r,.mp a ks l,v=>by
   simp only [T.mapA,dg,T.mapAs_eq,aN];cases l[i]? with
   | none=>rfl
   | some x =>
     simp only [ar,Ee r x v];cases dg x r v with
     | none=>rfl
     | some w=>simp [T.mapA,T.mapAs_eq]
 | i::r,.hole n,v=>by simp [T.mapA,dg]
theorem Gn (ob:Option (Obj α))(p:List Nat)(v:T α):put (ob.map (Obj.mapA f)) p (v.mapA f)=(put ob p v).map (Obj.mapA f):=by
 cases ob with
 | none=>cases p<;>rfl
 | some o =>
   cases o with
   | cell a t =>
     simp only [ar,Obj.mapA,put,Ee];cases dg t p v<;>rfl
   | vec a z l =>
     cases p with
     | nil=>rfl
     | cons i r =>
       simp only [ar,Obj.mapA,put,T.mapAs_eq,aN];cases l[i]? with
       | none=>rfl
       | some x =>
         simp only [ar,Ee f r x v];cases dg x r v with
         | none=>rfl
         | some w=>simp [Obj.mapA,T.mapAs_eq]
   | mp a ks l =>
     cases p with
     | nil=>rfl
     | cons i r =>
       simp only [ar,Obj.mapA,put,T.mapAs_eq,aN];cases l[i]? with
       | none=>rfl
       | some x =>
         simp only [ar,Ee f r x v];cases dg x r v with
         | none=>rfl
         | some w=>simp [Obj.mapA,T.mapAs_eq]
   | gone=>cases p<;>rfl
end
theorem Ef (vs:List PV):T.b9 (vs.map T.p)=[]:=by
 induction vs with
 | nil=>rfl
 | cons x r ih=>simp [T.b9,T.blk,ih]
theorem MU (l:List (T An)):(ke l).blk=T.b9 l:=by
 rcases BC l with h | ⟨vs,rfl,h⟩<;>rw [h]
 · rfl
 · rw [Ef];rfl
theorem wo:∀ (l m:List (T An)),T.b9 (l++m)=T.b9 l++T.b9 m
 | [],m=>rfl
 | x::r,m=>by simp [T.b9,wo r m]
theorem Eg:∀ {l:List (T An)} {i:Nat} {x:T An} (y:T An),l[i]?=some x→∃ rest,(T.b9 l).Perm (x.blk++rest)∧(T.b9 (l.set i y)).Perm (y.blk++rest)
 | [],i,x,y,h=>by simp at h
 | x::r,0,t,y,h=>by simp at h;subst h;exact ⟨T.b9 r,.refl _,.refl _⟩
 | x::r,i+1,t,y,h=>by
   simp at h;obtain ⟨rest,h1,h2⟩:=Eg y h;refine ⟨x.blk++rest,?_,?_⟩
   · simp only [T.b9];refine (h1.append_left x.blk).trans ?_;rw [← bh,← bh];exact dy.append_right rest
   · simp only [T.b9,eG];refine (h2.append_left x.blk).trans ?_;rw [← bh,← bh];exact dy.append_right rest
theorem Gp {a b u v:List Nat}{r q s:List Nat}(h:a.Perm (u++r))(h':b.Perm (v++r))(k:u.Perm (s++q)):a.Perm (s++(q++r)):=by
 refine h.trans ?_;rw [← bh];exact k.append_right r
theorem MW:∀ (p:List Nat) (t u v t':T An),c6 t p=some u→dg t p v=some t'→∃ rest,t.blk.Perm (u.blk++rest)∧t'.blk.Perm (v.blk++rest)
 | [],t,u,v,t',h,k=>by
   simp only [c6,aa] at h;subst h;simp only [dg,aa] at k;subst k;exact ⟨[],by simp,by simp⟩
 | i::r,t,u,v,t',h,k=>by
   rcases Iy h k with ⟨l,x,w,ht,hl,h1,h2,rfl⟩ | ⟨a,z,l,n,x,w,rfl,hl,h1,h2,rfl⟩ | ⟨a,ks,l,x,w,rfl,hl,h1,h2,rfl⟩
   · obtain ⟨q,k1,k2⟩:=MW r x u v w h1 h2;obtain ⟨rest,k3,k4⟩:=Eg w hl
     have:t.blk=T.b9 l:=by
      rcases ht with rfl | ⟨vs,rfl,rfl⟩
      · rfl
      · rw [Ef];rfl
     rw [this,MU];exact ⟨q++rest,Gp k3 k4 k1,Gp k4 k3 k2⟩
   · obtain ⟨q,k1,k2⟩:=MW r x u v w h1 h2;obtain ⟨rest,k3,k4⟩:=Eg w hl;simp only [T.blk];refine ⟨a.b.toList++(q++rest),?_,?_⟩
     · refine ((Gp k3 k4 k1).append_left _).trans ?_;rw [← bh,← bh u.blk];exact dy.append_right _
     · refine ((Gp k4 k3 k2).append_left _).trans ?_;rw [← bh,← bh v.blk];exact dy.append_right _
   · obtain ⟨q,k1,k2⟩:=MW r x u v w h1 h2;obtain ⟨rest,k3,k4⟩:=Eg w hl;simp only [T.blk];refine ⟨a.b.toList++(q++rest),?_,?_⟩
     · refine ((Gp k3 k4 k1).append_left _).trans ?_;rw [← bh,← bh u.blk];exact dy.append_right _
     · refine ((Gp k4 k3 k2).append_left _).trans ?_;rw [← bh,← bh v.blk];exact dy.append_right _
theorem MX {n:dv}:∀ {l:List (T An)} {i:Nat} {y:T An},T.ku n l→y.st n→T.ku n (l.set i y)
 | [],i,y,h,_=>by simpa using h
 | x::r,0,y,h,k=>by simp only [dY,T.ku] at h ⊢;exact ⟨k,h.2⟩
 | x::r,i+1,y,h,k=>by simp only [eG,T.ku] at h ⊢;exact ⟨h.1,MX h.2 k⟩
theorem MY {n:dv}(vs:List PV):T.ku n (vs.map T.p):=by
 induction vs with
 | nil=>trivial
 | cons x r ih=>exact ⟨trivial,ih⟩
theorem Q5 {n:dv}{l:List (T An)}(h:T.ku n l):(ke l).st n:=by
 rcases BC l with e | ⟨vs,rfl,e⟩<;>rw [e]
 · exact h
 · trivial
theorem Gq {n:dv}:∀ (p:List Nat) (t u v t':T An),c6 t p=some u→dg t p v=some t'→t.st n→v.st n→t'.st n
 | [],t,u,v,t',h,k,_,kv=>by
   simp only [dg,aa] at k;subst k;exact kv
 | i::r,t,u,v,t',h,k,kt,kv=>by
   rcases Iy h k with ⟨l,x,w,ht,hl,h1,h2,rfl⟩ | ⟨a,z,l,n,x,w,rfl,hl,h1,h2,rfl⟩ | ⟨a,ks,l,x,w,rfl,hl,h1,h2,rfl⟩
   · have:T.ku n l:=by
      rcases ht with rfl | ⟨vs,rfl,rfl⟩
      · exact kt
      · exact MY vs
     exact Q5 (MX this (Gq r x u v w h1 h2 (T.pL this hl) kv))
   · simp only [T.st] at kt ⊢;exact ⟨kt.1,MX kt.2 (Gq r x u v w h1 h2 (T.pL kt.2 hl) kv)⟩
   · simp only [T.st] at kt ⊢;exact ⟨kt.1,MX kt.2 (Gq r x u v w h1 h2 (T.pL kt.2 hl) kv)⟩
def fL {α:Type}(t:T α)(q:List Nat):Option (α×Option Nat) :=
 match c6 t q with
 | some (.vec a z _ _)=>some (a,some z)
 | some (.mp a _ _)=>some (a,none)
 | _=>none
theorem Iz {α:Type}(l:List (T α))(i:Nat)(r:List Nat):fL (.agg l) (i::r)=(l[i]?).bind fun t=>fL t r:=by
 simp only [fL,c6];cases l[i]? <;> rfl
theorem Q6 {α:Type}(l:List (T α))(i:Nat)(r:List Nat):fL (ke l) (i::r)=(l[i]?).bind fun t=>fL t r:=by
 rw [← Iz];simp only [fL,X6]
theorem BD {α:Type}(a:α)(z:Nat)(l:List (T α))(n i:Nat)(r:List Nat):fL (.vec a z l n) (i::r)=(l[i]?).bind fun t=>fL t r:=by
 simp only [fL,c6];cases l[i]? <;> rfl
theorem Q7 {α:Type}(a:α)(ks:List PV)(l:List (T α))(i:Nat)(r:List Nat):fL (.mp a ks l) (i::r)=(l[i]?).bind fun t=>fL t r:=by
 simp only [fL,c6];cases l[i]? <;> rfl
theorem Q8 {α:Type}(l:List (T α)):fL (ke l) []=none:=by
 rcases BC l with e | ⟨vs,rfl,e⟩<;>rw [e]<;>rfl
theorem Q9 {α:Type}{l:List (T α)}{i:Nat}{x w:T α}(hl:l[i]?=some x){j:Nat}{q:List Nat}{y:α×Option Nat}
 (h:((l.set i w)[j]?).bind (fun t=>fL t q)=some y):(l[j]?).bind (fun t=>fL t q)=some y∨(j=i∧fL w q=some y):=by
 rw [dG] at h;split at h
 · rename_i gU;subst gU;split at h
   · exact .inr ⟨rfl,h⟩
   · simp at h
 · exact .inl h
theorem MZ {α:Type}:∀ (p:List Nat) (t u v t':T α),c6 t p=some u→dg t p v=some t'→∀ q y,fL t' q=some y→fL t q=some y∨∃ r,q=p++r∧fL v r=some y
 | [],t,u,v,t',h,k,q,y,hq=>by
   simp only [dg,aa] at k;subst k;exact .inr ⟨q,rfl,hq⟩
 | i::r,t,u,v,t',h,k,q,y,hq=>by
   rcases Iy h k with ⟨l,x,w,ht,hl,h1,h2,rfl⟩ | ⟨a,z,l,n,x,w,rfl,hl,h1,h2,rfl⟩ | ⟨a,ks,l,x,w,rfl,hl,h1,h2,rfl⟩
   · cases q with
     | nil=>rw [Q8] at hq;cases hq
     | cons j q =>
       rw [Q6] at hq;have Gs:fL t (j::q)=(l[j]?).bind fun t=>fL t q:=by
        rcases ht with rfl | ⟨vs,rfl,rfl⟩
        · exact Iz l j q
        · rw [← Iz];simp only [fL,Ix]
       rw [Gs];rcases Q9 hl hq with h3 | ⟨rfl,h3⟩
       · exact .inl h3
       · rcases MZ r x u v w h1 h2 q y h3 with h4 | ⟨s,rfl,h4⟩
         · exact .inl (by rw [hl];exact h4)
         · exact .inr ⟨s,rfl,h4⟩
   · cases q with
     | nil=>exact .inl hq
     | cons j q =>
       rw [BD] at hq ⊢;rcases Q9 hl hq with h3 | ⟨rfl,h3⟩
       · exact .inl h3
       · rcases MZ r x u v w h1 h2 q y h3 with h4 | ⟨s,rfl,h4⟩
         · exact .inl (by rw [hl];exact h4)
         · exact .inr ⟨s,rfl,h4⟩
   · cases q with
     | nil=>exact .inl hq
     | cons j q =>
       rw [Q7] at hq ⊢;rcases Q9 hl hq with h3 | ⟨rfl,h3⟩
       · exact .inl h3
       · rcases MZ r x u v w h1 h2 q y h3 with h4 | ⟨s,rfl,h4⟩
         · exact .inl (by rw [hl];exact h4)
         · exact .inr ⟨s,rfl,h4⟩
end Go.Mid
namespace Go.Mid
open Go.RowKit
theorem X8 (w:World)(a:Addr)(v:Value){b:Nat}(h:b≠a.block):(w.setCell a v).heap[b]?=w.heap[b]?:=by
 simp [World.setCell,kR,dB h]
theorem wq {b b':Nat}(h:b'≠b):∀ (vs:List Value) (o:Nat) (w:World),(w.setCells b o vs).heap[b']?=w.heap[b']?
 | [],_,_=>rfl
 | v::r,o,w=>by rw [mg,wq h r,X8 _ _ _ h]
theorem xi (b:Nat):∀ (vs:List Value) (o:Nat) (w:World),(w.setCells b o vs).heap.size=w.heap.size∧(w.setCells b o vs).os=w.os∧(w.setCells b o vs).tape=w.tape∧(w.setCells b o vs).output=w.output
 | [],_,_=>⟨rfl,rfl,rfl,rfl⟩
 | v::r,o,w=>by
   have:=xi b r (o+1) (w.setCell ⟨b,o,none⟩ v)
   rw [mg];exact ⟨this.1.trans (World.size_setCell _ _ _),this.2.1,this.2.2.1,this.2.2.2⟩
theorem l4.setCell {w:World}{a:Addr}{v:Value}{b n:Nat}(h:l4 w b n):l4 (w.setCell a v) b n:=by
 by_cases e:b=a.block
 · subst e;obtain ⟨c,ty,h1,h2⟩:=h;simp only [l4,World.setCell,kR,if_true,h1,ar];refine ⟨_,ty,rfl,?_⟩;split<;>simp [h2]
 · exact h.frame (X8 w a v e)
theorem l4.setCells {b b' n:Nat}:∀ (vs:List Value) (o:Nat) (w:World),l4 w b' n→l4 (w.setCells b o vs) b' n
 | [],_,_,h=>h
 | v::r,o,w,h=>by rw [mg];exact l4.setCells r (o+1) _ h.setCell
theorem l4.cell {w:World}{b n j:Nat}(h:l4 w b n)(hj:j<n):(w.cell? ⟨b,j,none⟩).isSome=true∧w.frozen? ⟨b,j,none⟩=false:=by
 obtain ⟨c,ty,h1,h2⟩:=h;simp [mK,World.frozen?,h1,h2,hj]
structure Wr (w w':World)(b o n:Nat)(X:List Nat):Prop where
 other:∀ b',b'<w.heap.size→b'≠b→b'∉X→w'.heap[b']?=w.heap[b']?
 blk:∀ m,l4 w b m→l4 w' b m
 cell:∀ j,(j<o∨o+n≤j)→w'.cell? ⟨b,j,none⟩=w.cell? ⟨b,j,none⟩
theorem Row.lt {w:World}{b o:Nat}{v:Value}{cs:List Value}(h:Row w b o (v::cs)):b<w.heap.size:=by
 have:=h 0 v rfl
 simp only [mK] at this;split at this
 · rename_i h1;exact (de.1 h1).1
 · cases this
theorem l4.lt {w:World}{b n:Nat}(h:l4 w b n):b<w.heap.size:=by
 obtain ⟨c,ty,h1,_⟩:=h;exact (de.1 h1).1
theorem Row.jh {w w':World}{b o:Nat}{cs:List Value}(h:∀ j,o≤j→j<o+cs.length→w'.cell? ⟨b,j,none⟩=w.cell? ⟨b,j,none⟩)(r:Row w b o cs):Row w' b o cs:=by
 intro j v hj
 have:=(aL.1 hj).1
 rw [h (o+j) (by omega) (by omega)]
 exact r j v hj
section
variable {w w':World}{A A':Nat→Prop}{E E':dV An}{nx nx':dv}
mutual
theorem TAt.jh (f:Fr w w' A A' E E' nx nx'):∀ {t:T An} {b o:Nat},(∀ j,o≤j→j<o+t.cs→w'.cell? ⟨b,j,none⟩=w.cell? ⟨b,j,none⟩)→(∀ x∈t.blk,w'.heap[x]?=w.heap[x]?) →
 TAt w A E nx t b o→TAt w' A' E' nx' t b o
 | .p v,b,o,hb,_,h=>by
   simp only [TAt] at h ⊢;obtain ⟨cs,h1,h2⟩:=h;exact ⟨cs,h1.frame f.hA f.hw,h2.jh (by rw [h1.len];exact hb)⟩
 | .m v,b,o,hb,_,h=>by
   simp only [TAt] at h ⊢;obtain ⟨h0,Bw,val,h1,h2⟩:=h;exact ⟨h0,Bw,val,h1.frame f,h2.jh (by simpa only [T.cs,h0,dz] using hb)⟩
 | .agg l,b,o,hb,hk,h=>by
   simp only [TAt] at h ⊢;exact cK.jh f hb (by simpa only [T.blk] using hk) h
 | .vec an z l n,b,o,hb,hk,h=>by
   have kM:∀ {a:Option Addr} {cap:Nat},Row w b o [.slice a n cap]→Row w' b o [.slice a n cap]:=fun r=>r.jh (by simpa only [T.cs,dz] using hb)
   simp only [TAt] at h ⊢;obtain ⟨a,cap,h1,h2,h3,h4⟩:=h;refine ⟨a,cap,kM h1,h2,h3,?_⟩;cases jt:an.b with
   | none=>simpa only [jt] using h4
   | some b' =>
     simp only [jt] at h4 ⊢;simp only [T.blk,jt,cp,aS,a7,aM] at hk;exact ⟨h4.1.frame (hk b' (.inl rfl)),h4.2.1,h4.2.2.1,cK.frame f (hk b' (.inl rfl)) (fun x hx=>hk x (.inr hx)) h4.2.2.2⟩
 | .mp ..,_,_,_,_,h=>by simp only [TAt] at h
 | .hole n,b,o,hb,_,h=>by
   simp only [TAt] at h ⊢;intro j hj;rw [hb (o+j) (by omega) (by simp only [T.cs];omega)];exact h j hj
theorem cK.jh (f:Fr w w' A A' E E' nx nx'):∀ {l:List (T An)} {b o:Nat},(∀ j,o≤j→j<o+T.dm l→w'.cell? ⟨b,j,none⟩=w.cell? ⟨b,j,none⟩)→(∀ x∈T.b9 l,w'.heap[x]?=w.heap[x]?) →
 cK w A E nx l b o→cK w' A' E' nx' l b o
 | [],b,o,_,_,h=>by simp only [cK]
 | t::r,b,o,hb,hk,h=>by
   simp only [cK] at h ⊢;simp only [T.b9,ay] at hk;simp only [T.dm] at hb;exact ⟨TAt.jh f (fun j h1 h2=>hb j h1 (by omega)) (fun x hx=>hk x (.inl hx)) h.1,cK.jh f (fun j h1 h2=>hb j (by omega) (by omega)) (fun x hx=>hk x (.inr hx)) h.2⟩
end
end
def lk:T An→List Nat→Nat→Nat→Option (Nat×Nat)
 | _,[],b,o=>some (b,o)
 | .p (.agg l),i::r,b,o=>match l[i]? with | some v=>lk (.p v) r b (o+PV.dm (l.take i)) | none=>none
 | .agg l,i::r,b,o=>match l[i]? with | some t=>lk t r b (o+T.dm (l.take i)) | none=>none
 | .vec an z l _,i::r,_,_=>match an.b,l[i]? with | some b',some t=>lk t r b' (i*z) | _,_=>none
 | _,_::_,_,_=>none
def qS:Option (Obj An)→List Nat→Option (Nat×Nat)
 | some (.cell an t),p=>match an.b with | some b=>lk t p b 0 | none=>none
 | some (.vec an z l),i::r=>match an.b,l[i]? with | some b',some t=>lk t r b' (i*z) | _,_=>none
 | _,_=>none
theorem Ra (l:List PV)(i:Nat)(r:List Nat)(b o:Nat):lk (.p (.agg l)) (i::r) b o=lk (.agg (l.map .p)) (i::r) b o:=by
 simp only [lk,aN,← bO,CU];cases l[i]? <;> rfl
theorem M0 (b:Nat):∀ (p:List Nat) (t u:T An) (o o':Nat),lX t p o=some (u,o')→lk t p b o=some (b,o')
 | [],t,u,o,o',h=>by
   simp only [lX,aa,ae] at h;obtain ⟨rfl,rfl⟩:=h;simp [lk]
 | i::r,.p v,u,o,o',h=>by
   cases v<;>simp only [lX,reduceCtorEq] at h;simp only [lk];split at h
   · rename_i v hv;simp only [hv];exact M0 b r _ u _ o' h
   · cases h
 | i::r,.m v,u,o,o',h=>by simp [lX] at h
 | i::r,.agg l,u,o,o',h=>by
   simp only [lX] at h;simp only [lk];split at h
   · rename_i v hv;simp only [hv];exact M0 b r _ u _ o' h
   · cases h
 | i::r,.vec a z l n,u,o,o',h=>by simp [lX] at h
 | i::r,.mp a ks l,u,o,o',h=>by simp [lX] at h
 | i::r,.hole n,u,o,o',h=>by simp [lX] at h
theorem IA:∀ (p q:List Nat) (t u:T An) (b o b' o':Nat),c6 t p=some u→lk t p b o=some (b',o')→lk t (p++q) b o=lk u q b' o'
 | [],q,t,u,b,o,b',o',h,k=>by
   simp only [c6,aa] at h;subst h;simp only [lk,aa,ae] at k;obtain ⟨rfl,rfl⟩:=k;rfl
 | i::r,q,.p v,u,b,o,b',o',h,k=>by
   cases v<;>simp only [c6,reduceCtorEq] at h;simp only [lk,aS] at k ⊢;split at h
   · rename_i v hv;simp only [hv] at k ⊢;exact IA r q _ u _ _ _ _ h k
   · cases h
 | i::r,q,.m v,u,b,o,b',o',h,_=>by simp [c6] at h
 | i::r,q,.agg l,u,b,o,b',o',h,k=>by
   simp only [c6] at h;simp only [lk,aS] at k ⊢;split at h
   · rename_i v hv;simp only [hv] at k ⊢;exact IA r q _ u _ _ _ _ h k
   · cases h
 | i::r,q,.vec a z l n,u,b,o,b',o',h,k=>by
   simp only [c6] at h;simp only [lk,aS] at k ⊢;split at h
   · rename_i v hv;cases hb:a.b with
     | none=>simp [hb] at k
     | some b0=>simp only [hv,hb] at k ⊢;exact IA r q _ u _ _ _ _ h k
   · cases h
 | i::r,q,.mp a ks l,u,b,o,b',o',h,k=>by simp [lk] at k
 | i::r,q,.hole n,u,b,o,b',o',h,_=>by simp [c6] at h
section
variable {w:World}{A:Nat→Prop}{E:dV An}{nx:dv}
theorem rf {vs:List PV}{b o:Nat}:cK w A E nx (vs.map .p) b o↔TAt w A E nx (.p (.agg vs)) b o:=by
 induction vs generalizing o with
 | nil=>simp only [cr,cK,TAt,ed,cU,true_iff];exact ⟨[],rfl,Row.nil⟩
 | cons x r ih =>
   simp only [aH,cK,ih];simp only [TAt,ed,cU];constructor
   · rintro ⟨⟨c,h1,h2⟩,d,h3,h4⟩;refine ⟨c++d,⟨c,d,rfl,h1,h3⟩,Row.append.2 ⟨h2,?_⟩⟩;rw [h1.len];exact h4
   · rintro ⟨_,⟨c,d,rfl,h1,h3⟩,h2⟩;have h2:=Row.append.1 h2;refine ⟨⟨c,h1,h2.1⟩,d,h3,?_⟩
     have:=h2.2
     rw [h1.len] at this;exact this
theorem C66 {l:List (T An)}{b o:Nat}:TAt w A E nx (ke l) b o↔cK w A E nx l b o:=by
 rcases BC l with e | ⟨vs,rfl,e⟩<;>rw [e]
 · simp only [TAt]
 · exact rf.symm
theorem sT {l:List (T An)}{i:Nat}{t:T An}(h:l[i]?=some t){b:Nat}(hb:b∈t.blk):b∈T.b9 l:=by
 induction l generalizing i with
 | nil=>simp at h
 | cons x q ih =>
   cases i with
   | zero=>simp at h;subst h;simp [T.b9,hb]
   | succ i=>simp at h;simp [T.b9,ih h]
theorem BE:∀ (p:List Nat) (t u:T An) (b o:Nat),c6 t p=some u→TAt w A E nx t b o →
 ∃ b' o',lk t p b o=some (b',o')∧TAt w A E nx u b' o'∧((b'=b∧o≤o'∧o'+u.cs≤o+t.cs)∨b'∈t.blk)∧(∀ x∈u.blk,x∈t.blk)∧((b::t.blk).Nodup→b'∉u.blk)
 | [],t,u,b,o,h,k=>by
   simp only [c6,aa] at h;subst h;exact ⟨b,o,by simp [lk],k,.inl ⟨rfl,au _,au _⟩,fun _ h=>h,fun hn=>(b5.1 hn).1⟩
 | i::r,.p v,u,b,o,h,k=>by
   cases v<;>simp only [c6,reduceCtorEq] at h;rename_i l;split at h
   · rename_i v hv;have k':=(rf.2 k).get (i:=i) (t:=.p v) (by simp [hv])
     rw [← bO,CU] at k';obtain ⟨b',o',h0,h1,h2,h3,h4⟩:=BE r (.p v) u b _ h k';refine ⟨b',o',by simpa only [lk,hv] using h0,h1,?_,fun x hx=>by have:=h3 x hx;simp [T.blk] at this,fun _ hx=>by have:=h3 _ hx;simp [T.blk] at this⟩
     rcases h2 with ⟨h5,h6,h7⟩ | h5
     · refine .inl ⟨h5,by omega,?_⟩
       have:PV.dm (l.take i)+v.cs≤PV.dm l:=by
        clear h k k' h1 h4 h7 h6 h0
        induction l generalizing i with
        | nil=>simp at hv
        | cons y q ih =>
          cases i with
          | zero=>simp at hv;subst hv;simp [PV.dm]
          | succ i=>simp at hv;have:=ih i hv;simp [PV.dm];omega
       simp only [T.cs,PV.cs] at h7 ⊢;omega
     · simp [T.blk] at h5
   · cases h
 | i::r,.m v,u,b,o,h,_=>by simp [c6] at h
 | i::r,.agg l,u,b,o,h,k=>by
   simp only [c6] at h;split at h
   · rename_i t ht;simp only [TAt] at k;obtain ⟨b',o',h0,h1,h2,h3,h4⟩:=BE r t u b _ h (k.get ht);refine ⟨b',o',by simpa only [lk,ht] using h0,h1,?_,fun x hx=>sT ht (h3 x hx),fun hn=>h4 ?_⟩
     · rcases h2 with ⟨h5,h6,h7⟩ | h5
       · refine .inl ⟨h5,by omega,?_⟩
         have:T.dm (l.take i)+t.cs≤T.dm l:=by
          clear h k h1 h4 h7 h6 h0
          induction l generalizing i with
          | nil=>simp at ht
          | cons y q ih =>
            cases i with
            | zero=>simp at ht;subst ht;simp [T.dm]
            | succ i=>simp at ht;have:=ih i ht;simp [T.dm];omega
         simp only [T.cs];omega
       · exact .inr (sT ht h5)
     · simp only [T.blk] at hn;obtain ⟨rest,h5,_⟩:=Eg t ht
       have:=(h5.cons b).nodup_iff.1 hn
       exact (aT.1 (by simpa using this)).1
   · cases h
 | i::r,.vec a z l n,u,b,o,h,k=>by
   simp only [c6] at h;split at h
   · rename_i t ht;simp only [TAt] at k;obtain ⟨p,cap,_,_,_,k4⟩:=k;cases hb:a.b with
     | none=>simp only [hb] at k4;rw [k4.1] at ht;simp at ht
     | some b0 =>
       simp only [hb] at k4;obtain ⟨b',o',h0,h1,h2,h3,h4⟩:=BE r t u b0 _ h (k4.2.2.2.elem k4.2.2.1 ht);refine ⟨b',o',by simpa only [lk,ht,hb] using h0,h1,.inr ?_,fun x hx=>?_,fun hn=>h4 ?_⟩
       · simp only [T.blk,hb,cp,aS,a7,aM];rcases h2 with ⟨h5,_⟩ | h5
         · exact .inl h5
         · exact .inr (sT ht h5)
       · simp only [T.blk,hb,cp,aS,a7,aM];exact .inr (sT ht (h3 x hx))
       · simp only [T.blk,hb,cp,aS,a7] at hn;obtain ⟨rest,h5,_⟩:=Eg t ht
         have:=((h5.cons b0).nodup_iff).1 (b5.1 hn).2
         exact (aT.1 (by simpa using this)).1
   · cases h
 | i::r,.mp a ks l,u,b,o,_,k=>by simp only [TAt] at k
 | i::r,.hole n,u,b,o,h,_=>by simp [c6] at h
end
end Go.Mid
namespace Go.Mid
open Go.RowKit
section
variable {w:World}{A:Nat→Prop}{E:dV An}{nx:dv}
theorem BF:∀ {l:List (T An)} {b o:Nat},cK w A E nx l b o↔∀ (j:Nat) (y:T An),l[j]?=some y→TAt w A E nx y b (o+T.dm (l.take j))
 | [],b,o=>by simp [cK]
 | t::r,b,o=>by
   simp only [cK,BF (l:=r)];constructor
   · rintro ⟨h1,h2⟩ j y hj;cases j with
     | zero=>simp at hj;subst hj;simpa [T.dm] using h1
     | succ j =>
       simp at hj
       have:=h2 j y hj
       rwa [bV,T.dm,← bX]
   · intro h;refine ⟨by simpa [T.dm] using h 0 t rfl,fun j y hj=>?_⟩
     have:=h (j+1) y (by simpa using hj)
     rwa [bV,T.dm,← bX] at this
theorem Rb {α:Type}:∀ {l:List (T α)} {i j:Nat} {x:T α},l[i]?=some x→i<j→T.dm (l.take i)+x.cs≤T.dm (l.take j)
 | [],i,j,x,h,_=>by simp at h
 | t::r,0,j+1,x,h,_=>by simp at h;subst h;simp [T.dm]
 | t::r,i+1,j+1,x,h,k=>by
   simp at h
   have:=Rb h (show i<j by omega)
   simp [T.dm];omega
theorem M1 {α:Type}{l:List (T α)}{i j:Nat}{x y:T α}(h:l[i]?=some x)(k:y.cs=x.cs):T.dm ((l.set i y).take j)=T.dm (l.take j):=by
 by_cases gU:i<j
 · have:(l.set i y).take j=(l.take j).set i y:=by rw [List.take_set]
   rw [this];exact MS (by rw [List.getElem?_take_of_lt gU];exact h) k
 · rw [List.take_set_of_le (by omega)]
theorem X9:∀ {l:List (T An)} {i j:Nat} {x y:T An},(T.b9 l).Nodup→l[i]?=some x→l[j]?=some y→j≠i→∀ b∈x.blk,b∉y.blk
 | [],i,j,x,y,_,h,_,_=>by simp at h
 | t::r,0,0,x,y,_,_,_,h=>by simp at h
 | t::r,0,j+1,x,y,hn,h,k,_=>by
   simp at h k;subst h;intro b hb jt;simp only [T.b9] at hn;exact (aT.1 hn).2.2 b hb b (sT k jt) rfl
 | t::r,i+1,0,x,y,hn,h,k,_=>by
   simp at h k;subst k;intro b hb jt;simp only [T.b9] at hn;exact (aT.1 hn).2.2 b jt b (sT h hb) rfl
 | t::r,i+1,j+1,x,y,hn,h,k,gU=>by
   simp at h k;simp only [T.b9] at hn;exact X9 (aT.1 hn).2.1 h k (by omega)
theorem M3 {l:List (T An)}{i:Nat}{x:T An}{b:Nat}(hn:(b::T.b9 l).Nodup)(h:l[i]?=some x):(b::x.blk).Nodup:=by
 obtain ⟨rest,h5,_⟩:=Eg x h
 have:=(h5.cons b).nodup_iff.1 hn
 exact (aT.1 (by simpa using this:((b::x.blk)++rest).Nodup)).1
end
section
variable {w w':World}{A A':Nat→Prop}{E E':dV An}{nx nx':dv}
theorem Re (f:Fr w w' A A' E E' nx nx'){l:List (T An)}{i b o b1 o1:Nat}{x x' u:T An}{r:List Nat}(rN:cK w A E nx l b o)(hl:l[i]?=some x)
 (iq:(b::T.b9 l).Nodup) (hsz:∀ y∈b::T.b9 l,y<w.heap.size) (dP:c6 x r=some u) (jS:lk x r b (o+T.dm (l.take i))=some (b1,o1))
 (W:Wr w w' b1 o1 u.cs u.blk) (Iq:TAt w' A' E' nx' x' b (o+T.dm (l.take i))) (fg:x'.cs=x.cs):cK w' A' E' nx' (l.set i x') b o:=by
 rw [BF];intro j y hj;rw [M1 hl fg];rw [dG] at hj;split at hj
 · rename_i gU;subst gU;split at hj
   · cases hj;exact Iq
   · cases hj
 · rename_i gU;have hy:=BF.1 rN j y hj;have hx:=BF.1 rN i x hl;obtain ⟨b',o',h0,h1,h2,h3,h4⟩:=BE r x u b _ dP hx;rw [h0] at jS;cases jS;have Ya:=X9 (b5.1 iq).2 hl hj (dB gU);have tw:=(b5.1 iq).1;refine TAt.jh f (fun k CV Yb=>?_) (fun z hz=>?_) hy
   · rcases h2 with ⟨rfl,h5,h6⟩ | h5
     · refine W.cell k ?_;by_cases eC:j<i
       · have:=Rb hj eC;omega
       · have:=Rb hl (show i<j by omega);omega
     · refine MF (W.other b (hsz b (by simp)) ?_ ?_) k
       · rintro rfl;exact tw (sT hl h5)
       · intro hb;exact tw (sT hl (h3 b hb))
   · refine W.other z (hsz z (by simp [sT hj hz])) ?_ ?_
     · rintro rfl;rcases h2 with ⟨rfl,_⟩ | h5
       · exact tw (sT hj hz)
       · exact Ya _ h5 hz
     · intro AE;exact Ya z (h3 z AE) hz
theorem M4 (f:Fr w w' A A' E E' nx nx'):∀ (p:List Nat) (t u v t':T An) (b o b1 o1:Nat),c6 t p=some u→dg t p v=some t'→lk t p b o=some (b1,o1)→TAt w A E nx t b o →
 (b::t.blk).Nodup→(∀ y∈b::t.blk,y<w.heap.size)→v.cs=u.cs→Wr w w' b1 o1 u.cs u.blk→TAt w' A' E' nx' v b1 o1→TAt w' A' E' nx' t' b o
 | [],t,u,v,t',b,o,b1,o1,h,k,hl,_,_,_,_,_,hv=>by
   simp only [dg,aa] at k;subst k;simp only [lk,aa,ae] at hl;obtain ⟨rfl,rfl⟩:=hl;exact hv
 | i::r,t,u,v,t',b,o,b1,o1,h,k,jS,hk,iq,hsz,fg,W,hv=>by
   rcases Iy h k with ⟨l,x,y,ht,hl,h1,h2,rfl⟩ | ⟨a,z,l,n,x,y,rfl,hl,h1,h2,rfl⟩ | ⟨a,ks,l,x,y,rfl,hl,h1,h2,rfl⟩
   · have rN:cK w A E nx l b o:=by
      rcases ht with rfl | ⟨vs,rfl,rfl⟩
      · simpa only [TAt] using hk
      · exact rf.2 hk
     have hb:t.blk=T.b9 l:=by
      rcases ht with rfl | ⟨vs,rfl,rfl⟩
      · rfl
      · rw [Ef];rfl
     have pN:lk x r b (o+T.dm (l.take i))=some (b1,o1):=by
      have:lk (.agg l) (i::r) b o=some (b1,o1):=by
       rcases ht with rfl | ⟨vs,rfl,rfl⟩
       · exact jS
       · rw [← Ra];exact jS
      simpa only [lk,hl] using this
     rw [hb] at iq hsz;have hx:=M4 f r x u v y b _ b1 o1 h1 h2 pN (BF.1 rN i x hl) (M3 iq hl) (fun y hy=>hsz y (by
      rcases aM.1 hy with rfl | hy
      · simp
      · simp [sT hl hy])) fg W hv
     exact C66.2 (Re f rN hl iq hsz h1 pN W hx (AL r x u v y h1 h2 fg))
   · simp only [TAt] at hk ⊢;obtain ⟨p,cap,k1,k2,k3,k4⟩:=hk;cases hb:a.b with
     | none=>simp only [hb] at k4;rw [k4.1] at hl;simp at hl
     | some b0 =>
       simp only [hb] at k4 ⊢;simp only [T.blk,hb,cp,aS,a7] at iq hsz;have r0:=(b5.1 iq).2;have IB:∀ y∈b0::T.b9 l,y<w.heap.size:=fun y hy=>hsz y (by simp only [aM] at hy ⊢;exact .inr hy)
       have e:i*z=0+T.dm (l.take i):=by rw [AG k4.2.2.1 (fT (aL.1 hl).1)];omega
       have pN:lk x r b0 (0+T.dm (l.take i))=some (b1,o1):=by
        rw [← e];simpa only [lk,hl,hb] using jS
       have hx:=M4 f r x u v y b0 _ b1 o1 h1 h2 pN (BF.1 k4.2.2.2 i x hl) (M3 r0 hl) (fun y hy=>IB y (by
        rcases aM.1 hy with rfl | hy
        · simp
        · simp [sT hl hy])) fg W hv
       have IC:=AL r x u v y h1 h2 fg;obtain ⟨b',o',h0,_,h5,h3,h4⟩:=BE r x u b0 _ h1 (BF.1 k4.2.2.2 i x hl);rw [h0] at pN;cases pN;have tw:=(b5.1 iq).1;have n8:b1=b0∨b1∈T.b9 l:=h5.imp (·.1) (sT hl);have hbh:w'.heap[b]?=w.heap[b]?:=by
        refine W.other b (hsz b (by simp)) ?_ ?_
        · rintro rfl;exact tw (aM.2 n8)
        · intro hb;exact tw (by simp [sT hl (h3 b hb)])
       refine ⟨p,cap,k1.frame hbh,by rw [iN];exact k2,k3,?_,by rw [iN];exact k4.2.1,?_,Re f k4.2.2.2 hl r0 IB h1 h0 W hx IC⟩
       · by_cases kM:b0=b1
         · subst kM;exact W.blk _ k4.1
         · refine k4.1.frame (W.other b0 (hsz b0 (by simp)) kM ?_)
           intro hb;exact (b5.1 r0).1 (sT hl (h3 b0 hb))
       · intro q hq;rcases bm hq with hq | rfl
         · exact k4.2.2.1 q hq
         · rw [IC];exact k4.2.2.1 x (bH hl)
   · simp only [TAt] at hk
end
theorem BG {α:Type}(a:α)(t:T α)(p:List Nat):ew (some (.cell a t)) p=c6 t p:=by cases p<;>rfl
theorem C5k {α:Type}(ob:Option (Obj α))(q:List Nat):fq ob (some q)=match ob,q with
 | some (.cell _ t),q=>fL t q
 | some (.vec a z l),q=>fL (.vec a z l 0) q
 | some (.mp a ks l),q=>fL (.mp a ks l) q
 | _,_=>none:=by
 cases ob with
 | none=>cases q<;>rfl
 | some o =>
   cases o with
   | cell a t =>
     simp only [fq,fL,BG];cases c6 t q with
     | none=>rfl
     | some x=>cases x<;>rfl
   | vec a z l =>
     cases q with
     | nil=>rfl
     | cons i r =>
       simp only [fq,fL,ew,c6];cases l[i]? with
       | none=>rfl
       | some t =>
         simp only;cases c6 t r with
         | none=>rfl
         | some x=>cases x<;>rfl
   | mp a ks l =>
     cases q with
     | nil=>rfl
     | cons i r =>
       simp only [fq,fL,ew,c6];cases l[i]? with
       | none=>rfl
       | some t =>
         simp only;cases c6 t r with
         | none=>rfl
         | some x=>cases x<;>rfl
   | gone=>cases q<;>rfl
def Obj.pO {α:Type}:Obj α→T α
 | .cell _ t=>t
 | .vec a z l=>.vec a z l 0
 | .mp a ks l=>.mp a ks l
 | .gone=>.hole 0
theorem sU {α:Type}(o:Obj α)(q:List Nat):fq (some o) (some q)=fL o.pO q:=by
 rw [C5k];cases o<;>try rfl
 cases q<;>rfl
theorem Gt {α:Type}{o o':Obj α}{p:List Nat}{u v:T α}(h:ew (some o) p=some u)(k:put (some o) p v=some o') :
 (∃ a t t',o=.cell a t∧o'=.cell a t'∧c6 t p=some u∧dg t p v=some t') ∨
 (∃ a z l l' i r x y,o=.vec a z l∧o'=.vec a z l'∧p=i::r∧l[i]?=some x∧c6 x r=some u∧dg x r v=some y∧l'=l.set i y) ∨
 (∃ a ks l l' i r x y,o=.mp a ks l∧o'=.mp a ks l'∧p=i::r∧l[i]?=some x∧c6 x r=some u∧dg x r v=some y∧l'=l.set i y):=by
 cases o with
 | cell a t =>
   rw [BG] at h;have e:put (some (.cell a t)) p v=match dg t p v with | some w=>some (.cell a w) | none=>none:=by cases p<;>rfl
   rw [e] at k;split at k
   · rename_i w hw;cases k;exact .inl ⟨a,t,w,rfl,rfl,h,hw⟩
   · cases k
 | vec a z l =>
   cases p with
   | nil=>simp [ew] at h
   | cons i r =>
     simp only [ew] at h;simp only [put] at k;cases hl:l[i]? with
     | none=>simp [hl] at h
     | some x =>
       simp only [hl] at h k;split at k
       · rename_i y hy;cases k;exact .inr (.inl ⟨a,z,l,_,i,r,x,y,rfl,rfl,rfl,hl,h,hy,rfl⟩)
       · cases k
 | mp a ks l =>
   cases p with
   | nil=>simp [ew] at h
   | cons i r =>
     simp only [ew] at h;simp only [put] at k;cases hl:l[i]? with
     | none=>simp [hl] at h
     | some x =>
       simp only [hl] at h k;split at k
       · rename_i y hy;cases k;exact .inr (.inr ⟨a,ks,l,_,i,r,x,y,rfl,rfl,rfl,hl,h,hy,rfl⟩)
       · cases k
 | gone=>cases p<;>simp [ew] at h
theorem Rf {α:Type}{o o':Obj α}{p:List Nat}{u v:T α}(h:ew (some o) p=some u)(k:put (some o) p v=some o') :
 c6 o.pO p=some u∧dg o.pO p v=some o'.pO:=by
 rcases Gt h k with ⟨a,t,t',rfl,rfl,h1,h2⟩ | ⟨a,z,l,l',i,r,x,y,rfl,rfl,rfl,hl,h1,h2,rfl⟩ | ⟨a,ks,l,l',i,r,x,y,rfl,rfl,rfl,hl,h1,h2,rfl⟩
 · exact ⟨h1,h2⟩
 · exact ⟨by simp only [Obj.pO,c6,hl,h1],by simp only [Obj.pO,dg,hl,h2]⟩
 · exact ⟨by simp only [Obj.pO,c6,hl,h1],by simp only [Obj.pO,dg,hl,h2]⟩
theorem Ei {o o':Obj An}{p:List Nat}{u v:T An}(h:ew (some o) p=some u)(k:put (some o) p v=some o') :
 ∃ rest,o.blk.Perm (u.blk++rest)∧o'.blk.Perm (v.blk++rest):=by
 obtain ⟨h1,h2⟩:=Rf h k;obtain ⟨rest,h3,h4⟩:=MW p _ _ _ _ h1 h2;rcases Gt h k with ⟨a,t,t',rfl,rfl,_,_⟩ | ⟨a,z,l,l',i,r,x,y,rfl,rfl,rfl,hl,_,_,rfl⟩ | ⟨a,ks,l,l',i,r,x,y,rfl,rfl,rfl,hl,_,_,rfl⟩
 · simp only [Obj.pO] at h3 h4;refine ⟨a.b.toList++rest,?_,?_⟩
   · refine (h3.append_left a.b.toList).trans ?_;rw [← bh,← bh];exact dy.append_right _
   · refine (h4.append_left a.b.toList).trans ?_;rw [← bh,← bh];exact dy.append_right _
 · exact ⟨rest,h3,h4⟩
 · exact ⟨rest,h3,h4⟩
theorem D4m {n:dv}{o o':Obj An}{p:List Nat}{u v:T An}(h:ew (some o) p=some u)(k:put (some o) p v=some o')(ho:o.st n)(hv:v.st n):o'.st n:=by
 obtain ⟨h1,h2⟩:=Rf h k;rcases Gt h k with ⟨a,t,t',rfl,rfl,_,_⟩ | ⟨a,z,l,l',i,r,x,y,rfl,rfl,rfl,hl,_,_,rfl⟩ | ⟨a,ks,l,l',i,r,x,y,rfl,rfl,rfl,hl,_,_,rfl⟩
 · exact ⟨ho.1,Gq p _ _ _ _ h1 h2 ho.2 hv⟩
 · exact Gq (i::r) _ _ _ _ h1 h2 ho hv
 · exact Gq (i::r) _ _ _ _ h1 h2 ho hv
theorem Yc {α:Type}{o o':Obj α}{p:List Nat}{u v:T α}(h:ew (some o) p=some u)(k:put (some o) p v=some o'){np:Option (List Nat)}{y:α×Option Nat}
 (hy:fq (some o') np=some y):fq (some o) np=some y∨∃ r,np=some (p++r)∧fL v r=some y:=by
 obtain ⟨h1,h2⟩:=Rf h k;cases np with
 | none =>
   rcases Gt h k with ⟨a,t,t',rfl,rfl,_,_⟩ | ⟨a,z,l,l',i,r,x,y,rfl,rfl,rfl,hl,_,_,rfl⟩ | ⟨a,ks,l,l',i,r,x,y,rfl,rfl,rfl,hl,_,_,rfl⟩
   · exact .inl hy
   · simp [fq] at hy
   · simp [fq] at hy
 | some q =>
   rw [sU] at hy ⊢;rcases MZ p _ _ _ _ h1 h2 q y hy with h3 | ⟨r,rfl,h3⟩
   · exact .inl h3
   · exact .inr ⟨r,rfl,h3⟩
end Go.Mid
namespace Go.Mid
open Go.RowKit
theorem Yd (l:List (T An))(i:Nat)(r:List Nat)(b o:Nat):lk (ke l) (i::r) b o=lk (.agg l) (i::r) b o:=by
 rcases BC l with e | ⟨vs,rfl,e⟩<;>rw [e]
 exact Ra vs i r b o
theorem Gu:∀ (p:List Nat) (t u v t':T An),c6 t p=some u→dg t p v=some t'→v.cs=u.cs→∀ q y,c6 t' q=some y →
 (∃ i r,q=p++i::r∧c6 v (i::r)=some y)∨∃ y',c6 t q=some y'∧y'.cs=y.cs∧∀ b o,lk t' q b o=lk t q b o
 | [],t,u,v,t',h,k,e,q,y,hq=>by
   simp only [dg,aa] at k;subst k;simp only [c6,aa] at h;subst h;cases q with
   | nil=>simp only [c6,aa] at hq;subst hq;exact .inr ⟨t,by simp [c6],e.symm,fun b o=>by simp [lk]⟩
   | cons i r=>exact .inl ⟨i,r,rfl,hq⟩
 | i::r,t,u,v,t',h,k,e,q,y,hq=>by
   cases q with
   | nil =>
     simp only [c6,aa] at hq;subst hq;exact .inr ⟨t,by simp [c6],(AL _ _ _ _ _ h k e).symm,fun b o=>by simp [lk]⟩
   | cons j q =>
     rcases Iy h k with ⟨l,x,w,ht,hl,h1,h2,rfl⟩ | ⟨a,z,l,n,x,w,rfl,hl,h1,h2,rfl⟩ | ⟨a,ks,l,x,w,rfl,hl,h1,h2,rfl⟩
     · have hs:c6 t (j::q)=c6 (.agg l) (j::q):=by
        rcases ht with rfl | ⟨vs,rfl,rfl⟩
        · rfl
        · exact Ix vs j q
       have nL:∀ b o,lk t (j::q) b o=lk (.agg l) (j::q) b o:=by
        intro b o;rcases ht with rfl | ⟨vs,rfl,rfl⟩
        · rfl
        · exact Ra vs j q b o
       have hw:=AL _ _ _ _ _ h1 h2 e;rw [X6] at hq;simp only [c6] at hq;rw [hs];simp only [c6];cases hj:(l.set i w)[j]? with
       | none=>simp [hj] at hq
       | some y0 =>
         simp only [hj] at hq;have CW:=hj;rw [dG] at hj;split at hj
         · rename_i gU;subst gU;split at hj
           · cases hj;rcases Gu r x u v w h1 h2 e q y hq with ⟨i',r',rfl,h3⟩ | ⟨y',h3,h4,h5⟩
             · exact .inl ⟨i',r',rfl,h3⟩
             · refine .inr ⟨y',by rw [hl];exact h3,h4,fun b o=>?_⟩
               rw [Yd,nL];simp only [lk,CW,hl,M1 hl hw,h5]
           · cases hj
         · refine .inr ⟨y,by rw [hj];exact hq,rfl,fun b o=>?_⟩
           rw [Yd,nL];simp only [lk,CW,hj,M1 hl hw]
     · have hw:=AL _ _ _ _ _ h1 h2 e;simp only [c6] at hq ⊢;cases hj:(l.set i w)[j]? with
       | none=>simp [hj] at hq
       | some y0 =>
         simp only [hj] at hq;have CW:=hj;rw [dG] at hj;split at hj
         · rename_i gU;subst gU;split at hj
           · cases hj;rcases Gu r x u v w h1 h2 e q y hq with ⟨i',r',rfl,h3⟩ | ⟨y',h3,h4,h5⟩
             · exact .inl ⟨i',r',rfl,h3⟩
             · refine .inr ⟨y',by rw [hl];exact h3,h4,fun b o=>?_⟩
               simp only [lk,CW,hl];cases a.b with
               | none=>rfl
               | some b'=>exact h5 b' _
           · cases hj
         · refine .inr ⟨y,by rw [hj];exact hq,rfl,fun b o=>?_⟩
           simp only [lk,CW,hj]
     · have hw:=AL _ _ _ _ _ h1 h2 e;simp only [c6] at hq ⊢;cases hj:(l.set i w)[j]? with
       | none=>simp [hj] at hq
       | some y0 =>
         simp only [hj] at hq;have CW:=hj;rw [dG] at hj;split at hj
         · rename_i gU;subst gU;split at hj
           · cases hj;rcases Gu r x u v w h1 h2 e q y hq with ⟨i',r',rfl,h3⟩ | ⟨y',h3,h4,h5⟩
             · exact .inl ⟨i',r',rfl,h3⟩
             · exact .inr ⟨y',by rw [hl];exact h3,h4,fun b o=>by simp only [lk]⟩
           · cases hj
         · exact .inr ⟨y,by rw [hj];exact hq,rfl,fun b o=>by simp only [lk]⟩
def mQ (E E':dV An):Prop:=∀ id p u,ew (E' id) p=some u→∃ u',ew (E id) p=some u'∧u'.cs=u.cs∧qS (E' id) p=qS (E id) p
theorem mQ.refl (E:dV An):mQ E E:=fun _ _ u h=>⟨u,h,rfl,rfl⟩
theorem mQ.trans {E E' yP:dV An}(h:mQ E E')(k:mQ E' yP):mQ E yP:=fun id p u hu=>by
 obtain ⟨u',h1,h2,h3⟩:=k id p u hu;obtain ⟨u'',h4,h5,h6⟩:=h id p u' h1;exact ⟨u'',h4,h5.trans h2,h3.trans h6⟩
theorem mQ.gone (E:dV An)(id:Nat):mQ E (cD E id (some .gone)):=by
 intro i p u hu;by_cases e:i=id
 · subst e;simp only [cD,if_true] at hu;cases p<;>simp [ew] at hu
 · simp only [cD,e,if_false] at hu ⊢;exact ⟨u,hu,rfl,trivial⟩
theorem D2O {o o':Obj An}{p:List Nat}{u:T An}{n:Nat}(hs:ew (some o) p=some u)(hp:put (some o) p (.hole n)=some o')(hc:u.cs=n){q:List Nat}{y:T An}(hq:ew (some o') q=some y) :
 ∃ y',ew (some o) q=some y'∧y'.cs=y.cs∧qS (some o') q=qS (some o) q:=by
 have hole:∀ i r,c6 (.hole n:T An) (i::r)≠some y:=by intro i r h;simp [c6] at h
 rcases Gt hs hp with ⟨a,t,t',rfl,rfl,h1,h2⟩ | ⟨a,z,l,l',i,r,x,w,rfl,rfl,rfl,hx,h1,h2,rfl⟩ | ⟨a,ks,l,l',i,r,x,w,rfl,rfl,rfl,hx,h1,h2,rfl⟩
 · rw [BG] at hq;rcases Gu p t u _ t' h1 h2 hc.symm q y hq with ⟨i,r,_,h3⟩ | ⟨y',h3,h4,h5⟩
   · exact absurd h3 (hole i r)
   · refine ⟨y',by rw [BG];exact h3,h4,?_⟩
     simp only [qS,h5]
 · cases q with
   | nil=>simp [ew] at hq
   | cons j q =>
     have uf:c6 (.vec a z l 0) (i::r)=some u:=by simp only [c6,hx,h1]
     have rh:dg (.vec a z l 0) (i::r) (.hole n)=some (.vec a z (l.set i w) 0):=by simp only [dg,hx,h2]
     rcases Gu (i::r) _ u _ _ uf rh hc.symm (j::q) y (by simpa only [ew,c6] using hq) with ⟨i',r',_,h3⟩ | ⟨y',h3,h4,h5⟩
     · exact absurd h3 (hole i' r')
     · refine ⟨y',by simpa only [ew,c6] using h3,h4,?_⟩
       have:=h5 0 0
       simpa only [qS,lk] using this
 · cases q with
   | nil=>simp [ew] at hq
   | cons j q =>
     have uf:c6 (.mp a ks l) (i::r)=some u:=by simp only [c6,hx,h1]
     have rh:dg (.mp a ks l) (i::r) (.hole n)=some (.mp a ks (l.set i w)):=by simp only [dg,hx,h2]
     rcases Gu (i::r) _ u _ _ uf rh hc.symm (j::q) y (by simpa only [ew,c6] using hq) with ⟨i',r',_,h3⟩ | ⟨y',h3,h4,h5⟩
     · exact absurd h3 (hole i' r')
     · exact ⟨y',by simpa only [ew,c6] using h3,h4,by simp only [qS]⟩
theorem mQ.hole {E:dV An}{id:Nat}{o o':Obj An}{p:List Nat}{u:T An}{n:Nat}(hE:E id=some o)(hs:ew (some o) p=some u)(hp:put (some o) p (.hole n)=some o')(hc:u.cs=n):mQ E (cD E id (some o')):=by
 intro i q y hy;by_cases e:i=id
 · subst e;simp only [cD,if_true] at hy ⊢;rw [hE];exact D2O hs hp hc hy
 · simp only [cD,e,if_false] at hy ⊢;exact ⟨y,hy,rfl,trivial⟩
end Go.Mid
namespace Go.Mid
open Go.RowKit
section
variable {w w':World}{A:Nat→Prop}{E:dV An}{h:cq}{nx nx':dv}
theorem nM {α:Type}(f:Nat→α)(k:Nat)(v:α):cD f k v k=v:=by simp [cD]
theorem nT {α:Type}(f:Nat→α){k i:Nat}(v:α)(h:i≠k):cD f k v i=f i:=by simp [cD,h]
theorem MR.kp (m:MR w A E h nx){i:Nat}{o:Obj An}(ho:E i=some o){b:Nat}(hb:b∈o.blk):b<w.heap.size∧¬ A b:=m.lt b ⟨i,o,ho,hb⟩
structure nN (w w':World)(A:Nat→Prop)(E:dV An)(nx nx':dv)(id:Nat)(o':Obj An):Prop where
 hn:nx.le nx'
 sz:w.heap.size≤w'.heap.size
 ch:∀ b,b<w.heap.size→(∀ o,E id=some o→b∉o.blk)→w'.heap[b]?=w.heap[b]?
 ns:∀ np y,fq (some o') np=some y→nx y.1.g→fq (E id) np=some y
 lt:∀ b∈o'.blk,b<w'.heap.size∧¬ A b
 nd:o'.blk.Nodup
 dj:∀ b∈o'.blk,∀ j o,j≠id→E j=some o→b∉o.blk
 st:o'.st nx'
theorem nN.fr {id:Nat}{o':Obj An}(m:MR w A E h nx)(s:nN w w' A E nx nx' id o'):Fr w w' A A E (cD E id (some o')) nx nx' :=
 ⟨fun _ h=>h,fun b hb=>s.ch b (m.im b hb) (fun o ho l6=>(m.kp ho l6).2 hb),fun i np an z bY hg=>by
   by_cases e:i=id
   · subst e;rw [nM] at bY;exact s.ns np _ bY hg
   · rw [nT E _ e] at bY;exact bY,s.hn⟩
theorem MR.set (m:MR w A E h nx){id:Nat}{o':Obj An}(s:nN w w' A E nx nx' id o')(lh:OAt w' A (cD E id (some o')) nx' o') :
 MR w' A (cD E id (some o')) (cD h id (some (o'.mapA An.g))) nx':=by
 have f:=s.fr m;constructor
 · intro i;by_cases e:i=id
   · subst e;simp [cD]
   · simp [cD,e,m.er i]
 · intro i o ho;by_cases e:i=id
   · subst e;rw [nM] at ho;cases ho;exact lh
   · rw [nT E _ e] at ho;refine OAt.frame f (fun x hx=>s.ch x (m.kp ho hx).1 (fun o1 nu uW=>m.dj i id o o1 e ho nu x hx uW)) (m.at_ i o ho)
 · rintro b ⟨i,o,ho,hb⟩;by_cases e:i=id
   · subst e;rw [nM] at ho;cases ho;exact s.lt b hb
   · rw [nT E _ e] at ho
     have:=m.kp ho hb
     exact ⟨br this.1 s.sz,this.2⟩
 · intro i o ho;by_cases e:i=id
   · subst e;rw [nM] at ho;cases ho;exact s.nd
   · rw [nT E _ e] at ho;exact m.nd i o ho
 · intro i j o o1 gU ho nu b hb n8;by_cases e:i=id
   · subst e;rw [nM] at ho;cases ho;rw [nT E _ (dB gU)] at nu;exact s.dj b hb j o1 (dB gU) nu n8
   · rw [nT E _ e] at ho;by_cases e':j=id
     · subst e';rw [nM] at nu;cases nu;exact s.dj b n8 i o e ho hb
     · rw [nT E _ e'] at nu;exact m.dj i j o o1 gU ho nu b hb n8
 · intro b hb;exact br (m.im b hb) s.sz
 · intro i o ho;by_cases e:i=id
   · subst e;rw [nM] at ho;cases ho;exact s.st
   · rw [nT E _ e] at ho;exact Obj.kx s.hn (m.st i o ho)
theorem AM {id:Nat}{o':Obj An}{b:Nat}(k:jH (cD E id (some o')) b):b∈o'.blk∨∃ i o,i≠id∧E i=some o∧b∈o.blk:=by
 obtain ⟨i,o,ho,hb⟩:=k;by_cases e:i=id
 · subst e;rw [nM] at ho;cases ho;exact .inl hb
 · rw [nT E _ e] at ho;exact .inr ⟨i,o,e,ho,hb⟩
theorem Ye {α:Type}(np:Option (List Nat)):fq (some (.gone:Obj α)) np=none:=by
 cases np with
 | none=>rfl
 | some p=>cases p<;>rfl
theorem nN.gone (hn:nx.le nx')(id:Nat):nN w w A E nx nx' id .gone where
 hn:=hn
 sz:=au _
 ch:=fun _ _ _=>rfl
 ns:=fun np y h=>by rw [Ye] at h;cases h
 lt:=fun b hb=>by simp [Obj.blk] at hb
 nd:=by simp [Obj.blk]
 dj:=fun b hb=>by simp [Obj.blk] at hb
 st:=trivial
theorem MR.gone (m:MR w A E h nx)(id:Nat):MR w A (cD E id (some .gone)) (cD h id (some .gone)) nx :=
 m.set (nN.gone (dv.le_refl _) id) (by simp only [OAt])
theorem AN {o:Obj An}{p:List Nat}{u:T An}(hs:ew (some o) p=some u)(k:OAt w A E nx o) :
 ∃ b' o',qS (some o) p=some (b',o')∧TAt w A E nx u b' o'∧b'∈o.blk∧(∀ x∈u.blk,x∈o.blk)∧(o.blk.Nodup→b'∉u.blk):=by
 cases o with
 | cell a t =>
   rw [BG] at hs;simp only [OAt] at k;obtain ⟨b,hb,h1,h2⟩:=k;obtain ⟨b',o',h0,h3,h4,h5,h6⟩:=BE p t u b 0 hs h2;refine ⟨b',o',?_,h3,?_,?_,?_⟩
   · cases p<;>simpa only [qS,hb] using h0
   · simp only [Obj.blk,hb,cp,aS,a7,aM];exact h4.imp (·.1) id
   · intro x hx;simp only [Obj.blk,ay];exact .inr (h5 x hx)
   · intro hn;simp only [Obj.blk,hb,cp,aS,a7] at hn;exact h6 hn
 | vec a z l =>
   cases p with
   | nil=>simp [ew] at hs
   | cons i r =>
     simp only [ew] at hs;split at hs
     · rename_i t ht;simp only [OAt,VB] at k;cases hb:a.b with
       | none=>simp only [hb] at k;rw [k.1] at ht;simp at ht
       | some b =>
         simp only [hb] at k;obtain ⟨b',o',h0,h3,h4,h5,h6⟩:=BE r t u b _ hs (k.2.2.2.elem k.2.2.1 ht);refine ⟨b',o',by simpa only [qS,hb,ht] using h0,h3,?_,?_,?_⟩
         · simp only [Obj.blk,hb,cp,aS,a7,aM];rcases h4 with h4 | h4
           · exact .inl h4.1
           · exact .inr (sT ht h4)
         · intro x hx;simp only [Obj.blk,ay];exact .inr (sT ht (h5 x hx))
         · intro hn;simp only [Obj.blk,hb,cp,aS,a7] at hn;exact h6 (M3 hn ht)
     · cases hs
 | mp=>simp only [OAt] at k
 | gone=>cases p<;>simp [ew] at hs
theorem D0O {an:An}{z n b0:Nat}{l:List (T An)}{i:Nat}{t:T An}{r:List Nat}{b o:Nat}(hb:an.b=some b0)(ht:l[i]?=some t):lk (.vec an z l n) (i::r) b o=lk t r b0 (i*z):=by
 simp only [lk,hb,ht]
theorem C5l {o:Obj An}{p:List Nat}{u:T An}{b' o':Nat}(hs:ew (some o) p=some u)(hl:qS (some o) p=some (b',o'))(q:List Nat):qS (some o) (p++q)=lk u q b' o':=by
 cases o with
 | cell a t =>
   rw [BG] at hs;simp only [qS] at hl ⊢;cases hb:a.b with
   | none=>simp [hb] at hl
   | some b=>simp only [hb] at hl ⊢;exact IA p q t u b 0 b' o' hs hl
 | vec a z l =>
   cases p with
   | nil=>simp [ew] at hs
   | cons i r =>
     simp only [ew] at hs;simp only [qS,aS] at hl ⊢;split at hs
     · rename_i t ht;cases hb:a.b with
       | none=>simp [hb] at hl
       | some b=>simp only [hb,ht] at hl ⊢;exact IA r q t u b _ b' o' hs hl
     · cases hs
 | mp a ks l=>cases p<;>simp [qS] at hl
 | gone=>cases p<;>simp [ew] at hs
theorem MR.wu (m:MR w A E h nx){id:Nat}{ob:Obj An}(hE:E id=some ob){np:Option (List Nat)}{rp:List Nat}{an:An}{o b:Nat}{t:T An}(hv:Mid.look (some ob) np rp=some (t,an,o))(hb:an.b=some b) :
 qS (some ob) (rG np rp)=some (b,o):=by
 cases np with
 | none =>
   cases ob<;>simp only [Mid.look,reduceCtorEq] at hv;rename_i a t0;split at hv
   · rename_i u o' hl;simp only [aa,ae] at hv;obtain ⟨rfl,rfl,rfl⟩:=hv
     have:=M0 b rp t0 u 0 o' hl
     simp only [rG,Option.getD_none,a7];cases rp<;>simpa only [qS,hb] using this
   · cases hv
 | some p =>
   simp only [Mid.look] at hv;simp only [rG,Option.getD_some];split at hv
   · rename_i a z l i r iT;split at hv
     · rename_i t0 AH;split at hv
       · rename_i u o' hl;simp only [aa,ae] at hv;obtain ⟨rfl,rfl,rfl⟩:=hv;have h1:=M0 b r t0 u _ o' hl;rcases MM iT with ⟨rfl,he⟩ | ⟨n,hs⟩
         · cases he;simpa only [a7,qS,hb,AH] using h1
         · obtain ⟨b',BH,h2,_⟩:=AN hs (m.at_ id ob hE);rw [C5l hs h2,D0O hb AH];exact h1
       · cases hv
     · cases hv
   · cases hv
theorem OAt.put {o o':Obj An}{p:List Nat}{u v:T An}{A':Nat→Prop}{E':dV An}(f:Fr w w' A A' E E' nx nx')(hs:ew (some o) p=some u)(hp:put (some o) p v=some o'){b1 o1:Nat}(hl:qS (some o) p=some (b1,o1))
 (fg:v.cs=u.cs) (W:Wr w w' b1 o1 u.cs u.blk) (iq:o.blk.Nodup) (hsz:∀ y∈o.blk,y<w.heap.size) (k:OAt w A E nx o) (hv:TAt w' A' E' nx' v b1 o1):OAt w' A' E' nx' o':=by
 rcases Gt hs hp with ⟨a,t,t',rfl,rfl,h1,h2⟩ | ⟨a,z,l,l',i,r,x,y,rfl,rfl,rfl,hx,h1,h2,rfl⟩ | ⟨a,ks,l,l',i,r,x,y,rfl,rfl,rfl,hx,h1,h2,rfl⟩
 · simp only [OAt] at k ⊢;obtain ⟨b,hb,k1,k2⟩:=k;have xj:lk t p b 0=some (b1,o1):=by
    cases p<;>simpa only [qS,hb] using hl
   simp only [Obj.blk,hb,cp,aS,a7] at iq hsz;refine ⟨b,hb,?_,M4 f p t u v t' b 0 b1 o1 h1 h2 xj k2 iq hsz fg W hv⟩;rw [AL p t u v t' h1 h2 fg];by_cases e:b=b1
   · subst e;exact W.blk _ k1
   · obtain ⟨b',o',h0,_,h5,h3,h4⟩:=BE p t u b _ h1 k2;refine k1.frame (W.other b (hsz b (by simp)) e fun hb=>(b5.1 iq).1 (h3 b hb))
 · simp only [OAt,VB] at k ⊢;cases hb:a.b with
   | none=>simp only [hb] at k;rw [k.1] at hx;simp at hx
   | some b0 =>
     simp only [hb] at k ⊢;simp only [Obj.blk,hb,cp,aS,a7] at iq hsz;have e:i*z=0+T.dm (l.take i):=by rw [AG k.2.2.1 (fT (aL.1 hx).1)];omega
     have pN:lk x r b0 (0+T.dm (l.take i))=some (b1,o1):=by
      rw [← e];simpa only [qS,hx,hb] using hl
     have hy:=M4 f r x u v y b0 _ b1 o1 h1 h2 pN (BF.1 k.2.2.2 i x hx) (M3 iq hx) (fun y hy=>hsz y (by
      rcases aM.1 hy with rfl | hy
      · simp
      · simp [sT hx hy])) fg W hv
     have xk:=AL r x u v y h1 h2 fg;obtain ⟨b',o',h0,_,h5,h3,h4⟩:=BE r x u b0 _ h1 (BF.1 k.2.2.2 i x hx);refine ⟨?_,by rw [iN];exact k.2.1,?_,Re f k.2.2.2 hx iq hsz h1 pN W hy xk⟩
     · by_cases kM:b0=b1
       · subst kM;exact W.blk _ k.1
       · exact k.1.frame (W.other b0 (hsz b0 (by simp)) kM fun hb=>(b5.1 iq).1 (sT hx (h3 b0 hb)))
     · intro q hq;rcases bm hq with hq | rfl
       · exact k.2.2.1 q hq
       · rw [xk];exact k.2.2.1 x (bH hx)
 · simp only [OAt] at k
structure oY (w w':World)(A:Nat→Prop)(E:dV An)(nx nx':dv)(id:Nat)(o:Obj An)(p:List Nat)(u v:T An)(b1 o1:Nat):Prop where
 hn:nx.le nx'
 sz:w.heap.size≤w'.heap.size
 hE:E id=some o
 hs:ew (some o) p=some u
 hl:qS (some o) p=some (b1,o1)
 cs:v.cs=u.cs
 W:Wr w w' b1 o1 u.cs u.blk
 ns:∀ r y,fL v r=some y→nx y.1.g→fL u r=some y
 lt:∀ b∈v.blk,b<w'.heap.size∧¬ A b
 nd:v.blk.Nodup
 dj:∀ b∈v.blk,b∈u.blk∨¬ jH E b
 st:v.st nx'
theorem M5 {α:Type}{o:Obj α}{u:T α}{p r:List Nat}(h:ew (some o) p=some u):fq (some o) (some (p++r))=fL u r:=by
 rw [sU]
 have:c6 o.pO p=some u:=by
  cases o with
  | cell a t=>rw [BG] at h;exact h
  | vec a z l =>
    cases p with
    | nil=>simp [ew] at h
    | cons i r=>simpa only [ew,c6,Obj.pO] using h
  | mp a ks l =>
    cases p with
    | nil=>simp [ew] at h
    | cons i r=>simpa only [ew,c6,Obj.pO] using h
  | gone=>cases p<;>simp [ew] at h
 simp only [fL,CS,this,ah]
theorem oY.ug {id:Nat}{o o':Obj An}{p:List Nat}{u v:T An}{b1 o1:Nat}(m:MR w A E h nx)(k:oY w w' A E nx nx' id o p u v b1 o1)(hp:put (some o) p v=some o') :
 nN w w' A E nx nx' id o':=by
 obtain ⟨rest,h1,h2⟩:=Ei k.hs hp;have iq:=m.nd id o k.hE;obtain ⟨b',BH,h3,h4,h5,h6,h7⟩:=AN k.hs (m.at_ id o k.hE);rw [k.hl] at h3;cases h3;have r0:=h1.nodup_iff.1 iq;have n9:∀ b∈rest,b∈o.blk:=fun b hb=>h1.mem_iff.2 (by simp [hb])
 have pf:∀ b∈o'.blk,b∈v.blk∨b∈rest:=fun b hb=>by simpa using h2.mem_iff.1 hb
 constructor
 · exact k.hn
 · exact k.sz
 · intro b hb l6;exact k.W.other b hb (fun e=>l6 o k.hE (e ▸ h5)) (fun hbu=>l6 o k.hE (h6 b hbu))
 · intro np y hy hg;rw [k.hE];rcases Yc k.hs hp hy with h8 | ⟨r,rfl,h8⟩
   · exact h8
   · rw [M5 k.hs];exact k.ns r y h8 hg
 · intro b hb;rcases pf b hb with h8 | h8
   · exact k.lt b h8
   · have:=m.kp k.hE (n9 b h8)
     exact ⟨br this.1 k.sz,this.2⟩
 · refine h2.nodup_iff.2 (aT.2 ⟨k.nd,(aT.1 r0).2.1,?_⟩);rintro b hb _ jt rfl;rcases k.dj b hb with h8 | h8
   · exact (aT.1 r0).2.2 b h8 b jt rfl
   · exact h8 ⟨id,o,k.hE,n9 b jt⟩
 · intro b hb j oj hj BI Rg;rcases pf b hb with h8 | h8
   · rcases k.dj b h8 with h9 | h9
     · exact m.dj id j o oj (dB hj) k.hE BI b (h6 b h9) Rg
     · exact h9 ⟨j,oj,BI,Rg⟩
   · exact m.dj id j o oj (dB hj) k.hE BI b (n9 b h8) Rg
 · exact D4m k.hs hp (Obj.kx k.hn (m.st id o k.hE)) k.st
theorem MR.put {id:Nat}{o o':Obj An}{p:List Nat}{u v:T An}{b1 o1:Nat}(m:MR w A E h nx)(k:oY w w' A E nx nx' id o p u v b1 o1)(hp:put (some o) p v=some o')
 (hv:Fr w w' A A E (cD E id (some o')) nx nx'→TAt w' A (cD E id (some o')) nx' v b1 o1) :
 MR w' A (cD E id (some o')) (cD h id (some (o'.mapA An.g))) nx':=by
 have s:=k.ug m hp;have f:=s.fr m;exact m.set s (OAt.put f k.hs hp k.hl k.cs k.W (m.nd id o k.hE) (fun y hy=>(m.kp k.hE hy).1) (m.at_ id o k.hE) (hv f))
theorem oY.owned {id:Nat}{o o':Obj An}{p:List Nat}{u v:T An}{b1 o1:Nat}(k:oY w w' A E nx nx' id o p u v b1 o1)(m:MR w A E h nx)(hp:Mid.put (some o) p v=some o'){b:Nat}(hb:jH (cD E id (some o')) b) :
 b∈v.blk∨(jH E b∧b∉u.blk):=by
 obtain ⟨rest,h1,h2⟩:=Ei k.hs hp;have r0:=h1.nodup_iff.1 (m.nd id o k.hE);rcases AM hb with hb | ⟨i,oi,hi,r6,hb⟩
 · rcases ay.1 (h2.mem_iff.1 hb) with h3 | h3
   · exact .inl h3
   · exact .inr ⟨⟨id,o,k.hE,h1.mem_iff.2 (by simp [h3])⟩,fun hu=>(aT.1 r0).2.2 b hu b h3 rfl⟩
 · exact .inr ⟨⟨i,oi,r6,hb⟩,fun hu=>m.dj id i o oi (dB hi) k.hE r6 b (h1.mem_iff.2 (by simp [hu])) hb⟩
end
end Go.Mid
namespace Go.Mid
open Go.RowKit
section
variable (w:World)(A:Nat→Prop)(E:dV An)(nx:dv)
mutual
def TC:T An→List Value→Prop
 | .p v,cs=>ed w A v cs
 | .m v,cs=>v.cs=1∧v.isAgg=false∧∃ val,bT w A E nx v val∧cs=[val]
 | .agg l,cs=>kq l cs
 | .vec an z l n,cs=>∃ a cap,cs=[.slice a n cap]∧n≤l.length∧lg an z 0 n a cap∧VB w A E nx an z l
 | .mp ..,_=>False
 | .hole n,cs=>cs.length=n
def kq:List (T An)→List Value→Prop
 | [],cs=>cs=[]
 | t::r,cs=>∃ c d,cs=c++d∧TC t c∧kq r d
end
end
section
variable {w w':World}{A A':Nat→Prop}{E E':dV An}{nx nx':dv}
mutual
theorem TC.len:∀ {t:T An} {cs:List Value},TC w A E nx t cs→cs.length=t.cs
 | .p v,cs,h=>by simp only [TC] at h;exact h.len
 | .m v,cs,h=>by simp only [TC] at h;obtain ⟨h1,_,val,_,rfl⟩:=h;simp [T.cs,h1]
 | .agg l,cs,h=>by simp only [TC] at h;exact kq.len h
 | .vec ..,cs,h=>by simp only [TC] at h;obtain ⟨a,cap,rfl,_⟩:=h;rfl
 | .mp ..,cs,h=>by simp only [TC] at h
 | .hole n,cs,h=>by simp only [TC] at h;exact h
theorem kq.len:∀ {l:List (T An)} {cs:List Value},kq w A E nx l cs→cs.length=T.dm l
 | [],cs,h=>by simp only [kq] at h;subst h;rfl
 | t::r,cs,h=>by
   simp only [kq] at h;obtain ⟨c,d,rfl,h1,h2⟩:=h;rw [aQ,TC.len h1,kq.len h2];rfl
end
mutual
theorem TC.at_:∀ {t:T An} {cs:List Value} {b o:Nat},TC w A E nx t cs→Row w b o cs→TAt w A E nx t b o
 | .p v,cs,b,o,h,k=>by simp only [TC] at h;simp only [TAt];exact ⟨cs,h,k⟩
 | .m v,cs,b,o,h,k=>by simp only [TC] at h;obtain ⟨h1,h2,val,h3,rfl⟩:=h;simp only [TAt];exact ⟨h1,h2,val,h3,k⟩
 | .agg l,cs,b,o,h,k=>by simp only [TC] at h;simp only [TAt];exact kq.at_ h k
 | .vec an z l n,cs,b,o,h,k=>by
   simp only [TC,VB] at h;obtain ⟨a,cap,rfl,h1,h2,h3⟩:=h;simp only [TAt];exact ⟨a,cap,k,h1,h2,h3⟩
 | .mp ..,cs,b,o,h,_=>by simp only [TC] at h
 | .hole n,cs,b,o,h,k=>by
   simp only [TC] at h;simp only [TAt];intro j hj
   have:j<cs.length:=by omega
   exact ⟨cs[j],k j _ (by simp [this])⟩
theorem kq.at_:∀ {l:List (T An)} {cs:List Value} {b o:Nat},kq w A E nx l cs→Row w b o cs→cK w A E nx l b o
 | [],cs,b,o,_,_=>by simp only [cK]
 | t::r,cs,b,o,h,k=>by
   simp only [kq] at h;obtain ⟨c,d,rfl,h1,h2⟩:=h;have k:=Row.append.1 k;simp only [cK];refine ⟨TC.at_ h1 k.1,?_⟩
   have:=kq.at_ h2 k.2
   rwa [h1.len] at this
end
theorem VB.frame (f:Fr w w' A A' E E' nx nx'){an:An}{z:Nat}{l:List (T An)}(hk:∀ x∈an.b.toList++T.b9 l,w'.heap[x]?=w.heap[x]?)(h:VB w A E nx an z l):VB w' A' E' nx' an z l:=by
 simp only [VB] at h ⊢;cases hb:an.b with
 | none=>simpa only [hb] using h
 | some b =>
   simp only [hb] at h ⊢;simp only [hb,cp,aS,a7,aM] at hk;exact ⟨h.1.frame (hk b (.inl rfl)),h.2.1,h.2.2.1,cK.frame f (hk b (.inl rfl)) (fun x hx=>hk x (.inr hx)) h.2.2.2⟩
mutual
theorem TC.frame (f:Fr w w' A A' E E' nx nx'):∀ {t:T An} {cs:List Value},(∀ x∈t.blk,w'.heap[x]?=w.heap[x]?)→TC w A E nx t cs→TC w' A' E' nx' t cs
 | .p v,cs,_,h=>by simp only [TC] at h ⊢;exact h.frame f.hA f.hw
 | .m v,cs,_,h=>by simp only [TC] at h ⊢;obtain ⟨h1,h2,val,h3,h4⟩:=h;exact ⟨h1,h2,val,h3.frame f,h4⟩
 | .agg l,cs,hk,h=>by simp only [TC] at h ⊢;exact kq.frame f hk h
 | .vec an z l n,cs,hk,h=>by
   simp only [TC] at h ⊢;obtain ⟨a,cap,h1,h2,h3,h4⟩:=h;exact ⟨a,cap,h1,h2,h3,VB.frame f hk h4⟩
 | .mp ..,cs,_,h=>by simp only [TC] at h
 | .hole n,cs,_,h=>by simp only [TC] at h ⊢;exact h
theorem kq.frame (f:Fr w w' A A' E E' nx nx'):∀ {l:List (T An)} {cs:List Value},(∀ x∈T.b9 l,w'.heap[x]?=w.heap[x]?)→kq w A E nx l cs→kq w' A' E' nx' l cs
 | [],cs,_,h=>by simp only [kq] at h ⊢;exact h
 | t::r,cs,hk,h=>by
   simp only [kq] at h ⊢;simp only [T.b9,ay] at hk;obtain ⟨c,d,h1,h2,h3⟩:=h;exact ⟨c,d,h1,TC.frame f (fun x hx=>hk x (.inl hx)) h2,kq.frame f (fun x hx=>hk x (.inr hx)) h3⟩
end
theorem uh {vs:List PV}{cs:List Value}:kq w A E nx (vs.map .p) cs↔cU w A vs cs:=by
 induction vs generalizing cs with
 | nil=>simp only [cr,kq,cU]
 | cons x r ih=>simp only [aH,kq,cU,TC,ih]
theorem Yf {l:List (T An)}{cs:List Value}:TC w A E nx (ke l) cs↔kq w A E nx l cs:=by
 rcases BC l with e | ⟨vs,rfl,e⟩<;>rw [e]
 · simp only [TC]
 · simp only [TC,ed];exact uh.symm
def m6 (g:Nat)(an:An):An:={ an with g:=g }
mutual
theorem Rh (g:Nat):∀ {t:T An} {b o:Nat},TAt w A E nx t b o→TAt w A E nx (t.mapA (m6 g)) b o
 | .p v,b,o,h=>h
 | .m v,b,o,h=>h
 | .agg l,b,o,h=>by simp only [TAt,T.mapA] at h ⊢;exact M6 g h
 | .vec an z l n,b,o,h=>by
   simp only [TAt,T.mapA] at h ⊢;obtain ⟨a,cap,h1,h2,h3,h4⟩:=h;refine ⟨a,cap,h1,by rw [T.mapAs_eq,aE];exact h2,h3,?_⟩
   cases hb:an.b with
   | none=>simp only [m6,hb] at h4 ⊢;exact ⟨by rw [h4.1];rfl,h4.2⟩
   | some b' =>
     simp only [m6,hb] at h4 ⊢;refine ⟨h4.1,by rw [T.mapAs_eq,aE];exact h4.2.1,?_,M6 g h4.2.2.2⟩
     intro t ht;rw [T.mapAs_eq] at ht;obtain ⟨u,hu,rfl⟩:=bj.1 ht;rw [T.ky];exact h4.2.2.1 u hu
 | .mp ..,b,o,h=>by simp only [TAt] at h
 | .hole n,b,o,h=>h
theorem M6 (g:Nat):∀ {l:List (T An)} {b o:Nat},cK w A E nx l b o→cK w A E nx (T.cQ (m6 g) l) b o
 | [],b,o,h=>by simp only [cK,T.cQ]
 | t::r,b,o,h=>by
   simp only [cK,T.cQ] at h ⊢;rw [T.ky];exact ⟨Rh g h.1,M6 g h.2⟩
end
theorem Yg (g:Nat){an:An}{z:Nat}{l:List (T An)}(h:VB w A E nx an z l):VB w A E nx (m6 g an) z (T.cQ (m6 g) l):=by
 simp only [VB] at h ⊢;cases hb:an.b with
 | none=>simp only [m6,hb] at h ⊢;exact ⟨by rw [h.1];rfl,h.2⟩
 | some b' =>
   simp only [m6,hb] at h ⊢;refine ⟨h.1,by rw [T.mapAs_eq,aE];exact h.2.1,?_,M6 g h.2.2.2⟩
   intro t ht;rw [T.mapAs_eq] at ht;obtain ⟨u,hu,rfl⟩:=bj.1 ht;rw [T.ky];exact h.2.2.1 u hu
end
mutual
theorem Yh (g:Nat):∀ (t:T An),(t.mapA (m6 g)).blk=t.blk
 | .p _=>rfl
 | .m _=>rfl
 | .agg l=>yX g l
 | .vec an _ l _=>by simp only [T.mapA,T.blk,yX g l];rfl
 | .mp an _ l=>by simp only [T.mapA,T.blk,yX g l];rfl
 | .hole _=>rfl
theorem yX (g:Nat):∀ (l:List (T An)),T.b9 (T.cQ (m6 g) l)=T.b9 l
 | []=>rfl
 | t::r=>by simp only [T.cQ,T.b9,Yh g t,yX g r]
end
mutual
theorem Yi (n:dv)(g:Nat):∀ (t:T An),(t.mapA (m6 g)).st (n.add g)
 | .p _=>trivial
 | .m _=>trivial
 | .agg l=>CX n g l
 | .vec an _ l _=>⟨n.iW g,CX n g l⟩
 | .mp an _ l=>⟨n.iW g,CX n g l⟩
 | .hole _=>trivial
theorem CX (n:dv)(g:Nat):∀ (l:List (T An)),T.ku (n.add g) (T.cQ (m6 g) l)
 | []=>trivial
 | t::r=>⟨Yi n g t,CX n g r⟩
end
mutual
theorem Yj (g:Nat):∀ (t:T An),(t.mapA (m6 g)).mapA An.g=Ap g (t.mapA An.g)
 | .p _=>rfl
 | .m _=>rfl
 | .agg l=>by have:=CY g l;simp only [nR] at this;simp only [T.mapA,Ap,jg,this]
 | .vec an _ l _=>by have:=CY g l;simp only [nR] at this;simp only [T.mapA,Ap,jg,this];rfl
 | .mp an _ l=>by have:=CY g l;simp only [nR] at this;simp only [T.mapA,Ap,jg,this];rfl
 | .hole _=>rfl
theorem CY (g:Nat):∀ (l:List (T An)),T.cQ An.g (T.cQ (m6 g) l)=nR g (T.cQ An.g l)
 | []=>rfl
 | t::r=>by
   have h1:=Yj g t;have h2:=CY g r;simp only [Ap] at h1;simp only [nR] at h2;simp only [T.cQ,nR,jO,h1,h2]
end
theorem Yk {α β:Type}(f:α→β)(t:T α)(q:List Nat):fL (t.mapA f) q=(fL t q).map fun y=>(f y.1,y.2):=by
 simp only [fL,CR];cases c6 t q with
 | none=>rfl
 | some u=>cases u<;>rfl
theorem ID {g:Nat}{t:T An}{q:List Nat}{y:An×Option Nat}(h:fL (t.mapA (m6 g)) q=some y):y.1.g=g:=by
 rw [Yk] at h;cases hq:fL t q with
 | none=>simp [hq] at h
 | some x=>simp [hq] at h;rw [← h];rfl
section
variable {w:World}{A:Nat→Prop}{E:dV An}{nx:dv}
mutual
theorem ed.kz:∀ {v:PV} {cs:List Value},ed w A v cs→∀ c∈cs,c.oneCell'=true
 | .int ..,cs,h,c,hc=>by simp only [ed] at h;subst h;simp at hc;subst hc;rfl
 | .bool ..,cs,h,c,hc=>by simp only [ed] at h;subst h;simp at hc;subst hc;rfl
 | .str ..,cs,h,c,hc=>by simp only [ed] at h;subst h;simp at hc;subst hc;rfl
 | .agg l,cs,h,c,hc=>by simp only [ed] at h;exact cU.kz h c hc
 | .sl ..,cs,h,c,hc=>by simp only [ed] at h;obtain ⟨_,_,rfl,_⟩:=h;simp at hc;subst hc;rfl
 | .ref ..,cs,h,c,hc=>by simp only [ed] at h;obtain ⟨_,_,rfl,_⟩:=h;simp at hc;subst hc;rfl
 | .fn ..,cs,h,c,hc=>by simp only [ed] at h;obtain ⟨_,rfl,_⟩:=h;simp at hc;subst hc;unfold vt;split<;>rfl
 | .mp ..,cs,h,c,hc=>by
   simp only [ed] at h;rcases h with ⟨rfl,_⟩ | ⟨_,_,_,rfl,_⟩<;>(simp at hc;subst hc;rfl)
 | .eX,cs,h,c,hc=>by simp only [ed] at h;subst h;simp at hc;subst hc;rfl
 | .ff,cs,h,c,hc=>by simp only [ed] at h;subst h;simp at hc;subst hc;rfl
theorem cU.kz:∀ {l:List PV} {cs:List Value},cU w A l cs→∀ c∈cs,c.oneCell'=true
 | [],cs,h,c,hc=>by simp only [cU] at h;subst h;simp at hc
 | x::r,cs,h,c,hc=>by
   simp only [cU] at h;obtain ⟨a,d,rfl,h1,h2⟩:=h;rcases ay.1 hc with hc | hc
   · exact ed.kz h1 c hc
   · exact cU.kz h2 c hc
end
end
def jI (E E':dV An):Prop:=∀ id np y,fq (E' id) np=some y→fq (E id) np=some y
theorem jI.refl (E:dV An):jI E E:=fun _ _ _ h=>h
theorem jI.trans {E E' yP:dV An}(h:jI E E')(k:jI E' yP):jI E yP:=fun i np y hy=>h i np y (k i np y hy)
theorem jI.Ej {E E':dV An}(h:jI E E')(n:dv):oW n E E':=fun i np an z hh _=>h i np _ hh
theorem jI.fr {w:World}{A:Nat→Prop}{E E':dV An}(h:jI E E'){n m:dv}(hn:n.le m):Fr w w A A E E' n m:=⟨fun _ h=>h,fun _ _=>rfl,h.Ej n,hn⟩
structure pg (w:World)(A:Nat→Prop)(E:dV An)(nx:dv)(γ:Nat)(cs:List Value)(t:T Nat)(h1:cq)(E1:dV An)(tA:T An):Prop where
 er:tA.mapA An.g=t
 mr:MR w A E1 h1 nx
 tc:TC w A E1 nx tA cs
 nd:tA.blk.Nodup
 own:∀ b∈tA.blk,jH E b∧¬ jH E1 b
 sub:∀ b,jH E1 b→jH E b
 st:tA.st (nx.add γ)
 ns:jI E E1
 new:∀ q y,fL tA q=some y→y.1.g=γ
 one:∀ c∈cs,c.oneCell'=true
 ls:mQ E E1
structure l7 (w:World)(A:Nat→Prop)(E:dV An)(nx:dv)(γ:Nat)(cs:List Value)(l:List (T Nat))(h1:cq)(E1:dV An)(lA:List (T An)):Prop where
 er:lA.map (T.mapA An.g)=l
 mr:MR w A E1 h1 nx
 tc:kq w A E1 nx lA cs
 nd:(T.b9 lA).Nodup
 own:∀ b∈T.b9 lA,jH E b∧¬ jH E1 b
 sub:∀ b,jH E1 b→jH E b
 st:T.ku (nx.add γ) lA
 ns:jI E E1
 new:∀ (i:Nat) (t:T An),lA[i]?=some t→∀ q y,fL t q=some y→y.1.g=γ
 one:∀ c∈cs,c.oneCell'=true
 ls:mQ E E1
section
variable {w:World}{A:Nat→Prop}{nx:dv}{γ:Nat}
theorem pg.idle {E:dV An}{h:cq}{cs:List Value}{t:T Nat}{tA:T An}(m:MR w A E h nx)(er:tA.mapA An.g=t)(tc:TC w A E nx tA cs)(hb:tA.blk=[])(hst:tA.st (nx.add γ))(iq:∀ q y,fL tA q=some y→y.1.g=γ)
 (one:∀ c∈cs,c.oneCell'=true):pg w A E nx γ cs t h E tA :=
 ⟨er,m,tc,by simp [hb],by simp [hb],fun _ h=>h,hst,jI.refl E,iq,one,mQ.refl E⟩
theorem Wr.refl (w:World)(b o n:Nat)(X:List Nat):Wr w w b o n X:=⟨fun _ _ _ _=>rfl,fun _ h=>h,fun _ _=>rfl⟩
theorem jI.gone (E:dV An)(id:Nat):jI E (cD E id (some .gone)):=by
 intro i np y hy;by_cases e:i=id
 · subst e;rw [nM,Ye] at hy;cases hy
 · rwa [nT E _ e] at hy
theorem jI.hole {E:dV An}{id:Nat}{o o':Obj An}{p:List Nat}{u:T An}{n:Nat}(hE:E id=some o)(hs:ew (some o) p=some u)(hp:put (some o) p (.hole n)=some o'):jI E (cD E id (some o')):=by
 intro i np y hy;by_cases e:i=id
 · subst e;rw [nM] at hy;rw [hE];rcases Yc hs hp hy with h | ⟨r,_,h⟩
   · exact h
   · cases r<;>simp [fL,c6] at h
 · rwa [nT E _ e] at hy
theorem MR.wv {E:dV An}{h:cq}(m:MR w A E h nx){id:Nat}{path:List Nat}{g z n:Nat}{l:List (T Nat)}{oh:Obj Nat}(hs:ew (h id) path=some (.vec g z l n))(hp:Mid.put (h id) path (.hole 1)=some oh) :
 ∃ E1 an l',ew (E id) path=some (.vec an z l' n)∧fq (E id) (some path)=some (an,some z)∧an.g=g∧l=l'.map (T.mapA An.g)∧MR w A E1 (cD h id (some oh)) nx∧VB w A E nx an z l' ∧
  (an.b.toList++T.b9 l').Nodup∧(∀ b∈an.b.toList++T.b9 l',jH E b∧¬ jH E1 b)∧(∀ b,jH E1 b→jH E b)∧jI E E1∧mQ E E1:=by
 obtain ⟨t',ht,he⟩:=m.sub hs;cases t'<;>simp only [T.mapA,reduceCtorEq,T.vec.injEq] at he;rename_i an z' l' n';obtain ⟨rfl,rfl,rfl,rfl⟩:=he;cases hE:E id with
 | none=>rw [hE] at ht;cases path<;>simp [ew] at ht
 | some o =>
   rw [hE] at ht;rw [m.er id,hE,show (T.hole 1:T Nat)=(T.hole 1:T An).mapA An.g from rfl,Gn] at hp;cases iK:Mid.put (some o) path (T.hole 1:T An) with
   | none=>simp [iK] at hp
   | some o' =>
     simp only [iK,ar,aa] at hp;obtain ⟨b1,o1,h1,h2,h3,h4,h5⟩:=AN ht (m.at_ id o hE);have vA:oY w w A E nx nx id o path (.vec an z l' n) (.hole 1) b1 o1:=by
      refine ⟨dv.le_refl _,au _,hE,ht,h1,rfl,Wr.refl _ _ _ _ _,?_,by simp [T.blk],by simp [T.blk],by simp [T.blk],trivial⟩
      intro r y hy;cases r<;>simp [fL,c6] at hy
     have xZ:=m.put vA iK (fun f=>by
      simp only [TAt] at h2 ⊢;obtain ⟨a,cap,k1,_⟩:=h2;intro j hj
      have:j=0:=by omega
      subst this;exact ⟨_,k1 0 _ rfl⟩)
     have bY:fq (some o) (some path)=some (an,some z):=by
      have:=M5 (r:=[]) ht
      rw [bE] at this;exact this
     obtain ⟨rest,p1,_⟩:=Ei ht iK;have iq:=(aT.1 (p1.nodup_iff.1 (m.nd id o hE))).1;refine ⟨cD E id (some o'),an,l',ht,bY,rfl,T.mapAs_eq _ _,by rw [hp] at xZ;exact xZ,?_,iq,?_,?_,jI.hole hE ht iK,mQ.hole hE ht iK rfl⟩
     · simp only [TAt] at h2;obtain ⟨a,cap,_,_,_,k⟩:=h2;simp only [VB];exact k
     · intro b hb;refine ⟨⟨id,o,hE,h4 b hb⟩,fun ho=>?_⟩
       rcases vA.owned m iK ho with k | k
       · simp [T.blk] at k
       · exact k.2 hb
     · intro b ho;rcases vA.owned m iK ho with k | k
       · simp [T.blk] at k
       · exact k.1
theorem MR.ui {E:dV An}{h:cq}(m:MR w A E h nx){id:Nat}{g z:Nat}{l:List (T Nat)}(hs:h id=some (.vec g z l)) :
 ∃ an l',E id=some (.vec an z l')∧an.g=g∧l=l'.map (T.mapA An.g)∧MR w A (cD E id (some .gone)) (cD h id (some .gone)) nx∧VB w A E nx an z l' ∧
  (an.b.toList++T.b9 l').Nodup∧(∀ b∈an.b.toList++T.b9 l',jH E b∧¬ jH (cD E id (some .gone)) b)∧(∀ b,jH (cD E id (some .gone)) b→jH E b):=by
 rw [m.er id] at hs;cases hE:E id with
 | none=>simp [hE] at hs
 | some o =>
   cases o<;>simp only [hE,ar,Obj.mapA,reduceCtorEq,aa,Obj.vec.injEq] at hs;rename_i an z' l';obtain ⟨rfl,rfl,rfl⟩:=hs;have ja:∀ b,jH (cD E id (some .gone)) b→∃ i o,i≠id∧E i=some o∧b∈o.blk:=fun b ho=>(AM ho).resolve_left (by simp [Obj.blk])
   refine ⟨an,l',rfl,rfl,T.mapAs_eq _ _,m.gone id,?_,m.nd id _ hE,?_,?_⟩
   · have:=m.at_ id _ hE;simpa only [OAt] using this
   · intro b hb;refine ⟨⟨id,_,hE,hb⟩,fun ho=>?_⟩
     obtain ⟨i,o,hi,ho,l6⟩:=ja b ho;exact m.dj id i _ o (dB hi) hE ho b hb l6
   · intro b ho;obtain ⟨i,o,hi,ho,l6⟩:=ja b ho;exact ⟨i,o,ho,l6⟩
theorem pg.vec {E E1:dV An}{h1:cq}{an:An}{z len cap:Nat}{a:Option Addr}{l':List (T An)}(hm:MR w A E1 h1 nx)(hv:VB w A E nx an z l')(iq:(an.b.toList++T.b9 l').Nodup)
 (ja:∀ b∈an.b.toList++T.b9 l',jH E b∧¬ jH E1 b) (dP:∀ b,jH E1 b→jH E b) (vB:jI E E1) (Gv:mQ E E1) (hlen:len≤l'.length) (hh:lg an z 0 len a cap) :
 pg w A E nx γ [.slice a len cap] (.vec γ z (nR γ (l'.map (T.mapA An.g))) len) h1 E1 (.vec (m6 γ an) z (T.cQ (m6 γ) l') len) where
 er:=by
  have:=CY γ l'
  rw [T.mapAs_eq An.g l'] at this;simp only [T.mapA,this];rfl
 mr:=hm
 tc:=by
  simp only [TC];exact ⟨a,cap,rfl,by rw [T.mapAs_eq,aE];exact hlen,hh,Yg γ (VB.frame (jI.fr vB (dv.le_refl nx)) (fun _ _=>rfl) hv)⟩
 nd:=by simp only [T.blk,yX];exact iq
 own:=by simp only [T.blk,yX];exact ja
 sub:=dP
 st:=⟨nx.iW γ,CX nx γ l'⟩
 ns:=vB
 new:=by
  intro q y hy;exact ID (t:=.vec an z l' len) hy
 one:=by intro c hc;simp at hc;subst hc;rfl
 ls:=Gv
end
end Go.Mid
namespace Go.Mid
open Go.RowKit
def cellsOf (vs:List Value):List Value:=vs.flatMap fun v=>v.cells.toList
section
variable {w:World}{A:Nat→Prop}{nx:dv}{γ:Nat}
theorem ef.vs {E:dV An}:∀ {l:List MV} {cs:List Value},ef w A E nx l cs→∃ vs,dh w A E nx l vs∧cs=cellsOf vs
 | [],cs,h=>by simp only [ef] at h;subst h;exact ⟨[],by simp only [dh],rfl⟩
 | x::r,cs,h=>by
   simp only [ef] at h;obtain ⟨v,d,rfl,h1,h2,h3,h4⟩:=h;obtain ⟨vs,h5,rfl⟩:=ef.vs h4;exact ⟨v::vs,by simp only [dh];exact ⟨v,vs,rfl,h3,h5⟩,by simp [cellsOf]⟩
theorem l7.agg {E:dV An}{cs:List Value}{ts:List (T Nat)}{h1:cq}{E1:dV An}{lA:List (T An)}(k:l7 w A E nx γ cs ts h1 E1 lA):pg w A E nx γ cs (ke ts) h1 E1 (ke lA) where
 er:=by rw [MT,k.er]
 mr:=k.mr
 tc:=Yf.2 k.tc
 nd:=by rw [MU];exact k.nd
 own:=by rw [MU];exact k.own
 sub:=k.sub
 st:=Q5 k.st
 ns:=k.ns
 new:=by
  intro q y hy;cases q with
  | nil=>rw [Q8] at hy;cases hy
  | cons i r =>
    rw [Q6] at hy;cases hl:lA[i]? with
    | none=>simp [hl] at hy
    | some t=>simp only [hl,ah] at hy;exact k.new i t hl r y hy
 one:=k.one
 ls:=k.ls
theorem pg.cons {E:dV An}{cs ds:List Value}{t:T Nat}{ts:List (T Nat)}{h1 h2:cq}{E1 E2:dV An}{tA:T An}{lA:List (T An)}(k:pg w A E nx γ cs t h1 E1 tA)(k':l7 w A E1 nx γ ds ts h2 E2 lA) :
 l7 w A E nx γ (cs++ds) (t::ts) h2 E2 (tA::lA) where
 er:=by simp [k.er,k'.er]
 mr:=k'.mr
 tc:=by
  simp only [kq];exact ⟨cs,ds,rfl,k.tc.frame (k'.ns.fr (dv.le_refl _)) (fun _ _=>rfl),k'.tc⟩
 nd:=by
  simp only [T.b9];refine aT.2 ⟨k.nd,k'.nd,?_⟩;rintro b hb _ jt rfl;exact (k.own b hb).2 (k'.own b jt).1
 own:=by
  intro b hb;simp only [T.b9,ay] at hb;rcases hb with hb | hb
  · exact ⟨(k.own b hb).1,fun ho=>(k.own b hb).2 (k'.sub b ho)⟩
  · exact ⟨k.sub b (k'.own b hb).1,(k'.own b hb).2⟩
 sub:=fun b hb=>k.sub b (k'.sub b hb)
 st:=⟨k.st,k'.st⟩
 ns:=k.ns.trans k'.ns
 new:=by
  intro i t ht q y hy;cases i with
  | zero=>simp at ht;subst ht;exact k.new q y hy
  | succ i=>simp at ht;exact k'.new i t ht q y hy
 one:=by
  intro c hc;rcases ay.1 hc with hc | hc
  · exact k.one c hc
  · exact k'.one c hc
 ls:=k.ls.trans k'.ls
mutual
theorem Ri:∀ (x:MV) {E:dV An} {h:cq} {t:T Nat} {h1:cq} {val:Value},o9 γ h x=some (t,h1)→MR w A E h nx→bT w A E nx x val→∃ E1 tA,pg w A E nx γ val.cells.toList t h1 E1 tA
 | .p v,E,h,t,h1,val,hi,hm,hv=>by
   simp only [o9,aa,ae] at hi;obtain ⟨rfl,rfl⟩:=hi;simp only [bT,pe] at hv;obtain ⟨c,hc,rfl⟩:=hv;rw [hc.m5];refine ⟨E,.p v,pg.idle hm rfl (by simp only [TC];exact hc) rfl trivial ?_ hc.kz⟩
   intro q y hy;simp only [fL] at hy;split at hy<;>rename_i heq
   · rename_i a z l n;exfalso
     have:∀ (q:List Nat) (v:PV) (u:T An),c6 (.p v) q=some u→∃ v',u=.p v':=by
      intro q
      induction q with
      | nil=>intro v u h;simp only [c6,aa] at h;exact ⟨v,h.symm⟩
      | cons i r ih =>
        intro v u h;cases v<;>simp only [c6,reduceCtorEq] at h;split at h
        · exact ih _ _ h
        · cases h
     obtain ⟨v',e⟩:=this _ _ _ heq;cases e
   · exfalso
     have:∀ (q:List Nat) (v:PV) (u:T An),c6 (.p v) q=some u→∃ v',u=.p v':=by
      intro q
      induction q with
      | nil=>intro v u h;simp only [c6,aa] at h;exact ⟨v,h.symm⟩
      | cons i r ih =>
        intro v u h;cases v<;>simp only [c6,reduceCtorEq] at h;split at h
        · exact ih _ _ h
        · cases h
     obtain ⟨v',e⟩:=this _ _ _ heq;cases e
   · cases hy
 | .nil z,E,h,t,h1,val,hi,hm,hv=>by
   simp only [o9,aa,ae] at hi;obtain ⟨rfl,rfl⟩:=hi;simp only [bT] at hv;obtain ⟨a,rfl⟩:=hv;refine ⟨E,.vec ⟨γ,none,0⟩ z [] 0,pg.idle hm rfl ?_ rfl ⟨nx.iW γ,trivial⟩ ?_ ?_⟩
   · simp only [TC,VB,dp];exact ⟨a,0,rfl,au _,⟨rfl,rfl⟩,trivial,trivial⟩
   · intro q y hy;cases q with
     | nil=>simp [fL,c6] at hy;rw [← hy]
     | cons i r=>simp [fL,c6] at hy
   · intro c hc;simp [dp] at hc;subst hc;rfl
 | .own id path off len g',E,h,t,h1,val,hi,hm,hv=>by
   simp only [bT] at hv;obtain ⟨hg,a,cap,rfl,nL,hh⟩:=hv;simp only [o9] at hi;split at hi
   · rename_i uQ z l gx;split at hi
     · rename_i hc;obtain ⟨rfl,rfl,hlen⟩:=hc;simp only [aa,ae] at hi;obtain ⟨rfl,rfl⟩:=hi;obtain ⟨an,l',hE,Ea,rfl,xZ,l8,iq,ja,dP⟩:=hm.ui gx;have kN:=hh an z (by rw [hE];rfl) Ea
       refine ⟨_,_,pg.vec xZ l8 iq ja dP (jI.gone E id) (mQ.gone E id) (by simpa using hlen) kN⟩
     · cases hi
   · split at hi
     · rename_i uQ z l n hs;split at hi
       · rename_i hc;obtain ⟨rfl,rfl,hlen⟩:=hc;split at hi
         · rename_i oh hp;simp only [aa,ae] at hi;obtain ⟨rfl,rfl⟩:=hi;obtain ⟨E1,an,l',hE,bY,Ea,rfl,xZ,l8,iq,ja,dP,vB,Gv⟩:=hm.wv hs hp;have kN:=hh an z bY Ea;refine ⟨_,_,pg.vec xZ l8 iq ja dP vB Gv (by simpa using hlen) kN⟩
         · cases hi
       · cases hi
     · cases hi
 | .ptr id np rp g o,E,h,t,h1,val,hi,hm,hv=>by
   simp only [o9,aa,ae] at hi;obtain ⟨rfl,rfl⟩:=hi;have yY:=hv;simp only [bT] at hv;obtain ⟨_,a,rfl,_⟩:=hv;refine ⟨E,.m (.ptr id np rp g o),pg.idle hm rfl ?_ rfl trivial ?_ ?_⟩
   · simp only [TC,dp];exact ⟨rfl,rfl,_,yY,rfl⟩
   · intro q y hy;cases q<;>simp [fL,c6] at hy
   · intro c hc;simp [dp] at hc;subst hc;rfl
 | .fC ..,E,h,t,h1,val,_,_,hv=>by simp only [bT] at hv
 | .agg l,E,h,t,h1,val,hi,hm,hv=>by
   simp only [o9] at hi;split at hi
   · rename_i ts h' rN;simp only [aa,ae] at hi;obtain ⟨rfl,rfl⟩:=hi;simp only [bT] at hv;obtain ⟨cs,rfl,fg⟩:=hv;obtain ⟨vs,fX,rfl⟩:=fg.vs;obtain ⟨E1,lA,k⟩:=Rj l rN hm fX;refine ⟨E1,ke lA,?_⟩
     have:=k.agg
     simpa [dp] using this
   · cases hi
 | .fn f jf,E,h,t,h1,val,hi,hm,hv=>by
   simp only [o9,aa,ae] at hi;obtain ⟨rfl,rfl⟩:=hi;have yY:=hv;simp only [bT] at hv;obtain ⟨vs,rfl,_⟩:=hv;refine ⟨E,.m (.fn f jf),pg.idle hm rfl ?_ rfl trivial ?_ ?_⟩
   · simp only [TC,ME];exact ⟨rfl,rfl,_,yY,rfl⟩
   · intro q y hy;cases q<;>simp [fL,c6] at hy
   · intro c hc;simp [ME] at hc;subst hc;unfold vt;split<;>rfl
 | .eO _,E,h,t,h1,val,hi,_,_=>by simp [o9] at hi
 | .dead _,E,h,t,h1,val,hi,_,_=>by simp [o9] at hi
theorem Rj:∀ (l:List MV) {E:dV An} {h:cq} {ts:List (T Nat)} {h1:cq} {vs:List Value},tN γ h l=some (ts,h1)→MR w A E h nx→dh w A E nx l vs →
 ∃ E1 lA,l7 w A E nx γ (cellsOf vs) ts h1 E1 lA
 | [],E,h,ts,h1,vs,hi,hm,hv=>by
   simp only [tN,aa,ae] at hi;obtain ⟨rfl,rfl⟩:=hi;simp only [dh] at hv;subst hv;exact ⟨E,[],rfl,hm,by simp only [kq,cellsOf,List.flatMap_nil],by simp [T.b9],by simp [T.b9],fun _ h=>h,trivial,jI.refl E,by simp,by simp [cellsOf],mQ.refl E⟩
 | x::r,E,h,ts,h1,vs,hi,hm,hv=>by
   simp only [tN] at hi;split at hi
   · rename_i t h' ht;split at hi
     · rename_i Rk Ih rN;simp only [aa,ae] at hi;obtain ⟨rfl,rfl⟩:=hi;simp only [dh] at hv;obtain ⟨v,d,rfl,hx,hr⟩:=hv;obtain ⟨E1,tA,k⟩:=Ri x ht hm hx;obtain ⟨E2,lA,k'⟩:=Rj r rN k.mr (hr.frame (k.ns.fr (dv.le_refl _)));refine ⟨E2,tA::lA,?_⟩
       have:=k.cons k'
       simpa [cellsOf] using this
     · cases hi
   · cases hi
end
theorem gK.of {E E1:dV An}{w':World}{E2:dV An}(h:w'.os=w.os∧w'.tape=w.tape∧w'.output=w.output)(hs:w.heap.size≤w'.heap.size)
 (hk:∀ b,b<w.heap.size→¬ jH E b→w'.heap[b]?=w.heap[b]?) (ho:∀ b,b<w.heap.size→jH E2 b→jH E b) (hn:oW nx E E1) (qR:oW nx E1 E2):gK w A E nx w' A E2 :=
 ⟨h.1,h.2.1,h.2.2,hs,hk,fun _ h=>h,fun _ _ h=>.inl h,ho,hn.trans qR (dv.le_refl _)⟩
end
end Go.Mid
namespace Go.Mid
open Go.RowKit
theorem Yl (A B:List Value):∀ (new old done:List Value),new.length=old.length →
 ((new.zipIdx done.length).foldl (fun (cs:Array Value) (p:Value×Nat)=>cs.setIfInBounds (A.length+p.2) p.1) (A++done++old++B).toArray)=(A++done++new++B).toArray
 | [],[],done,_=>rfl
 | v::r,x::q,done,h=>by
   simp only [bf,Nat.add_right_cancel_iff] at h;rw [List.zipIdx_cons,List.foldl_cons];have e:(A++done++x::q++B).toArray.setIfInBounds (A.length+done.length) v=(A++(done++[v])++q++B).toArray:=by
    apply gP;simp only [Array.toList_setIfInBounds]
    have:A++done++x::q++B=(A++done)++(x::(q++B)):=by simp
    rw [this,List.set_append_right _ _ (by simp)]
    simp
   simp only [e]
   have:=Yl A B r q (done++[v]) h
   rw [aQ,dz] at this;rw [this];simp
 | [],x::q,done,h=>by simp at h
 | v::r,[],done,h=>by simp at h
theorem C67 (A B old:List Value)(new:Array Value)(h:new.size=old.length) :
 (new.zipIdx.foldl (fun (cs:Array Value) (x:Value×Nat)=>match x with | (c,j)=>cs.setIfInBounds (A.length+j) c) (A++old++B).toArray)=(A++new.toList++B).toArray:=by
 have:=Yl A B new.toList old [] (by simpa using h)
 simp only [bE,List.length_nil] at this;rw [← this,← Array.foldl_toList,Array.toList_zipIdx]
def pickL (ps:List (Nat×Value))(i:Nat)(c:List Value):List Value:=match ps.find? (·.1==i) with | some (_,v)=>v.cells.toList | none=>c
def uY (ps:List (Nat×Value)):Nat→List (List Value)→List (List Value)
 | _,[]=>[]
 | i,c::r=>pickL ps i c::uY ps (i+1) r
theorem Ym:∀ (i:Nat) (l:List (List Value)),uY [] i l=l
 | _,[]=>rfl
 | i,c::r=>by simp [uY,pickL,Ym]
theorem Yn {k:Nat}{v:Value}{ps:List (Nat×Value)}(hk:∀ p∈ps,p.1≠k):∀ (i:Nat) (l:List (List Value)),i≤k→uY ((k,v)::ps) i l=uY ps i (l.set (k-i) v.cells.toList)
 | _,[],_=>by simp [uY]
 | i,c::r,hi=>by
   by_cases e:k=i
   · subst e;simp only [Nat.sub_self,dY,uY];have h1:pickL ((k,v)::ps) k c=v.cells.toList:=by simp [pickL]
     have h2:pickL ps k v.cells.toList=v.cells.toList:=by
      unfold pickL;rw [List.find?_eq_none.2 (fun p hp=>by simpa using hk p hp)]
     rw [h1,h2];congr 1
     have:∀ (i:Nat) (l:List (List Value)),k<i→uY ((k,v)::ps) i l=uY ps i l:=by
      intro i l
      induction l generalizing i with
      | nil=>intro _;rfl
      | cons c r ih =>
        intro hi;simp only [uY];rw [ih _ (by omega)]
        congr 1;simp only [pickL,lO,show ((k,v).1==i)=false by simp;omega]
     exact this _ _ (by omega)
   · have e1:k-i=(k-(i+1))+1:=by omega
     rw [e1,eG,uY,uY,Yn hk (i+1) r (by omega)]
     congr 1;simp only [pickL,lO,show ((k,v).1==i)=false by simp;omega]
theorem C5m {l:List (List Value)}{i:Nat}{c d:List Value}(h:l[i]?=some c):(l.set i d).flatten=(l.take i).flatten++d++(l.drop (i+1)).flatten:=by
 induction l generalizing i with
 | nil=>simp at h
 | cons x r ih =>
   cases i with
   | zero=>simp
   | succ i=>simp at h;simp [ih h]
theorem C5n {l:List (List Value)}{i:Nat}{c:List Value}(h:l[i]?=some c):l.flatten=(l.take i).flatten++c++(l.drop (i+1)).flatten:=by
 induction l generalizing i with
 | nil=>simp at h
 | cons x r ih =>
   cases i with
   | zero=>simp at h;subst h;simp
   | succ i=>simp at h;rw [ek,ih h];simp
theorem C3a {l:List (List Value)}{i:Nat}{c d:List Value}(h:l[i]?=some c)(hd:d.length=c.length)(j:Nat):((l.set i d).take j).flatten.length=(l.take j).flatten.length:=by
 induction l generalizing i j with
 | nil=>simp
 | cons x r ih =>
   cases j with
   | zero=>simp
   | succ j =>
     cases i with
     | zero=>simp at h;subst h;simp [hd]
     | succ i=>simp at h;simp only [eG,bV,ek,aQ];rw [ih h j]
theorem Yo (place:Nat→Option (Nat×Nat)):∀ (ps:List (Nat×Value)) (qn:List (List Value)),(ps.map (·.1)).Nodup→(∀ p∈ps,∃ c,qn[p.1]?=some c∧p.2.cells.size=c.length) →
 (∀ i c,qn[i]?=some c→place i=some ((qn.take i).flatten.length,c.length))→Instr.fill place qn.flatten.toArray ps=some (uY ps 0 qn).flatten.toArray
 | [],qn,_,_,_=>by simp [Instr.fill,Ym]
 | (k,v)::ps,qn,hn,hp,qe=>by
   simp only [aH,b5] at hn;obtain ⟨c,hc,hsz⟩:=hp (k,v) (by simp)
   simp only at hc hsz;simp only [Instr.fill,qe k c hc];have e:=C5n hc;have hle:(qn.take k).flatten.length+v.cells.size≤qn.flatten.toArray.size:=by
    simp only [List.size_toArray];rw [e];simp only [aQ];omega
   rw [if_neg (by simp only [ne_eq,gt_iff_lt,Bool.or_eq_true,decide_eq_true_eq,not_or,Nat.not_lt,Decidable.not_not];exact ⟨hsz,hle⟩)]
   have rk:(v.cells.zipIdx.foldl (fun (cs:Array Value) (x:Value×Nat)=>match x with | (c,j)=>cs.setIfInBounds ((qn.take k).flatten.length+j) c) qn.flatten.toArray)=(qn.set k v.cells.toList).flatten.toArray:=by
    rw [C5m hc,e];exact C67 _ _ _ _ hsz
   rw [rk];have hlen:v.cells.toList.length=c.length:=by simpa using hsz
   rw [Yo place ps (qn.set k v.cells.toList) hn.2 ?_ ?_,Yn (k:=k) (v:=v) (ps:=ps) ?_ 0 qn (dq _),Nat.sub_zero]
   · intro p iK e;exact hn.1 (by rw [← e];exact eh (f:=(·.1)) iK)
   · intro p iK;obtain ⟨c',xl,Ek⟩:=hp p (by simp [iK])
     by_cases e':k=p.1
     · exact absurd (eh (f:=(·.1)) iK) (by rw [← e'];exact hn.1)
     · exact ⟨c',by rw [List.getElem?_set_ne e'];exact xl,Ek⟩
   · intro i ci hi;rw [C3a hc hlen];rw [dG] at hi;split at hi
     · rename_i BJ;split at hi
       · cases hi;subst BJ;rw [qe k c hc,hlen]
       · cases hi
     · exact qe i ci hi
section
variable {w:World}{A:Nat→Prop}{E:dV An}{nx:dv}
mutual
theorem M7:∀ {v:PV} {cs r:List Value},xf v cs=some r→∃ c,cs=c++r∧ed w A v c
 | .int k n,cs,r,h=>by
   simp only [xf] at h;split at h
   · split at h
     · rename_i hc;obtain ⟨rfl,rfl⟩:=hc;cases h;exact ⟨[_],rfl,by simp only [ed]⟩
     · cases h
   · cases h
 | .bool b,cs,r,h=>by
   simp only [xf] at h;split at h
   · split at h
     · rename_i hc;subst hc;cases h;exact ⟨[_],rfl,by simp only [ed]⟩
     · cases h
   · cases h
 | .str s,cs,r,h=>by
   simp only [xf] at h;split at h
   · rename_i s' _;split at h
     · rename_i hc;cases h;refine ⟨[_],rfl,?_⟩;simp only [ed];have h1:s=⟨#[]⟩:=by
        obtain ⟨d⟩:=s;congr 1;exact fa hc.1
       have h2:s'=⟨#[]⟩:=by
        obtain ⟨d⟩:=s';congr 1;exact fa hc.2
       rw [h1,h2]
     · cases h
   · cases h
 | .agg l,cs,r,h=>by
   simp only [xf] at h;obtain ⟨c,h1,h2⟩:=Yp h;exact ⟨c,h1,by simp only [ed];exact h2⟩
 | .eX,cs,r,h=>by
   simp only [xf] at h;split at h
   · cases h;exact ⟨[_],rfl,by simp only [ed]⟩
   · cases h
 | .ff,cs,r,h=>by
   simp only [xf] at h;split at h
   · cases h;exact ⟨[_],rfl,by simp only [ed]⟩
   · cases h
 | .mp ks vs,cs,r,h=>by
   simp only [xf] at h;split at h
   · split at h
     · rename_i hc;simp only [ak,List.isEmpty_iff] at hc;obtain ⟨rfl,rfl⟩:=hc;cases h;exact ⟨[_],rfl,by simp only [ed];exact .inl ⟨trivial,trivial,trivial⟩⟩
     · cases h
   · cases h
 | .sl _,cs,r,h=>by simp [xf] at h
 | .ref _,cs,r,h=>by simp [xf] at h
 | .fn ..,cs,r,h=>by simp [xf] at h
theorem Yp:∀ {l:List PV} {cs r:List Value},Il l cs=some r→∃ c,cs=c++r∧cU w A l c
 | [],cs,r,h=>by simp only [Il,aa] at h;subst h;exact ⟨[],rfl,by simp only [cU]⟩
 | x::q,cs,r,h=>by
   simp only [Il] at h;split at h
   · rename_i d hd;obtain ⟨c,rfl,h1⟩:=M7 hd;obtain ⟨c',rfl,h2⟩:=Yp h;exact ⟨c++c',by simp,by simp only [cU];exact ⟨c,c',rfl,h1,h2⟩⟩
   · cases h
end
def sC (w:World)(A:Nat→Prop)(E:dV An)(nx:dv)(x:MV)(cs:List Value):Prop:=∃ v:Value,v.cells.toList=cs∧v.cells.size=x.cs∧(∀ c,v=.agg c→x.isAgg=true∨∃ n,x=.dead n)∧bT w A E nx x v
theorem sC.cons {x:MV}{r:List MV}{c d:List Value}(h:sC w A E nx x c)(k:ef w A E nx r d):ef w A E nx (x::r) (c++d):=by
 obtain ⟨v,rfl,h1,h2,h3⟩:=h;simp only [ef];exact ⟨v,d,rfl,h1,h2,h3,k⟩
theorem ed.uj {v:PV}{c:List Value}(h:ed w A v c):sC w A E nx (.p v) c:=by
 refine ⟨pk v.isAgg c,by rw [h.m5],by rw [h.m5];simpa [MV.cs] using h.len,?_,by simp only [bT,pe];exact ⟨c,h,rfl⟩⟩
 intro c' e;cases hg:v.isAgg with
 | true=>exact .inl hg
 | false =>
   rw [hg] at e;obtain ⟨x,rfl,hx⟩:=h.one hg;simp only [pk,Bool.false_eq_true,if_false,List.headD_cons] at e;subst e;exact (XZ hx).elim
theorem M8:∀ {l:List MV} {cs:List Value},ef w A E nx l cs→cs.length=MV.dm l
 | [],cs,h=>by simp only [ef] at h;subst h;rfl
 | x::r,cs,h=>by
   simp only [ef] at h;obtain ⟨v,d,rfl,h1,_,_,h4⟩:=h;rw [aQ,eg,h1,M8 h4];rfl
theorem bT.uj {x:MV}{v:Value}(h:bT w A E nx x v)(hl:rX x=true):sC w A E nx x v.cells.toList:=by
 cases x with
 | p pv =>
   simp only [bT,pe] at h;obtain ⟨c,hc,rfl⟩:=h
   have:=hc.uj (E:=E) (nx:=nx)
   rwa [hc.m5]
 | agg l =>
   have h0:=h;simp only [bT] at h;obtain ⟨cs,rfl,fg⟩:=h;exact ⟨.agg cs.toArray,rfl,by simpa [dp,MV.cs] using M8 fg,fun _ _=>.inl rfl,h0⟩
 | eO=>simp [rX] at hl
 | dead=>simp [rX] at hl
 | fC=>simp only [bT] at h
 | nil z =>
   have h0:=h;simp only [bT] at h;obtain ⟨a,rfl⟩:=h;exact ⟨_,rfl,rfl,by rintro c ⟨⟩,h0⟩
 | own =>
   have h0:=h;simp only [bT] at h;obtain ⟨_,a,cap,rfl,_⟩:=h;exact ⟨_,rfl,rfl,by rintro c ⟨⟩,h0⟩
 | ptr =>
   have h0:=h;simp only [bT] at h;obtain ⟨_,a,rfl,_⟩:=h;exact ⟨_,rfl,rfl,by rintro c ⟨⟩,h0⟩
 | fn f0 l0 =>
   have h0:=h;simp only [bT] at h;obtain ⟨vs,hv,_⟩:=h;obtain ⟨g,i,c,hq⟩:=QP f0 vs.toArray;rw [hq] at hv;subst hv;exact ⟨_,rfl,rfl,by rintro c ⟨⟩,h0⟩
mutual
theorem Rl:∀ {v:MV} {cs r:List Value},sy v cs=some r→∃ c,cs=c++r∧sC w A E nx v c
 | .p v,cs,r,h=>by
   simp only [sy] at h;obtain ⟨c,h1,h2⟩:=M7 (w:=w) (A:=A) h;exact ⟨c,h1,h2.uj⟩
 | .nil z,cs,r,h=>by
   simp only [sy] at h;split at h
   · rename_i a r';cases h;refine ⟨[.slice a 0 0],rfl,.slice a 0 0,rfl,rfl,by rintro c ⟨⟩,by simp only [bT];exact ⟨_,rfl⟩⟩
   · cases h
 | .agg l,cs,r,h=>by
   simp only [sy] at h;obtain ⟨c,h1,h2⟩:=Yq h;exact ⟨c,h1,.agg c.toArray,rfl,by simpa [dp,MV.cs] using M8 h2,fun _ _=>.inl rfl,by simp only [bT];exact ⟨c,rfl,h2⟩⟩
 | .own ..,cs,r,h=>by simp [sy] at h
 | .ptr ..,cs,r,h=>by simp [sy] at h
 | .fC ..,cs,r,h=>by simp [sy] at h
 | .fn ..,cs,r,h=>by simp [sy] at h
 | .eO _,cs,r,h=>by simp [sy] at h
 | .dead _,cs,r,h=>by simp [sy] at h
theorem Yq:∀ {l:List MV} {cs r:List Value},CN l cs=some r→∃ c,cs=c++r∧ef w A E nx l c
 | [],cs,r,h=>by simp only [CN,aa] at h;subst h;exact ⟨[],rfl,by simp only [ef]⟩
 | x::q,cs,r,h=>by
   simp only [CN] at h;split at h
   · rename_i d hd;obtain ⟨c,rfl,h1⟩:=Rl hd;obtain ⟨c',rfl,h2⟩:=Yq h;exact ⟨c++c',by simp,h1.cons h2⟩
   · cases h
end
end
end Go.Mid
namespace Go.Mid
open Go.RowKit
section
variable {P:Program}{w:World}{A:Nat→Prop}{E:dV An}{nx:dv}{s:gJ}{a:Act}
theorem Yr {z:Nat}{zs:List Nat}{v:MV}{vs:List MV}(h:okB (z::zs) (v::vs)=true):v.cs=z∧rX v=true∧okB zs vs=true:=by
 simp only [okB,ak,beq_iff_eq] at h;exact ⟨h.1.1,h.1.2,h.2⟩
def CZ (a:Act)(parts:List (Nat×Operand)):List (Nat×Value):=parts.map fun p=>(p.1,a.eval p.2)
theorem Ys (parts:List (Nat×Operand))(i:Nat):(CZ a parts).find? (·.1==i)=(parts.find? (·.1==i)).map fun p=>(p.1,a.eval p.2):=by
 unfold CZ;rw [List.find?_map];rfl
theorem Rm (hs:qd P w A E nx s a){parts:List (Nat×Operand)}:∀ {ts:List TypeId} {i:Nat} {rest:List Value} {os:List dO},xW P parts ts i rest=some os →
 ∃ qn:List (List Value),rest=qn.flatten∧qn.map cF=ts.map P.cellsOf∧os.length=ts.length∧(okB (ts.map P.cellsOf) (os.map (cR s))=true →
  ef w A E nx (os.map (cR s)) (uY (CZ a parts) i qn).flatten ∧
  ∀ j k x,i≤j→j<i+ts.length→parts.find? (·.1==j)=some (k,x)→∃ c,qn[j-i]?=some c∧(a.eval x).cells.size=c.length)
 | [],i,rest,os,h=>by
   simp only [xW] at h;split at h
   · rename_i hr;cases h;refine ⟨[],by simpa using hr,rfl,rfl,fun _=>⟨by simp [uY,ef],fun j k x h1 h2=>by simp at h2;omega⟩⟩
   · cases h
 | t::r,i,rest,os,h=>by
   simp only [xW] at h;split at h
   · rename_i hlen;split at h
     · rename_i o XH ho hos;cases h;obtain ⟨qn,h1,h2,h3,h4⟩:=Rm hs hos;refine ⟨rest.take (P.cellsOf t)::qn,?_,?_,by simp [h3],fun kV=>?_⟩
       · rw [ek,← h1,List.take_append_drop]
       · simp only [aH,hlen,h2]
       · simp only [aH] at kV;obtain ⟨hz,hl,kV⟩:=Yr kV;obtain ⟨h5,h6⟩:=h4 kV;have C0:sC w A E nx (cR s o) (pickL (CZ a parts) i (rest.take (P.cellsOf t)))∧∀ k x,parts.find? (·.1==i)=some (k,x)→(a.eval x).cells.size=P.cellsOf t:=by
          split at ho
          · rename_i k x hf;have hv:=j0 hs ho;have hc:=hv.uj hl;have e:pickL (CZ a parts) i (rest.take (P.cellsOf t))=(a.eval x).cells.toList:=by
             unfold pickL;rw [Ys,hf];rfl
            refine ⟨by rw [e];exact hc,fun k' x' Em=>?_⟩
            rw [hf] at Em;cases Em;obtain ⟨v',e1,e2,_⟩:=hc;rw [← hz,← e2,← eg,← eg,e1]
          · rename_i hf;have e:pickL (CZ a parts) i (rest.take (P.cellsOf t))=rest.take (P.cellsOf t):=by
             unfold pickL;rw [Ys,hf];rfl
            refine ⟨?_,fun k' x' Em=>by rw [hf] at Em;cases Em⟩
            rw [e];split at ho
            · rename_i v hv;split at ho
              · rename_i hc;cases ho;obtain ⟨c,e1,e2⟩:=Rl (w:=w) (A:=A) (E:=E) (nx:=nx) hc;rw [bE] at e1;rw [e1];exact e2
              · cases ho
            · cases ho
         constructor
         · simp only [aH,uY,ek];exact C0.1.cons h5
         · intro j k x gU hj hf;by_cases e:j=i
           · subst e;refine ⟨_,by simp;rfl,?_⟩
             rw [hlen];exact C0.2 k x hf
           · obtain ⟨c,e1,e2⟩:=h6 j k x (by omega) (by simp only [bf] at hj;omega) hf
             refine ⟨c,?_,e2⟩;rw [show j-i=(j-(i+1))+1 by omega,List.getElem?_cons_succ]
             exact e1
     · cases h
   · cases h
theorem Yt:∀ {l:List Nat},My l=true→l.Nodup
 | [],_=>List.nodup_nil
 | x::r,h=>by
   simp only [My,ak,Bool.not_eq_true',List.contains_eq_mem,decide_eq_false_iff_not] at h;exact b5.2 ⟨h.1,Yt h.2⟩
theorem C80 {parts:List (Nat×Operand)}(hn:(parts.map (·.1)).Nodup){p:Nat×Operand}(hp:p∈parts):parts.find? (·.1==p.1)=some p:=by
 induction parts with
 | nil=>simp at hp
 | cons q r ih =>
   simp only [aH,b5] at hn;rcases aM.1 hp with rfl | hp
   · simp
   · have:q.1≠p.1:=by rintro e;exact hn.1 (by rw [e];exact eh (f:=(·.1)) hp)
     rw [lO,show (q.1==p.1)=false by simpa using this]
     exact ih hn.2 hp
theorem Yu:∀ {qn:List (List Value)} {zs:List Nat} (i:Nat),qn.map cF=zs→(qn.take i).flatten.length=(zs.take i).sum
 | [],zs,i,h=>by simp at h;subst h;simp
 | c::r,zs,0,h=>by simp
 | c::r,zs,i+1,h=>by
   subst h;simp only [aH,bV,ek,aQ,mT];rw [Yu i rfl]
theorem Rn (hs:qd P w A E nx s a){parts:Array (Nat×Operand)}{ts:List TypeId}{rest:List Value}{os:List dO}(hp:xW P parts.toList ts 0 rest=some os)(kV:Ay ts.length parts.toList=true)
 (hb:okB (ts.map P.cellsOf) (os.map (cR s))=true) (place:Nat→Option (Nat×Nat)) (qe:∀ i t,ts[i]?=some t→place i=some (((ts.take i).map P.cellsOf).sum,P.cellsOf t)) :
 ∃ cs,ef w A E nx (os.map (cR s)) cs∧Instr.fill place rest.toArray (parts.map fun (i,x)=>(i,a.eval x)).toList=some cs.toArray:=by
 obtain ⟨qn,h1,h2,_,h3⟩:=Rm hs hp;obtain ⟨h4,h5⟩:=h3 hb;simp only [Ay,ak,List.all_eq_true,decide_eq_true_eq] at kV;have hn:=Yt kV.2.1;refine ⟨_,h4,?_⟩;have e:(parts.map fun (i,x)=>(i,a.eval x)).toList=CZ a parts.toList:=by rw [Array.toList_map];rfl
 rw [e,h1];refine Yo place _ qn ?_ ?_ ?_
 · unfold CZ;rw [cu];exact hn
 · intro p hp;obtain ⟨q,hq,rfl⟩:=bj.1 hp
   have:=h5 q.1 q.1 q.2 (dq _) (by rw [bS];exact kV.1 q hq) (C80 hn hq)
   simpa using this
 · intro i c hi;have eC:i<ts.length:=by
    have h6:=congrArg cF h2;simp only [aE] at h6
    have:=(aL.1 hi).1
    omega
   rw [qe i ts[i] (by simp [eC]),Yu i h2,bO]
   congr 2
   have:=congrArg (·[i]?) h2
   simp only [aN,hi,ar] at this;rw [List.getElem?_eq_getElem eC] at this;simpa using this.symm
theorem C1 {t:TypeId}{zc:List Value}(h:vp P t=some zc)(w:World):∃ z,(zeroValue t).run P w=.ok z w∧z.cells=zc.toArray∧∃ i,P.info? t=some i∧i.zero=some z:=by
 unfold vp at h;split at h
 · rename_i i hi;split at h
   · rename_i z hz;cases h;exact ⟨z,by simp [zeroValue,typeInfo,hi,hz],by simp,i,hi,hz⟩
   · cases h
 · cases h
theorem Yv {α β:Type}(f:α→Sem β)(g:α→β)(w:World):∀ (l:List α),(∀ x∈l,(f x).run P w=.ok (g x) w)→(l.mapM f).run P w=.ok (l.map g) w
 | [],_=>by simp
 | x::r,h=>by
   rw [List.mapM_cons];simp only [bx,h x (by simp),aV,Yv f g w r (fun y hy=>h y (by simp [hy])),bM,aH]
theorem Ro:∀ {fs:List Field} {o i:Nat} {f:Field},Bu P fs o=true→fs[i]?=some f→f.offset=o+((fs.take i).map fun f=>P.cellsOf f.type).sum∧qO P f.type=true
 | [],o,i,f,_,h=>by simp at h
 | x::r,o,0,f,h,k=>by
   simp at k;subst k;simp only [Bu,ak,beq_iff_eq] at h;exact ⟨by simp [h.1.1],h.1.2⟩
 | x::r,o,i+1,f,h,k=>by
   simp at k;simp only [Bu,ak,beq_iff_eq] at h;obtain ⟨h1,h2⟩:=Ro h.2 k;exact ⟨by rw [h1,bV,aH,mT];omega,h2⟩
theorem Yw (n z:Nat):(az n z).sum=n*z:=by
 induction n with
 | zero=>simp
 | succ n ih=>rw [List.replicate_succ,mT,ih,Nat.succ_mul];omega
end
section
variable {P:Program}{o:Oper}{a:Act}{w:World}{A:Nat→Prop}{E:dV An}{nx:dv}{γ:Nat}{v:MV}{h h':cq}{s:gJ}{K:jC}{d:Option Nat}
 (hs:qd P w A E nx s a) (hm:MR w A E h nx)
include hs hm
theorem C68 {t:TypeId}{parts:Array (Nat×Operand)}{zc:List Value}{fs:Array Field}{l:List dO}(ho:o.op=.build t parts)(hz:vp P t=some zc)(hu:P.underlying t=some (.struct fs))
 (kV:Ay fs.size parts.toList=true) (lK:Bu P fs.toList 0=true) (hl:xW P parts.toList (fs.toList.map (·.type)) 0 zc=some l)
 (he:cf K γ d s h (.build (fs.toList.map fun f=>P.cellsOf f.type) l)=some (v,h')):cJ P o a w A E nx γ v h':=by
 simp only [cf] at he;split at he
 · rename_i hb;simp only [aa,ae] at he;obtain ⟨rfl,rfl⟩:=he;obtain ⟨z,En,r7,_⟩:=C1 hz w;have BK:(fs.mapM fun (f:Field)=>do pure (f.offset,← sizeOf f.type)).run P w=.ok (fs.map fun (f:Field)=>(f.offset,P.cellsOf f.type)) w:=by
    have e:fs=fs.toList.toArray:=by simp
    rw [e,List.mapM_toArray];simp only [map_eq_pure_bind,bx];rw [Yv _ (fun (f:Field)=>(f.offset,P.cellsOf f.type)) w fs.toList ?_]
    · simp only [aV,bM];congr 1;apply gP;simp
    · intro f hf;obtain ⟨i,hi⟩:=List.getElem?_of_mem hf
      have:=(Ro lK hi).2
      simp only [bx,D5 w this,aV,bM]
   obtain ⟨cs,h1,h2⟩:=Rn hs hl (by simpa using kV) (by rw [cu];exact hb) (fun i=>(fs.map fun (f:Field)=>(f.offset,P.cellsOf f.type))[i]?) (by
    intro i t ht;rw [aN] at ht;cases hf:fs.toList[i]? with
    | none=>rw [hf] at ht;cases ht
    | some f =>
      rw [hf] at ht;simp only [ar,aa] at ht;subst ht;have h3:=(Ro lK hf).1;have Em:fs[i]?=some f:=by simpa using hf
      simp only [Array.getElem?_map,Em,ar,h3,bS];congr 2;rw [← bO,cu];rfl)
   refine cJ.idle (val:=.agg cs.toArray) ?_ (MO h1) hm;simp only [execOp,ho,Instr.build,bx,En,aV,run_underlying hu,BK,r7];rw [h2];rfl
 · cases he
theorem C69 {t e:TypeId}{n:Nat}{parts:Array (Nat×Operand)}{zc:List Value}{l:List dO}(ho:o.op=.build t parts)(hz:vp P t=some zc)(hu:P.underlying t=some (.array n e))
 (kV:Ay n parts.toList=true) (hU:qO P e=true) (hl:xW P parts.toList (az n e) 0 zc=some l)
 (he:cf K γ d s h (.build (az n (P.cellsOf e)) l)=some (v,h')):cJ P o a w A E nx γ v h':=by
 simp only [cf] at he;split at he
 · rename_i hb;simp only [aa,ae] at he;obtain ⟨rfl,rfl⟩:=he;obtain ⟨z,En,r7,_⟩:=C1 hz w;obtain ⟨cs,h1,h2⟩:=Rn hs hl (by simpa using kV) (by simpa using hb) (fun i=>some (i*P.cellsOf e,P.cellsOf e)) (by
    intro i t ht;rw [List.getElem?_replicate] at ht;split at ht
    · rename_i hi;cases ht;rw [List.take_replicate,List.map_replicate,Yw,Nat.min_eq_left (by omega)]
    · cases ht)
   refine cJ.idle (val:=.agg cs.toArray) ?_ (MO h1) hm;simp only [execOp,ho,Instr.build,bx,En,aV,run_underlying hu,D5 w hU,r7];rw [h2];rfl
 · cases he
end
end Go.Mid
