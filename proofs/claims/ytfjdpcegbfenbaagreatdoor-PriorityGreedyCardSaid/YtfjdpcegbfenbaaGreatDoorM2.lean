/- Changing a place of an owned tree. -/
import Derived.Test.YtfjdpcegbfenbaaGreatDoorM1
import Derived.Laws.IdiomCopy
set_option linter.unusedSimpArgs false
set_option linter.unusedVariables false
open Array renaming getElem?_modify → kH, getElem?_eq_some_iff → c6, ext' → gI, eq_empty_of_size_eq_zero → eT, length_toList → dW
open Bool renaming and_eq_true → aj
open Go.Result renaming andThen_ok → aV
open Go.Sem renaming run_bind → bn, run_pure → bL
open Go.Value renaming cells → db
open Go.World renaming setCells → l6, cell? → mF
open List renaming getElem?_map → aH, map_map → cm, append_assoc → bf, perm_append_comm → dq, set_cons_succ → ev, set_cons_zero → dN, getElem?_set → dD, getElem?_eq_some_iff → aF, length_singleton → eg, cons_append → aS, nil_append → a6, mem_cons → aE, mem_append → ay, map_take → bO, map_nil → cl, map_cons → aD, nodup_cons → bV, nodup_append → aT, take_succ_cons → bS, length_set → ik, mem_or_eq_of_mem_set → bz, mem_of_getElem? → bG, length_append → aQ, length_map → aB, mem_map → bj, append_nil → bD, length_cons → ba, find?_cons → il, flatten_cons → dZ, mem_map_of_mem → dX, length → cq, sum_cons → mM, replicate → aq
open Nat renaming le_refl → ar, add_assoc → bU, le_of_lt → fM, lt_of_lt_of_le → bp, zero_le → dg, zero_add → bR
open Ne renaming symm → dw
open Option renaming map_some → ak, toList → cg, bind_some → ai
open Option.some renaming injEq → aa
open Prod.mk renaming injEq → ae
namespace Go.Mid
open Go.RowKit
section
variable {α β:Type}
theorem F8:∀ {l:List (T α)} {vs:List PV},mh l=some vs→l=vs.map .p
 | [],vs,h=>by simp only [mh] at h; cases h; rfl
 | x::r,vs,h=>by
   cases x <;> simp only [mh,reduceCtorEq] at h;split at h
   · rename_i l hl;cases h;simp [F8 hl]
   · cases h
theorem Bo:∀ (vs:List PV),mh (vs.map (T.p (α:=α)))=some vs
 | []=>rfl
 | x::r=>by simp [mh,Bo r]
theorem Bp (l:List (T α)):jY l=.agg l∨∃ vs,l=vs.map .p∧jY l=.p (.agg vs):=by
 unfold jY;cases h:mh l with
 | none=>exact .inl rfl
 | some vs=>exact .inr ⟨vs,F8 h,rfl⟩
theorem CI (vs:List PV):T.da (vs.map (T.p (α:=α)))=PV.da vs:=by
 induction vs with
 | nil=>rfl
 | cons x r ih=>simp [T.da,PV.da,T.cs,ih]
theorem Wu (l:List (T α)):(jY l).cs=T.da l:=by
 rcases Bp l with h | ⟨vs,rfl,h⟩ <;> rw [h]
 · rfl
 · rw [CI]; rfl
theorem Ie (l:List PV) (i:Nat) (r:List Nat):cU (.p (.agg l):T α) (i::r)=cU (.agg (l.map .p)) (i::r):=by
 simp only [cU,aH];cases l[i]? <;> rfl
theorem Wv (l:List (T α)) (i:Nat) (r:List Nat):cU (jY l) (i::r)=cU (.agg l) (i::r):=by
 rcases Bp l with h | ⟨vs,rfl,h⟩ <;> rw [h]
 exact Ie vs i r
theorem Ww (l:List PV) (i:Nat) (r:List Nat) (v:T α):c7 (.p (.agg l)) (i::r) v=c7 (.agg (l.map .p)) (i::r) v:=by
 simp only [c7,aH];cases l[i]? <;> rfl
theorem L4:∀ {l:List (T α)} {i:Nat} {t v:T α},l[i]?=some t→v.cs=t.cs→T.da (l.set i v)=T.da l
 | [],i,t,v,h,_=>by simp at h
 | x::r,0,t,v,h,k=>by simp at h; subst h; simp [T.da,k]
 | x::r,i + 1,t,v,h,k=>by simp at h; simp [T.da,L4 h k]
theorem Av:∀ (p:List Nat) (t u v t':T α),cU t p=some u→c7 t p v=some t'→v.cs=u.cs→t'.cs=t.cs
 | [],t,u,v,t',h,k,e=>by
   simp only [cU,aa] at h; subst h;simp only [c7,aa] at k; subst k;exact e
 | i::r,.p (.agg l),u,v,t',h,k,e=>by
   rw [Ie] at h; rw [Ww] at k;simp only [cU,aH] at h;simp only [c7,aH] at k;cases hl:l[i]? with
   | none=>simp [hl] at h
   | some x =>
     simp only [hl,ak] at h k;split at k
     · rename_i w hw;cases k
       have:=Av r _ u v w h hw e
       rw [Wu,L4 (t:=.p x) (by simp [hl]) this,CI]; rfl
     · cases k
 | i::r,.agg l,u,v,t',h,k,e=>by
   simp only [cU] at h;simp only [c7] at k;cases hl:l[i]? with
   | none=>simp [hl] at h
   | some x =>
     simp only [hl] at h k;split at k
     · rename_i w hw;cases k
       have:=Av r _ u v w h hw e
       rw [Wu,L4 (t:=x) hl this]; rfl
     · cases k
 | i::r,.vec a z l n,u,v,t',h,k,e=>by
   simp only [c7] at k
   repeat' split at k
   all_goals cases k
   rfl
 | i::r,.mp a ks l,u,v,t',h,k,e=>by
   simp only [c7] at k
   repeat' split at k
   all_goals cases k
   rfl
 | i::r,.p (.int ..),u,v,t',h,_,_=>by simp [cU] at h
 | i::r,.p (.bool _),u,v,t',h,_,_=>by simp [cU] at h
 | i::r,.p (.str _),u,v,t',h,_,_=>by simp [cU] at h
 | i::r,.p (.sl _),u,v,t',h,_,_=>by simp [cU] at h
 | i::r,.p (.ref _),u,v,t',h,_,_=>by simp [cU] at h
 | i::r,.p (.fn ..),u,v,t',h,_,_=>by simp [cU] at h
 | i::r,.p (.mp ..),u,v,t',h,_,_=>by simp [cU] at h
 | i::r,.p .eQ,u,v,t',h,_,_=>by simp [cU] at h
 | i::r,.p .ff,u,v,t',h,_,_=>by simp [cU] at h
 | i::r,.m _,u,v,t',h,_,_=>by simp [cU] at h
 | i::r,.hole _,u,v,t',h,_,_=>by simp [cU] at h
end
theorem Ig {α:Type} {i:Nat} {r:List Nat} {t u v t':T α} (h:cU t (i::r)=some u) (k:c7 t (i::r) v=some t') :
 (∃ l x w,(t=.agg l∨∃ vs,t=.p (.agg vs)∧l=vs.map .p)∧l[i]?=some x∧cU x r=some u∧c7 x r v=some w∧t'=jY (l.set i w)) ∨
 (∃ a z l n x w,t=.vec a z l n∧l[i]?=some x∧cU x r=some u∧c7 x r v=some w∧t'=.vec a z (l.set i w) n) ∨
 (∃ a ks l x w,t=.mp a ks l∧l[i]?=some x∧cU x r=some u∧c7 x r v=some w∧t'=.mp a ks (l.set i w)):=by
 have key:∀ l,cU (.agg l) (i::r)=some u→c7 (.agg l) (i::r) v=some t'→∃ x w,l[i]?=some x∧cU x r=some u∧c7 x r v=some w∧t'=jY (l.set i w):=by
  intro l h k;simp only [cU] at h;simp only [c7] at k;cases hl:l[i]? with
  | none=>simp [hl] at h
  | some x =>
    simp only [hl] at h k;split at k
    · rename_i w hw;cases k;exact ⟨x,w,rfl,h,hw,rfl⟩
    · cases k
 cases t with
 | p pv =>
   cases pv <;> try (simp [cU] at h; done)
   rename_i l;rw [Ie] at h; rw [Ww] at k;obtain ⟨x,w,h1⟩:=key _ h k;exact .inl ⟨_,x,w,.inr ⟨l,rfl,rfl⟩,h1⟩
 | m=>simp [cU] at h
 | agg l =>
   obtain ⟨x,w,h1⟩:=key _ h k;exact .inl ⟨_,x,w,.inl rfl,h1⟩
 | vec a z l n =>
   simp only [cU] at h;simp only [c7] at k;cases hl:l[i]? with
   | none=>simp [hl] at h
   | some x =>
     simp only [hl] at h k;split at k
     · rename_i w hw;cases k;exact .inr (.inl ⟨a,z,l,n,x,w,rfl,hl,h,hw,rfl⟩)
     · cases k
 | mp a ks l =>
   simp only [cU] at h;simp only [c7] at k;cases hl:l[i]? with
   | none=>simp [hl] at h
   | some x =>
     simp only [hl] at h k;split at k
     · rename_i w hw;cases k;exact .inr (.inr ⟨a,ks,l,x,w,rfl,hl,h,hw,rfl⟩)
     · cases k
 | hole=>simp [cU] at h
section
variable {α β:Type} (f:α→β)
theorem PX:∀ (l:List (T α)),mh (l.map (T.mapA f))=mh l
 | []=>rfl
 | x::r=>by
   have:=PX r
   cases x <;> simp [mh,T.mapA,this]
theorem L5 (l:List (T α)):(jY l).mapA f=jY (l.map (T.mapA f)):=by
 unfold jY;rw [PX];cases mh l with
 | none=>simp [T.mapA,T.mapAs_eq]
 | some vs=>simp [T.mapA]
theorem DY:∀ (p:List Nat) (t v:T α),c7 (t.mapA f) p (v.mapA f)=(c7 t p v).map (T.mapA f)
 | [],t,v=>by simp [c7]
 | i::r,.p pv,v=>by
   cases pv <;> simp only [T.mapA,c7,Option.map_none];rename_i l;cases l[i]? with
   | none=>rfl
   | some x =>
     have:=DY r (.p x) v
     simp only [T.mapA] at this;simp only [this];cases c7 (.p x) r v with
     | none=>rfl
     | some w =>
       simp only [ak,L5,List.map_set,cm];congr 2
 | i::r,.m _,v=>by simp [T.mapA,c7]
 | i::r,.agg l,v=>by
   simp only [T.mapA,c7,T.mapAs_eq,aH];cases l[i]? with
   | none=>rfl
   | some x =>
     simp only [ak,DY r x v];cases c7 x r v with
     | none=>rfl
     | some w=>simp [L5]
 | i::r,.vec a z l n,v=>by
   simp only [T.mapA,c7,T.mapAs_eq,aH];cases l[i]? with
   | none=>rfl
   | some x =>
     simp only [ak,DY r x v];cases c7 x r v with
     | none=>rfl
     | some w=>simp [T.mapA,T.mapAs_eq]
 | i::r,.mp a ks l,v=>by
   simp only [T.mapA,c7,T.mapAs_eq,aH];cases l[i]? with
   | none=>rfl
   | some x =>
     simp only [ak,DY r x v];cases c7 x r v with
     | none=>rfl
     | some w=>simp [T.mapA,T.mapAs_eq]
 | i::r,.hole n,v=>by simp [T.mapA,c7]
theorem F9 (ob:Option (Obj α)) (p:List Nat) (v:T α):put (ob.map (Obj.mapA f)) p (v.mapA f)=(put ob p v).map (Obj.mapA f):=by
 cases ob with
 | none=>cases p <;> rfl
 | some o =>
   cases o with
   | cell a t =>
     simp only [ak,Obj.mapA,put,DY];cases c7 t p v <;> rfl
   | vec a z l =>
     cases p with
     | nil=>rfl
     | cons i r =>
       simp only [ak,Obj.mapA,put,T.mapAs_eq,aH];cases l[i]? with
       | none=>rfl
       | some x =>
         simp only [ak,DY f r x v];cases c7 x r v with
         | none=>rfl
         | some w=>simp [Obj.mapA,T.mapAs_eq]
   | mp a ks l =>
     cases p with
     | nil=>rfl
     | cons i r =>
       simp only [ak,Obj.mapA,put,T.mapAs_eq,aH];cases l[i]? with
       | none=>rfl
       | some x =>
         simp only [ak,DY f r x v];cases c7 x r v with
         | none=>rfl
         | some w=>simp [Obj.mapA,T.mapAs_eq]
   | gone=>cases p <;> rfl
end
theorem DZ (vs:List PV):T.b6 (vs.map T.p)=[]:=by
 induction vs with
 | nil=>rfl
 | cons x r ih=>simp [T.b6,T.blk,ih]
theorem L6 (l:List (T An)):(jY l).blk=T.b6 l:=by
 rcases Bp l with h | ⟨vs,rfl,h⟩ <;> rw [h]
 · rfl
 · rw [DZ]; rfl
theorem v7:∀ (l m:List (T An)),T.b6 (l++m)=T.b6 l++T.b6 m
 | [],m=>rfl
 | x::r,m=>by simp [T.b6,v7 r m]
theorem D0:∀ {l:List (T An)} {i:Nat} {x:T An} (y:T An),l[i]?=some x→∃ rest,(T.b6 l).Perm (x.blk++rest)∧(T.b6 (l.set i y)).Perm (y.blk++rest)
 | [],i,x,y,h=>by simp at h
 | x::r,0,t,y,h=>by simp at h; subst h; exact ⟨T.b6 r,.refl _,.refl _⟩
 | x::r,i + 1,t,y,h=>by
   simp at h;obtain ⟨rest,h1,h2⟩:=D0 y h;refine ⟨x.blk++rest,?_,?_⟩
   · simp only [T.b6];refine (h1.append_left x.blk).trans ?_;rw [← bf,← bf];exact dq.append_right rest
   · simp only [T.b6,ev];refine (h2.append_left x.blk).trans ?_;rw [← bf,← bf];exact dq.append_right rest
theorem Ga {a b u v:List Nat} {r q s:List Nat} (h:a.Perm (u++r)) (h':b.Perm (v++r)) (k:u.Perm (s++q)):a.Perm (s++(q++r)):=by
 refine h.trans ?_;rw [← bf];exact k.append_right r
theorem L7:∀ (p:List Nat) (t u v t':T An),cU t p=some u→c7 t p v=some t'→∃ rest,t.blk.Perm (u.blk++rest)∧t'.blk.Perm (v.blk++rest)
 | [],t,u,v,t',h,k=>by
   simp only [cU,aa] at h; subst h;simp only [c7,aa] at k; subst k;exact ⟨[],by simp,by simp⟩
 | i::r,t,u,v,t',h,k=>by
   rcases Ig h k with ⟨l,x,w,ht,hl,h1,h2,rfl⟩ | ⟨a,z,l,n,x,w,rfl,hl,h1,h2,rfl⟩ | ⟨a,ks,l,x,w,rfl,hl,h1,h2,rfl⟩
   · obtain ⟨q,k1,k2⟩:=L7 r x u v w h1 h2;obtain ⟨rest,k3,k4⟩:=D0 w hl
     have:t.blk=T.b6 l:=by
      rcases ht with rfl | ⟨vs,rfl,rfl⟩
      · rfl
      · rw [DZ]; rfl
     rw [this,L6];exact ⟨q++rest,Ga k3 k4 k1,Ga k4 k3 k2⟩
   · obtain ⟨q,k1,k2⟩:=L7 r x u v w h1 h2;obtain ⟨rest,k3,k4⟩:=D0 w hl;simp only [T.blk];refine ⟨a.b.toList++(q++rest),?_,?_⟩
     · refine ((Ga k3 k4 k1).append_left _).trans ?_;rw [← bf,← bf u.blk];exact dq.append_right _
     · refine ((Ga k4 k3 k2).append_left _).trans ?_;rw [← bf,← bf v.blk];exact dq.append_right _
   · obtain ⟨q,k1,k2⟩:=L7 r x u v w h1 h2;obtain ⟨rest,k3,k4⟩:=D0 w hl;simp only [T.blk];refine ⟨a.b.toList++(q++rest),?_,?_⟩
     · refine ((Ga k3 k4 k1).append_left _).trans ?_;rw [← bf,← bf u.blk];exact dq.append_right _
     · refine ((Ga k4 k3 k2).append_left _).trans ?_;rw [← bf,← bf v.blk];exact dq.append_right _
theorem L8 {n:di}:∀ {l:List (T An)} {i:Nat} {y:T An},T.j7 n l→y.st n→T.j7 n (l.set i y)
 | [],i,y,h,_=>by simpa using h
 | x::r,0,y,h,k=>by simp only [dN,T.j7] at h ⊢; exact ⟨k,h.2⟩
 | x::r,i + 1,y,h,k=>by simp only [ev,T.j7] at h ⊢; exact ⟨h.1,L8 h.2 k⟩
theorem L9 {n:di} (vs:List PV):T.j7 n (vs.map T.p):=by
 induction vs with
 | nil=>trivial
 | cons x r ih=>exact ⟨trivial,ih⟩
theorem PY {n:di} {l:List (T An)} (h:T.j7 n l):(jY l).st n:=by
 rcases Bp l with e | ⟨vs,rfl,e⟩ <;> rw [e]
 · exact h
 · trivial
theorem Gb {n:di}:∀ (p:List Nat) (t u v t':T An),cU t p=some u→c7 t p v=some t'→t.st n→v.st n→t'.st n
 | [],t,u,v,t',h,k,_,kv=>by
   simp only [c7,aa] at k; subst k;exact kv
 | i::r,t,u,v,t',h,k,kt,kv=>by
   rcases Ig h k with ⟨l,x,w,ht,hl,h1,h2,rfl⟩ | ⟨a,z,l,n,x,w,rfl,hl,h1,h2,rfl⟩ | ⟨a,ks,l,x,w,rfl,hl,h1,h2,rfl⟩
   · have:T.j7 n l:=by
      rcases ht with rfl | ⟨vs,rfl,rfl⟩
      · exact kt
      · exact L9 vs
     exact PY (L8 this (Gb r x u v w h1 h2 (T.pC this hl) kv))
   · simp only [T.st] at kt ⊢;exact ⟨kt.1,L8 kt.2 (Gb r x u v w h1 h2 (T.pC kt.2 hl) kv)⟩
   · simp only [T.st] at kt ⊢;exact ⟨kt.1,L8 kt.2 (Gb r x u v w h1 h2 (T.pC kt.2 hl) kv)⟩
def fH {α:Type} (t:T α) (q:List Nat):Option (α×Option Nat) :=
 match cU t q with
 | some (.vec a z _ _)=>some (a,some z)
 | some (.mp a _ _)=>some (a,none)
 | _=>none
theorem Ih {α:Type} (l:List (T α)) (i:Nat) (r:List Nat):fH (.agg l) (i::r)=(l[i]?).bind fun t=>fH t r:=by
 simp only [fH,cU];cases l[i]? <;> rfl
theorem PZ {α:Type} (l:List (T α)) (i:Nat) (r:List Nat):fH (jY l) (i::r)=(l[i]?).bind fun t=>fH t r:=by
 rw [← Ih]; simp only [fH,Wv]
theorem Bq {α:Type} (a:α) (z:Nat) (l:List (T α)) (n i:Nat) (r:List Nat):fH (.vec a z l n) (i::r)=(l[i]?).bind fun t=>fH t r:=by
 simp only [fH,cU];cases l[i]? <;> rfl
theorem P0 {α:Type} (a:α) (ks:List PV) (l:List (T α)) (i:Nat) (r:List Nat):fH (.mp a ks l) (i::r)=(l[i]?).bind fun t=>fH t r:=by
 simp only [fH,cU];cases l[i]? <;> rfl
theorem P1 {α:Type} (l:List (T α)):fH (jY l) []=none:=by
 rcases Bp l with e | ⟨vs,rfl,e⟩ <;> rw [e] <;> rfl
theorem P2 {α:Type} {l:List (T α)} {i:Nat} {x w:T α} (hl:l[i]?=some x) {j:Nat} {q:List Nat} {y:α×Option Nat}
 (h:((l.set i w)[j]?).bind (fun t=>fH t q)=some y):(l[j]?).bind (fun t=>fH t q)=some y∨(j=i∧fH w q=some y):=by
 rw [dD] at h;split at h
 · rename_i gL;subst gL;split at h
   · exact .inr ⟨rfl,h⟩
   · simp at h
 · exact .inl h
theorem Ma {α:Type}:∀ (p:List Nat) (t u v t':T α),cU t p=some u→c7 t p v=some t'→∀ q y,fH t' q=some y→fH t q=some y∨∃ r,q=p++r∧fH v r=some y
 | [],t,u,v,t',h,k,q,y,hq=>by
   simp only [c7,aa] at k; subst k;exact .inr ⟨q,rfl,hq⟩
 | i::r,t,u,v,t',h,k,q,y,hq=>by
   rcases Ig h k with ⟨l,x,w,ht,hl,h1,h2,rfl⟩ | ⟨a,z,l,n,x,w,rfl,hl,h1,h2,rfl⟩ | ⟨a,ks,l,x,w,rfl,hl,h1,h2,rfl⟩
   · cases q with
     | nil=>rw [P1] at hq; cases hq
     | cons j q =>
       rw [PZ] at hq;have Gc:fH t (j::q)=(l[j]?).bind fun t=>fH t q:=by
        rcases ht with rfl | ⟨vs,rfl,rfl⟩
        · exact Ih l j q
        · rw [← Ih]; simp only [fH,Ie]
       rw [Gc];rcases P2 hl hq with h3 | ⟨rfl,h3⟩
       · exact .inl h3
       · rcases Ma r x u v w h1 h2 q y h3 with h4 | ⟨s,rfl,h4⟩
         · exact .inl (by rw [hl]; exact h4)
         · exact .inr ⟨s,rfl,h4⟩
   · cases q with
     | nil=>exact .inl hq
     | cons j q =>
       rw [Bq] at hq ⊢;rcases P2 hl hq with h3 | ⟨rfl,h3⟩
       · exact .inl h3
       · rcases Ma r x u v w h1 h2 q y h3 with h4 | ⟨s,rfl,h4⟩
         · exact .inl (by rw [hl]; exact h4)
         · exact .inr ⟨s,rfl,h4⟩
   · cases q with
     | nil=>exact .inl hq
     | cons j q =>
       rw [P0] at hq ⊢;rcases P2 hl hq with h3 | ⟨rfl,h3⟩
       · exact .inl h3
       · rcases Ma r x u v w h1 h2 q y h3 with h4 | ⟨s,rfl,h4⟩
         · exact .inl (by rw [hl]; exact h4)
         · exact .inr ⟨s,rfl,h4⟩
end Go.Mid
namespace Go.Mid
open Go.RowKit
theorem Wx (w:World) (a:Addr) (v:Value) {b:Nat} (h:b ≠ a.block):(w.setCell a v).heap[b]?=w.heap[b]?:=by
 simp [World.setCell,kH,dw h]
theorem v8 {b b':Nat} (h:b' ≠ b):∀ (vs:List Value) (o:Nat) (w:World),(w.setCells b o vs).heap[b']?=w.heap[b']?
 | [],_,_=>rfl
 | v::r,o,w=>by rw [l6,v8 h r,Wx _ _ _ h]
theorem wZ (b:Nat):∀ (vs:List Value) (o:Nat) (w:World),(w.setCells b o vs).heap.size=w.heap.size∧(w.setCells b o vs).os=w.os∧(w.setCells b o vs).tape=w.tape∧(w.setCells b o vs).output=w.output
 | [],_,_=>⟨rfl,rfl,rfl,rfl⟩
 | v::r,o,w=>by
   have:=wZ b r (o + 1) (w.setCell ⟨b,o,none⟩ v)
   rw [l6];exact ⟨this.1.trans (World.size_setCell _ _ _),this.2.1,this.2.2.1,this.2.2.2⟩
theorem lT.setCell {w:World} {a:Addr} {v:Value} {b n:Nat} (h:lT w b n):lT (w.setCell a v) b n:=by
 by_cases e:b=a.block
 · subst e;obtain ⟨c,ty,h1,h2⟩:=h;simp only [lT,World.setCell,kH,if_true,h1,ak];refine ⟨_,ty,rfl,?_⟩;split <;> simp [h2]
 · exact h.frame (Wx w a v e)
theorem lT.setCells {b b' n:Nat}:∀ (vs:List Value) (o:Nat) (w:World),lT w b' n→lT (w.setCells b o vs) b' n
 | [],_,_,h=>h
 | v::r,o,w,h=>by rw [l6]; exact lT.setCells r (o + 1) _ h.setCell
theorem lT.cell {w:World} {b n j:Nat} (h:lT w b n) (hj:j < n):(w.cell? ⟨b,j,none⟩).isSome=true∧w.frozen? ⟨b,j,none⟩=false:=by
 obtain ⟨c,ty,h1,h2⟩:=h;simp [mF,World.frozen?,h1,h2,hj]
structure Wr (w w':World) (b o n:Nat) (X:List Nat):Prop where
 other:∀ b',b' < w.heap.size→b' ≠ b→b' ∉ X→w'.heap[b']?=w.heap[b']?
 blk:∀ m,lT w b m→lT w' b m
 cell:∀ j,(j < o∨o + n ≤ j)→w'.cell? ⟨b,j,none⟩=w.cell? ⟨b,j,none⟩
theorem Row.lt {w:World} {b o:Nat} {v:Value} {cs:List Value} (h:Row w b o (v::cs)):b < w.heap.size:=by
 have:=h 0 v rfl
 simp only [mF] at this;split at this
 · rename_i h1; exact (c6.1 h1).1
 · cases this
theorem lT.lt {w:World} {b n:Nat} (h:lT w b n):b < w.heap.size:=by
 obtain ⟨c,ty,h1,_⟩:=h;exact (c6.1 h1).1
theorem Row.iT {w w':World} {b o:Nat} {cs:List Value} (h:∀ j,o ≤ j→j < o + cs.length→w'.cell? ⟨b,j,none⟩=w.cell? ⟨b,j,none⟩) (r:Row w b o cs):Row w' b o cs:=by
 intro j v hj
 have:=(aF.1 hj).1
 rw [h (o + j) (by omega) (by omega)]
 exact r j v hj
section
variable {w w':World} {A A':Nat→Prop} {E E':dL An} {nx nx':di}
mutual
theorem TAt.iT (f:Fr w w' A A' E E' nx nx'):∀ {t:T An} {b o:Nat},(∀ j,o ≤ j→j < o + t.cs→w'.cell? ⟨b,j,none⟩=w.cell? ⟨b,j,none⟩)→(∀ x ∈ t.blk,w'.heap[x]?=w.heap[x]?) →
 TAt w A E nx t b o→TAt w' A' E' nx' t b o
 | .p v,b,o,hb,_,h=>by
   simp only [TAt] at h ⊢;obtain ⟨cs,h1,h2⟩:=h;exact ⟨cs,h1.frame f.hA f.hw,h2.iT (by rw [h1.len]; exact hb)⟩
 | .m v,b,o,hb,_,h=>by
   simp only [TAt] at h ⊢;obtain ⟨h0,DQ,val,h1,h2⟩:=h;exact ⟨h0,DQ,val,h1.frame f,h2.iT (by simpa only [T.cs,h0,eg] using hb)⟩
 | .agg l,b,o,hb,hk,h=>by
   simp only [TAt] at h ⊢;exact cD.iT f hb (by simpa only [T.blk] using hk) h
 | .vec an z l n,b,o,hb,hk,h=>by
   have kC:∀ {a:Option Addr} {cap:Nat},Row w b o [.slice a n cap]→Row w' b o [.slice a n cap]:=fun r=>r.iT (by simpa only [T.cs,eg] using hb)
   simp only [TAt] at h ⊢;obtain ⟨a,cap,h1,h2,h3,h4⟩:=h;refine ⟨a,cap,kC h1,h2,h3,?_⟩;cases jr:an.b with
   | none=>simpa only [jr] using h4
   | some b' =>
     simp only [jr] at h4 ⊢;simp only [T.blk,jr,cg,aS,a6,aE] at hk;exact ⟨h4.1.frame (hk b' (.inl rfl)),h4.2.1,h4.2.2.1,cD.frame f (hk b' (.inl rfl)) (fun x hx=>hk x (.inr hx)) h4.2.2.2⟩
 | .mp ..,_,_,_,_,h=>by simp only [TAt] at h
 | .hole n,b,o,hb,_,h=>by
   simp only [TAt] at h ⊢;intro j hj;rw [hb (o + j) (by omega) (by simp only [T.cs]; omega)]; exact h j hj
theorem cD.iT (f:Fr w w' A A' E E' nx nx'):∀ {l:List (T An)} {b o:Nat},(∀ j,o ≤ j→j < o + T.da l→w'.cell? ⟨b,j,none⟩=w.cell? ⟨b,j,none⟩)→(∀ x ∈ T.b6 l,w'.heap[x]?=w.heap[x]?) →
 cD w A E nx l b o→cD w' A' E' nx' l b o
 | [],b,o,_,_,h=>by simp only [cD]
 | t::r,b,o,hb,hk,h=>by
   simp only [cD] at h ⊢;simp only [T.b6,ay] at hk;simp only [T.da] at hb;exact ⟨TAt.iT f (fun j h1 h2=>hb j h1 (by omega)) (fun x hx=>hk x (.inl hx)) h.1,cD.iT f (fun j h1 h2=>hb j (by omega) (by omega)) (fun x hx=>hk x (.inr hx)) h.2⟩
end
end
def kT:T An→List Nat→Nat→Nat→Option (Nat×Nat)
 | _,[],b,o=>some (b,o)
 | .p (.agg l),i::r,b,o=>match l[i]? with | some v=>kT (.p v) r b (o + PV.da (l.take i)) | none=>none
 | .agg l,i::r,b,o=>match l[i]? with | some t=>kT t r b (o + T.da (l.take i)) | none=>none
 | .vec an z l _,i::r,_,_=>match an.b,l[i]? with | some b',some t=>kT t r b' (i * z) | _,_=>none
 | _,_::_,_,_=>none
def qG:Option (Obj An)→List Nat→Option (Nat×Nat)
 | some (.cell an t),p=>match an.b with | some b=>kT t p b 0 | none=>none
 | some (.vec an z l),i::r=>match an.b,l[i]? with | some b',some t=>kT t r b' (i * z) | _,_=>none
 | _,_=>none
theorem P3 (l:List PV) (i:Nat) (r:List Nat) (b o:Nat):kT (.p (.agg l)) (i::r) b o=kT (.agg (l.map .p)) (i::r) b o:=by
 simp only [kT,aH,← bO,CI];cases l[i]? <;> rfl
theorem Mb (b:Nat):∀ (p:List Nat) (t u:T An) (o o':Nat),lP t p o=some (u,o')→kT t p b o=some (b,o')
 | [],t,u,o,o',h=>by
   simp only [lP,aa,ae] at h;obtain ⟨rfl,rfl⟩:=h; simp [kT]
 | i::r,.p v,u,o,o',h=>by
   cases v <;> simp only [lP,reduceCtorEq] at h;simp only [kT];split at h
   · rename_i v hv; simp only [hv]; exact Mb b r _ u _ o' h
   · cases h
 | i::r,.m v,u,o,o',h=>by simp [lP] at h
 | i::r,.agg l,u,o,o',h=>by
   simp only [lP] at h;simp only [kT];split at h
   · rename_i v hv; simp only [hv]; exact Mb b r _ u _ o' h
   · cases h
 | i::r,.vec a z l n,u,o,o',h=>by simp [lP] at h
 | i::r,.mp a ks l,u,o,o',h=>by simp [lP] at h
 | i::r,.hole n,u,o,o',h=>by simp [lP] at h
theorem Ii:∀ (p q:List Nat) (t u:T An) (b o b' o':Nat),cU t p=some u→kT t p b o=some (b',o')→kT t (p++q) b o=kT u q b' o'
 | [],q,t,u,b,o,b',o',h,k=>by
   simp only [cU,aa] at h; subst h;simp only [kT,aa,ae] at k;obtain ⟨rfl,rfl⟩:=k; rfl
 | i::r,q,.p v,u,b,o,b',o',h,k=>by
   cases v <;> simp only [cU,reduceCtorEq] at h;simp only [kT,aS] at k ⊢;split at h
   · rename_i v hv; simp only [hv] at k ⊢; exact Ii r q _ u _ _ _ _ h k
   · cases h
 | i::r,q,.m v,u,b,o,b',o',h,_=>by simp [cU] at h
 | i::r,q,.agg l,u,b,o,b',o',h,k=>by
   simp only [cU] at h;simp only [kT,aS] at k ⊢;split at h
   · rename_i v hv; simp only [hv] at k ⊢; exact Ii r q _ u _ _ _ _ h k
   · cases h
 | i::r,q,.vec a z l n,u,b,o,b',o',h,k=>by
   simp only [cU] at h;simp only [kT,aS] at k ⊢;split at h
   · rename_i v hv;cases hb:a.b with
     | none=>simp [hb] at k
     | some b0=>simp only [hv,hb] at k ⊢; exact Ii r q _ u _ _ _ _ h k
   · cases h
 | i::r,q,.mp a ks l,u,b,o,b',o',h,k=>by simp [kT] at k
 | i::r,q,.hole n,u,b,o,b',o',h,_=>by simp [cU] at h
section
variable {w:World} {A:Nat→Prop} {E:dL An} {nx:di}
theorem qY {vs:List PV} {b o:Nat}:cD w A E nx (vs.map .p) b o↔TAt w A E nx (.p (.agg vs)) b o:=by
 induction vs generalizing o with
 | nil=>simp only [cl,cD,TAt,dR,cK,true_iff]; exact ⟨[],rfl,Row.nil⟩
 | cons x r ih =>
   simp only [aD,cD,ih];simp only [TAt,dR,cK];constructor
   · rintro ⟨⟨c,h1,h2⟩,d,h3,h4⟩;refine ⟨c++d,⟨c,d,rfl,h1,h3⟩,Row.append.2 ⟨h2,?_⟩⟩;rw [h1.len]; exact h4
   · rintro ⟨_,⟨c,d,rfl,h1,h3⟩,h2⟩;have h2:=Row.append.1 h2;refine ⟨⟨c,h1,h2.1⟩,d,h3,?_⟩
     have:=h2.2
     rw [h1.len] at this; exact this
theorem C56 {l:List (T An)} {b o:Nat}:TAt w A E nx (jY l) b o↔cD w A E nx l b o:=by
 rcases Bp l with e | ⟨vs,rfl,e⟩ <;> rw [e]
 · simp only [TAt]
 · exact qY.symm
theorem sN {l:List (T An)} {i:Nat} {t:T An} (h:l[i]?=some t) {b:Nat} (hb:b ∈ t.blk):b ∈ T.b6 l:=by
 induction l generalizing i with
 | nil=>simp at h
 | cons x q ih =>
   cases i with
   | zero=>simp at h; subst h; simp [T.b6,hb]
   | succ i=>simp at h; simp [T.b6,ih h]
theorem Br:∀ (p:List Nat) (t u:T An) (b o:Nat),cU t p=some u→TAt w A E nx t b o →
 ∃ b' o',kT t p b o=some (b',o')∧TAt w A E nx u b' o'∧((b'=b∧o ≤ o'∧o' + u.cs ≤ o + t.cs)∨b' ∈ t.blk)∧(∀ x ∈ u.blk,x ∈ t.blk)∧((b::t.blk).Nodup→b' ∉ u.blk)
 | [],t,u,b,o,h,k=>by
   simp only [cU,aa] at h; subst h;exact ⟨b,o,by simp [kT],k,.inl ⟨rfl,ar _,ar _⟩,fun _ h=>h,fun hn=>(bV.1 hn).1⟩
 | i::r,.p v,u,b,o,h,k=>by
   cases v <;> simp only [cU,reduceCtorEq] at h;rename_i l;split at h
   · rename_i v hv;have k':=(qY.2 k).get (i:=i) (t:=.p v) (by simp [hv])
     rw [← bO,CI] at k';obtain ⟨b',o',h0,h1,h2,h3,h4⟩:=Br r (.p v) u b _ h k';refine ⟨b',o',by simpa only [kT,hv] using h0,h1,?_,fun x hx=>by have:=h3 x hx; simp [T.blk] at this,fun _ hx=>by have:=h3 _ hx; simp [T.blk] at this⟩
     rcases h2 with ⟨h5,h6,h7⟩ | h5
     · refine .inl ⟨h5,by omega,?_⟩
       have:PV.da (l.take i) + v.cs ≤ PV.da l:=by
        clear h k k' h1 h4 h7 h6 h0
        induction l generalizing i with
        | nil=>simp at hv
        | cons y q ih =>
          cases i with
          | zero=>simp at hv; subst hv; simp [PV.da]
          | succ i=>simp at hv; have:=ih i hv; simp [PV.da]; omega
       simp only [T.cs,PV.cs] at h7 ⊢; omega
     · simp [T.blk] at h5
   · cases h
 | i::r,.m v,u,b,o,h,_=>by simp [cU] at h
 | i::r,.agg l,u,b,o,h,k=>by
   simp only [cU] at h;split at h
   · rename_i t ht;simp only [TAt] at k;obtain ⟨b',o',h0,h1,h2,h3,h4⟩:=Br r t u b _ h (k.get ht);refine ⟨b',o',by simpa only [kT,ht] using h0,h1,?_,fun x hx=>sN ht (h3 x hx),fun hn=>h4 ?_⟩
     · rcases h2 with ⟨h5,h6,h7⟩ | h5
       · refine .inl ⟨h5,by omega,?_⟩
         have:T.da (l.take i) + t.cs ≤ T.da l:=by
          clear h k h1 h4 h7 h6 h0
          induction l generalizing i with
          | nil=>simp at ht
          | cons y q ih =>
            cases i with
            | zero=>simp at ht; subst ht; simp [T.da]
            | succ i=>simp at ht; have:=ih i ht; simp [T.da]; omega
         simp only [T.cs]; omega
       · exact .inr (sN ht h5)
     · simp only [T.blk] at hn;obtain ⟨rest,h5,_⟩:=D0 t ht
       have:=(h5.cons b).nodup_iff.1 hn
       exact (aT.1 (by simpa using this)).1
   · cases h
 | i::r,.vec a z l n,u,b,o,h,k=>by
   simp only [cU] at h;split at h
   · rename_i t ht;simp only [TAt] at k;obtain ⟨p,cap,_,_,_,k4⟩:=k;cases hb:a.b with
     | none=>simp only [hb] at k4; rw [k4.1] at ht; simp at ht
     | some b0 =>
       simp only [hb] at k4;obtain ⟨b',o',h0,h1,h2,h3,h4⟩:=Br r t u b0 _ h (k4.2.2.2.elem k4.2.2.1 ht);refine ⟨b',o',by simpa only [kT,ht,hb] using h0,h1,.inr ?_,fun x hx=>?_,fun hn=>h4 ?_⟩
       · simp only [T.blk,hb,cg,aS,a6,aE];rcases h2 with ⟨h5,_⟩ | h5
         · exact .inl h5
         · exact .inr (sN ht h5)
       · simp only [T.blk,hb,cg,aS,a6,aE];exact .inr (sN ht (h3 x hx))
       · simp only [T.blk,hb,cg,aS,a6] at hn;obtain ⟨rest,h5,_⟩:=D0 t ht
         have:=((h5.cons b0).nodup_iff).1 (bV.1 hn).2
         exact (aT.1 (by simpa using this)).1
   · cases h
 | i::r,.mp a ks l,u,b,o,_,k=>by simp only [TAt] at k
 | i::r,.hole n,u,b,o,h,_=>by simp [cU] at h
end
end Go.Mid
namespace Go.Mid
open Go.RowKit
section
variable {w:World} {A:Nat→Prop} {E:dL An} {nx:di}
theorem Bs:∀ {l:List (T An)} {b o:Nat},cD w A E nx l b o↔∀ (j:Nat) (y:T An),l[j]?=some y→TAt w A E nx y b (o + T.da (l.take j))
 | [],b,o=>by simp [cD]
 | t::r,b,o=>by
   simp only [cD,Bs (l:=r)];constructor
   · rintro ⟨h1,h2⟩ j y hj;cases j with
     | zero=>simp at hj; subst hj; simpa [T.da] using h1
     | succ j =>
       simp at hj
       have:=h2 j y hj
       rwa [bS,T.da,← bU]
   · intro h;refine ⟨by simpa [T.da] using h 0 t rfl,fun j y hj=>?_⟩
     have:=h (j + 1) y (by simpa using hj)
     rwa [bS,T.da,← bU] at this
theorem P4 {α:Type}:∀ {l:List (T α)} {i j:Nat} {x:T α},l[i]?=some x→i < j→T.da (l.take i) + x.cs ≤ T.da (l.take j)
 | [],i,j,x,h,_=>by simp at h
 | t::r,0,j + 1,x,h,_=>by simp at h; subst h; simp [T.da]
 | t::r,i + 1,j + 1,x,h,k=>by
   simp at h
   have:=P4 h (show i < j by omega)
   simp [T.da]; omega
theorem Mc {α:Type} {l:List (T α)} {i j:Nat} {x y:T α} (h:l[i]?=some x) (k:y.cs=x.cs):T.da ((l.set i y).take j)=T.da (l.take j):=by
 by_cases gL:i < j
 · have:(l.set i y).take j=(l.take j).set i y:=by rw [List.take_set]
   rw [this];exact L4 (by rw [List.getElem?_take_of_lt gL]; exact h) k
 · rw [List.take_set_of_le (by omega)]
theorem Wy:∀ {l:List (T An)} {i j:Nat} {x y:T An},(T.b6 l).Nodup→l[i]?=some x→l[j]?=some y→j ≠ i→∀ b ∈ x.blk,b ∉ y.blk
 | [],i,j,x,y,_,h,_,_=>by simp at h
 | t::r,0,0,x,y,_,_,_,h=>by simp at h
 | t::r,0,j + 1,x,y,hn,h,k,_=>by
   simp at h k; subst h;intro b hb jr;simp only [T.b6] at hn;exact (aT.1 hn).2.2 b hb b (sN k jr) rfl
 | t::r,i + 1,0,x,y,hn,h,k,_=>by
   simp at h k; subst k;intro b hb jr;simp only [T.b6] at hn;exact (aT.1 hn).2.2 b jr b (sN h hb) rfl
 | t::r,i + 1,j + 1,x,y,hn,h,k,gL=>by
   simp at h k;simp only [T.b6] at hn;exact Wy (aT.1 hn).2.1 h k (by omega)
theorem Md {l:List (T An)} {i:Nat} {x:T An} {b:Nat} (hn:(b::T.b6 l).Nodup) (h:l[i]?=some x):(b::x.blk).Nodup:=by
 obtain ⟨rest,h5,_⟩:=D0 x h
 have:=(h5.cons b).nodup_iff.1 hn
 exact (aT.1 (by simpa using this:((b::x.blk)++rest).Nodup)).1
end
section
variable {w w':World} {A A':Nat→Prop} {E E':dL An} {nx nx':di}
theorem P5 (f:Fr w w' A A' E E' nx nx') {l:List (T An)} {i b o b1 o1:Nat} {x x' u:T An} {r:List Nat} (rF:cD w A E nx l b o) (hl:l[i]?=some x)
 (gV:(b::T.b6 l).Nodup) (hsz:∀ y ∈ b::T.b6 l,y < w.heap.size) (dJ:cU x r=some u) (jA:kT x r b (o + T.da (l.take i))=some (b1,o1))
 (W:Wr w w' b1 o1 u.cs u.blk) (H6:TAt w' A' E' nx' x' b (o + T.da (l.take i))) (eY:x'.cs=x.cs):cD w' A' E' nx' (l.set i x') b o:=by
 rw [Bs];intro j y hj;rw [Mc hl eY];rw [dD] at hj;split at hj
 · rename_i gL;subst gL;split at hj
   · cases hj; exact H6
   · cases hj
 · rename_i gL;have hy:=Bs.1 rF j y hj;have hx:=Bs.1 rF i x hl;obtain ⟨b',o',h0,h1,h2,h3,h4⟩:=Br r x u b _ dJ hx;rw [h0] at jA;cases jA;have Wz:=Wy (bV.1 gV).2 hl hj (dw gL);have tm:=(bV.1 gV).1;refine TAt.iT f (fun k CJ WA=>?_) (fun z hz=>?_) hy
   · rcases h2 with ⟨rfl,h5,h6⟩ | h5
     · refine W.cell k ?_;by_cases eF:j < i
       · have:=P4 hj eF; omega
       · have:=P4 hl (show i < j by omega); omega
     · refine LQ (W.other b (hsz b (by simp)) ?_ ?_) k
       · rintro rfl; exact tm (sN hl h5)
       · intro hb; exact tm (sN hl (h3 b hb))
   · refine W.other z (hsz z (by simp [sN hj hz])) ?_ ?_
     · rintro rfl;rcases h2 with ⟨rfl,_⟩ | h5
       · exact tm (sN hj hz)
       · exact Wz _ h5 hz
     · intro CD; exact Wz z (h3 z CD) hz
theorem Me (f:Fr w w' A A' E E' nx nx'):∀ (p:List Nat) (t u v t':T An) (b o b1 o1:Nat),cU t p=some u→c7 t p v=some t'→kT t p b o=some (b1,o1)→TAt w A E nx t b o →
 (b::t.blk).Nodup→(∀ y ∈ b::t.blk,y < w.heap.size)→v.cs=u.cs→Wr w w' b1 o1 u.cs u.blk→TAt w' A' E' nx' v b1 o1→TAt w' A' E' nx' t' b o
 | [],t,u,v,t',b,o,b1,o1,h,k,hl,_,_,_,_,_,hv=>by
   simp only [c7,aa] at k; subst k;simp only [kT,aa,ae] at hl;obtain ⟨rfl,rfl⟩:=hl;exact hv
 | i::r,t,u,v,t',b,o,b1,o1,h,k,jA,hk,gV,hsz,eY,W,hv=>by
   rcases Ig h k with ⟨l,x,y,ht,hl,h1,h2,rfl⟩ | ⟨a,z,l,n,x,y,rfl,hl,h1,h2,rfl⟩ | ⟨a,ks,l,x,y,rfl,hl,h1,h2,rfl⟩
   · have rF:cD w A E nx l b o:=by
      rcases ht with rfl | ⟨vs,rfl,rfl⟩
      · simpa only [TAt] using hk
      · exact qY.2 hk
     have hb:t.blk=T.b6 l:=by
      rcases ht with rfl | ⟨vs,rfl,rfl⟩
      · rfl
      · rw [DZ]; rfl
     have pE:kT x r b (o + T.da (l.take i))=some (b1,o1):=by
      have:kT (.agg l) (i::r) b o=some (b1,o1):=by
       rcases ht with rfl | ⟨vs,rfl,rfl⟩
       · exact jA
       · rw [← P3]; exact jA
      simpa only [kT,hl] using this
     rw [hb] at gV hsz;have hx:=Me f r x u v y b _ b1 o1 h1 h2 pE (Bs.1 rF i x hl) (Md gV hl) (fun y hy=>hsz y (by
      rcases aE.1 hy with rfl | hy
      · simp
      · simp [sN hl hy])) eY W hv
     exact C56.2 (P5 f rF hl gV hsz h1 pE W hx (Av r x u v y h1 h2 eY))
   · simp only [TAt] at hk ⊢;obtain ⟨p,cap,k1,k2,k3,k4⟩:=hk;cases hb:a.b with
     | none=>simp only [hb] at k4; rw [k4.1] at hl; simp at hl
     | some b0 =>
       simp only [hb] at k4 ⊢;simp only [T.blk,hb,cg,aS,a6] at gV hsz;have rU:=(bV.1 gV).2;have Ij:∀ y ∈ b0::T.b6 l,y < w.heap.size:=fun y hy=>hsz y (by simp only [aE] at hy ⊢; exact .inr hy)
       have e:i * z=0 + T.da (l.take i):=by rw [Aq k4.2.2.1 (fM (aF.1 hl).1)]; omega
       have pE:kT x r b0 (0 + T.da (l.take i))=some (b1,o1):=by
        rw [← e]; simpa only [kT,hl,hb] using jA
       have hx:=Me f r x u v y b0 _ b1 o1 h1 h2 pE (Bs.1 k4.2.2.2 i x hl) (Md rU hl) (fun y hy=>Ij y (by
        rcases aE.1 hy with rfl | hy
        · simp
        · simp [sN hl hy])) eY W hv
       have Ik:=Av r x u v y h1 h2 eY;obtain ⟨b',o',h0,_,h5,h3,h4⟩:=Br r x u b0 _ h1 (Bs.1 k4.2.2.2 i x hl);rw [h0] at pE;cases pE;have tm:=(bV.1 gV).1;have nY:b1=b0∨b1 ∈ T.b6 l:=h5.imp (·.1) (sN hl);have hbh:w'.heap[b]?=w.heap[b]?:=by
        refine W.other b (hsz b (by simp)) ?_ ?_
        · rintro rfl;exact tm (aE.2 nY)
        · intro hb; exact tm (by simp [sN hl (h3 b hb)])
       refine ⟨p,cap,k1.frame hbh,by rw [ik]; exact k2,k3,?_,by rw [ik]; exact k4.2.1,?_,P5 f k4.2.2.2 hl rU Ij h1 h0 W hx Ik⟩
       · by_cases kC:b0=b1
         · subst kC; exact W.blk _ k4.1
         · refine k4.1.frame (W.other b0 (hsz b0 (by simp)) kC ?_)
           intro hb; exact (bV.1 rU).1 (sN hl (h3 b0 hb))
       · intro q hq;rcases bz hq with hq | rfl
         · exact k4.2.2.1 q hq
         · rw [Ik]; exact k4.2.2.1 x (bG hl)
   · simp only [TAt] at hk
end
theorem Bt {α:Type} (a:α) (t:T α) (p:List Nat):ef (some (.cell a t)) p=cU t p:=by cases p <;> rfl
theorem C4r {α:Type} (ob:Option (Obj α)) (q:List Nat):fg ob (some q)=match ob,q with
 | some (.cell _ t),q=>fH t q
 | some (.vec a z l),q=>fH (.vec a z l 0) q
 | some (.mp a ks l),q=>fH (.mp a ks l) q
 | _,_=>none:=by
 cases ob with
 | none=>cases q <;> rfl
 | some o =>
   cases o with
   | cell a t =>
     simp only [fg,fH,Bt];cases cU t q with
     | none=>rfl
     | some x=>cases x <;> rfl
   | vec a z l =>
     cases q with
     | nil=>rfl
     | cons i r =>
       simp only [fg,fH,ef,cU];cases l[i]? with
       | none=>rfl
       | some t =>
         simp only;cases cU t r with
         | none=>rfl
         | some x=>cases x <;> rfl
   | mp a ks l =>
     cases q with
     | nil=>rfl
     | cons i r =>
       simp only [fg,fH,ef,cU];cases l[i]? with
       | none=>rfl
       | some t =>
         simp only;cases cU t r with
         | none=>rfl
         | some x=>cases x <;> rfl
   | gone=>cases q <;> rfl
def Obj.pF {α:Type}:Obj α→T α
 | .cell _ t=>t
 | .vec a z l=>.vec a z l 0
 | .mp a ks l=>.mp a ks l
 | .gone=>.hole 0
theorem sO {α:Type} (o:Obj α) (q:List Nat):fg (some o) (some q)=fH o.pF q:=by
 rw [C4r];cases o <;> try rfl
 cases q <;> rfl
theorem Gd {α:Type} {o o':Obj α} {p:List Nat} {u v:T α} (h:ef (some o) p=some u) (k:put (some o) p v=some o') :
 (∃ a t t',o=.cell a t∧o'=.cell a t'∧cU t p=some u∧c7 t p v=some t') ∨
 (∃ a z l l' i r x y,o=.vec a z l∧o'=.vec a z l'∧p=i::r∧l[i]?=some x∧cU x r=some u∧c7 x r v=some y∧l'=l.set i y) ∨
 (∃ a ks l l' i r x y,o=.mp a ks l∧o'=.mp a ks l'∧p=i::r∧l[i]?=some x∧cU x r=some u∧c7 x r v=some y∧l'=l.set i y):=by
 cases o with
 | cell a t =>
   rw [Bt] at h;have e:put (some (.cell a t)) p v=match c7 t p v with | some w=>some (.cell a w) | none=>none:=by cases p <;> rfl
   rw [e] at k;split at k
   · rename_i w hw;cases k;exact .inl ⟨a,t,w,rfl,rfl,h,hw⟩
   · cases k
 | vec a z l =>
   cases p with
   | nil=>simp [ef] at h
   | cons i r =>
     simp only [ef] at h;simp only [put] at k;cases hl:l[i]? with
     | none=>simp [hl] at h
     | some x =>
       simp only [hl] at h k;split at k
       · rename_i y hy;cases k;exact .inr (.inl ⟨a,z,l,_,i,r,x,y,rfl,rfl,rfl,hl,h,hy,rfl⟩)
       · cases k
 | mp a ks l =>
   cases p with
   | nil=>simp [ef] at h
   | cons i r =>
     simp only [ef] at h;simp only [put] at k;cases hl:l[i]? with
     | none=>simp [hl] at h
     | some x =>
       simp only [hl] at h k;split at k
       · rename_i y hy;cases k;exact .inr (.inr ⟨a,ks,l,_,i,r,x,y,rfl,rfl,rfl,hl,h,hy,rfl⟩)
       · cases k
 | gone=>cases p <;> simp [ef] at h
theorem P6 {α:Type} {o o':Obj α} {p:List Nat} {u v:T α} (h:ef (some o) p=some u) (k:put (some o) p v=some o') :
 cU o.pF p=some u∧c7 o.pF p v=some o'.pF:=by
 rcases Gd h k with ⟨a,t,t',rfl,rfl,h1,h2⟩ | ⟨a,z,l,l',i,r,x,y,rfl,rfl,rfl,hl,h1,h2,rfl⟩ | ⟨a,ks,l,l',i,r,x,y,rfl,rfl,rfl,hl,h1,h2,rfl⟩
 · exact ⟨h1,h2⟩
 · exact ⟨by simp only [Obj.pF,cU,hl,h1],by simp only [Obj.pF,c7,hl,h2]⟩
 · exact ⟨by simp only [Obj.pF,cU,hl,h1],by simp only [Obj.pF,c7,hl,h2]⟩
theorem D1 {o o':Obj An} {p:List Nat} {u v:T An} (h:ef (some o) p=some u) (k:put (some o) p v=some o') :
 ∃ rest,o.blk.Perm (u.blk++rest)∧o'.blk.Perm (v.blk++rest):=by
 obtain ⟨h1,h2⟩:=P6 h k;obtain ⟨rest,h3,h4⟩:=L7 p _ _ _ _ h1 h2;rcases Gd h k with ⟨a,t,t',rfl,rfl,_,_⟩ | ⟨a,z,l,l',i,r,x,y,rfl,rfl,rfl,hl,_,_,rfl⟩ | ⟨a,ks,l,l',i,r,x,y,rfl,rfl,rfl,hl,_,_,rfl⟩
 · simp only [Obj.pF] at h3 h4;refine ⟨a.b.toList++rest,?_,?_⟩
   · refine (h3.append_left a.b.toList).trans ?_;rw [← bf,← bf];exact dq.append_right _
   · refine (h4.append_left a.b.toList).trans ?_;rw [← bf,← bf];exact dq.append_right _
 · exact ⟨rest,h3,h4⟩
 · exact ⟨rest,h3,h4⟩
theorem D25 {n:di} {o o':Obj An} {p:List Nat} {u v:T An} (h:ef (some o) p=some u) (k:put (some o) p v=some o') (ho:o.st n) (hv:v.st n):o'.st n:=by
 obtain ⟨h1,h2⟩:=P6 h k;rcases Gd h k with ⟨a,t,t',rfl,rfl,_,_⟩ | ⟨a,z,l,l',i,r,x,y,rfl,rfl,rfl,hl,_,_,rfl⟩ | ⟨a,ks,l,l',i,r,x,y,rfl,rfl,rfl,hl,_,_,rfl⟩
 · exact ⟨ho.1,Gb p _ _ _ _ h1 h2 ho.2 hv⟩
 · exact Gb (i::r) _ _ _ _ h1 h2 ho hv
 · exact Gb (i::r) _ _ _ _ h1 h2 ho hv
theorem WB {α:Type} {o o':Obj α} {p:List Nat} {u v:T α} (h:ef (some o) p=some u) (k:put (some o) p v=some o') {np:Option (List Nat)} {y:α×Option Nat}
 (hy:fg (some o') np=some y):fg (some o) np=some y∨∃ r,np=some (p++r)∧fH v r=some y:=by
 obtain ⟨h1,h2⟩:=P6 h k;cases np with
 | none =>
   rcases Gd h k with ⟨a,t,t',rfl,rfl,_,_⟩ | ⟨a,z,l,l',i,r,x,y,rfl,rfl,rfl,hl,_,_,rfl⟩ | ⟨a,ks,l,l',i,r,x,y,rfl,rfl,rfl,hl,_,_,rfl⟩
   · exact .inl hy
   · simp [fg] at hy
   · simp [fg] at hy
 | some q =>
   rw [sO] at hy ⊢;rcases Ma p _ _ _ _ h1 h2 q y hy with h3 | ⟨r,rfl,h3⟩
   · exact .inl h3
   · exact .inr ⟨r,rfl,h3⟩
end Go.Mid
namespace Go.Mid
open Go.RowKit
theorem WC (l:List (T An)) (i:Nat) (r:List Nat) (b o:Nat):kT (jY l) (i::r) b o=kT (.agg l) (i::r) b o:=by
 rcases Bp l with e | ⟨vs,rfl,e⟩ <;> rw [e]
 exact P3 vs i r b o
theorem Ge:∀ (p:List Nat) (t u v t':T An),cU t p=some u→c7 t p v=some t'→v.cs=u.cs→∀ q y,cU t' q=some y →
 (∃ i r,q=p++i::r∧cU v (i::r)=some y)∨∃ y',cU t q=some y'∧y'.cs=y.cs∧∀ b o,kT t' q b o=kT t q b o
 | [],t,u,v,t',h,k,e,q,y,hq=>by
   simp only [c7,aa] at k; subst k;simp only [cU,aa] at h; subst h;cases q with
   | nil=>simp only [cU,aa] at hq; subst hq; exact .inr ⟨t,by simp [cU],e.symm,fun b o=>by simp [kT]⟩
   | cons i r=>exact .inl ⟨i,r,rfl,hq⟩
 | i::r,t,u,v,t',h,k,e,q,y,hq=>by
   cases q with
   | nil =>
     simp only [cU,aa] at hq; subst hq;exact .inr ⟨t,by simp [cU],(Av _ _ _ _ _ h k e).symm,fun b o=>by simp [kT]⟩
   | cons j q =>
     rcases Ig h k with ⟨l,x,w,ht,hl,h1,h2,rfl⟩ | ⟨a,z,l,n,x,w,rfl,hl,h1,h2,rfl⟩ | ⟨a,ks,l,x,w,rfl,hl,h1,h2,rfl⟩
     · have hs:cU t (j::q)=cU (.agg l) (j::q):=by
        rcases ht with rfl | ⟨vs,rfl,rfl⟩
        · rfl
        · exact Ie vs j q
       have nF:∀ b o,kT t (j::q) b o=kT (.agg l) (j::q) b o:=by
        intro b o;rcases ht with rfl | ⟨vs,rfl,rfl⟩
        · rfl
        · exact P3 vs j q b o
       have hw:=Av _ _ _ _ _ h1 h2 e;rw [Wv] at hq;simp only [cU] at hq;rw [hs];simp only [cU];cases hj:(l.set i w)[j]? with
       | none=>simp [hj] at hq
       | some y0 =>
         simp only [hj] at hq;have CK:=hj;rw [dD] at hj;split at hj
         · rename_i gL;subst gL;split at hj
           · cases hj;rcases Ge r x u v w h1 h2 e q y hq with ⟨i',r',rfl,h3⟩ | ⟨y',h3,h4,h5⟩
             · exact .inl ⟨i',r',rfl,h3⟩
             · refine .inr ⟨y',by rw [hl]; exact h3,h4,fun b o=>?_⟩
               rw [WC,nF];simp only [kT,CK,hl,Mc hl hw,h5]
           · cases hj
         · refine .inr ⟨y,by rw [hj]; exact hq,rfl,fun b o=>?_⟩
           rw [WC,nF];simp only [kT,CK,hj,Mc hl hw]
     · have hw:=Av _ _ _ _ _ h1 h2 e;simp only [cU] at hq ⊢;cases hj:(l.set i w)[j]? with
       | none=>simp [hj] at hq
       | some y0 =>
         simp only [hj] at hq;have CK:=hj;rw [dD] at hj;split at hj
         · rename_i gL;subst gL;split at hj
           · cases hj;rcases Ge r x u v w h1 h2 e q y hq with ⟨i',r',rfl,h3⟩ | ⟨y',h3,h4,h5⟩
             · exact .inl ⟨i',r',rfl,h3⟩
             · refine .inr ⟨y',by rw [hl]; exact h3,h4,fun b o=>?_⟩
               simp only [kT,CK,hl];cases a.b with
               | none=>rfl
               | some b'=>exact h5 b' _
           · cases hj
         · refine .inr ⟨y,by rw [hj]; exact hq,rfl,fun b o=>?_⟩
           simp only [kT,CK,hj]
     · have hw:=Av _ _ _ _ _ h1 h2 e;simp only [cU] at hq ⊢;cases hj:(l.set i w)[j]? with
       | none=>simp [hj] at hq
       | some y0 =>
         simp only [hj] at hq;have CK:=hj;rw [dD] at hj;split at hj
         · rename_i gL;subst gL;split at hj
           · cases hj;rcases Ge r x u v w h1 h2 e q y hq with ⟨i',r',rfl,h3⟩ | ⟨y',h3,h4,h5⟩
             · exact .inl ⟨i',r',rfl,h3⟩
             · exact .inr ⟨y',by rw [hl]; exact h3,h4,fun b o=>by simp only [kT]⟩
           · cases hj
         · exact .inr ⟨y,by rw [hj]; exact hq,rfl,fun b o=>by simp only [kT]⟩
def mL (E E':dL An):Prop:=∀ id p u,ef (E' id) p=some u→∃ u',ef (E id) p=some u'∧u'.cs=u.cs∧qG (E' id) p=qG (E id) p
theorem mL.refl (E:dL An):mL E E:=fun _ _ u h=>⟨u,h,rfl,rfl⟩
theorem mL.trans {E E' yF:dL An} (h:mL E E') (k:mL E' yF):mL E yF:=fun id p u hu=>by
 obtain ⟨u',h1,h2,h3⟩:=k id p u hu;obtain ⟨u'',h4,h5,h6⟩:=h id p u' h1;exact ⟨u'',h4,h5.trans h2,h3.trans h6⟩
theorem mL.gone (E:dL An) (id:Nat):mL E (cz E id (some .gone)):=by
 intro i p u hu;by_cases e:i=id
 · subst e; simp only [cz,if_true] at hu; cases p <;> simp [ef] at hu
 · simp only [cz,e,if_false] at hu ⊢; exact ⟨u,hu,rfl,trivial⟩
theorem D1D {o o':Obj An} {p:List Nat} {u:T An} {n:Nat} (hs:ef (some o) p=some u) (hp:put (some o) p (.hole n)=some o') (hc:u.cs=n) {q:List Nat} {y:T An} (hq:ef (some o') q=some y) :
 ∃ y',ef (some o) q=some y'∧y'.cs=y.cs∧qG (some o') q=qG (some o) q:=by
 have hole:∀ i r,cU (.hole n:T An) (i::r) ≠ some y:=by intro i r h; simp [cU] at h
 rcases Gd hs hp with ⟨a,t,t',rfl,rfl,h1,h2⟩ | ⟨a,z,l,l',i,r,x,w,rfl,rfl,rfl,hx,h1,h2,rfl⟩ | ⟨a,ks,l,l',i,r,x,w,rfl,rfl,rfl,hx,h1,h2,rfl⟩
 · rw [Bt] at hq;rcases Ge p t u _ t' h1 h2 hc.symm q y hq with ⟨i,r,_,h3⟩ | ⟨y',h3,h4,h5⟩
   · exact absurd h3 (hole i r)
   · refine ⟨y',by rw [Bt]; exact h3,h4,?_⟩
     simp only [qG,h5]
 · cases q with
   | nil=>simp [ef] at hq
   | cons j q =>
     have tV:cU (.vec a z l 0) (i::r)=some u:=by simp only [cU,hx,h1]
     have qZ:c7 (.vec a z l 0) (i::r) (.hole n)=some (.vec a z (l.set i w) 0):=by simp only [c7,hx,h2]
     rcases Ge (i::r) _ u _ _ tV qZ hc.symm (j::q) y (by simpa only [ef,cU] using hq) with ⟨i',r',_,h3⟩ | ⟨y',h3,h4,h5⟩
     · exact absurd h3 (hole i' r')
     · refine ⟨y',by simpa only [ef,cU] using h3,h4,?_⟩
       have:=h5 0 0
       simpa only [qG,kT] using this
 · cases q with
   | nil=>simp [ef] at hq
   | cons j q =>
     have tV:cU (.mp a ks l) (i::r)=some u:=by simp only [cU,hx,h1]
     have qZ:c7 (.mp a ks l) (i::r) (.hole n)=some (.mp a ks (l.set i w)):=by simp only [c7,hx,h2]
     rcases Ge (i::r) _ u _ _ tV qZ hc.symm (j::q) y (by simpa only [ef,cU] using hq) with ⟨i',r',_,h3⟩ | ⟨y',h3,h4,h5⟩
     · exact absurd h3 (hole i' r')
     · exact ⟨y',by simpa only [ef,cU] using h3,h4,by simp only [qG]⟩
theorem mL.hole {E:dL An} {id:Nat} {o o':Obj An} {p:List Nat} {u:T An} {n:Nat} (hE:E id=some o) (hs:ef (some o) p=some u) (hp:put (some o) p (.hole n)=some o') (hc:u.cs=n):mL E (cz E id (some o')):=by
 intro i q y hy;by_cases e:i=id
 · subst e;simp only [cz,if_true] at hy ⊢;rw [hE];exact D1D hs hp hc hy
 · simp only [cz,e,if_false] at hy ⊢; exact ⟨y,hy,rfl,trivial⟩
end Go.Mid
namespace Go.Mid
open Go.RowKit
section
variable {w w':World} {A:Nat→Prop} {E:dL An} {h:cj} {nx nx':di}
theorem nG {α:Type} (f:Nat→α) (k:Nat) (v:α):cz f k v k=v:=by simp [cz]
theorem nO {α:Type} (f:Nat→α) {k i:Nat} (v:α) (h:i ≠ k):cz f k v i=f i:=by simp [cz,h]
theorem MR.j3 (m:MR w A E h nx) {i:Nat} {o:Obj An} (ho:E i=some o) {b:Nat} (hb:b ∈ o.blk):b < w.heap.size∧¬ A b:=m.lt b ⟨i,o,ho,hb⟩
structure nH (w w':World) (A:Nat→Prop) (E:dL An) (nx nx':di) (id:Nat) (o':Obj An):Prop where
 hn:nx.le nx'
 sz:w.heap.size ≤ w'.heap.size
 ch:∀ b,b < w.heap.size→(∀ o,E id=some o→b ∉ o.blk)→w'.heap[b]?=w.heap[b]?
 ns:∀ np y,fg (some o') np=some y→nx y.1.g→fg (E id) np=some y
 lt:∀ b ∈ o'.blk,b < w'.heap.size∧¬ A b
 nd:o'.blk.Nodup
 dj:∀ b ∈ o'.blk,∀ j o,j ≠ id→E j=some o→b ∉ o.blk
 st:o'.st nx'
theorem nH.fr {id:Nat} {o':Obj An} (m:MR w A E h nx) (s:nH w w' A E nx nx' id o'):Fr w w' A A E (cz E id (some o')) nx nx' :=
 ⟨fun _ h=>h,fun b hb=>s.ch b (m.im b hb) (fun o ho lV=>(m.j3 ho lV).2 hb),fun i np an z bW hg=>by
   by_cases e:i=id
   · subst e; rw [nG] at bW; exact s.ns np _ bW hg
   · rw [nO E _ e] at bW; exact bW,s.hn⟩
theorem MR.set (m:MR w A E h nx) {id:Nat} {o':Obj An} (s:nH w w' A E nx nx' id o') (kS:OAt w' A (cz E id (some o')) nx' o') :
 MR w' A (cz E id (some o')) (cz h id (some (o'.mapA An.g))) nx':=by
 have f:=s.fr m;constructor
 · intro i;by_cases e:i=id
   · subst e; simp [cz]
   · simp [cz,e,m.er i]
 · intro i o ho;by_cases e:i=id
   · subst e; rw [nG] at ho; cases ho; exact kS
   · rw [nO E _ e] at ho;refine OAt.frame f (fun x hx=>s.ch x (m.j3 ho hx).1 (fun o1 nf uJ=>m.dj i id o o1 e ho nf x hx uJ)) (m.at_ i o ho)
 · rintro b ⟨i,o,ho,hb⟩;by_cases e:i=id
   · subst e; rw [nG] at ho; cases ho; exact s.lt b hb
   · rw [nO E _ e] at ho
     have:=m.j3 ho hb
     exact ⟨bp this.1 s.sz,this.2⟩
 · intro i o ho;by_cases e:i=id
   · subst e; rw [nG] at ho; cases ho; exact s.nd
   · rw [nO E _ e] at ho; exact m.nd i o ho
 · intro i j o o1 gL ho nf b hb nY;by_cases e:i=id
   · subst e;rw [nG] at ho; cases ho;rw [nO E _ (dw gL)] at nf;exact s.dj b hb j o1 (dw gL) nf nY
   · rw [nO E _ e] at ho;by_cases e':j=id
     · subst e';rw [nG] at nf; cases nf;exact s.dj b nY i o e ho hb
     · rw [nO E _ e'] at nf;exact m.dj i j o o1 gL ho nf b hb nY
 · intro b hb;exact bp (m.im b hb) s.sz
 · intro i o ho;by_cases e:i=id
   · subst e; rw [nG] at ho; cases ho; exact s.st
   · rw [nO E _ e] at ho; exact Obj.j8 s.hn (m.st i o ho)
theorem Aw {id:Nat} {o':Obj An} {b:Nat} (k:jq (cz E id (some o')) b):b ∈ o'.blk∨∃ i o,i ≠ id∧E i=some o∧b ∈ o.blk:=by
 obtain ⟨i,o,ho,hb⟩:=k;by_cases e:i=id
 · subst e; rw [nG] at ho; cases ho; exact .inl hb
 · rw [nO E _ e] at ho; exact .inr ⟨i,o,e,ho,hb⟩
theorem WD {α:Type} (np:Option (List Nat)):fg (some (.gone:Obj α)) np=none:=by
 cases np with
 | none=>rfl
 | some p=>cases p <;> rfl
theorem nH.gone (hn:nx.le nx') (id:Nat):nH w w A E nx nx' id .gone where
 hn:=hn
 sz:=ar _
 ch:=fun _ _ _=>rfl
 ns:=fun np y h=>by rw [WD] at h; cases h
 lt:=fun b hb=>by simp [Obj.blk] at hb
 nd:=by simp [Obj.blk]
 dj:=fun b hb=>by simp [Obj.blk] at hb
 st:=trivial
theorem MR.gone (m:MR w A E h nx) (id:Nat):MR w A (cz E id (some .gone)) (cz h id (some .gone)) nx :=
 m.set (nH.gone (di.le_refl _) id) (by simp only [OAt])
theorem Ax {o:Obj An} {p:List Nat} {u:T An} (hs:ef (some o) p=some u) (k:OAt w A E nx o) :
 ∃ b' o',qG (some o) p=some (b',o')∧TAt w A E nx u b' o'∧b' ∈ o.blk∧(∀ x ∈ u.blk,x ∈ o.blk)∧(o.blk.Nodup→b' ∉ u.blk):=by
 cases o with
 | cell a t =>
   rw [Bt] at hs;simp only [OAt] at k;obtain ⟨b,hb,h1,h2⟩:=k;obtain ⟨b',o',h0,h3,h4,h5,h6⟩:=Br p t u b 0 hs h2;refine ⟨b',o',?_,h3,?_,?_,?_⟩
   · cases p <;> simpa only [qG,hb] using h0
   · simp only [Obj.blk,hb,cg,aS,a6,aE]; exact h4.imp (·.1) id
   · intro x hx; simp only [Obj.blk,ay]; exact .inr (h5 x hx)
   · intro hn; simp only [Obj.blk,hb,cg,aS,a6] at hn; exact h6 hn
 | vec a z l =>
   cases p with
   | nil=>simp [ef] at hs
   | cons i r =>
     simp only [ef] at hs;split at hs
     · rename_i t ht;simp only [OAt,VB] at k;cases hb:a.b with
       | none=>simp only [hb] at k; rw [k.1] at ht; simp at ht
       | some b =>
         simp only [hb] at k;obtain ⟨b',o',h0,h3,h4,h5,h6⟩:=Br r t u b _ hs (k.2.2.2.elem k.2.2.1 ht);refine ⟨b',o',by simpa only [qG,hb,ht] using h0,h3,?_,?_,?_⟩
         · simp only [Obj.blk,hb,cg,aS,a6,aE];rcases h4 with h4 | h4
           · exact .inl h4.1
           · exact .inr (sN ht h4)
         · intro x hx; simp only [Obj.blk,ay]; exact .inr (sN ht (h5 x hx))
         · intro hn;simp only [Obj.blk,hb,cg,aS,a6] at hn;exact h6 (Md hn ht)
     · cases hs
 | mp=>simp only [OAt] at k
 | gone=>cases p <;> simp [ef] at hs
theorem C9G {an:An} {z n b0:Nat} {l:List (T An)} {i:Nat} {t:T An} {r:List Nat} {b o:Nat} (hb:an.b=some b0) (ht:l[i]?=some t):kT (.vec an z l n) (i::r) b o=kT t r b0 (i * z):=by
 simp only [kT,hb,ht]
theorem C4s {o:Obj An} {p:List Nat} {u:T An} {b' o':Nat} (hs:ef (some o) p=some u) (hl:qG (some o) p=some (b',o')) (q:List Nat):qG (some o) (p++q)=kT u q b' o':=by
 cases o with
 | cell a t =>
   rw [Bt] at hs;simp only [qG] at hl ⊢;cases hb:a.b with
   | none=>simp [hb] at hl
   | some b=>simp only [hb] at hl ⊢; exact Ii p q t u b 0 b' o' hs hl
 | vec a z l =>
   cases p with
   | nil=>simp [ef] at hs
   | cons i r =>
     simp only [ef] at hs;simp only [qG,aS] at hl ⊢;split at hs
     · rename_i t ht;cases hb:a.b with
       | none=>simp [hb] at hl
       | some b=>simp only [hb,ht] at hl ⊢; exact Ii r q t u b _ b' o' hs hl
     · cases hs
 | mp a ks l=>cases p <;> simp [qG] at hl
 | gone=>cases p <;> simp [ef] at hs
theorem MR.wa (m:MR w A E h nx) {id:Nat} {ob:Obj An} (hE:E id=some ob) {np:Option (List Nat)} {rp:List Nat} {an:An} {o b:Nat} {t:T An} (hv:Mid.look (some ob) np rp=some (t,an,o)) (hb:an.b=some b) :
 qG (some ob) (ru np rp)=some (b,o):=by
 cases np with
 | none =>
   cases ob <;> simp only [Mid.look,reduceCtorEq] at hv;rename_i a t0;split at hv
   · rename_i u o' hl;simp only [aa,ae] at hv;obtain ⟨rfl,rfl,rfl⟩:=hv
     have:=Mb b rp t0 u 0 o' hl
     simp only [ru,Option.getD_none,a6];cases rp <;> simpa only [qG,hb] using this
   · cases hv
 | some p =>
   simp only [Mid.look] at hv;simp only [ru,Option.getD_some];split at hv
   · rename_i a z l i r iC;split at hv
     · rename_i t0 Ar;split at hv
       · rename_i u o' hl;simp only [aa,ae] at hv;obtain ⟨rfl,rfl,rfl⟩:=hv;have h1:=Mb b r t0 u _ o' hl;rcases LZ iC with ⟨rfl,he⟩ | ⟨n,hs⟩
         · cases he;simpa only [a6,qG,hb,Ar] using h1
         · obtain ⟨b',Bu,h2,_⟩:=Ax hs (m.at_ id ob hE);rw [C4s hs h2,C9G hb Ar];exact h1
       · cases hv
     · cases hv
   · cases hv
theorem OAt.put {o o':Obj An} {p:List Nat} {u v:T An} {A':Nat→Prop} {E':dL An} (f:Fr w w' A A' E E' nx nx') (hs:ef (some o) p=some u) (hp:put (some o) p v=some o') {b1 o1:Nat} (hl:qG (some o) p=some (b1,o1))
 (eY:v.cs=u.cs) (W:Wr w w' b1 o1 u.cs u.blk) (gV:o.blk.Nodup) (hsz:∀ y ∈ o.blk,y < w.heap.size) (k:OAt w A E nx o) (hv:TAt w' A' E' nx' v b1 o1):OAt w' A' E' nx' o':=by
 rcases Gd hs hp with ⟨a,t,t',rfl,rfl,h1,h2⟩ | ⟨a,z,l,l',i,r,x,y,rfl,rfl,rfl,hx,h1,h2,rfl⟩ | ⟨a,ks,l,l',i,r,x,y,rfl,rfl,rfl,hx,h1,h2,rfl⟩
 · simp only [OAt] at k ⊢;obtain ⟨b,hb,k1,k2⟩:=k;have w5:kT t p b 0=some (b1,o1):=by
    cases p <;> simpa only [qG,hb] using hl
   simp only [Obj.blk,hb,cg,aS,a6] at gV hsz;refine ⟨b,hb,?_,Me f p t u v t' b 0 b1 o1 h1 h2 w5 k2 gV hsz eY W hv⟩;rw [Av p t u v t' h1 h2 eY];by_cases e:b=b1
   · subst e; exact W.blk _ k1
   · obtain ⟨b',o',h0,_,h5,h3,h4⟩:=Br p t u b _ h1 k2;refine k1.frame (W.other b (hsz b (by simp)) e fun hb=>(bV.1 gV).1 (h3 b hb))
 · simp only [OAt,VB] at k ⊢;cases hb:a.b with
   | none=>simp only [hb] at k; rw [k.1] at hx; simp at hx
   | some b0 =>
     simp only [hb] at k ⊢;simp only [Obj.blk,hb,cg,aS,a6] at gV hsz;have e:i * z=0 + T.da (l.take i):=by rw [Aq k.2.2.1 (fM (aF.1 hx).1)]; omega
     have pE:kT x r b0 (0 + T.da (l.take i))=some (b1,o1):=by
      rw [← e]; simpa only [qG,hx,hb] using hl
     have hy:=Me f r x u v y b0 _ b1 o1 h1 h2 pE (Bs.1 k.2.2.2 i x hx) (Md gV hx) (fun y hy=>hsz y (by
      rcases aE.1 hy with rfl | hy
      · simp
      · simp [sN hx hy])) eY W hv
     have w6:=Av r x u v y h1 h2 eY;obtain ⟨b',o',h0,_,h5,h3,h4⟩:=Br r x u b0 _ h1 (Bs.1 k.2.2.2 i x hx);refine ⟨?_,by rw [ik]; exact k.2.1,?_,P5 f k.2.2.2 hx gV hsz h1 pE W hy w6⟩
     · by_cases kC:b0=b1
       · subst kC; exact W.blk _ k.1
       · exact k.1.frame (W.other b0 (hsz b0 (by simp)) kC fun hb=>(bV.1 gV).1 (sN hx (h3 b0 hb)))
     · intro q hq;rcases bz hq with hq | rfl
       · exact k.2.2.1 q hq
       · rw [w6]; exact k.2.2.1 x (bG hx)
 · simp only [OAt] at k
structure oQ (w w':World) (A:Nat→Prop) (E:dL An) (nx nx':di) (id:Nat) (o:Obj An) (p:List Nat) (u v:T An) (b1 o1:Nat):Prop where
 hn:nx.le nx'
 sz:w.heap.size ≤ w'.heap.size
 hE:E id=some o
 hs:ef (some o) p=some u
 hl:qG (some o) p=some (b1,o1)
 cs:v.cs=u.cs
 W:Wr w w' b1 o1 u.cs u.blk
 ns:∀ r y,fH v r=some y→nx y.1.g→fH u r=some y
 lt:∀ b ∈ v.blk,b < w'.heap.size∧¬ A b
 nd:v.blk.Nodup
 dj:∀ b ∈ v.blk,b ∈ u.blk∨¬ jq E b
 st:v.st nx'
theorem Mf {α:Type} {o:Obj α} {u:T α} {p r:List Nat} (h:ef (some o) p=some u):fg (some o) (some (p++r))=fH u r:=by
 rw [sO]
 have:cU o.pF p=some u:=by
  cases o with
  | cell a t=>rw [Bt] at h; exact h
  | vec a z l =>
    cases p with
    | nil=>simp [ef] at h
    | cons i r=>simpa only [ef,cU,Obj.pF] using h
  | mp a ks l =>
    cases p with
    | nil=>simp [ef] at h
    | cons i r=>simpa only [ef,cU,Obj.pF] using h
  | gone=>cases p <;> simp [ef] at h
 simp only [fH,CG,this,ai]
theorem oQ.tW {id:Nat} {o o':Obj An} {p:List Nat} {u v:T An} {b1 o1:Nat} (m:MR w A E h nx) (k:oQ w w' A E nx nx' id o p u v b1 o1) (hp:put (some o) p v=some o') :
 nH w w' A E nx nx' id o':=by
 obtain ⟨rest,h1,h2⟩:=D1 k.hs hp;have gV:=m.nd id o k.hE;obtain ⟨b',Bu,h3,h4,h5,h6,h7⟩:=Ax k.hs (m.at_ id o k.hE);rw [k.hl] at h3; cases h3;have rU:=h1.nodup_iff.1 gV;have nZ:∀ b ∈ rest,b ∈ o.blk:=fun b hb=>h1.mem_iff.2 (by simp [hb])
 have nn:∀ b ∈ o'.blk,b ∈ v.blk∨b ∈ rest:=fun b hb=>by simpa using h2.mem_iff.1 hb
 constructor
 · exact k.hn
 · exact k.sz
 · intro b hb lV;exact k.W.other b hb (fun e=>lV o k.hE (e ▸ h5)) (fun hbu=>lV o k.hE (h6 b hbu))
 · intro np y hy hg;rw [k.hE];rcases WB k.hs hp hy with h8 | ⟨r,rfl,h8⟩
   · exact h8
   · rw [Mf k.hs]; exact k.ns r y h8 hg
 · intro b hb;rcases nn b hb with h8 | h8
   · exact k.lt b h8
   · have:=m.j3 k.hE (nZ b h8)
     exact ⟨bp this.1 k.sz,this.2⟩
 · refine h2.nodup_iff.2 (aT.2 ⟨k.nd,(aT.1 rU).2.1,?_⟩);rintro b hb _ jr rfl;rcases k.dj b hb with h8 | h8
   · exact (aT.1 rU).2.2 b h8 b jr rfl
   · exact h8 ⟨id,o,k.hE,nZ b jr⟩
 · intro b hb j oj hj Bv Gf;rcases nn b hb with h8 | h8
   · rcases k.dj b h8 with h9 | h9
     · exact m.dj id j o oj (dw hj) k.hE Bv b (h6 b h9) Gf
     · exact h9 ⟨j,oj,Bv,Gf⟩
   · exact m.dj id j o oj (dw hj) k.hE Bv b (nZ b h8) Gf
 · exact D25 k.hs hp (Obj.j8 k.hn (m.st id o k.hE)) k.st
theorem MR.put {id:Nat} {o o':Obj An} {p:List Nat} {u v:T An} {b1 o1:Nat} (m:MR w A E h nx) (k:oQ w w' A E nx nx' id o p u v b1 o1) (hp:put (some o) p v=some o')
 (hv:Fr w w' A A E (cz E id (some o')) nx nx'→TAt w' A (cz E id (some o')) nx' v b1 o1) :
 MR w' A (cz E id (some o')) (cz h id (some (o'.mapA An.g))) nx':=by
 have s:=k.tW m hp;have f:=s.fr m;exact m.set s (OAt.put f k.hs hp k.hl k.cs k.W (m.nd id o k.hE) (fun y hy=>(m.j3 k.hE hy).1) (m.at_ id o k.hE) (hv f))
theorem oQ.owned {id:Nat} {o o':Obj An} {p:List Nat} {u v:T An} {b1 o1:Nat} (k:oQ w w' A E nx nx' id o p u v b1 o1) (m:MR w A E h nx) (hp:Mid.put (some o) p v=some o') {b:Nat} (hb:jq (cz E id (some o')) b) :
 b ∈ v.blk∨(jq E b∧b ∉ u.blk):=by
 obtain ⟨rest,h1,h2⟩:=D1 k.hs hp;have rU:=h1.nodup_iff.1 (m.nd id o k.hE);rcases Aw hb with hb | ⟨i,oi,hi,rV,hb⟩
 · rcases ay.1 (h2.mem_iff.1 hb) with h3 | h3
   · exact .inl h3
   · exact .inr ⟨⟨id,o,k.hE,h1.mem_iff.2 (by simp [h3])⟩,fun hu=>(aT.1 rU).2.2 b hu b h3 rfl⟩
 · exact .inr ⟨⟨i,oi,rV,hb⟩,fun hu=>m.dj id i o oi (dw hi) k.hE rV b (h1.mem_iff.2 (by simp [hu])) hb⟩
end
end Go.Mid
namespace Go.Mid
open Go.RowKit
section
variable (w:World) (A:Nat→Prop) (E:dL An) (nx:di)
mutual
def TC:T An→List Value→Prop
 | .p v,cs=>dR w A v cs
 | .m v,cs=>v.cs=1∧v.isAgg=false∧∃ val,bQ w A E nx v val∧cs=[val]
 | .agg l,cs=>j4 l cs
 | .vec an z l n,cs=>∃ a cap,cs=[.slice a n cap]∧n ≤ l.length∧kR an z 0 n a cap∧VB w A E nx an z l
 | .mp ..,_=>False
 | .hole n,cs=>cs.length=n
def j4:List (T An)→List Value→Prop
 | [],cs=>cs=[]
 | t::r,cs=>∃ c d,cs=c++d∧TC t c∧j4 r d
end
end
section
variable {w w':World} {A A':Nat→Prop} {E E':dL An} {nx nx':di}
mutual
theorem TC.len:∀ {t:T An} {cs:List Value},TC w A E nx t cs→cs.length=t.cs
 | .p v,cs,h=>by simp only [TC] at h; exact h.len
 | .m v,cs,h=>by simp only [TC] at h; obtain ⟨h1,_,val,_,rfl⟩:=h; simp [T.cs,h1]
 | .agg l,cs,h=>by simp only [TC] at h; exact j4.len h
 | .vec ..,cs,h=>by simp only [TC] at h; obtain ⟨a,cap,rfl,_⟩:=h; rfl
 | .mp ..,cs,h=>by simp only [TC] at h
 | .hole n,cs,h=>by simp only [TC] at h; exact h
theorem j4.len:∀ {l:List (T An)} {cs:List Value},j4 w A E nx l cs→cs.length=T.da l
 | [],cs,h=>by simp only [j4] at h; subst h; rfl
 | t::r,cs,h=>by
   simp only [j4] at h;obtain ⟨c,d,rfl,h1,h2⟩:=h;rw [aQ,TC.len h1,j4.len h2]; rfl
end
mutual
theorem TC.at_:∀ {t:T An} {cs:List Value} {b o:Nat},TC w A E nx t cs→Row w b o cs→TAt w A E nx t b o
 | .p v,cs,b,o,h,k=>by simp only [TC] at h; simp only [TAt]; exact ⟨cs,h,k⟩
 | .m v,cs,b,o,h,k=>by simp only [TC] at h; obtain ⟨h1,h2,val,h3,rfl⟩:=h; simp only [TAt]; exact ⟨h1,h2,val,h3,k⟩
 | .agg l,cs,b,o,h,k=>by simp only [TC] at h; simp only [TAt]; exact j4.at_ h k
 | .vec an z l n,cs,b,o,h,k=>by
   simp only [TC,VB] at h; obtain ⟨a,cap,rfl,h1,h2,h3⟩:=h; simp only [TAt]; exact ⟨a,cap,k,h1,h2,h3⟩
 | .mp ..,cs,b,o,h,_=>by simp only [TC] at h
 | .hole n,cs,b,o,h,k=>by
   simp only [TC] at h;simp only [TAt];intro j hj
   have:j < cs.length:=by omega
   exact ⟨cs[j],k j _ (by simp [this])⟩
theorem j4.at_:∀ {l:List (T An)} {cs:List Value} {b o:Nat},j4 w A E nx l cs→Row w b o cs→cD w A E nx l b o
 | [],cs,b,o,_,_=>by simp only [cD]
 | t::r,cs,b,o,h,k=>by
   simp only [j4] at h;obtain ⟨c,d,rfl,h1,h2⟩:=h;have k:=Row.append.1 k;simp only [cD];refine ⟨TC.at_ h1 k.1,?_⟩
   have:=j4.at_ h2 k.2
   rwa [h1.len] at this
end
theorem VB.frame (f:Fr w w' A A' E E' nx nx') {an:An} {z:Nat} {l:List (T An)} (hk:∀ x ∈ an.b.toList++T.b6 l,w'.heap[x]?=w.heap[x]?) (h:VB w A E nx an z l):VB w' A' E' nx' an z l:=by
 simp only [VB] at h ⊢;cases hb:an.b with
 | none=>simpa only [hb] using h
 | some b =>
   simp only [hb] at h ⊢;simp only [hb,cg,aS,a6,aE] at hk;exact ⟨h.1.frame (hk b (.inl rfl)),h.2.1,h.2.2.1,cD.frame f (hk b (.inl rfl)) (fun x hx=>hk x (.inr hx)) h.2.2.2⟩
mutual
theorem TC.frame (f:Fr w w' A A' E E' nx nx'):∀ {t:T An} {cs:List Value},(∀ x ∈ t.blk,w'.heap[x]?=w.heap[x]?)→TC w A E nx t cs→TC w' A' E' nx' t cs
 | .p v,cs,_,h=>by simp only [TC] at h ⊢; exact h.frame f.hA f.hw
 | .m v,cs,_,h=>by simp only [TC] at h ⊢; obtain ⟨h1,h2,val,h3,h4⟩:=h; exact ⟨h1,h2,val,h3.frame f,h4⟩
 | .agg l,cs,hk,h=>by simp only [TC] at h ⊢; exact j4.frame f hk h
 | .vec an z l n,cs,hk,h=>by
   simp only [TC] at h ⊢;obtain ⟨a,cap,h1,h2,h3,h4⟩:=h;exact ⟨a,cap,h1,h2,h3,VB.frame f hk h4⟩
 | .mp ..,cs,_,h=>by simp only [TC] at h
 | .hole n,cs,_,h=>by simp only [TC] at h ⊢; exact h
theorem j4.frame (f:Fr w w' A A' E E' nx nx'):∀ {l:List (T An)} {cs:List Value},(∀ x ∈ T.b6 l,w'.heap[x]?=w.heap[x]?)→j4 w A E nx l cs→j4 w' A' E' nx' l cs
 | [],cs,_,h=>by simp only [j4] at h ⊢; exact h
 | t::r,cs,hk,h=>by
   simp only [j4] at h ⊢;simp only [T.b6,ay] at hk;obtain ⟨c,d,h1,h2,h3⟩:=h;exact ⟨c,d,h1,TC.frame f (fun x hx=>hk x (.inl hx)) h2,j4.frame f (fun x hx=>hk x (.inr hx)) h3⟩
end
theorem tX {vs:List PV} {cs:List Value}:j4 w A E nx (vs.map .p) cs↔cK w A vs cs:=by
 induction vs generalizing cs with
 | nil=>simp only [cl,j4,cK]
 | cons x r ih=>simp only [aD,j4,cK,TC,ih]
theorem WE {l:List (T An)} {cs:List Value}:TC w A E nx (jY l) cs↔j4 w A E nx l cs:=by
 rcases Bp l with e | ⟨vs,rfl,e⟩ <;> rw [e]
 · simp only [TC]
 · simp only [TC,dR]; exact tX.symm
def mV (g:Nat) (an:An):An:={ an with g:=g }
mutual
theorem P7 (g:Nat):∀ {t:T An} {b o:Nat},TAt w A E nx t b o→TAt w A E nx (t.mapA (mV g)) b o
 | .p v,b,o,h=>h
 | .m v,b,o,h=>h
 | .agg l,b,o,h=>by simp only [TAt,T.mapA] at h ⊢; exact Mg g h
 | .vec an z l n,b,o,h=>by
   simp only [TAt,T.mapA] at h ⊢;obtain ⟨a,cap,h1,h2,h3,h4⟩:=h;refine ⟨a,cap,h1,by rw [T.mapAs_eq,aB]; exact h2,h3,?_⟩
   cases hb:an.b with
   | none=>simp only [mV,hb] at h4 ⊢; exact ⟨by rw [h4.1]; rfl,h4.2⟩
   | some b' =>
     simp only [mV,hb] at h4 ⊢;refine ⟨h4.1,by rw [T.mapAs_eq,aB]; exact h4.2.1,?_,Mg g h4.2.2.2⟩
     intro t ht;rw [T.mapAs_eq] at ht;obtain ⟨u,hu,rfl⟩:=bj.1 ht;rw [T.j9]; exact h4.2.2.1 u hu
 | .mp ..,b,o,h=>by simp only [TAt] at h
 | .hole n,b,o,h=>h
theorem Mg (g:Nat):∀ {l:List (T An)} {b o:Nat},cD w A E nx l b o→cD w A E nx (T.cI (mV g) l) b o
 | [],b,o,h=>by simp only [cD,T.cI]
 | t::r,b,o,h=>by
   simp only [cD,T.cI] at h ⊢;rw [T.j9];exact ⟨P7 g h.1,Mg g h.2⟩
end
theorem WG (g:Nat) {an:An} {z:Nat} {l:List (T An)} (h:VB w A E nx an z l):VB w A E nx (mV g an) z (T.cI (mV g) l):=by
 simp only [VB] at h ⊢;cases hb:an.b with
 | none=>simp only [mV,hb] at h ⊢; exact ⟨by rw [h.1]; rfl,h.2⟩
 | some b' =>
   simp only [mV,hb] at h ⊢;refine ⟨h.1,by rw [T.mapAs_eq,aB]; exact h.2.1,?_,Mg g h.2.2.2⟩
   intro t ht;rw [T.mapAs_eq] at ht;obtain ⟨u,hu,rfl⟩:=bj.1 ht;rw [T.j9]; exact h.2.2.1 u hu
end
mutual
theorem WH (g:Nat):∀ (t:T An),(t.mapA (mV g)).blk=t.blk
 | .p _=>rfl
 | .m _=>rfl
 | .agg l=>yN g l
 | .vec an _ l _=>by simp only [T.mapA,T.blk,yN g l]; rfl
 | .mp an _ l=>by simp only [T.mapA,T.blk,yN g l]; rfl
 | .hole _=>rfl
theorem yN (g:Nat):∀ (l:List (T An)),T.b6 (T.cI (mV g) l)=T.b6 l
 | []=>rfl
 | t::r=>by simp only [T.cI,T.b6,WH g t,yN g r]
end
mutual
theorem WI (n:di) (g:Nat):∀ (t:T An),(t.mapA (mV g)).st (n.add g)
 | .p _=>trivial
 | .m _=>trivial
 | .agg l=>CL n g l
 | .vec an _ l _=>⟨n.iG g,CL n g l⟩
 | .mp an _ l=>⟨n.iG g,CL n g l⟩
 | .hole _=>trivial
theorem CL (n:di) (g:Nat):∀ (l:List (T An)),T.j7 (n.add g) (T.cI (mV g) l)
 | []=>trivial
 | t::r=>⟨WI n g t,CL n g r⟩
end
mutual
theorem WJ (g:Nat):∀ (t:T An),(t.mapA (mV g)).mapA An.g=Ac g (t.mapA An.g)
 | .p _=>rfl
 | .m _=>rfl
 | .agg l=>by have:=CM g l; simp only [nM] at this; simp only [T.mapA,Ac,iS,this]
 | .vec an _ l _=>by have:=CM g l; simp only [nM] at this; simp only [T.mapA,Ac,iS,this]; rfl
 | .mp an _ l=>by have:=CM g l; simp only [nM] at this; simp only [T.mapA,Ac,iS,this]; rfl
 | .hole _=>rfl
theorem CM (g:Nat):∀ (l:List (T An)),T.cI An.g (T.cI (mV g) l)=nM g (T.cI An.g l)
 | []=>rfl
 | t::r=>by
   have h1:=WJ g t;have h2:=CM g r;simp only [Ac] at h1;simp only [nM] at h2;simp only [T.cI,nM,jw,h1,h2]
end
theorem WK {α β:Type} (f:α→β) (t:T α) (q:List Nat):fH (t.mapA f) q=(fH t q).map fun y=>(f y.1,y.2):=by
 simp only [fH,CF];cases cU t q with
 | none=>rfl
 | some u=>cases u <;> rfl
theorem Il {g:Nat} {t:T An} {q:List Nat} {y:An×Option Nat} (h:fH (t.mapA (mV g)) q=some y):y.1.g=g:=by
 rw [WK] at h;cases hq:fH t q with
 | none=>simp [hq] at h
 | some x=>simp [hq] at h; rw [← h]; rfl
section
variable {w:World} {A:Nat→Prop} {E:dL An} {nx:di}
mutual
theorem dR.ka:∀ {v:PV} {cs:List Value},dR w A v cs→∀ c ∈ cs,c.oneCell'=true
 | .int ..,cs,h,c,hc=>by simp only [dR] at h; subst h; simp at hc; subst hc; rfl
 | .bool ..,cs,h,c,hc=>by simp only [dR] at h; subst h; simp at hc; subst hc; rfl
 | .str ..,cs,h,c,hc=>by simp only [dR] at h; subst h; simp at hc; subst hc; rfl
 | .agg l,cs,h,c,hc=>by simp only [dR] at h; exact cK.ka h c hc
 | .sl ..,cs,h,c,hc=>by simp only [dR] at h; obtain ⟨_,_,rfl,_⟩:=h; simp at hc; subst hc; rfl
 | .ref ..,cs,h,c,hc=>by simp only [dR] at h; obtain ⟨_,_,rfl,_⟩:=h; simp at hc; subst hc; rfl
 | .fn ..,cs,h,c,hc=>by simp only [dR] at h; obtain ⟨_,rfl,_⟩:=h; simp at hc; subst hc; unfold vf; split <;> rfl
 | .mp ..,cs,h,c,hc=>by
   simp only [dR] at h;rcases h with ⟨rfl,_⟩ | ⟨_,_,_,rfl,_⟩ <;> (simp at hc; subst hc; rfl)
 | .eQ,cs,h,c,hc=>by simp only [dR] at h; subst h; simp at hc; subst hc; rfl
 | .ff,cs,h,c,hc=>by simp only [dR] at h; subst h; simp at hc; subst hc; rfl
theorem cK.ka:∀ {l:List PV} {cs:List Value},cK w A l cs→∀ c ∈ cs,c.oneCell'=true
 | [],cs,h,c,hc=>by simp only [cK] at h; subst h; simp at hc
 | x::r,cs,h,c,hc=>by
   simp only [cK] at h;obtain ⟨a,d,rfl,h1,h2⟩:=h;rcases ay.1 hc with hc | hc
   · exact dR.ka h1 c hc
   · exact cK.ka h2 c hc
end
end
def js (E E':dL An):Prop:=∀ id np y,fg (E' id) np=some y→fg (E id) np=some y
theorem js.refl (E:dL An):js E E:=fun _ _ _ h=>h
theorem js.trans {E E' yF:dL An} (h:js E E') (k:js E' yF):js E yF:=fun i np y hy=>h i np y (k i np y hy)
theorem js.D2 {E E':dL An} (h:js E E') (n:di):oO n E E':=fun i np an z hh _=>h i np _ hh
theorem js.fr {w:World} {A:Nat→Prop} {E E':dL An} (h:js E E') {n m:di} (hn:n.le m):Fr w w A A E E' n m:=⟨fun _ h=>h,fun _ _=>rfl,h.D2 n,hn⟩
structure o4 (w:World) (A:Nat→Prop) (E:dL An) (nx:di) (γ:Nat) (cs:List Value) (t:T Nat) (h1:cj) (E1:dL An) (tA:T An):Prop where
 er:tA.mapA An.g=t
 mr:MR w A E1 h1 nx
 tc:TC w A E1 nx tA cs
 nd:tA.blk.Nodup
 own:∀ b ∈ tA.blk,jq E b∧¬ jq E1 b
 sub:∀ b,jq E1 b→jq E b
 st:tA.st (nx.add γ)
 ns:js E E1
 new:∀ q y,fH tA q=some y→y.1.g=γ
 one:∀ c ∈ cs,c.oneCell'=true
 ls:mL E E1
structure lW (w:World) (A:Nat→Prop) (E:dL An) (nx:di) (γ:Nat) (cs:List Value) (l:List (T Nat)) (h1:cj) (E1:dL An) (lA:List (T An)):Prop where
 er:lA.map (T.mapA An.g)=l
 mr:MR w A E1 h1 nx
 tc:j4 w A E1 nx lA cs
 nd:(T.b6 lA).Nodup
 own:∀ b ∈ T.b6 lA,jq E b∧¬ jq E1 b
 sub:∀ b,jq E1 b→jq E b
 st:T.j7 (nx.add γ) lA
 ns:js E E1
 new:∀ (i:Nat) (t:T An),lA[i]?=some t→∀ q y,fH t q=some y→y.1.g=γ
 one:∀ c ∈ cs,c.oneCell'=true
 ls:mL E E1
section
variable {w:World} {A:Nat→Prop} {nx:di} {γ:Nat}
theorem o4.idle {E:dL An} {h:cj} {cs:List Value} {t:T Nat} {tA:T An} (m:MR w A E h nx) (er:tA.mapA An.g=t) (tc:TC w A E nx tA cs) (hb:tA.blk=[]) (hst:tA.st (nx.add γ)) (gV:∀ q y,fH tA q=some y→y.1.g=γ)
 (one:∀ c ∈ cs,c.oneCell'=true):o4 w A E nx γ cs t h E tA :=
 ⟨er,m,tc,by simp [hb],by simp [hb],fun _ h=>h,hst,js.refl E,gV,one,mL.refl E⟩
theorem Wr.refl (w:World) (b o n:Nat) (X:List Nat):Wr w w b o n X:=⟨fun _ _ _ _=>rfl,fun _ h=>h,fun _ _=>rfl⟩
theorem js.gone (E:dL An) (id:Nat):js E (cz E id (some .gone)):=by
 intro i np y hy;by_cases e:i=id
 · subst e; rw [nG,WD] at hy; cases hy
 · rwa [nO E _ e] at hy
theorem js.hole {E:dL An} {id:Nat} {o o':Obj An} {p:List Nat} {u:T An} {n:Nat} (hE:E id=some o) (hs:ef (some o) p=some u) (hp:put (some o) p (.hole n)=some o'):js E (cz E id (some o')):=by
 intro i np y hy;by_cases e:i=id
 · subst e;rw [nG] at hy;rw [hE];rcases WB hs hp hy with h | ⟨r,_,h⟩
   · exact h
   · cases r <;> simp [fH,cU] at h
 · rwa [nO E _ e] at hy
theorem MR.wc {E:dL An} {h:cj} (m:MR w A E h nx) {id:Nat} {path:List Nat} {g z n:Nat} {l:List (T Nat)} {oh:Obj Nat} (hs:ef (h id) path=some (.vec g z l n)) (hp:Mid.put (h id) path (.hole 1)=some oh) :
 ∃ E1 an l',ef (E id) path=some (.vec an z l' n)∧fg (E id) (some path)=some (an,some z)∧an.g=g∧l=l'.map (T.mapA An.g)∧MR w A E1 (cz h id (some oh)) nx∧VB w A E nx an z l' ∧
  (an.b.toList++T.b6 l').Nodup∧(∀ b ∈ an.b.toList++T.b6 l',jq E b∧¬ jq E1 b)∧(∀ b,jq E1 b→jq E b)∧js E E1∧mL E E1:=by
 obtain ⟨t',ht,he⟩:=m.sub hs;cases t' <;> simp only [T.mapA,reduceCtorEq,T.vec.injEq] at he;rename_i an z' l' n';obtain ⟨rfl,rfl,rfl,rfl⟩:=he;cases hE:E id with
 | none=>rw [hE] at ht; cases path <;> simp [ef] at ht
 | some o =>
   rw [hE] at ht;rw [m.er id,hE,show (T.hole 1:T Nat)=(T.hole 1:T An).mapA An.g from rfl,F9] at hp;cases ig:Mid.put (some o) path (T.hole 1:T An) with
   | none=>simp [ig] at hp
   | some o' =>
     simp only [ig,ak,aa] at hp;obtain ⟨b1,o1,h1,h2,h3,h4,h5⟩:=Ax ht (m.at_ id o hE);have vl:oQ w w A E nx nx id o path (.vec an z l' n) (.hole 1) b1 o1:=by
      refine ⟨di.le_refl _,ar _,hE,ht,h1,rfl,Wr.refl _ _ _ _ _,?_,by simp [T.blk],by simp [T.blk],by simp [T.blk],trivial⟩
      intro r y hy;cases r <;> simp [fH,cU] at hy
     have xN:=m.put vl ig (fun f=>by
      simp only [TAt] at h2 ⊢;obtain ⟨a,cap,k1,_⟩:=h2;intro j hj
      have:j=0:=by omega
      subst this;exact ⟨_,k1 0 _ rfl⟩)
     have bW:fg (some o) (some path)=some (an,some z):=by
      have:=Mf (r:=[]) ht
      rw [bD] at this;exact this
     obtain ⟨rest,p1,_⟩:=D1 ht ig;have gV:=(aT.1 (p1.nodup_iff.1 (m.nd id o hE))).1;refine ⟨cz E id (some o'),an,l',ht,bW,rfl,T.mapAs_eq _ _,by rw [hp] at xN; exact xN,?_,gV,?_,?_,js.hole hE ht ig,mL.hole hE ht ig rfl⟩
     · simp only [TAt] at h2;obtain ⟨a,cap,_,_,_,k⟩:=h2;simp only [VB]; exact k
     · intro b hb;refine ⟨⟨id,o,hE,h4 b hb⟩,fun ho=>?_⟩
       rcases vl.owned m ig ho with k | k
       · simp [T.blk] at k
       · exact k.2 hb
     · intro b ho;rcases vl.owned m ig ho with k | k
       · simp [T.blk] at k
       · exact k.1
theorem MR.tY {E:dL An} {h:cj} (m:MR w A E h nx) {id:Nat} {g z:Nat} {l:List (T Nat)} (hs:h id=some (.vec g z l)) :
 ∃ an l',E id=some (.vec an z l')∧an.g=g∧l=l'.map (T.mapA An.g)∧MR w A (cz E id (some .gone)) (cz h id (some .gone)) nx∧VB w A E nx an z l' ∧
  (an.b.toList++T.b6 l').Nodup∧(∀ b ∈ an.b.toList++T.b6 l',jq E b∧¬ jq (cz E id (some .gone)) b)∧(∀ b,jq (cz E id (some .gone)) b→jq E b):=by
 rw [m.er id] at hs;cases hE:E id with
 | none=>simp [hE] at hs
 | some o =>
   cases o <;> simp only [hE,ak,Obj.mapA,reduceCtorEq,aa,Obj.vec.injEq] at hs;rename_i an z' l';obtain ⟨rfl,rfl,rfl⟩:=hs;have iL:∀ b,jq (cz E id (some .gone)) b→∃ i o,i ≠ id∧E i=some o∧b ∈ o.blk:=fun b ho=>(Aw ho).resolve_left (by simp [Obj.blk])
   refine ⟨an,l',rfl,rfl,T.mapAs_eq _ _,m.gone id,?_,m.nd id _ hE,?_,?_⟩
   · have:=m.at_ id _ hE; simpa only [OAt] using this
   · intro b hb;refine ⟨⟨id,_,hE,hb⟩,fun ho=>?_⟩
     obtain ⟨i,o,hi,ho,lV⟩:=iL b ho;exact m.dj id i _ o (dw hi) hE ho b hb lV
   · intro b ho;obtain ⟨i,o,hi,ho,lV⟩:=iL b ho;exact ⟨i,o,ho,lV⟩
theorem o4.vec {E E1:dL An} {h1:cj} {an:An} {z len cap:Nat} {a:Option Addr} {l':List (T An)} (hm:MR w A E1 h1 nx) (hv:VB w A E nx an z l') (gV:(an.b.toList++T.b6 l').Nodup)
 (iL:∀ b ∈ an.b.toList++T.b6 l',jq E b∧¬ jq E1 b) (dJ:∀ b,jq E1 b→jq E b) (vm:js E E1) (Gg:mL E E1) (hlen:len ≤ l'.length) (hh:kR an z 0 len a cap) :
 o4 w A E nx γ [.slice a len cap] (.vec γ z (nM γ (l'.map (T.mapA An.g))) len) h1 E1 (.vec (mV γ an) z (T.cI (mV γ) l') len) where
 er:=by
  have:=CM γ l'
  rw [T.mapAs_eq An.g l'] at this;simp only [T.mapA,this]; rfl
 mr:=hm
 tc:=by
  simp only [TC];exact ⟨a,cap,rfl,by rw [T.mapAs_eq,aB]; exact hlen,hh,WG γ (VB.frame (js.fr vm (di.le_refl nx)) (fun _ _=>rfl) hv)⟩
 nd:=by simp only [T.blk,yN]; exact gV
 own:=by simp only [T.blk,yN]; exact iL
 sub:=dJ
 st:=⟨nx.iG γ,CL nx γ l'⟩
 ns:=vm
 new:=by
  intro q y hy;exact Il (t:=.vec an z l' len) hy
 one:=by intro c hc; simp at hc; subst hc; rfl
 ls:=Gg
end
end Go.Mid
namespace Go.Mid
open Go.RowKit
def cellsOf (vs:List Value):List Value:=vs.flatMap fun v=>v.cells.toList
section
variable {w:World} {A:Nat→Prop} {nx:di} {γ:Nat}
theorem dV.vs {E:dL An}:∀ {l:List MV} {cs:List Value},dV w A E nx l cs→∃ vs,c8 w A E nx l vs∧cs=cellsOf vs
 | [],cs,h=>by simp only [dV] at h; subst h; exact ⟨[],by simp only [c8],rfl⟩
 | x::r,cs,h=>by
   simp only [dV] at h;obtain ⟨v,d,rfl,h1,h2,h3,h4⟩:=h;obtain ⟨vs,h5,rfl⟩:=dV.vs h4;exact ⟨v::vs,by simp only [c8]; exact ⟨v,vs,rfl,h3,h5⟩,by simp [cellsOf]⟩
theorem lW.agg {E:dL An} {cs:List Value} {ts:List (T Nat)} {h1:cj} {E1:dL An} {lA:List (T An)} (k:lW w A E nx γ cs ts h1 E1 lA):o4 w A E nx γ cs (jY ts) h1 E1 (jY lA) where
 er:=by rw [L5,k.er]
 mr:=k.mr
 tc:=WE.2 k.tc
 nd:=by rw [L6]; exact k.nd
 own:=by rw [L6]; exact k.own
 sub:=k.sub
 st:=PY k.st
 ns:=k.ns
 new:=by
  intro q y hy;cases q with
  | nil=>rw [P1] at hy; cases hy
  | cons i r =>
    rw [PZ] at hy;cases hl:lA[i]? with
    | none=>simp [hl] at hy
    | some t=>simp only [hl,ai] at hy; exact k.new i t hl r y hy
 one:=k.one
 ls:=k.ls
theorem o4.cons {E:dL An} {cs ds:List Value} {t:T Nat} {ts:List (T Nat)} {h1 h2:cj} {E1 E2:dL An} {tA:T An} {lA:List (T An)} (k:o4 w A E nx γ cs t h1 E1 tA) (k':lW w A E1 nx γ ds ts h2 E2 lA) :
 lW w A E nx γ (cs++ds) (t::ts) h2 E2 (tA::lA) where
 er:=by simp [k.er,k'.er]
 mr:=k'.mr
 tc:=by
  simp only [j4];exact ⟨cs,ds,rfl,k.tc.frame (k'.ns.fr (di.le_refl _)) (fun _ _=>rfl),k'.tc⟩
 nd:=by
  simp only [T.b6];refine aT.2 ⟨k.nd,k'.nd,?_⟩;rintro b hb _ jr rfl;exact (k.own b hb).2 (k'.own b jr).1
 own:=by
  intro b hb;simp only [T.b6,ay] at hb;rcases hb with hb | hb
  · exact ⟨(k.own b hb).1,fun ho=>(k.own b hb).2 (k'.sub b ho)⟩
  · exact ⟨k.sub b (k'.own b hb).1,(k'.own b hb).2⟩
 sub:=fun b hb=>k.sub b (k'.sub b hb)
 st:=⟨k.st,k'.st⟩
 ns:=k.ns.trans k'.ns
 new:=by
  intro i t ht q y hy;cases i with
  | zero=>simp at ht; subst ht; exact k.new q y hy
  | succ i=>simp at ht; exact k'.new i t ht q y hy
 one:=by
  intro c hc;rcases ay.1 hc with hc | hc
  · exact k.one c hc
  · exact k'.one c hc
 ls:=k.ls.trans k'.ls
mutual
theorem P8:∀ (x:MV) {E:dL An} {h:cj} {t:T Nat} {h1:cj} {val:Value},oW γ h x=some (t,h1)→MR w A E h nx→bQ w A E nx x val→∃ E1 tA,o4 w A E nx γ val.cells.toList t h1 E1 tA
 | .p v,E,h,t,h1,val,hi,hm,hv=>by
   simp only [oW,aa,ae] at hi;obtain ⟨rfl,rfl⟩:=hi;simp only [bQ,oZ] at hv;obtain ⟨c,hc,rfl⟩:=hv;rw [hc.mU];refine ⟨E,.p v,o4.idle hm rfl (by simp only [TC]; exact hc) rfl trivial ?_ hc.ka⟩
   intro q y hy;simp only [fH] at hy;split at hy <;> rename_i heq
   · rename_i a z l n;exfalso
     have:∀ (q:List Nat) (v:PV) (u:T An),cU (.p v) q=some u→∃ v',u=.p v':=by
      intro q
      induction q with
      | nil=>intro v u h; simp only [cU,aa] at h; exact ⟨v,h.symm⟩
      | cons i r ih =>
        intro v u h;cases v <;> simp only [cU,reduceCtorEq] at h;split at h
        · exact ih _ _ h
        · cases h
     obtain ⟨v',e⟩:=this _ _ _ heq;cases e
   · exfalso
     have:∀ (q:List Nat) (v:PV) (u:T An),cU (.p v) q=some u→∃ v',u=.p v':=by
      intro q
      induction q with
      | nil=>intro v u h; simp only [cU,aa] at h; exact ⟨v,h.symm⟩
      | cons i r ih =>
        intro v u h;cases v <;> simp only [cU,reduceCtorEq] at h;split at h
        · exact ih _ _ h
        · cases h
     obtain ⟨v',e⟩:=this _ _ _ heq;cases e
   · cases hy
 | .nil z,E,h,t,h1,val,hi,hm,hv=>by
   simp only [oW,aa,ae] at hi;obtain ⟨rfl,rfl⟩:=hi;simp only [bQ] at hv;obtain ⟨a,rfl⟩:=hv;refine ⟨E,.vec ⟨γ,none,0⟩ z [] 0,o4.idle hm rfl ?_ rfl ⟨nx.iG γ,trivial⟩ ?_ ?_⟩
   · simp only [TC,VB,db];exact ⟨a,0,rfl,ar _,⟨rfl,rfl⟩,trivial,trivial⟩
   · intro q y hy;cases q with
     | nil=>simp [fH,cU] at hy; rw [← hy]
     | cons i r=>simp [fH,cU] at hy
   · intro c hc; simp [db] at hc; subst hc; rfl
 | .own id path off len g',E,h,t,h1,val,hi,hm,hv=>by
   simp only [bQ] at hv;obtain ⟨hg,a,cap,rfl,nF,hh⟩:=hv;simp only [oW] at hi;split at hi
   · rename_i uD z l gq;split at hi
     · rename_i hc;obtain ⟨rfl,rfl,hlen⟩:=hc;simp only [aa,ae] at hi;obtain ⟨rfl,rfl⟩:=hi;obtain ⟨an,l',hE,DX,rfl,xN,lX,gV,iL,dJ⟩:=hm.tY gq;have kE:=hh an z (by rw [hE]; rfl) DX
       refine ⟨_,_,o4.vec xN lX gV iL dJ (js.gone E id) (mL.gone E id) (by simpa using hlen) kE⟩
     · cases hi
   · split at hi
     · rename_i uD z l n hs;split at hi
       · rename_i hc;obtain ⟨rfl,rfl,hlen⟩:=hc;split at hi
         · rename_i oh hp;simp only [aa,ae] at hi;obtain ⟨rfl,rfl⟩:=hi;obtain ⟨E1,an,l',hE,bW,DX,rfl,xN,lX,gV,iL,dJ,vm,Gg⟩:=hm.wc hs hp;have kE:=hh an z bW DX;refine ⟨_,_,o4.vec xN lX gV iL dJ vm Gg (by simpa using hlen) kE⟩
         · cases hi
       · cases hi
     · cases hi
 | .ptr id np rp g o,E,h,t,h1,val,hi,hm,hv=>by
   simp only [oW,aa,ae] at hi;obtain ⟨rfl,rfl⟩:=hi;have yO:=hv;simp only [bQ] at hv;obtain ⟨_,a,rfl,_⟩:=hv;refine ⟨E,.m (.ptr id np rp g o),o4.idle hm rfl ?_ rfl trivial ?_ ?_⟩
   · simp only [TC,db];exact ⟨rfl,rfl,_,yO,rfl⟩
   · intro q y hy; cases q <;> simp [fH,cU] at hy
   · intro c hc; simp [db] at hc; subst hc; rfl
 | .fy ..,E,h,t,h1,val,_,_,hv=>by simp only [bQ] at hv
 | .agg l,E,h,t,h1,val,hi,hm,hv=>by
   simp only [oW] at hi;split at hi
   · rename_i ts h' rF;simp only [aa,ae] at hi;obtain ⟨rfl,rfl⟩:=hi;simp only [bQ] at hv;obtain ⟨cs,rfl,eY⟩:=hv;obtain ⟨vs,fR,rfl⟩:=eY.vs;obtain ⟨E1,lA,k⟩:=P9 l rF hm fR;refine ⟨E1,jY lA,?_⟩
     have:=k.agg
     simpa [db] using this
   · cases hi
 | .fn f iR,E,h,t,h1,val,hi,hm,hv=>by
   simp only [oW,aa,ae] at hi;obtain ⟨rfl,rfl⟩:=hi;have yO:=hv;simp only [bQ] at hv;obtain ⟨vs,rfl,_⟩:=hv;refine ⟨E,.m (.fn f iR),o4.idle hm rfl ?_ rfl trivial ?_ ?_⟩
   · simp only [TC,LP];exact ⟨rfl,rfl,_,yO,rfl⟩
   · intro q y hy; cases q <;> simp [fH,cU] at hy
   · intro c hc; simp [LP] at hc; subst hc; unfold vf; split <;> rfl
 | .eJ _,E,h,t,h1,val,hi,_,_=>by simp [oW] at hi
 | .dead _,E,h,t,h1,val,hi,_,_=>by simp [oW] at hi
theorem P9:∀ (l:List MV) {E:dL An} {h:cj} {ts:List (T Nat)} {h1:cj} {vs:List Value},tC γ h l=some (ts,h1)→MR w A E h nx→c8 w A E nx l vs →
 ∃ E1 lA,lW w A E nx γ (cellsOf vs) ts h1 E1 lA
 | [],E,h,ts,h1,vs,hi,hm,hv=>by
   simp only [tC,aa,ae] at hi;obtain ⟨rfl,rfl⟩:=hi;simp only [c8] at hv;subst hv;exact ⟨E,[],rfl,hm,by simp only [j4,cellsOf,List.flatMap_nil],by simp [T.b6],by simp [T.b6],fun _ h=>h,trivial,js.refl E,by simp,by simp [cellsOf],mL.refl E⟩
 | x::r,E,h,ts,h1,vs,hi,hm,hv=>by
   simp only [tC] at hi;split at hi
   · rename_i t h' ht;split at hi
     · rename_i Qa HW rF;simp only [aa,ae] at hi;obtain ⟨rfl,rfl⟩:=hi;simp only [c8] at hv;obtain ⟨v,d,rfl,hx,hr⟩:=hv;obtain ⟨E1,tA,k⟩:=P8 x ht hm hx;obtain ⟨E2,lA,k'⟩:=P9 r rF k.mr (hr.frame (k.ns.fr (di.le_refl _)));refine ⟨E2,tA::lA,?_⟩
       have:=k.cons k'
       simpa [cellsOf] using this
     · cases hi
   · cases hi
end
theorem gE.of {E E1:dL An} {w':World} {E2:dL An} (h:w'.os=w.os∧w'.tape=w.tape∧w'.output=w.output) (hs:w.heap.size ≤ w'.heap.size)
 (hk:∀ b,b < w.heap.size→¬ jq E b→w'.heap[b]?=w.heap[b]?) (ho:∀ b,b < w.heap.size→jq E2 b→jq E b) (hn:oO nx E E1) (rT:oO nx E1 E2):gE w A E nx w' A E2 :=
 ⟨h.1,h.2.1,h.2.2,hs,hk,fun _ h=>h,fun _ _ h=>.inl h,ho,hn.trans rT (di.le_refl _)⟩
end
end Go.Mid
namespace Go.Mid
open Go.RowKit
theorem WL (A B:List Value):∀ (new old done:List Value),new.length=old.length →
 ((new.zipIdx done.length).foldl (fun (cs:Array Value) (p:Value×Nat)=>cs.setIfInBounds (A.length + p.2) p.1) (A++done++old++B).toArray)=(A++done++new++B).toArray
 | [],[],done,_=>rfl
 | v::r,x::q,done,h=>by
   simp only [ba,Nat.add_right_cancel_iff] at h;rw [List.zipIdx_cons,List.foldl_cons];have e:(A++done++x::q++B).toArray.setIfInBounds (A.length + done.length) v=(A++(done++[v])++q++B).toArray:=by
    apply gI;simp only [Array.toList_setIfInBounds]
    have:A++done++x::q++B=(A++done)++(x::(q++B)):=by simp
    rw [this,List.set_append_right _ _ (by simp)]
    simp
   simp only [e]
   have:=WL A B r q (done++[v]) h
   rw [aQ,eg] at this;rw [this];simp
 | [],x::q,done,h=>by simp at h
 | v::r,[],done,h=>by simp at h
theorem C57 (A B old:List Value) (new:Array Value) (h:new.size=old.length) :
 (new.zipIdx.foldl (fun (cs:Array Value) (x:Value×Nat)=>match x with | (c,j)=>cs.setIfInBounds (A.length + j) c) (A++old++B).toArray)=(A++new.toList++B).toArray:=by
 have:=WL A B new.toList old [] (by simpa using h)
 simp only [bD,List.length_nil] at this;rw [← this,← Array.foldl_toList,Array.toList_zipIdx]
def pickL (ps:List (Nat×Value)) (i:Nat) (c:List Value):List Value:=match ps.find? (·.1 == i) with | some (_,v)=>v.cells.toList | none=>c
def uL (ps:List (Nat×Value)):Nat→List (List Value)→List (List Value)
 | _,[]=>[]
 | i,c::r=>pickL ps i c::uL ps (i + 1) r
theorem WM:∀ (i:Nat) (l:List (List Value)),uL [] i l=l
 | _,[]=>rfl
 | i,c::r=>by simp [uL,pickL,WM]
theorem WN {k:Nat} {v:Value} {ps:List (Nat×Value)} (hk:∀ p ∈ ps,p.1 ≠ k):∀ (i:Nat) (l:List (List Value)),i ≤ k→uL ((k,v)::ps) i l=uL ps i (l.set (k - i) v.cells.toList)
 | _,[],_=>by simp [uL]
 | i,c::r,hi=>by
   by_cases e:k=i
   · subst e;simp only [Nat.sub_self,dN,uL];have h1:pickL ((k,v)::ps) k c=v.cells.toList:=by simp [pickL]
     have h2:pickL ps k v.cells.toList=v.cells.toList:=by
      unfold pickL;rw [List.find?_eq_none.2 (fun p hp=>by simpa using hk p hp)]
     rw [h1,h2];congr 1
     have:∀ (i:Nat) (l:List (List Value)),k < i→uL ((k,v)::ps) i l=uL ps i l:=by
      intro i l
      induction l generalizing i with
      | nil=>intro _; rfl
      | cons c r ih =>
        intro hi;simp only [uL];rw [ih _ (by omega)]
        congr 1;simp only [pickL,il,show ((k,v).1 == i)=false by simp; omega]
     exact this _ _ (by omega)
   · have e1:k - i=(k - (i + 1)) + 1:=by omega
     rw [e1,ev,uL,uL,WN hk (i + 1) r (by omega)]
     congr 1;simp only [pickL,il,show ((k,v).1 == i)=false by simp; omega]
theorem C4t {l:List (List Value)} {i:Nat} {c d:List Value} (h:l[i]?=some c):(l.set i d).flatten=(l.take i).flatten++d++(l.drop (i + 1)).flatten:=by
 induction l generalizing i with
 | nil=>simp at h
 | cons x r ih =>
   cases i with
   | zero=>simp
   | succ i=>simp at h; simp [ih h]
theorem C4u {l:List (List Value)} {i:Nat} {c:List Value} (h:l[i]?=some c):l.flatten=(l.take i).flatten++c++(l.drop (i + 1)).flatten:=by
 induction l generalizing i with
 | nil=>simp at h
 | cons x r ih =>
   cases i with
   | zero=>simp at h; subst h; simp
   | succ i=>simp at h; rw [dZ,ih h]; simp
theorem C2p {l:List (List Value)} {i:Nat} {c d:List Value} (h:l[i]?=some c) (hd:d.length=c.length) (j:Nat):((l.set i d).take j).flatten.length=(l.take j).flatten.length:=by
 induction l generalizing i j with
 | nil=>simp
 | cons x r ih =>
   cases j with
   | zero=>simp
   | succ j =>
     cases i with
     | zero=>simp at h; subst h; simp [hd]
     | succ i=>simp at h; simp only [ev,bS,dZ,aQ]; rw [ih h j]
theorem WO (place:Nat→Option (Nat×Nat)):∀ (ps:List (Nat×Value)) (qd:List (List Value)),(ps.map (·.1)).Nodup→(∀ p ∈ ps,∃ c,qd[p.1]?=some c∧p.2.cells.size=c.length) →
 (∀ i c,qd[i]?=some c→place i=some ((qd.take i).flatten.length,c.length))→Instr.fill place qd.flatten.toArray ps=some (uL ps 0 qd).flatten.toArray
 | [],qd,_,_,_=>by simp [Instr.fill,WM]
 | (k,v)::ps,qd,hn,hp,p0=>by
   simp only [aD,bV] at hn;obtain ⟨c,hc,hsz⟩:=hp (k,v) (by simp)
   simp only at hc hsz;simp only [Instr.fill,p0 k c hc];have e:=C4u hc;have hle:(qd.take k).flatten.length + v.cells.size ≤ qd.flatten.toArray.size:=by
    simp only [List.size_toArray];rw [e]; simp only [aQ]; omega
   rw [if_neg (by simp only [ne_eq,gt_iff_lt,Bool.or_eq_true,decide_eq_true_eq,not_or,Nat.not_lt,Decidable.not_not]; exact ⟨hsz,hle⟩)]
   have q0:(v.cells.zipIdx.foldl (fun (cs:Array Value) (x:Value×Nat)=>match x with | (c,j)=>cs.setIfInBounds ((qd.take k).flatten.length + j) c) qd.flatten.toArray)=(qd.set k v.cells.toList).flatten.toArray:=by
    rw [C4t hc,e];exact C57 _ _ _ _ hsz
   rw [q0];have hlen:v.cells.toList.length=c.length:=by simpa using hsz
   rw [WO place ps (qd.set k v.cells.toList) hn.2 ?_ ?_,WN (k:=k) (v:=v) (ps:=ps) ?_ 0 qd (dg _),Nat.sub_zero]
   · intro p ig e;exact hn.1 (by rw [← e]; exact dX (f:=(·.1)) ig)
   · intro p ig;obtain ⟨c',w7,D3⟩:=hp p (by simp [ig])
     by_cases e':k=p.1
     · exact absurd (dX (f:=(·.1)) ig) (by rw [← e']; exact hn.1)
     · exact ⟨c',by rw [List.getElem?_set_ne e']; exact w7,D3⟩
   · intro i ci hi;rw [C2p hc hlen];rw [dD] at hi;split at hi
     · rename_i Bw;split at hi
       · cases hi;subst Bw;rw [p0 k c hc,hlen]
       · cases hi
     · exact p0 i ci hi
section
variable {w:World} {A:Nat→Prop} {E:dL An} {nx:di}
mutual
theorem Mh:∀ {v:PV} {cs r:List Value},wW v cs=some r→∃ c,cs=c++r∧dR w A v c
 | .int k n,cs,r,h=>by
   simp only [wW] at h;split at h
   · split at h
     · rename_i hc;obtain ⟨rfl,rfl⟩:=hc;cases h;exact ⟨[_],rfl,by simp only [dR]⟩
     · cases h
   · cases h
 | .bool b,cs,r,h=>by
   simp only [wW] at h;split at h
   · split at h
     · rename_i hc;subst hc;cases h;exact ⟨[_],rfl,by simp only [dR]⟩
     · cases h
   · cases h
 | .str s,cs,r,h=>by
   simp only [wW] at h;split at h
   · rename_i s' _;split at h
     · rename_i hc;cases h;refine ⟨[_],rfl,?_⟩;simp only [dR];have h1:s=⟨#[]⟩:=by
        obtain ⟨d⟩:=s;congr 1;exact eT hc.1
       have h2:s'=⟨#[]⟩:=by
        obtain ⟨d⟩:=s';congr 1;exact eT hc.2
       rw [h1,h2]
     · cases h
   · cases h
 | .agg l,cs,r,h=>by
   simp only [wW] at h;obtain ⟨c,h1,h2⟩:=WQ h;exact ⟨c,h1,by simp only [dR]; exact h2⟩
 | .eQ,cs,r,h=>by
   simp only [wW] at h;split at h
   · cases h;exact ⟨[_],rfl,by simp only [dR]⟩
   · cases h
 | .ff,cs,r,h=>by
   simp only [wW] at h;split at h
   · cases h;exact ⟨[_],rfl,by simp only [dR]⟩
   · cases h
 | .mp ks vs,cs,r,h=>by
   simp only [wW] at h;split at h
   · split at h
     · rename_i hc;simp only [aj,List.isEmpty_iff] at hc;obtain ⟨rfl,rfl⟩:=hc;cases h;exact ⟨[_],rfl,by simp only [dR]; exact .inl ⟨trivial,trivial,trivial⟩⟩
     · cases h
   · cases h
 | .sl _,cs,r,h=>by simp [wW] at h
 | .ref _,cs,r,h=>by simp [wW] at h
 | .fn ..,cs,r,h=>by simp [wW] at h
theorem WQ:∀ {l:List PV} {cs r:List Value},H0 l cs=some r→∃ c,cs=c++r∧cK w A l c
 | [],cs,r,h=>by simp only [H0,aa] at h; subst h; exact ⟨[],rfl,by simp only [cK]⟩
 | x::q,cs,r,h=>by
   simp only [H0] at h;split at h
   · rename_i d hd;obtain ⟨c,rfl,h1⟩:=Mh hd;obtain ⟨c',rfl,h2⟩:=WQ h;exact ⟨c++c',by simp,by simp only [cK]; exact ⟨c,c',rfl,h1,h2⟩⟩
   · cases h
end
def su (w:World) (A:Nat→Prop) (E:dL An) (nx:di) (x:MV) (cs:List Value):Prop:=∃ v:Value,v.cells.toList=cs∧v.cells.size=x.cs∧(∀ c,v=.agg c→x.isAgg=true∨∃ n,x=.dead n)∧bQ w A E nx x v
theorem su.cons {x:MV} {r:List MV} {c d:List Value} (h:su w A E nx x c) (k:dV w A E nx r d):dV w A E nx (x::r) (c++d):=by
 obtain ⟨v,rfl,h1,h2,h3⟩:=h;simp only [dV];exact ⟨v,d,rfl,h1,h2,h3,k⟩
theorem dR.tZ {v:PV} {c:List Value} (h:dR w A v c):su w A E nx (.p v) c:=by
 refine ⟨pk v.isAgg c,by rw [h.mU],by rw [h.mU]; simpa [MV.cs] using h.len,?_,by simp only [bQ,oZ]; exact ⟨c,h,rfl⟩⟩
 intro c' e;cases hg:v.isAgg with
 | true=>exact .inl hg
 | false =>
   rw [hg] at e;obtain ⟨x,rfl,hx⟩:=h.one hg;simp only [pk,Bool.false_eq_true,if_false,List.headD_cons] at e;subst e;exact (Wn hx).elim
theorem Mi:∀ {l:List MV} {cs:List Value},dV w A E nx l cs→cs.length=MV.da l
 | [],cs,h=>by simp only [dV] at h; subst h; rfl
 | x::r,cs,h=>by
   simp only [dV] at h;obtain ⟨v,d,rfl,h1,_,_,h4⟩:=h;rw [aQ,dW,h1,Mi h4]; rfl
theorem bQ.tZ {x:MV} {v:Value} (h:bQ w A E nx x v) (hl:rQ x=true):su w A E nx x v.cells.toList:=by
 cases x with
 | p pv =>
   simp only [bQ,oZ] at h;obtain ⟨c,hc,rfl⟩:=h
   have:=hc.tZ (E:=E) (nx:=nx)
   rwa [hc.mU]
 | agg l =>
   have h0:=h;simp only [bQ] at h;obtain ⟨cs,rfl,eY⟩:=h;exact ⟨.agg cs.toArray,rfl,by simpa [db,MV.cs] using Mi eY,fun _ _=>.inl rfl,h0⟩
 | eJ=>simp [rQ] at hl
 | dead=>simp [rQ] at hl
 | fy=>simp only [bQ] at h
 | nil z =>
   have h0:=h;simp only [bQ] at h;obtain ⟨a,rfl⟩:=h;exact ⟨_,rfl,rfl,by rintro c ⟨⟩,h0⟩
 | own =>
   have h0:=h;simp only [bQ] at h;obtain ⟨_,a,cap,rfl,_⟩:=h;exact ⟨_,rfl,rfl,by rintro c ⟨⟩,h0⟩
 | ptr =>
   have h0:=h;simp only [bQ] at h;obtain ⟨_,a,rfl,_⟩:=h;exact ⟨_,rfl,rfl,by rintro c ⟨⟩,h0⟩
 | fn f0 l0 =>
   have h0:=h;simp only [bQ] at h;obtain ⟨vs,hv,_⟩:=h;obtain ⟨g,i,c,hq⟩:=PG f0 vs.toArray;rw [hq] at hv;subst hv;exact ⟨_,rfl,rfl,by rintro c ⟨⟩,h0⟩
mutual
theorem Qb:∀ {v:MV} {cs r:List Value},so v cs=some r→∃ c,cs=c++r∧su w A E nx v c
 | .p v,cs,r,h=>by
   simp only [so] at h;obtain ⟨c,h1,h2⟩:=Mh (w:=w) (A:=A) h;exact ⟨c,h1,h2.tZ⟩
 | .nil z,cs,r,h=>by
   simp only [so] at h;split at h
   · rename_i a r';cases h;refine ⟨[.slice a 0 0],rfl,.slice a 0 0,rfl,rfl,by rintro c ⟨⟩,by simp only [bQ]; exact ⟨_,rfl⟩⟩
   · cases h
 | .agg l,cs,r,h=>by
   simp only [so] at h;obtain ⟨c,h1,h2⟩:=WR h;exact ⟨c,h1,.agg c.toArray,rfl,by simpa [db,MV.cs] using Mi h2,fun _ _=>.inl rfl,by simp only [bQ]; exact ⟨c,rfl,h2⟩⟩
 | .own ..,cs,r,h=>by simp [so] at h
 | .ptr ..,cs,r,h=>by simp [so] at h
 | .fy ..,cs,r,h=>by simp [so] at h
 | .fn ..,cs,r,h=>by simp [so] at h
 | .eJ _,cs,r,h=>by simp [so] at h
 | .dead _,cs,r,h=>by simp [so] at h
theorem WR:∀ {l:List MV} {cs r:List Value},CA l cs=some r→∃ c,cs=c++r∧dV w A E nx l c
 | [],cs,r,h=>by simp only [CA,aa] at h; subst h; exact ⟨[],rfl,by simp only [dV]⟩
 | x::q,cs,r,h=>by
   simp only [CA] at h;split at h
   · rename_i d hd;obtain ⟨c,rfl,h1⟩:=Qb hd;obtain ⟨c',rfl,h2⟩:=WR h;exact ⟨c++c',by simp,h1.cons h2⟩
   · cases h
end
end
end Go.Mid
namespace Go.Mid
open Go.RowKit
section
variable {P:Program} {w:World} {A:Nat→Prop} {E:dL An} {nx:di} {s:gD} {a:Act}
theorem WS {z:Nat} {zs:List Nat} {v:MV} {vs:List MV} (h:okB (z::zs) (v::vs)=true):v.cs=z∧rQ v=true∧okB zs vs=true:=by
 simp only [okB,aj,beq_iff_eq] at h;exact ⟨h.1.1,h.1.2,h.2⟩
def CN (a:Act) (parts:List (Nat×Operand)):List (Nat×Value):=parts.map fun p=>(p.1,a.eval p.2)
theorem WT (parts:List (Nat×Operand)) (i:Nat):(CN a parts).find? (·.1 == i)=(parts.find? (·.1 == i)).map fun p=>(p.1,a.eval p.2):=by
 unfold CN;rw [List.find?_map];rfl
theorem Qc (hs:pZ P w A E nx s a) {parts:List (Nat×Operand)}:∀ {ts:List TypeId} {i:Nat} {rest:List Value} {os:List dI},xK P parts ts i rest=some os →
 ∃ qd:List (List Value),rest=qd.flatten∧qd.map cq=ts.map P.cellsOf∧os.length=ts.length∧(okB (ts.map P.cellsOf) (os.map (cJ s))=true →
  dV w A E nx (os.map (cJ s)) (uL (CN a parts) i qd).flatten ∧
  ∀ j k x,i ≤ j→j < i + ts.length→parts.find? (·.1 == j)=some (k,x)→∃ c,qd[j - i]?=some c∧(a.eval x).cells.size=c.length)
 | [],i,rest,os,h=>by
   simp only [xK] at h;split at h
   · rename_i hr;cases h;refine ⟨[],by simpa using hr,rfl,rfl,fun _=>⟨by simp [uL,dV],fun j k x h1 h2=>by simp at h2; omega⟩⟩
   · cases h
 | t::r,i,rest,os,h=>by
   simp only [xK] at h;split at h
   · rename_i hlen;split at h
     · rename_i o V5 ho hos;cases h;obtain ⟨qd,h1,h2,h3,h4⟩:=Qc hs hos;refine ⟨rest.take (P.cellsOf t)::qd,?_,?_,by simp [h3],fun kL=>?_⟩
       · rw [dZ,← h1,List.take_append_drop]
       · simp only [aD,hlen,h2]
       · simp only [aD] at kL;obtain ⟨hz,hl,kL⟩:=WS kL;obtain ⟨h5,h6⟩:=h4 kL;have CO:su w A E nx (cJ s o) (pickL (CN a parts) i (rest.take (P.cellsOf t)))∧∀ k x,parts.find? (·.1 == i)=some (k,x)→(a.eval x).cells.size=P.cellsOf t:=by
          split at ho
          · rename_i k x hf;have hv:=jM hs ho;have hc:=hv.tZ hl;have e:pickL (CN a parts) i (rest.take (P.cellsOf t))=(a.eval x).cells.toList:=by
             unfold pickL; rw [WT,hf]; rfl
            refine ⟨by rw [e]; exact hc,fun k' x' D4=>?_⟩
            rw [hf] at D4; cases D4;obtain ⟨v',e1,e2,_⟩:=hc;rw [← hz,← e2,← dW,← dW,e1]
          · rename_i hf;have e:pickL (CN a parts) i (rest.take (P.cellsOf t))=rest.take (P.cellsOf t):=by
             unfold pickL; rw [WT,hf]; rfl
            refine ⟨?_,fun k' x' D4=>by rw [hf] at D4; cases D4⟩
            rw [e];split at ho
            · rename_i v hv;split at ho
              · rename_i hc;cases ho;obtain ⟨c,e1,e2⟩:=Qb (w:=w) (A:=A) (E:=E) (nx:=nx) hc;rw [bD] at e1;rw [e1]; exact e2
              · cases ho
            · cases ho
         constructor
         · simp only [aD,uL,dZ];exact CO.1.cons h5
         · intro j k x gL hj hf;by_cases e:j=i
           · subst e;refine ⟨_,by simp; rfl,?_⟩
             rw [hlen]; exact CO.2 k x hf
           · obtain ⟨c,e1,e2⟩:=h6 j k x (by omega) (by simp only [ba] at hj; omega) hf
             refine ⟨c,?_,e2⟩;rw [show j - i=(j - (i + 1)) + 1 by omega,List.getElem?_cons_succ]
             exact e1
     · cases h
   · cases h
theorem WU:∀ {l:List Nat},LJ l=true→l.Nodup
 | [],_=>List.nodup_nil
 | x::r,h=>by
   simp only [LJ,aj,Bool.not_eq_true',List.contains_eq_mem,decide_eq_false_iff_not] at h;exact bV.2 ⟨h.1,WU h.2⟩
theorem C7W {parts:List (Nat×Operand)} (hn:(parts.map (·.1)).Nodup) {p:Nat×Operand} (hp:p ∈ parts):parts.find? (·.1 == p.1)=some p:=by
 induction parts with
 | nil=>simp at hp
 | cons q r ih =>
   simp only [aD,bV] at hn;rcases aE.1 hp with rfl | hp
   · simp
   · have:q.1 ≠ p.1:=by rintro e; exact hn.1 (by rw [e]; exact dX (f:=(·.1)) hp)
     rw [il,show (q.1 == p.1)=false by simpa using this]
     exact ih hn.2 hp
theorem WV:∀ {qd:List (List Value)} {zs:List Nat} (i:Nat),qd.map cq=zs→(qd.take i).flatten.length=(zs.take i).sum
 | [],zs,i,h=>by simp at h; subst h; simp
 | c::r,zs,0,h=>by simp
 | c::r,zs,i + 1,h=>by
   subst h;simp only [aD,bS,dZ,aQ,mM];rw [WV i rfl]
theorem Qd (hs:pZ P w A E nx s a) {parts:Array (Nat×Operand)} {ts:List TypeId} {rest:List Value} {os:List dI} (hp:xK P parts.toList ts 0 rest=some os) (kL:Ak ts.length parts.toList=true)
 (hb:okB (ts.map P.cellsOf) (os.map (cJ s))=true) (place:Nat→Option (Nat×Nat)) (p0:∀ i t,ts[i]?=some t→place i=some (((ts.take i).map P.cellsOf).sum,P.cellsOf t)) :
 ∃ cs,dV w A E nx (os.map (cJ s)) cs∧Instr.fill place rest.toArray (parts.map fun (i,x)=>(i,a.eval x)).toList=some cs.toArray:=by
 obtain ⟨qd,h1,h2,_,h3⟩:=Qc hs hp;obtain ⟨h4,h5⟩:=h3 hb;simp only [Ak,aj,List.all_eq_true,decide_eq_true_eq] at kL;have hn:=WU kL.2.1;refine ⟨_,h4,?_⟩;have e:(parts.map fun (i,x)=>(i,a.eval x)).toList=CN a parts.toList:=by rw [Array.toList_map]; rfl
 rw [e,h1];refine WO place _ qd ?_ ?_ ?_
 · unfold CN; rw [cm]; exact hn
 · intro p hp;obtain ⟨q,hq,rfl⟩:=bj.1 hp
   have:=h5 q.1 q.1 q.2 (dg _) (by rw [bR]; exact kL.1 q hq) (C7W hn hq)
   simpa using this
 · intro i c hi;have eF:i < ts.length:=by
    have h6:=congrArg cq h2;simp only [aB] at h6
    have:=(aF.1 hi).1
    omega
   rw [p0 i ts[i] (by simp [eF]),WV i h2,bO]
   congr 2
   have:=congrArg (·[i]?) h2
   simp only [aH,hi,ak] at this;rw [List.getElem?_eq_getElem eF] at this;simpa using this.symm
theorem CP {t:TypeId} {zc:List Value} (h:vd P t=some zc) (w:World):∃ z,(zeroValue t).run P w=.ok z w∧z.cells=zc.toArray∧∃ i,P.info? t=some i∧i.zero=some z:=by
 unfold vd at h;split at h
 · rename_i i hi;split at h
   · rename_i z hz;cases h;exact ⟨z,by simp [zeroValue,typeInfo,hi,hz],by simp,i,hi,hz⟩
   · cases h
 · cases h
theorem WW {α β:Type} (f:α→Sem β) (g:α→β) (w:World):∀ (l:List α),(∀ x ∈ l,(f x).run P w=.ok (g x) w)→(l.mapM f).run P w=.ok (l.map g) w
 | [],_=>by simp
 | x::r,h=>by
   rw [List.mapM_cons];simp only [bn,h x (by simp),aV,WW f g w r (fun y hy=>h y (by simp [hy])),bL,aD]
theorem Qe:∀ {fs:List Field} {o i:Nat} {f:Field},Bi P fs o=true→fs[i]?=some f→f.offset=o + ((fs.take i).map fun f=>P.cellsOf f.type).sum∧qD P f.type=true
 | [],o,i,f,_,h=>by simp at h
 | x::r,o,0,f,h,k=>by
   simp at k; subst k;simp only [Bi,aj,beq_iff_eq] at h;exact ⟨by simp [h.1.1],h.1.2⟩
 | x::r,o,i + 1,f,h,k=>by
   simp at k;simp only [Bi,aj,beq_iff_eq] at h;obtain ⟨h1,h2⟩:=Qe h.2 k;exact ⟨by rw [h1,bS,aD,mM]; omega,h2⟩
theorem WX (n z:Nat):(aq n z).sum=n * z:=by
 induction n with
 | zero=>simp
 | succ n ih=>rw [List.replicate_succ,mM,ih,Nat.succ_mul]; omega
end
section
variable {P:Program} {o:Oper} {a:Act} {w:World} {A:Nat→Prop} {E:dL An} {nx:di} {γ:Nat} {v:MV} {h h':cj} {s:gD} {K:jl} {d:Option Nat}
 (hs:pZ P w A E nx s a) (hm:MR w A E h nx)
include hs hm
theorem C58 {t:TypeId} {parts:Array (Nat×Operand)} {zc:List Value} {fs:Array Field} {l:List dI} (ho:o.op=.build t parts) (hz:vd P t=some zc) (hu:P.underlying t=some (.struct fs))
 (kL:Ak fs.size parts.toList=true) (lz:Bi P fs.toList 0=true) (hl:xK P parts.toList (fs.toList.map (·.type)) 0 zc=some l)
 (he:b7 K γ d s h (.build (fs.toList.map fun f=>P.cellsOf f.type) l)=some (v,h')):cC P o a w A E nx γ v h':=by
 simp only [b7] at he;split at he
 · rename_i hb;simp only [aa,ae] at he;obtain ⟨rfl,rfl⟩:=he;obtain ⟨z,D5,rW,_⟩:=CP hz w;have Bx:(fs.mapM fun (f:Field)=>do pure (f.offset,← sizeOf f.type)).run P w=.ok (fs.map fun (f:Field)=>(f.offset,P.cellsOf f.type)) w:=by
    have e:fs=fs.toList.toArray:=by simp
    rw [e,List.mapM_toArray];simp only [map_eq_pure_bind,bn];rw [WW _ (fun (f:Field)=>(f.offset,P.cellsOf f.type)) w fs.toList ?_]
    · simp only [aV,bL];congr 1;apply gI;simp
    · intro f hf;obtain ⟨i,hi⟩:=List.getElem?_of_mem hf
      have:=(Qe lz hi).2
      simp only [bn,DS w this,aV,bL]
   obtain ⟨cs,h1,h2⟩:=Qd hs hl (by simpa using kL) (by rw [cm]; exact hb) (fun i=>(fs.map fun (f:Field)=>(f.offset,P.cellsOf f.type))[i]?) (by
    intro i t ht;rw [aH] at ht;cases hf:fs.toList[i]? with
    | none=>rw [hf] at ht; cases ht
    | some f =>
      rw [hf] at ht;simp only [ak,aa] at ht;subst ht;have h3:=(Qe lz hf).1;have D4:fs[i]?=some f:=by simpa using hf
      simp only [Array.getElem?_map,D4,ak,h3,bR];congr 2;rw [← bO,cm]; rfl)
   refine cC.idle (val:=.agg cs.toArray) ?_ (L1 h1) hm;simp only [execOp,ho,Instr.build,bn,D5,aV,run_underlying hu,Bx,rW];rw [h2];rfl
 · cases he
theorem C59 {t e:TypeId} {n:Nat} {parts:Array (Nat×Operand)} {zc:List Value} {l:List dI} (ho:o.op=.build t parts) (hz:vd P t=some zc) (hu:P.underlying t=some (.array n e))
 (kL:Ak n parts.toList=true) (hU:qD P e=true) (hl:xK P parts.toList (aq n e) 0 zc=some l)
 (he:b7 K γ d s h (.build (aq n (P.cellsOf e)) l)=some (v,h')):cC P o a w A E nx γ v h':=by
 simp only [b7] at he;split at he
 · rename_i hb;simp only [aa,ae] at he;obtain ⟨rfl,rfl⟩:=he;obtain ⟨z,D5,rW,_⟩:=CP hz w;obtain ⟨cs,h1,h2⟩:=Qd hs hl (by simpa using kL) (by simpa using hb) (fun i=>some (i * P.cellsOf e,P.cellsOf e)) (by
    intro i t ht;rw [List.getElem?_replicate] at ht;split at ht
    · rename_i hi;cases ht;rw [List.take_replicate,List.map_replicate,WX,Nat.min_eq_left (by omega)]
    · cases ht)
   refine cC.idle (val:=.agg cs.toArray) ?_ (L1 h1) hm;simp only [execOp,ho,Instr.build,bn,D5,aV,run_underlying hu,DS w hU,rW];rw [h2];rfl
 · cases he
end
end Go.Mid
