/- Places in owned memory: what lies there, in the model's world. -/
import Derived.Test.YtdohjmmogbefmaaGreatM1
import Derived.Laws.IdiomCopy
set_option linter.unusedSimpArgs false
set_option linter.unusedVariables false
open Array renaming length_toList → dX, ext' → gG, toList_map → jh, getElem?_modify → kJ, getElem?_eq_some_iff → c7
open Bool renaming false_eq_true → aI, and_eq_true → aj
open Go renaming run_underlying → aZ
open Go.Instr renaming loadAt → u0, sureAddr → iW, indexAt → tW, sliceBounds → dZ, sliceBound → fS, sliceAt → jH, slice → mK, index → wK, makeFunc → sN
open Go.Result renaming andThen_ok → aU
open Go.Sem renaming run_bind → bn, run_pure → bL
open Go.Value renaming agg → oX, cells → de
open Go.World renaming setCell → tX, setCells → ma, cell? → mL
open List renaming getElem?_map → aL, map_take → bP, cons_append → aS, nil_append → a7, getElem?_cons_succ → bK, take_succ_cons → bU, getElem?_eq_some_iff → aJ, mem_cons → aG, map_nil → bt, map_cons → aF, length_append → aR, headD_cons → lH, all_cons → dC, length_map → aB, append_assoc → bg, perm_append_comm → dq, set_cons_succ → aSR, getElem?_set → dD, length_singleton → dN, mem_append → az, nodup_cons → bZ, nodup_append → aT, length_set → iy, mem_or_eq_of_mem_set → bx, mem_of_getElem? → bH, mem_map → bp
open Nat renaming add_assoc → bV, succ_mul → du, add_comm → ic, le_of_lt → fH, add_mul → hY, le_refl → ay, lt_of_lt_of_le → br
open Ne renaming symm → dv
open Option renaming map_none → dx, map_some → ak, getD_none → cL, getD_some → bI, toList → cg
open Option.some renaming injEq → aa
open Prod.mk renaming injEq → ae
namespace Go.Mid
open Go.RowKit
section
variable {α β:Type}(f:α->β)
theorem EF:∀ (p:List Nat) (t:T α),cR (t.mapA f) p=(cR t p).map (T.mapA f)
 | [],t=>by simp [cR]
 | i::r,.p v=>by
   cases v<;>simp only [T.mapA,cR,dx];rename_i l;cases l[i]? with
   | none=>rfl
   | some v=>exact EF r (.p v)
 | i::r,.m v=>by simp [T.mapA,cR]
 | i::r,.agg l=>by
   simp only [T.mapA,cR,T.mapAs_eq,aL];cases l[i]? with
   | none=>rfl
   | some t=>exact EF r t
 | i::r,.vec a z l n=>by
   simp only [T.mapA,cR,T.mapAs_eq,aL];cases l[i]? with
   | none=>rfl
   | some t=>exact EF r t
 | i::r,.mp a ks l=>by simp [T.mapA,cR]
 | i::r,.hole n=>by simp [T.mapA,cR]
theorem YA (ob:Option (Obj α))(p:List Nat):iE (ob.map (Obj.mapA f)) p=(iE ob p).map (T.mapA f):=by
 cases ob with
 | none=>cases p<;>rfl
 | some o =>
   cases o with
   | cell a t=>simp only [ak,Obj.mapA,iE];exact EF f p t
   | vec a z l =>
     cases p with
     | nil=>rfl
     | cons i r =>
       simp only [ak,Obj.mapA,iE,T.mapAs_eq,aL];cases l[i]? with
       | none=>rfl
       | some t=>exact EF f r t
   | mp a ks l=>cases p<;>rfl
   | gone=>cases p<;>rfl
theorem YB (ob:Option (Obj α))(p:List Nat):jq (ob.map (Obj.mapA f)) p=(jq ob p).map λx=>(f x.1,x.2.1,x.2.2.map (T.mapA f)):=by
 have h:=YA f ob p;cases ob with
 | none=>cases p<;>rfl
 | some o =>
   cases o with
   | vec a z l =>
     cases p with
     | nil=>simp [Obj.mapA,jq,T.mapAs_eq]
     | cons i r =>
       simp only [ak,jq] at h ⊢;simp only [Obj.mapA] at h ⊢;rw [h];cases hs:iE (some (Obj.vec a z l)) (i::r) with
       | none=>rfl
       | some t=>cases t<;>simp [T.mapA,T.mapAs_eq]
   | cell a t =>
     simp only [ak,jq] at h ⊢;simp only [Obj.mapA] at h ⊢;rw [h];cases hs:iE (some (Obj.cell a t)) p with
     | none=>rfl
     | some t=>cases t<;>simp [T.mapA,T.mapAs_eq]
   | mp a ks l =>
     simp only [ak,jq] at h ⊢;simp only [Obj.mapA] at h ⊢;rw [h];cases hs:iE (some (Obj.mp a ks l)) p with
     | none=>rfl
     | some t=>cases t<;>simp [T.mapA,T.mapAs_eq]
   | gone =>
     simp only [ak,jq] at h ⊢;simp only [Obj.mapA] at h ⊢;rw [h];cases hs:iE (some (Obj.gone:Obj α)) p with
     | none=>rfl
     | some t=>cases t<;>simp [T.mapA,T.mapAs_eq]
mutual
theorem T.kb:∀ (t:T α),(t.mapA f).cs=t.cs
 | .p _=>rfl
 | .m _=>rfl
 | .agg l=>by simp only [T.mapA,T.cs];exact T.si l
 | .vec ..=>rfl
 | .mp ..=>rfl
 | .hole _=>rfl
theorem T.si:∀ (l:List (T α)),T.db (T.cI f l)=T.db l
 | []=>rfl
 | t::r=>by simp only [T.cI,T.db,T.kb t,T.si r]
end
theorem T.auw (l:List (T α)):T.db (l.map (T.mapA f))=T.db l:=by rw [← T.mapAs_eq,T.si]
theorem N2:∀ (p:List Nat) (t:T α) (o:Nat),GI (t.mapA f) p o=(GI t p o).map λx=>(x.1.mapA f,x.2)
 | [],t,o=>by simp [GI]
 | i::r,.p v,o=>by
   cases v<;>simp only [T.mapA,GI,dx];rename_i l;cases l[i]? with
   | none=>rfl
   | some v=>exact N2 r (.p v) _
 | i::r,.m v,o=>by simp [T.mapA,GI]
 | i::r,.agg l,o=>by
   simp only [T.mapA,GI,T.mapAs_eq,aL];cases l[i]? with
   | none=>rfl
   | some t =>
     simp only [ak];rw [← bP,T.auw f];exact N2 r t _
 | i::r,.vec a z l n,o=>by simp [T.mapA,GI]
 | i::r,.mp a ks l,o=>by simp [T.mapA,GI]
 | i::r,.hole n,o=>by simp [T.mapA,GI]
theorem C9J (ob:Option (Obj α))(np:Option (List Nat))(rp:List Nat):look (ob.map (Obj.mapA f)) np rp=(look ob np rp).map λx=>(x.1.mapA f,f x.2.1,x.2.2):=by
 cases np with
 | none =>
   cases ob with
   | none=>rfl
   | some o =>
     cases o<;>simp only [look,ak,Obj.mapA,dx];rename_i a t;rw [N2];cases GI t rp 0<;>rfl
 | some p =>
   simp only [look,YB];cases jq ob p with
   | none=>rfl
   | some x =>
     obtain ⟨a,z,l⟩:=x;cases rp with
     | nil=>rfl
     | cons i r =>
       simp only [ak,aL];cases l[i]? with
       | none=>rfl
       | some t =>
         simp only [ak];rw [N2];cases GI t r (i*z)<;>rfl
end
section
variable {α:Type}
theorem EG:∀ (p q:List Nat) (t:T α),cR t (p++q)=(cR t p).bind λu=>cR u q
 | [],q,t=>by simp [cR]
 | i::r,q,.p v=>by
   cases v<;>simp only [aS,cR,Option.bind_none];rename_i l;cases l[i]? with
   | none=>rfl
   | some v=>exact EG r q (.p v)
 | i::r,q,.m v=>by simp [cR]
 | i::r,q,.agg l=>by
   simp only [aS,cR];cases l[i]? with
   | none=>rfl
   | some t=>exact EG r q t
 | i::r,q,.vec a z l n=>by
   simp only [aS,cR];cases l[i]? with
   | none=>rfl
   | some t=>exact EG r q t
 | i::r,q,.mp a ks l=>by simp [cR]
 | i::r,q,.hole n=>by simp [cR]
theorem N3:∀ (p:List Nat) (t u:T α) (o o':Nat),GI t p o=some (u,o')->cR t p=some u
 | [],t,u,o,o',h=>by simp only [GI,aa,ae] at h;simp [cR,h.1]
 | i::r,.p v,u,o,o',h=>by
   cases v<;>simp only [GI,reduceCtorEq] at h;rename_i l;simp only [cR];cases hl:l[i]? with
   | none=>simp [hl] at h
   | some v=>simp only [hl] at h;exact N3 r _ u _ o' h
 | i::r,.m v,u,o,o',h=>by simp [GI] at h
 | i::r,.agg l,u,o,o',h=>by
   simp only [GI] at h;simp only [cR];cases hl:l[i]? with
   | none=>simp [hl] at h
   | some t=>simp only [hl] at h;exact N3 r _ u _ o' h
 | i::r,.vec a z l n,u,o,o',h=>by simp [GI] at h
 | i::r,.mp a ks l,u,o,o',h=>by simp [GI] at h
 | i::r,.hole n,u,o,o',h=>by simp [GI] at h
theorem YC (ob:Option (Obj α))(p q:List Nat){u:T α}(h:iE ob p=some u):iE ob (p++q)=cR u q:=by
 cases ob with
 | none=>cases p<;>simp [iE] at h
 | some o =>
   cases o with
   | cell a t=>simp only [iE] at h ⊢;rw [EG,h];rfl
   | vec a z l =>
     cases p with
     | nil=>simp [iE] at h
     | cons i r =>
       simp only [iE,aS] at h ⊢;cases hl:l[i]? with
       | none=>simp [hl] at h
       | some t=>simp only [hl] at h ⊢;rw [EG,h];rfl
   | mp a ks l=>cases p<;>simp [iE] at h
   | gone=>cases p<;>simp [iE] at h
theorem C59 (ob:Option (Obj α))(p:List Nat){a:α}{z:Nat}{l:List (T α)}(h:jq ob p=some (a,z,l))(i:Nat)(r:List Nat){t:T α}(ht:l[i]?=some t) :
 iE ob (p++i::r)=cR t r:=by
 have key:∀ n,iE ob p=some (.vec a z l n)->iE ob (p++i::r)=cR t r:=by
  intro n hs;rw [YC ob p (i::r) hs];simp only [cR,ht]
 cases ob with
 | none=>cases p<;>simp [jq,iE] at h
 | some o =>
   cases o with
   | vec a' z' l' =>
     cases p with
     | nil =>
       simp only [jq,aa,ae] at h;obtain ⟨rfl,rfl,rfl⟩:=h;simp only [a7,iE,ht]
     | cons j q =>
       simp only [jq] at h;split at h
       . rename_i hs;simp only [aa,ae] at h;obtain ⟨rfl,rfl,rfl⟩:=h;exact key _ hs
       . cases h
   | cell a' t' =>
     simp only [jq] at h;split at h
     . rename_i hs;simp only [aa,ae] at h;obtain ⟨rfl,rfl,rfl⟩:=h;exact key _ hs
     . cases h
   | mp a' ks l' =>
     simp only [jq] at h;split at h
     . rename_i hs;simp only [aa,ae] at h;obtain ⟨rfl,rfl,rfl⟩:=h;exact key _ hs
     . cases h
   | gone =>
     simp only [jq] at h;split at h
     . rename_i hs;simp only [aa,ae] at h;obtain ⟨rfl,rfl,rfl⟩:=h;exact key _ hs
     . cases h
theorem N4 {ob:Option (Obj α)}{np:Option (List Nat)}{rp:List Nat}{u:T α}{a:α}{o:Nat}(h:look ob np rp=some (u,a,o)):iE ob (sZ np rp)=some u:=by
 cases np with
 | none =>
   cases ob with
   | none=>simp [look] at h
   | some ob =>
     cases ob<;>simp only [look,reduceCtorEq] at h;split at h
     . rename_i hl;simp only [aa,ae] at h;obtain ⟨rfl,rfl,rfl⟩:=h;simp only [sZ,cL,a7,iE];exact N3 _ _ _ _ _ hl
     . cases h
 | some p =>
   simp only [look] at h;split at h
   . rename_i a' z l i r hv;split at h
     . rename_i t ht;split at h
       . rename_i hl;simp only [aa,ae] at h;obtain ⟨rfl,rfl,rfl⟩:=h;simp only [sZ,bI];rw [C59 ob p hv i r ht];exact N3 _ _ _ _ _ hl
       . cases h
     . cases h
   . cases h
theorem N5 {ob:Option (Obj α)}{p:List Nat}{a:α}{z:Nat}{l:List (T α)}(h:jq ob p=some (a,z,l)) :
 (p=[]∧ob=some (.vec a z l))∨∃ n,iE ob p=some (.vec a z l n):=by
 have via:(match iE ob p with | some (.vec a z l _)=>some (a,z,l) | _=>none)=some (a,z,l)->∃ n,iE ob p=some (.vec a z l n):=by
  intro hh;cases hs:iE ob p with
  | none=>rw [hs] at hh;cases hh
  | some t =>
    rw [hs] at hh;cases t<;>simp only [aa,ae,reduceCtorEq] at hh;obtain ⟨rfl,rfl,rfl⟩:=hh;exact ⟨_,rfl⟩
 cases ob with
 | none=>exact .inr (via (by cases p<;>simp [jq,iE] at h))
 | some o =>
   cases o with
   | vec a' z' l' =>
     cases p with
     | nil =>
       simp only [jq,aa,ae] at h;obtain ⟨rfl,rfl,rfl⟩:=h;exact .inl ⟨rfl,rfl⟩
     | cons i r=>exact .inr (via h)
   | cell a' t=>exact .inr (via h)
   | mp a' ks l'=>exact .inr (via h)
   | gone=>exact .inr (via h)
theorem uG {ob:Option (Obj α)}{p:List Nat}{a:α}{z:Nat}{l:List (T α)}(h:jq ob p=some (a,z,l)):fc ob (some p)=some (a,some z):=by
 cases ob with
 | none=>cases p<;>simp [jq,iE] at h
 | some o =>
   cases o with
   | vec a' z' l' =>
     cases p with
     | nil =>
       simp only [jq,aa,ae] at h;obtain ⟨rfl,rfl,rfl⟩:=h;rfl
     | cons j q =>
       simp only [jq] at h;split at h
       . rename_i hs;simp only [aa,ae] at h;obtain ⟨rfl,rfl,rfl⟩:=h;simp only [fc,hs]
       . cases h
   | mp a' ks l' =>
     cases p with
     | nil=>simp [jq,iE] at h
     | cons j q =>
       simp only [jq] at h;split at h
       . rename_i hs;simp only [aa,ae] at h;obtain ⟨rfl,rfl,rfl⟩:=h;simp only [fc,hs]
       . cases h
   | cell a' t' =>
     simp only [jq] at h;split at h
     . rename_i hs;simp only [aa,ae] at h;obtain ⟨rfl,rfl,rfl⟩:=h;simp only [fc,hs]
     . cases h
   | gone =>
     simp only [jq] at h;split at h
     . rename_i hs;simp only [aa,ae] at h;obtain ⟨rfl,rfl,rfl⟩:=h;simp only [fc,hs]
     . cases h
theorem A8q {ob:Option (Obj α)}{np:Option (List Nat)}{rp:List Nat}{u:T α}{a:α}{o:Nat}(h:look ob np rp=some (u,a,o)):∃ z,fc ob np=some (a,z):=by
 cases np with
 | none =>
   cases ob with
   | none=>simp [look] at h
   | some ob =>
     cases ob<;>simp only [look,reduceCtorEq] at h;split at h
     . simp only [aa,ae] at h;obtain ⟨rfl,rfl,rfl⟩:=h;exact ⟨none,rfl⟩
     . cases h
 | some p =>
   simp only [look] at h;split at h
   . rename_i a' z l i r hv;split at h
     . split at h
       . simp only [aa,ae] at h;obtain ⟨rfl,rfl,rfl⟩:=h;exact ⟨some z,uG hv⟩
       . cases h
     . cases h
   . cases h
end
section
variable {w:World}{A:Nat->Prop}{E:dP An}{nx:di}
theorem cD.get:∀ {l:List (T An)} {b o i:Nat} {t:T An},cD w A E nx l b o->l[i]?=some t->TAt w A E nx t b (o+T.db (l.take i))
 | [],b,o,i,t,_,h=>by simp at h
 | x::r,b,o,0,t,k,h=>by simp only [cD] at k;simp at h;subst h;simpa [T.db] using k.1
 | x::r,b,o,i+1,t,k,h=>by
   simp only [cD] at k;simp only [bK] at h
   have:=cD.get k.2 h
   rwa [bU,T.db,← bV]
theorem Cq {α:Type}{z:Nat}:∀ {l:List (T α)} {i:Nat},(∀ t∈l,t.cs=z)->i<=l.length->T.db (l.take i)=i*z
 | _,0,_,_=>by simp [T.db]
 | [],i+1,_,h=>by simp at h
 | x::r,i+1,h,hi=>by
   rw [bU,T.db,h x (by simp),Cq (λt ht=>h t (by simp [ht])) (by simpa using hi),du,ic]
theorem cD.elem {l:List (T An)}{b i z:Nat}{t:T An}(k:cD w A E nx l b 0)(hz:∀ t∈l,t.cs=z)(h:l[i]?=some t):TAt w A E nx t b (i*z):=by
 have:=k.get h
 rwa [Nat.zero_add,Cq hz (fH (aJ.1 h).1)] at this
theorem N6:∀ (p:List Nat) (t u:T An) (b o o':Nat),GI t p o=some (u,o')->TAt w A E nx t b o->TAt w A E nx u b o'
 | [],t,u,b,o,o',h,k=>by
   simp only [GI,aa,ae] at h;obtain ⟨rfl,rfl⟩:=h;exact k
 | i::r,.p v,u,b,o,o',h,k=>by
   cases v<;>simp only [GI,reduceCtorEq] at h;rename_i l;split at h
   . rename_i v hv;refine N6 r _ u b _ o' h ?_;simp only [TAt,dU] at k ⊢;obtain ⟨cs,k1,k2⟩:=k;obtain ⟨p,c,q,rfl,hp,hc⟩:=k1.get hv;refine ⟨c,hc,?_⟩;rw [← hp];exact (Row.append.1 (Row.append.1 k2).1).2
   . cases h
 | i::r,.m v,u,b,o,o',h,_=>by simp [GI] at h
 | i::r,.agg l,u,b,o,o',h,k=>by
   simp only [GI] at h;split at h
   . rename_i t ht;simp only [TAt] at k;exact N6 r _ u b _ o' h (k.get ht)
   . cases h
 | i::r,.vec a z l n,u,b,o,o',h,_=>by simp [GI] at h
 | i::r,.mp a ks l,u,b,o,o',h,_=>by simp [GI] at h
 | i::r,.hole n,u,b,o,o',h,_=>by simp [GI] at h
theorem J0:∀ (p:List Nat) (t u:T An) (b o:Nat),cR t p=some u->TAt w A E nx t b o->∃ b' o',TAt w A E nx u b' o'∧(b'=b∨b'∈t.blk)
 | [],t,u,b,o,h,k=>by
   simp only [cR,aa] at h;subst h;exact ⟨b,o,k,.inl rfl⟩
 | i::r,.p v,u,b,o,h,k=>by
   cases v<;>simp only [cR,reduceCtorEq] at h;rename_i l;split at h
   . rename_i v hv
     have:TAt w A E nx (.p v) b (o+PV.db (l.take i)):=by
      simp only [TAt,dU] at k ⊢;obtain ⟨cs,k1,k2⟩:=k;obtain ⟨p,c,q,rfl,hp,hc⟩:=k1.get hv;refine ⟨c,hc,?_⟩;rw [← hp];exact (Row.append.1 (Row.append.1 k2).1).2
     obtain ⟨b',o',h1,h2⟩:=J0 r (.p v) u b _ h this;exact ⟨b',o',h1,.inl (h2.resolve_right (by simp [T.blk]))⟩
   . cases h
 | i::r,.m v,u,b,o,h,_=>by simp [cR] at h
 | i::r,.agg l,u,b,o,h,k=>by
   simp only [cR] at h;split at h
   . rename_i t ht;simp only [TAt] at k;obtain ⟨b',o',h1,h2⟩:=J0 r t u b _ h (k.get ht);refine ⟨b',o',h1,h2.imp id λhb=>?_⟩
     simp only [T.blk];have key:∀ {l:List (T An)} {i:Nat},l[i]?=some t->b'∈T.dc l:=by
      intro l
      induction l with
      | nil=>intro i h;simp at h
      | cons x q ih =>
        intro i h;cases i with
        | zero=>simp at h;subst h;simp [T.dc,hb]
        | succ i=>simp at h;simp [T.dc,ih h]
     exact key ht
   . cases h
 | i::r,.vec a z l n,u,b,o,h,k=>by
   simp only [cR] at h;split at h
   . rename_i t ht;simp only [TAt] at k;obtain ⟨p,cap,_,_,_,k4⟩:=k;cases hb:a.b with
     | none=>simp only [hb] at k4;rw [k4.1] at ht;simp at ht
     | some b0 =>
       simp only [hb] at k4;obtain ⟨b',o',h1,h2⟩:=J0 r t u b0 _ h (k4.2.2.2.elem k4.2.2.1 ht);refine ⟨b',o',h1,.inr ?_⟩;simp only [T.blk,hb,cg,aS,a7,aG];refine h2.imp id λhb=>?_
       have key:∀ {l:List (T An)} {i:Nat},l[i]?=some t->b'∈T.dc l:=by
        intro l
        induction l with
        | nil=>intro i h;simp at h
        | cons x q ih =>
          intro i h;cases i with
          | zero=>simp at h;subst h;simp [T.dc,hb]
          | succ i=>simp at h;simp [T.dc,ih h]
       exact key ht
   . cases h
 | i::r,.mp a ks l,u,b,o,_,k=>by simp only [TAt] at k
 | i::r,.hole n,u,b,o,h,_=>by simp [cR] at h
end
end Go.Mid
namespace Go.Mid
open Go.RowKit
section
variable {w:World}{A:Nat->Prop}{E:dP An}{nx:di}{h:cj}
theorem MR.vec (m:MR w A E h nx){id:Nat}{path:List Nat}{g z:Nat}{l:List (T Nat)}(hv:jq (h id) path=some (g,z,l)) :
 ∃ an l',jq (E id) path=some (an,z,l')∧an.g=g∧l=l'.map (T.mapA An.g):=by
 rw [m.er id,YB] at hv;cases hE:jq (E id) path with
 | none=>simp [hE] at hv
 | some x =>
   obtain ⟨an,z',l'⟩:=x;simp only [hE,ak,aa,ae] at hv;obtain ⟨rfl,rfl,rfl⟩:=hv;exact ⟨an,l',rfl,rfl,rfl⟩
theorem MR.look (m:MR w A E h nx){id:Nat}{np:Option (List Nat)}{rp:List Nat}{g o:Nat}{t:T Nat}(hv:look (h id) np rp=some (t,g,o)) :
 ∃ an t',look (E id) np rp=some (t',an,o)∧an.g=g∧t=t'.mapA An.g:=by
 rw [m.er id,C9J] at hv;cases hE:Mid.look (E id) np rp with
 | none=>simp [hE] at hv
 | some x =>
   obtain ⟨t',an,o'⟩:=x;simp only [hE,ak,aa,ae] at hv;obtain ⟨rfl,rfl,rfl⟩:=hv;exact ⟨an,t',rfl,rfl,rfl⟩
theorem MR.sub (m:MR w A E h nx){id:Nat}{p:List Nat}{t:T Nat}(hv:iE (h id) p=some t):∃ t',iE (E id) p=some t'∧t=t'.mapA An.g:=by
 rw [m.er id,YA] at hv;cases hE:iE (E id) p with
 | none=>simp [hE] at hv
 | some t'=>simp only [hE,ak,aa] at hv;exact ⟨t',rfl,hv.symm⟩
theorem MR.vO (m:MR w A E h nx){id:Nat}{path:List Nat}{an:An}{z:Nat}{l:List (T An)}(hv:jq (E id) path=some (an,z,l)):VB w A E nx an z l:=by
 have key:∀ {o:Obj An} {n:Nat},E id=some o->iE (some o) path=some (.vec an z l n)->VB w A E nx an z l:=by
  intro o n ho hs;have kV:=m.at_ id o ho;have fin:∀ {b o':Nat},TAt w A E nx (.vec an z l n) b o'->VB w A E nx an z l:=by
   intro b o' k;simp only [TAt] at k;obtain ⟨_,_,_,_,_,k⟩:=k;simp only [VB];exact k
  cases o with
  | cell a t =>
    simp only [OAt] at kV;obtain ⟨b,_,_,k⟩:=kV;simp only [iE] at hs;obtain ⟨b',o',k',_⟩:=J0 _ _ _ _ _ hs k;exact fin k'
  | vec a z' l' =>
    cases path with
    | nil=>simp [iE] at hs
    | cons i r =>
      simp only [iE] at hs;split at hs
      . rename_i t ht;simp only [OAt,VB] at kV;cases hb:a.b with
        | none=>simp only [hb] at kV;rw [kV.1] at ht;simp at ht
        | some b =>
          simp only [hb] at kV;obtain ⟨b',o',k',_⟩:=J0 _ _ _ _ _ hs (kV.2.2.2.elem kV.2.2.1 ht);exact fin k'
      . cases hs
  | mp=>cases path<;>simp [iE] at hs
  | gone=>cases path<;>simp [iE] at hs
 cases ho:E id with
 | none=>rw [ho] at hv;cases path<;>simp [jq,iE] at hv
 | some o =>
   rw [ho] at hv;rcases N5 hv with ⟨rfl,he⟩ | ⟨n,hs⟩
   . cases he
     have:=m.at_ id _ ho
     simpa only [OAt] using this
   . exact key ho hs
theorem MR.uH (m:MR w A E h nx){id:Nat}{np:Option (List Nat)}{rp:List Nat}{an:An}{o:Nat}{t:T An}(hv:Mid.look (E id) np rp=some (t,an,o)) :
 ∃ b,an.b=some b∧TAt w A E nx t b o:=by
 cases np with
 | none =>
   cases ho:E id with
   | none=>rw [ho] at hv;simp [Mid.look] at hv
   | some ob =>
     rw [ho] at hv;cases ob<;>simp only [Mid.look,reduceCtorEq] at hv;rename_i a t0;split at hv
     . rename_i u o' hl;simp only [aa,ae] at hv;obtain ⟨rfl,rfl,rfl⟩:=hv
       have:=m.at_ id _ ho
       simp only [OAt] at this;obtain ⟨b,hb,_,k⟩:=this;exact ⟨b,hb,N6 _ _ _ _ _ _ hl k⟩
     . cases hv
 | some p =>
   simp only [Mid.look] at hv;split at hv
   . rename_i a z l i r iD;split at hv
     . rename_i t0 Cr;split at hv
       . rename_i u o' hl;simp only [aa,ae] at hv;obtain ⟨rfl,rfl,rfl⟩:=hv;have k:=m.vO iD;simp only [VB] at k;cases hb:a.b with
         | none=>simp only [hb] at k;rw [k.1] at Cr;simp at Cr
         | some b =>
           simp only [hb] at k;exact ⟨b,rfl,N6 _ _ _ _ _ _ hl (k.2.2.2.elem k.2.2.1 Cr)⟩
       . cases hv
     . cases hv
   . cases hv
theorem Dd:∀ (p:List Nat) (t u:T An),cR t p=some u->t.st nx->u.st nx
 | [],t,u,h,k=>by simp only [cR,aa] at h;subst h;exact k
 | i::r,.p v,u,h,k=>by
   cases v<;>simp only [cR,reduceCtorEq] at h;split at h
   . rename_i v hv;exact Dd r (.p v) u h trivial
   . cases h
 | i::r,.m v,u,h,_=>by simp [cR] at h
 | i::r,.agg l,u,h,k=>by
   simp only [cR] at h;split at h
   . rename_i t ht;simp only [T.st] at k;have key:∀ {l:List (T An)} {i:Nat},T.j9 nx l->l[i]?=some t->t.st nx:=by
      intro l
      induction l with
      | nil=>intro i _ h;simp at h
      | cons x q ih =>
        intro i k h;simp only [T.j9] at k;cases i with
        | zero=>simp at h;subst h;exact k.1
        | succ i=>simp at h;exact ih k.2 h
     exact Dd r t u h (key k ht)
   . cases h
 | i::r,.vec a z l n,u,h,k=>by
   simp only [cR] at h;split at h
   . rename_i t ht;simp only [T.st] at k;have key:∀ {l:List (T An)} {i:Nat},T.j9 nx l->l[i]?=some t->t.st nx:=by
      intro l
      induction l with
      | nil=>intro i _ h;simp at h
      | cons x q ih =>
        intro i k h;simp only [T.j9] at k;cases i with
        | zero=>simp at h;subst h;exact k.1
        | succ i=>simp at h;exact ih k.2 h
     exact Dd r t u h (key k.2 ht)
   . cases h
 | i::r,.mp a ks l,u,h,k=>by simp [cR] at h
 | i::r,.hole n,u,h,_=>by simp [cR] at h
theorem T.qh {l:List (T An)}{i:Nat}{t:T An}(k:T.j9 nx l)(h:l[i]?=some t):t.st nx:=by
 induction l generalizing i with
 | nil=>simp at h
 | cons x q ih =>
   simp only [T.j9] at k;cases i with
   | zero=>simp at h;subst h;exact k.1
   | succ i=>simp at h;exact ih k.2 h
theorem MR.vP (m:MR w A E h nx){id:Nat}{p:List Nat}{t:T An}(hs:iE (E id) p=some t):t.st nx:=by
 cases ho:E id with
 | none=>rw [ho] at hs;cases p<;>simp [iE] at hs
 | some o =>
   rw [ho] at hs
   have:=m.st id o ho
   cases o with
   | cell a t0=>simp only [iE] at hs;simp only [Obj.st] at this;exact Dd _ _ _ hs this.2
   | vec a z l =>
     cases p with
     | nil=>simp [iE] at hs
     | cons i r =>
       simp only [iE] at hs;simp only [Obj.st] at this;split at hs
       . rename_i t0 Cr;exact Dd _ _ _ hs (T.qh this.2 Cr)
       . cases hs
   | mp a ks l=>cases p<;>simp [iE] at hs
   | gone=>cases p<;>simp [iE] at hs
theorem MR.avR (m:MR w A E h nx){id:Nat}{path:List Nat}{g:Nat}{ks:List PV}{vs:List (T Nat)}(hm:Mid.avR (h id) path=some (g,ks,vs)) :
 path=[]∧∃ an lA,E id=some (.mp an ks lA)∧an.g=g∧vs=T.cI An.g lA:=by
 rw [m.er] at hm;cases hE:E id with
 | none=>rw [hE] at hm;cases path<;>simp [Mid.avR] at hm
 | some o =>
   rw [hE] at hm;cases o<;>cases path<;>simp [Mid.avR,Obj.mapA] at hm;obtain ⟨rfl,rfl,rfl⟩:=hm;exact ⟨rfl,_,_,rfl,rfl,rfl⟩
theorem YD {c:Array Value}(h:(oX c).cells=#[oX c]):False:=by
 simp only [de] at h;have hm:oX c∈c:=by
  have:oX c∈#[oX c]:=by simp
  rw [← h] at this;exact this
 have:=Array.sizeOf_lt_of_mem hm
 simp at this;omega
theorem RS {b o:Nat}:∀ (n:Nat),(∀ j,j<n->∃ v,w.cell? ⟨b,o+j,none⟩=some v)->∃ cs:List Value,cs.length=n∧Row w b o cs
 | 0,_=>⟨[],rfl,Row.nil⟩
 | n+1,k=>by
   obtain ⟨cs,h1,h2⟩:=RS n (λj hj=>k j (by omega))
   obtain ⟨v,hv⟩:=k n (by omega)
   refine ⟨cs++[v],by simp [h1],Row.append.2 ⟨h2,?_⟩⟩
   rw [h1];exact Row.one.2 hv
def AU (w:World)(A:Nat->Prop)(E:dP An)(nx:di)(x:MV)(cs:List Value):Prop :=
 cs.length=x.cs∧((∃ n,x=.dead n)∨bR w A E nx x (pk x.isAgg cs)∧(x.isAgg=false->∃ v,cs=[v]∧v.cells=#[v]))
theorem AU.val {x:MV}{cs:List Value}(k:AU w A E nx x cs):bR w A E nx x (pk x.isAgg cs):=by
 rcases k.2 with ⟨n,rfl⟩ | h
 . simp only [bR]
 . exact h.1
theorem AU.comp {x:MV}{cs:List Value}(k:AU w A E nx x cs):∃ v,v.cells.toList=cs∧v.cells.size=x.cs∧(∀ c,v=.agg c->x.isAgg=true∨∃ n,x=.dead n)∧bR w A E nx x v:=by
 rcases k.2 with ⟨n,rfl⟩ | ⟨h1,h2⟩
 . exact ⟨.agg cs.toArray,by simp [de],by simpa [de,MV.cs] using k.1,λc _=>.inr ⟨n,rfl⟩,by simp only [bR]⟩
 . cases hx:x.isAgg with
   | true =>
     refine ⟨.agg cs.toArray,by simp [de],by simpa [de] using k.1,λc _=>.inl rfl,?_⟩
     simpa [hx,pk] using h1
   | false =>
     obtain ⟨v,rfl,hv⟩:=h2 hx;refine ⟨v,by simp [hv],by simpa [hv] using k.1,?_,?_⟩
     . rintro c rfl;exact (YD hv).elim
     . simpa [hx,pk] using h1
theorem EH:∀ {l:List MV} {vs:List PV},qb l=some vs->l=vs.map .p
 | [],vs,h=>by simp only [qb] at h;cases h;rfl
 | x::r,vs,h=>by
   cases x<;>simp only [qb,reduceCtorEq] at h;split at h
   . rename_i l hl;cases h;simp [EH hl]
   . cases h
theorem RT:∀ {vs:List PV} {cs:List Value},dW w A E nx (vs.map .p) cs->cK w A vs cs
 | [],cs,h=>by simpa only [bt,dW,cK] using h
 | x::r,cs,h=>by
   simp only [aF,dW] at h;obtain ⟨v,d,rfl,h1,h2,h3,h4⟩:=h;simp only [cK];simp only [bR,pD] at h3;obtain ⟨c,h5,rfl⟩:=h3;refine ⟨c,d,?_,h5,RT h4⟩;rw [h5.avn]
theorem AV:∀ {vs:List PV} {l:List Value},c9 w A E nx (vs.map .p) l↔kM w A vs l
 | [],l=>by simp only [bt,c9,kM]
 | x::r,l=>by
   simp only [aF,c9,kM,bR,pD];constructor
   . rintro ⟨v,d,rfl,⟨c,h1,rfl⟩,h2⟩;exact ⟨c,d,rfl,h1,AV.1 h2⟩
   . rintro ⟨c,d,rfl,h1,h2⟩;exact ⟨_,d,rfl,⟨c,h1,rfl⟩,AV.2 h2⟩
theorem N7 {l:List MV}{cs:List Value}(h:dW w A E nx l cs):bR w A E nx (wU l) (.agg cs.toArray):=by
 unfold wU;cases ha:qb l with
 | none=>simp only [bR];exact ⟨cs,rfl,h⟩
 | some vs =>
   rw [EH ha] at h;exact NZ.2 ⟨cs,rfl,RT h⟩
theorem RU (l:List MV):(wU l).cs=MV.db l∧(wU l).isAgg=true:=by
 unfold wU;cases ha:qb l with
 | none=>exact ⟨rfl,rfl⟩
 | some vs =>
   rw [EH ha];refine ⟨?_,rfl⟩;simp only [MV.cs,PV.cs];clear ha
   induction vs with
   | nil=>rfl
   | cons x r ih=>simp [PV.db,MV.db,MV.cs,ih]
mutual
theorem RW (m:MR w A E h nx){id:Nat}:∀ (t:T An) (path:List Nat) (b o:Nat),iE (E id) path=some t->TAt w A E nx t b o->
 ∃ cs,Row w b o cs∧AU w A E nx (xt id path (t.mapA An.g)) cs∧cs.length=t.cs
 | .p v,path,b,o,_,k=>by
   simp only [TAt] at k;obtain ⟨cs,h1,h2⟩:=k;refine ⟨cs,h2,⟨by simpa [T.mapA,xt,MV.cs] using h1.len,.inr ⟨?_,?_⟩⟩,by simpa [T.cs] using h1.len⟩
   . simp only [T.mapA,xt,MV.isAgg,bR,pD];exact ⟨cs,h1,rfl⟩
   . intro hx;obtain ⟨x,rfl,J1⟩:=h1.one hx;exact ⟨x,rfl,J1⟩
 | .m v,path,b,o,_,k=>by
   simp only [TAt] at k;obtain ⟨h0,h1,val,h2,h3⟩:=k;refine ⟨[val],h3,⟨by simpa [T.mapA,xt] using h0.symm,?_⟩,by simpa [T.cs] using h0.symm⟩
   simp only [T.mapA,xt];by_cases hd:∃ n,v=.dead n
   . exact .inl hd
   . refine .inr ⟨by simpa [h1,pk] using h2,λ_=>⟨val,rfl,h2.xE h1 (λn e=>hd ⟨n,e⟩)⟩⟩
 | .agg l,path,b,o,hs,k=>by
   simp only [TAt] at k;obtain ⟨cs,h1,h2,h3⟩:=YE m l [] path b o (by simpa using hs) k
   simp only [T.mapA,xt];refine ⟨cs,h1,⟨?_,.inr ⟨?_,?_⟩⟩,by simpa [T.cs] using h3⟩
   . rw [(RU _).1]
     have:∀ {l:List MV} {cs:List Value},dW w A E nx l cs->cs.length=MV.db l:=by
      intro l
      induction l with
      | nil=>intro cs h;simp only [dW] at h;subst h;rfl
      | cons x r ih =>
        intro cs h;simp only [dW] at h;obtain ⟨v,d,rfl,h1,_,_,h4⟩:=h;rw [aR,dX,h1,ih h4,MV.db]
     exact this h2
   . rw [(RU _).2];simpa [pk] using N7 h2
   . rw [(RU _).2];intro h;cases h
 | .vec an z l n,path,b,o,hs,k=>by
   have hst:=m.vP hs;simp only [T.st] at hst;simp only [TAt] at k;obtain ⟨a,cap,h1,h2,h3,h4⟩:=k;refine ⟨[.slice a n cap],h1,⟨rfl,.inr ⟨?_,λ_=>⟨_,rfl,rfl⟩⟩⟩,rfl⟩
   simp only [T.mapA,xt,MV.isAgg,pk,bR,aI,if_false,lH];refine ⟨hst.1,a,cap,rfl,?_,λrU z' hn hg=>?_⟩
   . unfold kU at h3;cases hb:an.b with
     | none=>simp only [hb] at h3;omega
     | some b' =>
       simp only [hb] at h3 h4
       have:=h4.2.1
       have:=h3.1
       omega
   . have:fc (E id) (some path)=some (an,some z):=by
      refine uG (l:=l) ?_;unfold jq;split
      . rename_i he;rw [he] at hs;simp [iE] at hs
      . rw [hs]
     rw [this] at hn;cases hn;exact h3
 | .mp ..,_,_,_,_,k=>by simp only [TAt] at k
 | .hole n,path,b,o,_,k=>by
   simp only [TAt] at k
   have:=RS n k
   obtain ⟨cs,h1,h2⟩:=this;exact ⟨cs,h2,⟨by simpa [T.mapA,xt,MV.cs] using h1,.inl ⟨n,rfl⟩⟩,by simpa [T.cs] using h1⟩
theorem YE (m:MR w A E h nx){id:Nat}:∀ (l pre:List (T An)) (path:List Nat) (b o:Nat),iE (E id) path=some (.agg (pre++l))->cD w A E nx l b o->
 ∃ cs,Row w b o cs∧dW w A E nx (zb id path pre.length (T.cI An.g l)) cs∧cs.length=T.db l
 | [],pre,path,b,o,_,_=>⟨[],Row.nil,by simp only [T.cI,zb,dW],rfl⟩
 | t::r,pre,path,b,o,hs,k=>by
   simp only [cD] at k;have ht:iE (E id) (path++[pre.length])=some t:=by
    rw [YC _ _ _ hs];simp [cR]
   obtain ⟨c,h1,h2,h3⟩:=RW m t (path++[pre.length]) b o ht k.1;obtain ⟨d,h4,h5,h6⟩:=YE m r (pre++[t]) path b (o+t.cs) (by simpa using hs) k.2
   obtain ⟨v,Cs,xF,hv3,hv4⟩:=h2.comp;refine ⟨c++d,Row.append.2 ⟨h1,by rw [h3];exact h4⟩,?_,by rw [aR,h3,h6,T.db]⟩
   simp only [T.cI,zb,dW];refine ⟨v,d,by rw [Cs],xF,hv3,hv4,?_⟩
   simpa using h5
end
end
end Go.Mid
namespace Go.Mid
open Go.RowKit
theorem vQ (b o n:Nat):(⟨b,o,none⟩:Addr).add n=⟨b,o+n,none⟩:=by
 unfold Addr.add;split
 . rename_i h;subst h;rfl
 . rfl
section
variable {w:World}{A:Nat->Prop}{E:dP An}{nx:di}
theorem fB.get:∀ {l:List PV} {b o z i:Nat} {x:PV},fB w A l b o z->l[i]?=some x->∃ c,dU w A x c∧c.length=z∧Row w b (o+i*z) c
 | [],_,_,_,i,x,_,h=>by simp at h
 | y::r,b,o,z,0,x,k,h=>by
   simp only [fB] at k;obtain ⟨⟨c,h1,h2,h3⟩,_⟩:=k;simp at h;subst h;exact ⟨c,h1,h2,by simpa using h3⟩
 | y::r,b,o,z,i+1,x,k,h=>by
   simp only [fB] at k;simp only [bK] at h;obtain ⟨c,h1,h2,h3⟩:=fB.get k.2 h;refine ⟨c,h1,h2,?_⟩
   rwa [bV,ic z,← du] at h3
theorem J2 {x:MV}{val:Value}{i:Int}(h:yu x=some i)(hv:bR w A E nx x val):∃ k,val=.int k i:=by
 unfold yu at h;split at h
 . cases h;exact ⟨_,A1W.1 hv⟩
 . cases h
theorem J3 {x:MV}{val:Value}{n k:Nat}(h:zY n x=some k)(hv:bR w A E nx x val):∃ kd,val=.int kd k∧k<n:=by
 unfold zY at h;split at h
 . rename_i i hi;split at h
   . rename_i hb;cases h;obtain ⟨kd,rfl⟩:=J2 hi hv;exact ⟨kd,by rw [Int.toNat_of_nonneg hb.1],by omega⟩
   . cases h
 . cases h
theorem H5 {x:MV}{val:Value}{n k:Nat}(h:ze n x=some k)(hv:bR w A E nx x val):∃ kd,val=.int kd k∧k<=n:=by
 unfold ze at h;split at h
 . rename_i i hi;split at h
   . rename_i hb;cases h;obtain ⟨kd,rfl⟩:=J2 hi hv;exact ⟨kd,by rw [Int.toNat_of_nonneg hb.1],by omega⟩
   . cases h
 . cases h
end
section
variable {P:Program}{o:Oper}{a:Act}{w:World}{A:Nat->Prop}{E:dP An}{nx:di}{γ:Nat}{v:MV}{h h':cj}{s:gB}{K:jm}{d:Option Nat}
 (hs:qM P w A E nx s a) (hm:MR w A E h nx)
theorem N8 (w:World){t:TypeId}(hU:rS P t=true){b o:Nat}{cs:List Value}(hc:cs.length=P.cellsOf t)(hr:Row w b o cs)(h1:mW P t=false->cs.length=1) :
 (loadVar t ⟨b,o,none⟩).run P w=.ok (pk (mW P t) cs) w:=by
 have hrow:∀ j v,cs[j]?=some v->w.cell? ((⟨b,o,none⟩:Addr).add j)=some v:=λj v hj=>by rw [vQ];exact hr j v hj
 simp only [loadVar,bn,Yp w hU,aU];cases hg:mW P t with
 | true =>
   simp only [if_true,bn,FX w hU,aU];rw [← hc,run_loadCells_list w _ cs hrow];simp [pk]
 | false =>
   obtain ⟨x,rfl⟩:=List.length_eq_one_iff.1 (h1 hg)
   have:=Row.one.1 hr
   simp [pk,this]
include hs hm
theorem C9K {t:TypeId}{x:Operand}{x':dJ}{t0:TypeId}(ho:o.op=.load t x)(hx:fu P t0 x=some x')(hU:rS P t=true)
 (he:cb K γ d s h (.load (mW P t) (P.cellsOf t) x')=some (v,h')):cC P o a w A E nx γ v h':=by
 have dI:=jP hs hx;simp only [cb] at he;split at he
 . rename_i u hu;simp only [aa,ae] at he;obtain ⟨rfl,rfl⟩:=he;unfold vF at hu;split at hu
   . rename_i pv hp;split at hu
     . rename_i hc;cases hu;rw [hp] at dI;obtain ⟨b,o',cE,hA,cv,h1,h2⟩:=Cn.1 dI;refine cC.idle (val:=pk (mW P t) cv) ?_ ?_ hm
       . simp only [execOp,ho,cE,u0,iW,bn,bL,aU];rw [N8 w hU (by rw [h1.len,hc.1]) h2 (λhg=>by rw [← hc.2] at hg;obtain ⟨_,rfl,_⟩:=h1.one hg;rfl)]
         rfl
       . simp only [bR,pD];exact ⟨cv,h1,by rw [hc.2]⟩
     . cases hu
   . rename_i id np rp g o' hp;split at hu
     . rename_i t' s' oo hl;simp only at hu;split at hu
       . rename_i hc;obtain ⟨rfl,rfl,eV⟩:=hc;split at hu
         . rename_i hagg;obtain ⟨hagg,sw⟩:=hagg;cases hu;obtain ⟨an,tA,om,hg,rfl⟩:=hm.look hl;obtain ⟨b,hb,kV⟩:=hm.uH om;rw [hp] at dI;simp only [bR] at dI;obtain ⟨_,ad,cE,sx⟩:=dI;obtain ⟨z,hn⟩:=A8q om;obtain ⟨b',js,rfl⟩:=sx an z hn hg;rw [hb] at js;cases js;obtain ⟨cs,hrow,J4,hlen⟩:=RW hm tA (sZ np rp) b oo (N4 om) kV;rw [T.kb] at eV;refine cC.idle (val:=pk (mW P t) cs) ?_ ?_ hm
           . simp only [execOp,ho,cE,u0,iW,bn,bL,aU];rw [N8 w hU (by rw [hlen,eV]) hrow ?_]
             . rfl
             . intro ta;rw [← hagg] at ta;rcases J4.2 with ⟨n,hn⟩ | ⟨_,h2⟩
               . rw [hn] at sw;cases sw
               . obtain ⟨x,rfl,_⟩:=h2 ta;rfl
           . rw [← hagg];exact J4.val
         . cases hu
       . cases hu
     . cases hu
   . cases hu
 . cases he
omit hs hm in
theorem De {c:Call}{b:Builtin}(ho:o.op=.call c)(hc:c.callee=.builtin b) :
 (execOp a.eval o).run P w=(builtin b c.argTypes o.type (c.args.map λ| .const _=>true | _=>false) (c.args.map a.eval)).run P w:=by
 simp only [execOp,ho,resolve,hc,bn,bL,aU,invoke];rfl
theorem D1I {x:Operand}{x':dJ}{t t0 e:TypeId}{c:Call}(ho:o.op=.call c)(qg:c.callee=.builtin .len)(pg:c.args=#[x])(ur:c.argTypes=#[t])(hx:fu P t0 x=some x')
 (hu:P.underlying t=some (.slice e))
 (he:cb K γ d s h (.len x')=some (v,h')):cC P o a w A E nx γ v h':=by
 have dI:=jP hs hx;simp only [cb] at he;split at he
 . rename_i n hn;simp only [aa,ae,yr] at he;obtain ⟨rfl,rfl⟩:=he;have main:∀ p cap,a.eval x=.slice p n cap->cC P o a w A E nx γ (.p (.int .i64 n)) h:=by
    intro p cap cE;refine cC.idle (val:=.int .i64 n) ?_ (A1W.2 rfl) hm;rw [De ho qg];simp [builtin,pg,ur,cE,Builtin.len_,aZ hu,goInt]
   unfold AM at hn;split at hn
   . rename_i l hl;cases hn;rw [hl] at dI;obtain ⟨p,cap,cE,_⟩:=xD.1 dI;exact main p cap cE
   . rename_i z hl;cases hn;rw [hl] at dI;simp only [bR] at dI;obtain ⟨p,cE⟩:=dI;exact main p 0 cE
   . rename_i id path off len g hl;cases hn;rw [hl] at dI;simp only [bR] at dI;obtain ⟨_,p,cap,cE,_⟩:=dI;exact main p cap cE
   . cases hn
 . cases he
theorem C9L {x:Operand}{x':dJ}{t t0 e:TypeId}{c:Call}(ho:o.op=.call c)(qg:c.callee=.builtin .cap)(pg:c.args=#[x])(ur:c.argTypes=#[t])(hx:fu P t0 x=some x')
 (hu:P.underlying t=some (.slice e))
 (he:cb K γ d s h (.capn x')=some (v,h')):cC P o a w A E nx γ v h':=by
 have dI:=jP hs hx;simp only [cb] at he;split at he
 . rename_i z hb;simp only [aa,ae,yr] at he;obtain ⟨rfl,rfl⟩:=he;rw [hb] at dI;simp only [bR] at dI;obtain ⟨p,cE⟩:=dI;refine cC.idle (val:=.int .i64 (0:Nat)) ?_ (A1W.2 rfl) hm;rw [De ho qg];simp [builtin,pg,ur,cE,Builtin.cap_,aZ hu,goInt]
 . cases he
theorem C9M {x:Operand}{x':dJ}{t t0:TypeId}{c:Call}(ho:o.op=.call c)(qg:c.callee=.builtin .len)(pg:c.args=#[x])(ur:c.argTypes=#[t])(hx:fu P t0 x=some x')
 (hu:P.underlying t=some .string)
 (he:cb K γ d s h (.lenS x')=some (v,h')):cC P o a w A E nx γ v h':=by
 have dI:=jP hs hx;simp only [cb] at he;split at he
 . rename_i b hb;simp only [aa,ae,yr] at he;obtain ⟨rfl,rfl⟩:=he;rw [hb,Cm] at dI;refine cC.idle (val:=.int .i64 b.size) ?_ (A1W.2 rfl) hm;rw [De ho qg];simp [builtin,pg,ur,dI,Builtin.len_,aZ hu,goInt]
 . cases he
theorem C7Z {x ix:Operand}{x' hZ:dJ}{t t0 t1 e:TypeId}(ho:o.op=.indexAddr t x ix)(hx:fu P t0 x=some x')(Ct:fu P t1 ix=some hZ)
 (hu:P.underlying t=some (.slice e)) (hz:P.cellsOf e≠0)
 (he:cb K γ d s h (.iaddr (P.cellsOf e) x' hZ)=some (v,h')):cC P o a w A E nx γ v h':=by
 have dI:=jP hs hx;have AW:=jP hs Ct;simp only [cb] at he;split at he
 . rename_i u nT;simp only [aa,ae] at he;obtain ⟨rfl,rfl⟩:=he;have main:∀ b o' len cap kd (k:Nat),a.eval x=.slice (some ⟨b,o',none⟩) len cap->a.eval ix=.int kd k->k<len->bR w A E nx u (.pointer (some ⟨b,o'+k*P.cellsOf e,none⟩))->
    cC P o a w A E nx γ u h:=by
    intro b o' len cap kd k h1 h2 h3 h4;refine cC.idle ?_ h4 hm;have h5:(k:Int)<(len:Int):=by omega
    simp [execOp,ho,h1,h2,tW,asIntOf,aZ hu,h3,Dc w hz,vQ]
   unfold Ci at nT;split at nT
   . rename_i l hl;split at nT
     . rename_i k hk;split at nT
       . rename_i pv z8;split at nT
         . rename_i eV;cases nT;obtain ⟨kd,qi,eC⟩:=J3 hk AW;rw [hl] at dI;obtain ⟨p,cap,cE,_,ia⟩:=xD.1 dI;rcases ia with rfl | ⟨b,o',z,rfl,hA,ia⟩
           . simp at z8
           . obtain ⟨c,h1,h2,h3⟩:=ia.get z8
             have:z=P.cellsOf e:=by rw [← h2,h1.len,eV]
             subst this;exact main b o' l.length cap kd k cE qi eC (Cn.2 ⟨b,_,rfl,hA,c,h1,h3⟩)
         . cases nT
       . cases nT
     . cases nT
   . rename_i id path off len g hl;split at nT
     . rename_i k hk;split at nT
       . rename_i g' z' l' iD;split at nT
         . rename_i hc;obtain ⟨rfl,rfl⟩:=hc;cases nT;obtain ⟨kd,qi,eC⟩:=J3 hk AW;rw [hl] at dI;simp only [bR] at dI;obtain ⟨hg,p,cap,cE,nU,iL⟩:=dI;obtain ⟨an,lA,nB,F0,rfl⟩:=hm.vec iD;have hn:=uG nB;have hh:=iL an _ hn F0;unfold kU at hh;cases hb:an.b with
           | none=>simp only [hb] at hh;omega
           | some b =>
             simp only [hb] at hh;rcases hh with ⟨oq,hh | rfl⟩
             . omega
             . refine main b _ len cap kd k cE qi eC ?_;simp only [bR];refine ⟨by omega,_,rfl,λrU z rV ta=>?_⟩
               rw [hn] at rV;cases rV;exact ⟨b,hb,by rw [hY]⟩
         . cases nT
       . cases nT
     . cases nT
   . cases nT
 . cases he
omit hs hm in
theorem J5 (hs:qM P w A E nx s a){n:Nat}{lo hi:Option Operand}{j5 hi':Option dJ}(yA:xB P lo=some j5)(Aa:xB P hi=some hi'){i j:Nat}(he:C5 n (j5.map (cJ s)) (hi'.map (cJ s))=some (i,j)) :
 i<=j∧j<=n∧∀ YF cap,n<=cap->(dZ YF n cap (lo.map a.eval) (hi.map a.eval) none).run P w=.ok (i,j,cap) w:=by
 have opt:∀ {x:Option Operand} {x':Option dJ},xB P x=some x'->(x=none∧x'=none)∨∃ y y' t,x=some y∧x'=some y'∧fu P t y=some y':=by
  intro x x' hx;unfold xB at hx;cases x with
  | none=>simp at hx;exact .inl ⟨rfl,hx.symm⟩
  | some y =>
    simp only at hx;split at hx
    . rename_i y' hy;cases hx;exact .inr ⟨y,y',0,rfl,rfl,hy⟩
    . cases hx
 unfold C5 at he;have bd:∀ {x:Option Operand} {x':Option dJ} {n m:Nat} {r:Nat},xB P x=some x'->Eu n m (x'.map (cJ s))=some r->(x=none∧r=m)∨∃ y kd,x=some y∧a.eval y=.int kd r∧r<=n:=by
  intro x x' n m r hx hb;rcases opt hx with ⟨rfl,rfl⟩ | ⟨y,y',t,rfl,rfl,hy⟩
  . simp only [dx,Eu,aa] at hb;exact .inl ⟨rfl,hb.symm⟩
  . simp only [ak,Eu] at hb;obtain ⟨kd,cE,hle⟩:=H5 hb (jP hs hy);exact .inr ⟨y,kd,rfl,cE,hle⟩
 split at he
 . rename_i jj h1;split at he
   . rename_i ii h4;simp only [aa,ae] at he;obtain ⟨rfl,rfl⟩:=he;have h3:=bd Aa h1;have h6:=bd yA h4;have h2:jj<=n:=by
      rcases h3 with ⟨_,rfl⟩ | ⟨_,_,_,_,h⟩
      . exact ay _
      . exact h
     have h5:ii<=jj:=by
      rcases h6 with ⟨_,rfl⟩ | ⟨_,_,_,_,h⟩
      . exact Nat.zero_le _
      . exact h
     refine ⟨h5,h2,λYF cap oq=>?_⟩
     have e1:∀ (kd:IntKind) (m y:Nat) (cd:BoundsCode),m<=y->(fS (.int kd m) y cd).run P w=.ok m w:=by
      intro kd m y cd hle
      have:(m:Int)<=(y:Int):=by omega
      simp [fS,asIntOf,this]
     rcases h3 with ⟨rfl,rfl⟩ | ⟨y,kd,rfl,hy,_⟩<;>rcases h6 with ⟨rfl,rfl⟩ | ⟨y2,YG,rfl,hy2,_⟩
     . simp [dZ]
     . simp [dZ,hy2,e1 YG ii _ _ h5]
     . simp [dZ,hy,e1 kd jj cap _ (by omega)]
     . simp [dZ,hy,hy2,e1 kd jj cap _ (by omega),e1 YG ii _ _ h5]
   . cases he
 . cases he
theorem C6a {x:Operand}{x':dJ}{lo hi:Option Operand}{j5 hi':Option dJ}{t t0:TypeId}(ho:o.op=.slice t x lo hi none)(hx:fu P t0 x=some x')
 (yA:xB P lo=some j5) (Aa:xB P hi=some hi') (hu:P.underlying t=some .string)
 (he:cb K γ d s h (.nz x' j5 hi')=some (v,h')):cC P o a w A E nx γ v h':=by
 have dI:=jP hs hx;simp only [cb] at he;split at he
 . rename_i b hb;split at he
   . rename_i i j gM;simp only [aa,ae] at he;obtain ⟨rfl,rfl⟩:=he;rw [hb,Cm] at dI;obtain ⟨_,_,hr⟩:=J5 hs yA Aa gM;refine cC.idle (val:=.string (b.extract i j)) ?_ (Cm.2 rfl) hm;simp [execOp,ho,dI,jH,mK,aZ hu,hr false b.size (ay _)]
   . cases he
 . cases he
omit hs hm in
theorem C70 {u:MV}{val:Value}{n:Nat}(hv:bR w A E nx u val)(h:AM u=some n):∃ p cap,val=.slice p n cap∧n<=cap:=by
 unfold AM at h;split at h
 . cases h;obtain ⟨p,cap,cE,hc,_⟩:=xD.1 hv;exact ⟨p,cap,cE,hc⟩
 . cases h;simp only [bR] at hv;obtain ⟨p,cE⟩:=hv;exact ⟨p,0,cE,ay _⟩
 . cases h;simp only [bR] at hv;obtain ⟨_,p,cap,cE,hc,_⟩:=hv;exact ⟨p,cap,cE,hc⟩
 . cases h
theorem C6b {x lo hi mx:Operand}{x' j5 hi' RX:dJ}{t t0 t1 t2 t3 e:TypeId}(ho:o.op=.slice t x (some lo) (some hi) (some mx))(hx:fu P t0 x=some x')
 (yA:fu P t1 lo=some j5) (Aa:fu P t2 hi=some hi') (RY:fu P t3 mx=some RX) (hu:P.underlying t=some (.slice e)) (hz:P.cellsOf e≠0)
 (he:cb K γ d s h (.slice3 x' j5 hi' RX)=some (v,h')):cC P o a w A E nx γ v h':=by
 have dI:=jP hs hx;simp only [cb] at he;split at he
 . rename_i n hn;split at he
   . rename_i m F1;split at he
     . rename_i b ot;split at he
       . rename_i c qg;simp only [aa,ae] at he;obtain ⟨rfl,rfl⟩:=he;obtain ⟨p,cap,cE,oq⟩:=C70 dI hn;obtain ⟨k1,v1,l1⟩:=H5 F1 (jP hs RY);obtain ⟨k2,v2,l2⟩:=H5 ot (jP hs Aa);obtain ⟨k3,v3,l3⟩:=H5 qg (jP hs yA);have e1:∀ (kd:IntKind) (m y:Nat) (cd:BoundsCode),m<=y->(fS (.int kd m) y cd).run P w=.ok m w:=by
          intro kd m y cd hle
          have:(m:Int)<=(y:Int):=by omega
          simp [fS,asIntOf,this]
         refine cC.idle (val:=.slice (if m=c then p else p.map (·.add (c*P.cellsOf e))) (b-c) (m-c)) ?_ (by simp only [bR]) hm
         simp [execOp,ho,cE,jH,mK,aZ hu,dZ,v1,v2,v3,e1 k1 m cap _ (by omega),e1 k2 b m _ l2,e1 k3 c b _ l3,Dc w hz]
       . cases he
     . cases he
   . cases he
 . cases he
omit hs hm in
theorem cK.el:∀ {l:List PV} {cs:List Value} {b o z:Nat},cK w A l cs->Row w b o cs->l.all (λv=>v.cs==z)=true->fB w A l b o z
 | [],_,_,_,_,_,_,_=>by simp only [fB]
 | x::r,cs,b,o,z,h,hr,hz=>by
   simp only [cK] at h;obtain ⟨c,d,rfl,h1,h2⟩:=h;simp only [dC,aj,beq_iff_eq] at hz;obtain ⟨r1,r2⟩:=Row.append.1 hr;simp only [fB];have hc:c.length=z:=by rw [h1.len,hz.1]
   exact ⟨⟨c,h1,hc,r1⟩,cK.el h2 (hc ▸ r2) hz.2⟩
omit hs hm in
theorem fB.drop:∀ {l:List PV} {b o' z:Nat} (k:Nat),fB w A l b o' z->fB w A (l.drop k) b (o'+k*z) z
 | l,b,o',z,0,h=>by simpa using h
 | [],b,o',z,k+1,_=>by simp only [List.drop_nil,fB]
 | x::r,b,o',z,k+1,h=>by
   simp only [fB] at h
   have:=fB.drop k h.2
   rw [List.drop_succ_cons,du,ic (k*z),← bV];exact this
omit hs hm in
theorem fB.take:∀ {l:List PV} {b o' z:Nat} (k:Nat),fB w A l b o' z->fB w A (l.take k) b o' z
 | l,b,o',z,0,h=>by simp only [List.take_zero,fB]
 | [],b,o',z,k+1,_=>by simp only [List.take_nil,fB]
 | x::r,b,o',z,k+1,h=>by
   simp only [fB] at h;rw [bU];simp only [fB];exact ⟨h.1,fB.take k h.2⟩
omit hs hm in
theorem fB.z {l:List PV}{b o' z:Nat}(k:fB w A l b o' z)(hne:l ≠ []){n:Nat}(hz:l.all (λv=>v.cs==n)=true):z=n:=by
 cases l with
 | nil=>exact absurd rfl hne
 | cons x r =>
   simp only [fB] at k;obtain ⟨⟨c,h1,h2,_⟩,_⟩:=k;simp only [dC,aj,beq_iff_eq] at hz;rw [← h2,h1.len,hz.1]
theorem C71 {x:Operand}{x':dJ}{lo hi:Option Operand}{j5 hi':Option dJ}{t t0 e:TypeId}(ho:o.op=.slice t x lo hi none)(hx:fu P t0 x=some x')
 (yA:xB P lo=some j5) (Aa:xB P hi=some hi') (hu:P.underlying t=some (.slice e)) (hz:P.cellsOf e≠0)
 (he:cb K γ d s h (.slice (P.cellsOf e) x' j5 hi')=some (v,h')):cC P o a w A E nx γ v h':=by
 have dI:=jP hs hx;simp only [cb] at he;split at he
 . rename_i u nT;simp only [aa,ae] at he;obtain ⟨rfl,rfl⟩:=he;have main:∀ p len cap i j,a.eval x=.slice p len cap->C5 len (j5.map (cJ s)) (hi'.map (cJ s))=some (i,j)->len<=cap->
    bR w A E nx u (.slice (if cap=i then p else p.map (·.add (i*P.cellsOf e))) (j-i) (cap-i))->cC P o a w A E nx γ u h:=by
    intro p len cap i j h1 h2 h3 h4;obtain ⟨_,_,hr⟩:=J5 hs yA Aa h2;refine cC.idle ?_ h4 hm;simp [execOp,ho,h1,jH,mK,aZ hu,hr true cap h3,Dc w hz]
   unfold Ch at nT;split at nT
   . rename_i l hl;split at nT
     . rename_i i j gM;split at nT
       . rename_i hall;cases nT;rw [hl] at dI;obtain ⟨p,cap,cE,nU,ia⟩:=xD.1 dI;obtain ⟨AX,Df,_⟩:=J5 hs yA Aa gM;refine main p l.length cap i j cE gM nU ?_;have hlen:((l.take j).drop i).length=j-i:=by rw [List.length_drop,List.length_take,Nat.min_eq_left Df]
         refine xD.2 ⟨_,_,by rw [hlen],by rw [hlen];omega,?_⟩
         by_cases hne:j=i
         . left;exact List.eq_nil_of_length_eq_zero (by rw [hlen];omega)
         . right;rcases ia with rfl | ⟨b,o',z,rfl,hA,ia⟩
           . simp at Df;omega
           . have J6:=ia.z (by rintro rfl;simp at Df;omega) hall
             subst J6;refine ⟨b,o'+i*P.cellsOf e,P.cellsOf e,?_,hA,fB.drop i (fB.take j ia)⟩;rw [if_neg (by omega)]
             simp [vQ]
       . cases nT
     . cases nT
   . rename_i z hl;split at nT
     . rename_i ij gM;cases nT;rw [hl] at dI;simp only [bR] at dI;obtain ⟨p,cE⟩:=dI;obtain ⟨i,j⟩:=ij;obtain ⟨AX,Df,_⟩:=J5 hs yA Aa gM;refine main p 0 0 i j cE gM (ay _) ?_
       have:i=0:=by omega
       have:j=0:=by omega
       subst i;subst j;simp only [bR];exact ⟨_,rfl⟩
     . cases nT
   . rename_i id path off len g hl;split at nT
     . rename_i i j g' z' l' gM iD;split at nT
       . rename_i hc;obtain ⟨rfl,rfl⟩:=hc;cases nT;rw [hl] at dI;simp only [bR] at dI;obtain ⟨hg,p,cap,cE,nU,iL⟩:=dI;obtain ⟨AX,Df,_⟩:=J5 hs yA Aa gM;refine main p len cap i j cE gM nU ?_;simp only [bR];refine ⟨hg,_,_,rfl,by omega,λan z hn J7=>?_⟩
         obtain ⟨rU,lA,nB,F0,rfl⟩:=hm.vec iD;have rV:=uG nB;rw [rV] at hn;cases hn;have hh:=iL _ _ rV F0;unfold kU at hh ⊢;cases hb:an.b with
         | none=>simp only [hb] at hh ⊢;omega
         | some b =>
           simp only [hb] at hh ⊢;refine ⟨by omega,?_⟩
           by_cases H6:cap=i
           . left;omega
           . rcases hh with ⟨oq,hh | rfl⟩
             . left;omega
             . right;rw [if_neg H6];simp [vQ,hY]
       . cases nT
     . cases nT
   . cases nT
 . cases he
theorem C6c {x lo hi:Operand}{x' j5 hi':dJ}{t t0 t1 t2 e:TypeId}(ho:o.op=.slice t x (some lo) (some hi) none)(hx:fu P t0 x=some x')
 (yA:fu P t1 lo=some j5) (Aa:fu P t2 hi=some hi') (hu:P.underlying t=some (.slice e)) (hz:P.cellsOf e≠0)
 (he:cb K γ d s h (.sliceK (P.cellsOf e) x' j5 hi')=some (v,h')):cC P o a w A E nx γ v h':=by
 have dI:=jP hs hx;simp only [cb] at he;split at he
 . rename_i id path off len g hl;split at he
   . rename_i g' z' l' iD;split at he
     . rename_i hc;obtain ⟨rfl,rfl,lD⟩:=hc;split at he
       . rename_i j Df;split at he
         . rename_i i AX;simp only [aa,ae] at he;obtain ⟨rfl,rfl⟩:=he;rw [hl] at dI;simp only [bR] at dI;obtain ⟨hg,p,cap,cE,nU,iL⟩:=dI;obtain ⟨k2,v2,l2⟩:=H5 Df (jP hs Aa);obtain ⟨k3,v3,l3⟩:=H5 AX (jP hs yA);obtain ⟨an,lA,nB,F0,rfl⟩:=hm.vec iD;have rV:=uG nB;have hh:=iL _ _ rV F0;have hB:=hm.vO nB;have hjc:j<=cap:=by
            rw [aB] at l2 lD;unfold kU at hh;unfold VB at hB;cases hb:an.b with
            | none =>
              simp only [hb] at hh hB;obtain ⟨rfl,_⟩:=hB;simp at l2;omega
            | some b =>
              simp only [hb] at hh hB;omega
           have e1:∀ (kd:IntKind) (m y:Nat) (cd:BoundsCode),m<=y->(fS (.int kd m) y cd).run P w=.ok m w:=by
            intro kd m y cd hle
            have:(m:Int)<=(y:Int):=by omega
            simp [fS,asIntOf,this]
           refine cC.idle (val:=.slice (if cap=i then p else p.map (·.add (i*P.cellsOf e))) (j-i) (cap-i)) ?_ ?_ hm
           . simp [execOp,ho,cE,jH,mK,aZ hu,dZ,v2,v3,e1 k2 j cap _ hjc,e1 k3 i j _ l3,Dc w hz]
           . simp only [bR];refine ⟨hg,_,_,rfl,by omega,λYH z hn J7=>?_⟩
             rw [rV] at hn;cases hn;unfold kU at hh ⊢;cases hb:an.b with
             | none=>simp only [hb] at hh ⊢;omega
             | some b =>
               simp only [hb] at hh ⊢;refine ⟨by omega,?_⟩
               by_cases H6:cap=i
               . left;omega
               . rcases hh with ⟨oq,hh | rfl⟩
                 . left;omega
                 . right;rw [if_neg H6];simp [vQ,hY]
         . cases he
       . cases he
     . cases he
   . cases he
 . cases he
theorem D1J {x:Operand}{x':dJ}{t t0 e:TypeId}{n:Nat}(ho:o.op=.slice t x none none none)(hx:fu P t0 x=some x')
 (hu:P.underlying t=some (.array n e)) (hz:P.cellsOf e≠0)
 (he:cb K γ d s h (.C2 n (P.cellsOf e) x')=some (v,h')):cC P o a w A E nx γ v h':=by
 have dI:=jP hs hx;simp only [cb] at he;split at he
 . rename_i l hl;split at he
   . rename_i hc;simp only [aa,ae] at he;obtain ⟨rfl,rfl⟩:=he;rw [hl] at dI;obtain ⟨b,o',cE,hA,cv,Cp,hrow⟩:=Cn.1 dI;simp only [dU] at Cp;refine cC.idle (val:=.slice (some (if n=0 then (⟨b,o',none⟩:Addr) else (⟨b,o',none⟩:Addr).add (0*P.cellsOf e))) (n-0) (n-0)) ?_ ?_ hm
     . simp [execOp,ho,cE,jH,aZ hu,dZ,iW,Dc w hz]
     . refine xD.2 ⟨_,_,by rw [hc.1,Nat.sub_zero],by rw [hc.1];omega,?_⟩
       right;refine ⟨b,o',P.cellsOf e,?_,hA,cK.el Cp hrow hc.2⟩;split<;>simp [vQ]
   . cases he
 . cases he
theorem C9N {x:Operand}{x':dJ}{t t0 e:TypeId}(ho:o.op=.slice t x none (some (.const (.int .i64 0))) (some (.const (.int .i64 0))))(hx:fu P t0 x=some x')
 (hu:P.underlying t=some (.slice e)) (hz:P.cellsOf e≠0)
 (he:cb K γ d s h (.cut0 (P.cellsOf e) x')=some (v,h')):cC P o a w A E nx γ v h':=by
 have dI:=jP hs hx;have main:∀ p len cap,a.eval x=.slice p len cap->cC P o a w A E nx γ (.nil (P.cellsOf e)) h:=by
  intro p len cap cE;refine cC.idle (val:=.slice (if (0:Nat)=0 then p else p) 0 0) ?_ (by simp only [bR];exact ⟨_,rfl⟩) hm
  simp [execOp,ho,cE,jH,mK,aZ hu,Dc w hz,dZ,fS,asIntOf,FZ]
 simp only [cb] at he;split at he<;>simp only [aa,ae,reduceCtorEq] at he<;>try contradiction
 . obtain ⟨rfl,rfl⟩:=he;rename_i l hl;rw [hl] at dI;obtain ⟨p,cap,cE,_⟩:=xD.1 dI;exact main p _ cap cE
 . obtain ⟨rfl,rfl⟩:=he;rename_i hl;rw [hl] at dI;simp only [bR] at dI;obtain ⟨_,p,cap,cE,_⟩:=dI;exact main p _ cap cE
 . obtain ⟨rfl,rfl⟩:=he;rename_i hl;rw [hl] at dI;simp only [bR] at dI;obtain ⟨p,cE⟩:=dI;exact main p _ 0 cE
theorem C72 {x:Operand}{x':dJ}{t t0:TypeId}{i:Nat}{fs:Array Field}{fd:Field}(ho:o.op=.fieldAddr t x i)(hx:fu P t0 x=some x')
 (hu:P.underlying t=some (.struct fs)) (hf:fs[i]?=some fd) (hz:P.cellsOf fd.type≠0)
 (he:cb K γ d s h (.faddr x' i fd.offset)=some (v,h')):cC P o a w A E nx γ v h':=by
 have dI:=jP hs hx;have main:∀ p u,a.eval x=.pointer (some p)->bR w A E nx u (.pointer (some (p.add fd.offset)))->cC P o a w A E nx γ u h:=by
  intro p u cE hk;refine cC.idle ?_ hk hm;simp [execOp,ho,cE,Instr.fieldAt,aZ hu,hf,iW,fieldPlace,Dc w hz,hz]
 simp only [cb] at he;split at he
 . rename_i l hl;split at he
   . rename_i pv z8;split at he
     . rename_i lD;simp only [aa,ae] at he;obtain ⟨rfl,rfl⟩:=he;rw [hl] at dI;obtain ⟨b,o',cE,hA,cv,h1,h2⟩:=Cn.1 dI;simp only [dU] at h1;obtain ⟨p,c,q,rfl,hp,hc⟩:=h1.get z8;refine main _ _ cE (Cn.2 ⟨b,o'+fd.offset,by rw [vQ],hA,c,hc,?_⟩)
       rw [← lD,← hp];exact (Row.append.1 (Row.append.1 h2).1).2
     . cases he
   . cases he
 . rename_i id np rp g o0 hl;simp only [aa,ae] at he;obtain ⟨rfl,rfl⟩:=he;rw [hl] at dI;simp only [bR] at dI;obtain ⟨hg,p,cE,sx⟩:=dI;refine main p _ cE ?_;simp only [bR];refine ⟨hg,_,rfl,λan z hn J7=>?_⟩
   obtain ⟨b,hb,rfl⟩:=sx an z hn J7;exact ⟨b,hb,by rw [vQ]⟩
 . cases he
theorem C6d {x ix:Operand}{x' hZ:dJ}{t t0 t1 e:TypeId}{n:Nat}(ho:o.op=.indexAddr t x ix)(hx:fu P t0 x=some x')(Ct:fu P t1 ix=some hZ)
 (hu:P.underlying t=some (.array n e)) (hz:P.cellsOf e≠0)
 (he:cb K γ d s h (.nA n (P.cellsOf e) x' hZ)=some (v,h')):cC P o a w A E nx γ v h':=by
 have dI:=jP hs hx;have AW:=jP hs Ct;simp only [cb] at he;split at he
 . rename_i k hk;obtain ⟨kd,qi,eC⟩:=J3 hk AW;have main:∀ p u,a.eval x=.pointer (some p)->bR w A E nx u (.pointer (some (p.add (k*P.cellsOf e))))->cC P o a w A E nx γ u h:=by
    intro p u cE hk;refine cC.idle ?_ hk hm;have h5:(k:Int)<(n:Int):=by omega
    simp [execOp,ho,cE,qi,tW,asIntOf,aZ hu,iW,Dc w hz,eC]
   split at he
   . rename_i l hl;split at he
     . rename_i pv z8;split at he
       . rename_i lD;simp only [aa,ae] at he;obtain ⟨rfl,rfl⟩:=he;rw [hl] at dI;obtain ⟨b,o',cE,hA,cv,h1,h2⟩:=Cn.1 dI;simp only [dU] at h1;obtain ⟨p,c,q,rfl,hp,hc⟩:=h1.get z8;refine main _ _ cE (Cn.2 ⟨b,o'+k*P.cellsOf e,by rw [vQ],hA,c,hc,?_⟩)
         rw [← lD,← hp];exact (Row.append.1 (Row.append.1 h2).1).2
       . cases he
     . cases he
   . rename_i id np rp g o0 hl;simp only [aa,ae] at he;obtain ⟨rfl,rfl⟩:=he;rw [hl] at dI;simp only [bR] at dI;obtain ⟨hg,p,cE,sx⟩:=dI;refine main p _ cE ?_;simp only [bR];refine ⟨hg,_,rfl,λan z hn J7=>?_⟩
     obtain ⟨b,hb,rfl⟩:=sx an z hn J7;exact ⟨b,hb,by rw [vQ]⟩
   . cases he
 . cases he
end
end Go.Mid
namespace Go.Mid
open Go.RowKit
section
variable {P:Program}{o:Oper}{a:Act}{w:World}{A:Nat->Prop}{E:dP An}{nx:di}{γ:Nat}{v:MV}{h h':cj}{s:gB}{K:jm}{d:Option Nat}
 (hs:qM P w A E nx s a) (hm:MR w A E h nx)
include hs hm
theorem D1K {x:Operand}{x':dJ}{t t0:TypeId}{i:Nat}{fs:Array Field}{fd:Field}(ho:o.op=.field t x i)(hx:fu P t0 x=some x')
 (hu:P.underlying t=some (.struct fs)) (hf:fs[i]?=some fd) (hU:rS P fd.type=true)
 (he:cb K γ d s h (.fld (mW P fd.type) (P.cellsOf fd.type) fd.offset x' i)=some (v,h')):cC P o a w A E nx γ v h':=by
 have dI:=jP hs hx;have main:∀ (p c q:List Value) u,a.eval x=.agg (p++c++q).toArray->p.length=fd.offset->c.length=P.cellsOf fd.type->(mW P fd.type=false->c.length=1)->
  bR w A E nx u (pk (mW P fd.type) c)->cC P o a w A E nx γ u h:=by
  intro p c q u cE hp hc h1 hk;refine cC.idle ?_ hk hm
  have:=H3 (P:=P) w hU p c q hc h1
  rw [hp] at this;simp only [execOp,ho,cE,Instr.field,bn,aZ hu,aU,hf,asAgg,bL,this]
 simp only [cb] at he;split at he
 . rename_i l hl;split at he
   . rename_i pv z8;split at he
     . rename_i hc;obtain ⟨h1,h2,h3⟩:=hc;simp only [aa,ae] at he;obtain ⟨rfl,rfl⟩:=he;rw [hl] at dI;obtain ⟨cs,cE,eV⟩:=NZ.1 dI;obtain ⟨p,c,q,rfl,hp,hc⟩:=eV.get z8;refine main p c q _ cE (by rw [hp,h1]) (by rw [hc.len,h2]) (λhg=>?_) ?_
       . rw [← h3] at hg;obtain ⟨_,rfl,_⟩:=hc.one hg;rfl
       . simp only [bR,pD];exact ⟨c,hc,by rw [h3]⟩
     . cases he
   . cases he
 . rename_i l hl;split at he
   . rename_i mv hmv;split at he
     . rename_i hc;obtain ⟨h1,h2,h3,sw⟩:=hc;simp only [aa,ae] at he;obtain ⟨rfl,rfl⟩:=he;rw [hl] at dI;simp only [bR] at dI;obtain ⟨cs,cE,eV⟩:=dI;obtain ⟨p,u,q,rfl,hp,hsz,F2,hk⟩:=eV.get hmv;have N9:∀ n,mv≠.dead n:=by rintro n rfl;cases sw
       refine main p u.cells.toList q _ cE (by rw [hp,h1]) (by rw [dX,hsz,h2]) (λhg=>?_) ?_
       . rw [← h3] at hg;rw [hk.xE hg N9];rfl
       . rw [← h3,hk.JZ N9];exact hk
     . cases he
   . cases he
 . cases he
theorem D1L {x ix:Operand}{x' hZ:dJ}{t t0 t1 e:TypeId}{n:Nat}(ho:o.op=.index t x ix)(hx:fu P t0 x=some x')(Ct:fu P t1 ix=some hZ)
 (hu:P.underlying t=some (.array n e)) (hU:rS P e=true)
 (he:cb K γ d s h (.idx (mW P e) (P.cellsOf e) n x' hZ)=some (v,h')):cC P o a w A E nx γ v h':=by
 have dI:=jP hs hx;have AW:=jP hs Ct;simp only [cb] at he;split at he
 . rename_i l hl;split at he
   . rename_i k hk;obtain ⟨kd,qi,eC⟩:=J3 hk AW;split at he
     . rename_i pv z8;split at he
       . rename_i hc;obtain ⟨h1,h2,h3⟩:=hc;simp only [aa,ae] at he;obtain ⟨rfl,rfl⟩:=he;rw [hl] at dI;obtain ⟨cs,cE,eV⟩:=NZ.1 dI;obtain ⟨p,c,q,rfl,hp,hc⟩:=eV.get z8;have hr:=H3 (P:=P) w hU p c q (by rw [hc.len,h2]) (λhg=>by rw [← h3] at hg;obtain ⟨_,rfl,_⟩:=hc.one hg;rfl)
         rw [hp,h1] at hr;refine cC.idle (val:=pk (mW P e) c) ?_ (by simp only [bR,pD];exact ⟨c,hc,by rw [h3]⟩) hm
         have h5:(k:Int)<(n:Int):=by omega
         simp [execOp,ho,cE,qi,wK,asIntOf,aZ hu,eC,FX w hU];simp at hr;rw [hr];rfl
       . cases he
     . cases he
   . cases he
 . cases he
theorem C9O {x ix:Operand}{x' hZ:dJ}{t t0 t1:TypeId}(ho:o.op=.index t x ix)(hx:fu P t0 x=some x')(Ct:fu P t1 ix=some hZ)
 (hu:P.underlying t=some .string)
 (he:cb K γ d s h (.uF x' hZ)=some (v,h')):cC P o a w A E nx γ v h':=by
 have dI:=jP hs hx;have AW:=jP hs Ct;simp only [cb] at he;split at he
 . rename_i b hb;split at he
   . rename_i k hk;obtain ⟨kd,qi,eC⟩:=J3 hk AW;split at he
     . rename_i c hc;simp only [aa,ae] at he;obtain ⟨rfl,rfl⟩:=he;rw [hb,Cm] at dI;refine cC.idle (val:=.int .u8 c.toNat) ?_ (A1W.2 rfl) hm;have hg:b[k]?=some c:=by
        have nq:k<b.data.size:=eC;rw [Array.getElem?_eq_getElem nq] at hc;rw [getElem?_pos b k eC];exact hc
       simp [execOp,ho,dI,qi,wK,asIntOf,aZ hu,hg]
     . cases he
   . cases he
 . cases he
theorem YI {f k:Nat}{first iR xs:Array Operand}{l:List dJ}{ts:List TypeId}(ho:o.op=.makeFunc (.func f) first iR)(hk:(k=f∧f<yq∧first=#[]∧xs=iR)∨(k=yq+f∧iR=#[]∧xs=first))(hl:rT P ts xs.toList=some l)
 (he:cb K γ d s h (.uE k l)=some (v,h')):cC P o a w A E nx γ v h':=by
 have hv:=H0 hs hl;have auU:(execOp a.eval o).run P w=.ok (.value (xC k (xs.toList.map a.eval).toArray)) w:=by
  rcases hk with ⟨rfl,h1,rfl,rfl⟩ | ⟨rfl,rfl,rfl⟩
  . rw [RK h1];simp [execOp,ho,sN];apply gG;simp
  . rw [Yg (Nat.le_add_right _ _),Nat.add_sub_cancel_left];simp [execOp,ho,sN];apply gG;simp
 simp only [cb] at he;split at he
 . rename_i vs fN;simp only [aa,ae] at he;obtain ⟨rfl,rfl⟩:=he;rw [EH fN] at hv;exact cC.idle auU (N0.2 ⟨_,rfl,AV.1 hv⟩) hm
 . simp only [aa,ae] at he;obtain ⟨rfl,rfl⟩:=he;exact cC.idle auU (by simp only [bR];exact ⟨_,rfl,hv⟩) hm
omit hs hm in
theorem RZ (f:Int->Int->Int)(g:Value->Value->Sem Value)(hg:∀ k x k' y,(g (.int k x) (.int k' y)).run P w=.ok (.int k (f x y)) w) :
 ∀ (vs:List PV) (x r:PV) (gR:List Value),C6 f x vs=some r->kM w A vs gR->∀ val,bR w A E nx (.p x) val->∃ res,(gR.foldlM g val).run P w=.ok res w∧bR w A E nx (.p r) res
 | [],x,r,gR,h,hv,val,hx=>by
   simp only [C6,aa] at h;subst h;simp only [kM] at hv;subst hv;exact ⟨val,by simp,hx⟩
 | y::vs,x,r,gR,h,hv,val,hx=>by
   cases x<;>cases y<;>simp only [C6,reduceCtorEq] at h;simp only [kM] at hv;obtain ⟨c,dd,rfl,h1,h2⟩:=hv;simp only [dU] at h1;subst h1;rw [A1W] at hx;subst hx;obtain ⟨res,h3,h4⟩:=RZ f g hg vs _ r dd h h2 _ (A1W.2 rfl);refine ⟨res,?_,h4⟩;simp only [List.foldlM_cons,bn,PV.isAgg,pk,aI,if_false,lH,hg,aU];exact h3
theorem D3d {l:List dJ}{c:Call}{ts:List TypeId}(ho:o.op=.call c)(qg:c.callee=.builtin .max)(hl:rT P ts c.args.toList=some l)
 (he:cb K γ d s h (.mx l)=some (v,h')):cC P o a w A E nx γ v h':=by
 have hv:=H0 hs hl;simp only [cb] at he;split at he
 . rename_i x r R0;split at he
   . rename_i vs fN;split at he
     . rename_i res n5;simp only [aa,ae] at he;obtain ⟨rfl,rfl⟩:=he;rw [R0,EH fN] at hv;simp only [c9] at hv;obtain ⟨val,gR,AY,hx,hr⟩:=hv;obtain ⟨rv,h1,h2⟩:=RZ (P:=P) (λx y=>if y>x then y else x) Builtin.max2 (λ_ _ _ _=>rfl) vs x res gR n5 (AV.1 hr) val hx
       refine cC.idle (val:=rv) ?_ h2 hm;rw [De ho qg]
       have:(c.args.map a.eval).toList=val::gR:=by rw [jh,AY]
       simp only [builtin,Builtin.max_,this,bn,h1,aU,bL]
     . cases he
   . cases he
 . cases he
theorem D3e {l:List dJ}{c:Call}{ts:List TypeId}(ho:o.op=.call c)(qg:c.callee=.builtin .min)(hl:rT P ts c.args.toList=some l)
 (he:cb K γ d s h (.mn l)=some (v,h')):cC P o a w A E nx γ v h':=by
 have hv:=H0 hs hl;simp only [cb] at he;split at he
 . rename_i x r R0;split at he
   . rename_i vs fN;split at he
     . rename_i res n5;simp only [aa,ae] at he;obtain ⟨rfl,rfl⟩:=he;rw [R0,EH fN] at hv;simp only [c9] at hv;obtain ⟨val,gR,AY,hx,hr⟩:=hv;obtain ⟨rv,h1,h2⟩:=RZ (P:=P) (λx y=>if y<x then y else x) Builtin.min2 (λ_ _ _ _=>rfl) vs x res gR n5 (AV.1 hr) val hx
       refine cC.idle (val:=rv) ?_ h2 hm;rw [De ho qg]
       have:(c.args.map a.eval).toList=val::gR:=by rw [jh,AY]
       simp only [builtin,Builtin.min_,this,bn,h1,aU,bL]
     . cases he
   . cases he
 . cases he
end
end Go.Mid
namespace Go.Mid
open Go.RowKit
section
variable {α β:Type}
theorem H7:∀ {l:List (T α)} {vs:List PV},ml l=some vs->l=vs.map .p
 | [],vs,h=>by simp only [ml] at h;cases h;rfl
 | x::r,vs,h=>by
   cases x<;>simp only [ml,reduceCtorEq] at h;split at h
   . rename_i l hl;cases h;simp [H7 hl]
   . cases h
theorem Dg:∀ (vs:List PV),ml (vs.map (T.p (α:=α)))=some vs
 | []=>rfl
 | x::r=>by simp [ml,Dg r]
theorem Dh (l:List (T α)):A0z l=.agg l∨∃ vs,l=vs.map .p∧A0z l=.p (.agg vs):=by
 unfold A0z;cases h:ml l with
 | none=>exact .inl rfl
 | some vs=>exact .inr ⟨vs,H7 h,rfl⟩
theorem EI (vs:List PV):T.db (vs.map (T.p (α:=α)))=PV.db vs:=by
 induction vs with
 | nil=>rfl
 | cons x r ih=>simp [T.db,PV.db,T.cs,ih]
theorem YJ (l:List (T α)):(A0z l).cs=T.db l:=by
 rcases Dh l with h | ⟨vs,rfl,h⟩<;>rw [h]
 . rfl
 . rw [EI];rfl
theorem J8 (l:List PV)(i:Nat)(r:List Nat):cR (.p (.agg l):T α) (i::r)=cR (.agg (l.map .p)) (i::r):=by
 simp only [cR,aL];cases l[i]? <;> rfl
theorem YK (l:List (T α))(i:Nat)(r:List Nat):cR (A0z l) (i::r)=cR (.agg l) (i::r):=by
 rcases Dh l with h | ⟨vs,rfl,h⟩<;>rw [h]
 exact J8 vs i r
theorem YL (l:List PV)(i:Nat)(r:List Nat)(v:T α):c8 (.p (.agg l)) (i::r) v=c8 (.agg (l.map .p)) (i::r) v:=by
 simp only [c8,aL];cases l[i]? <;> rfl
theorem F11 (l:List PV)(i:Nat)(r:List Nat)(o:Nat):GI (.p (.agg l):T α) (i::r) o=GI (.agg (l.map .p)) (i::r) o:=by
 simp only [GI,aL,← bP,EI];cases l[i]? <;> rfl
theorem Oa:∀ {l:List (T α)} {i:Nat} {t v:T α},l[i]?=some t->v.cs=t.cs->T.db (l.set i v)=T.db l
 | [],i,t,v,h,_=>by simp at h
 | x::r,0,t,v,h,k=>by simp at h;subst h;simp [T.db,k]
 | x::r,i+1,t,v,h,k=>by simp at h;simp [T.db,Oa h k]
theorem Cu:∀ (p:List Nat) (t u v t':T α),cR t p=some u->c8 t p v=some t'->v.cs=u.cs->t'.cs=t.cs
 | [],t,u,v,t',h,k,e=>by
   simp only [cR,aa] at h;subst h;simp only [c8,aa] at k;subst k;exact e
 | i::r,.p (.agg l),u,v,t',h,k,e=>by
   rw [J8] at h;rw [YL] at k;simp only [cR,aL] at h;simp only [c8,aL] at k;cases hl:l[i]? with
   | none=>simp [hl] at h
   | some x =>
     simp only [hl,ak] at h k;split at k
     . rename_i w hw;cases k
       have:=Cu r _ u v w h hw e
       rw [YJ,Oa (t:=.p x) (by simp [hl]) this,EI];rfl
     . cases k
 | i::r,.agg l,u,v,t',h,k,e=>by
   simp only [cR] at h;simp only [c8] at k;cases hl:l[i]? with
   | none=>simp [hl] at h
   | some x =>
     simp only [hl] at h k;split at k
     . rename_i w hw;cases k
       have:=Cu r _ u v w h hw e
       rw [YJ,Oa (t:=x) hl this];rfl
     . cases k
 | i::r,.vec a z l n,u,v,t',h,k,e=>by
   simp only [c8] at k
   repeat' split at k
   all_goals cases k
   rfl
 | i::r,.mp a ks l,u,v,t',h,k,e=>by simp [cR] at h
 | i::r,.p (.int ..),u,v,t',h,_,_=>by simp [cR] at h
 | i::r,.p (.bool _),u,v,t',h,_,_=>by simp [cR] at h
 | i::r,.p (.str _),u,v,t',h,_,_=>by simp [cR] at h
 | i::r,.p (.sl _),u,v,t',h,_,_=>by simp [cR] at h
 | i::r,.p (.ref _),u,v,t',h,_,_=>by simp [cR] at h
 | i::r,.p (.fn ..),u,v,t',h,_,_=>by simp [cR] at h
 | i::r,.p (.mp ..),u,v,t',h,_,_=>by simp [cR] at h
 | i::r,.p .eM,u,v,t',h,_,_=>by simp [cR] at h
 | i::r,.p .fa,u,v,t',h,_,_=>by simp [cR] at h
 | i::r,.m _,u,v,t',h,_,_=>by simp [cR] at h
 | i::r,.hole _,u,v,t',h,_,_=>by simp [cR] at h
end
theorem J9 {α:Type}{i:Nat}{r:List Nat}{t u v t':T α}(h:cR t (i::r)=some u)(k:c8 t (i::r) v=some t') :
 (∃ l x w,(t=.agg l∨∃ vs,t=.p (.agg vs)∧l=vs.map .p)∧l[i]?=some x∧cR x r=some u∧c8 x r v=some w∧t'=A0z (l.set i w)) ∨
 (∃ a z l n x w,t=.vec a z l n∧l[i]?=some x∧cR x r=some u∧c8 x r v=some w∧t'=.vec a z (l.set i w) n) ∨
 (∃ a ks l x w,t=.mp a ks l∧l[i]?=some x∧cR x r=some u∧c8 x r v=some w∧t'=.mp a ks (l.set i w)):=by
 have key:∀ l,cR (.agg l) (i::r)=some u->c8 (.agg l) (i::r) v=some t'->∃ x w,l[i]?=some x∧cR x r=some u∧c8 x r v=some w∧t'=A0z (l.set i w):=by
  intro l h k;simp only [cR] at h;simp only [c8] at k;cases hl:l[i]? with
  | none=>simp [hl] at h
  | some x =>
    simp only [hl] at h k;split at k
    . rename_i w hw;cases k;exact ⟨x,w,rfl,h,hw,rfl⟩
    . cases k
 cases t with
 | p pv =>
   cases pv<;>try (simp [cR] at h;done)
   rename_i l;rw [J8] at h;rw [YL] at k;obtain ⟨x,w,h1⟩:=key _ h k;exact .inl ⟨_,x,w,.inr ⟨l,rfl,rfl⟩,h1⟩
 | m=>simp [cR] at h
 | agg l =>
   obtain ⟨x,w,h1⟩:=key _ h k;exact .inl ⟨_,x,w,.inl rfl,h1⟩
 | vec a z l n =>
   simp only [cR] at h;simp only [c8] at k;cases hl:l[i]? with
   | none=>simp [hl] at h
   | some x =>
     simp only [hl] at h k;split at k
     . rename_i w hw;cases k;exact .inr (.inl ⟨a,z,l,n,x,w,rfl,hl,h,hw,rfl⟩)
     . cases k
 | mp a ks l=>simp [cR] at h
 | hole=>simp [cR] at h
section
variable {α β:Type}(f:α->β)
theorem R1:∀ (l:List (T α)),ml (l.map (T.mapA f))=ml l
 | []=>rfl
 | x::r=>by
   have:=R1 r
   cases x<;>simp [ml,T.mapA,this]
theorem Ob (l:List (T α)):(A0z l).mapA f=A0z (l.map (T.mapA f)):=by
 unfold A0z;rw [R1];cases ml l with
 | none=>simp [T.mapA,T.mapAs_eq]
 | some vs=>simp [T.mapA]
theorem F3:∀ (p:List Nat) (t v:T α),c8 (t.mapA f) p (v.mapA f)=(c8 t p v).map (T.mapA f)
 | [],t,v=>by simp [c8]
 | i::r,.p pv,v=>by
   cases pv<;>simp only [T.mapA,c8,dx];rename_i l;cases l[i]? with
   | none=>rfl
   | some x =>
     have:=F3 r (.p x) v
     simp only [T.mapA] at this;simp only [this];cases c8 (.p x) r v with
     | none=>rfl
     | some w =>
       simp only [ak,Ob,List.map_set,List.map_map];congr 2
 | i::r,.m _,v=>by simp [T.mapA,c8]
 | i::r,.agg l,v=>by
   simp only [T.mapA,c8,T.mapAs_eq,aL];cases l[i]? with
   | none=>rfl
   | some x =>
     simp only [ak,F3 r x v];cases c8 x r v with
     | none=>rfl
     | some w=>simp [Ob]
 | i::r,.vec a z l n,v=>by
   simp only [T.mapA,c8,T.mapAs_eq,aL];cases l[i]? with
   | none=>rfl
   | some x =>
     simp only [ak,F3 r x v];cases c8 x r v with
     | none=>rfl
     | some w=>simp [T.mapA,T.mapAs_eq]
 | i::r,.mp a ks l,v=>by simp [T.mapA,c8]
 | i::r,.hole n,v=>by simp [T.mapA,c8]
theorem B0J (ob:Option (Obj α))(p:List Nat)(v:T α):put (ob.map (Obj.mapA f)) p (v.mapA f)=(put ob p v).map (Obj.mapA f):=by
 cases ob with
 | none=>cases p<;>rfl
 | some o =>
   cases o with
   | cell a t =>
     simp only [ak,Obj.mapA,put,F3];cases c8 t p v<;>rfl
   | vec a z l =>
     cases p with
     | nil=>rfl
     | cons i r =>
       simp only [ak,Obj.mapA,put,T.mapAs_eq,aL];cases l[i]? with
       | none=>rfl
       | some x =>
         simp only [ak,F3 f r x v];cases c8 x r v with
         | none=>rfl
         | some w=>simp [Obj.mapA,T.mapAs_eq]
   | mp a ks l=>cases p<;>rfl
   | gone=>cases p<;>rfl
end
theorem F4 (vs:List PV):T.dc (vs.map T.p)=[]:=by
 induction vs with
 | nil=>rfl
 | cons x r ih=>simp [T.dc,T.blk,ih]
theorem Oc (l:List (T An)):(A0z l).blk=T.dc l:=by
 rcases Dh l with h | ⟨vs,rfl,h⟩<;>rw [h]
 . rfl
 . rw [F4];rfl
theorem yB:∀ (l m:List (T An)),T.dc (l++m)=T.dc l++T.dc m
 | [],m=>rfl
 | x::r,m=>by simp [T.dc,yB r m]
theorem F5:∀ {l:List (T An)} {i:Nat} {x:T An} (y:T An),l[i]?=some x->∃ rest,(T.dc l).Perm (x.blk++rest)∧(T.dc (l.set i y)).Perm (y.blk++rest)
 | [],i,x,y,h=>by simp at h
 | x::r,0,t,y,h=>by simp at h;subst h;exact ⟨T.dc r,.refl _,.refl _⟩
 | x::r,i+1,t,y,h=>by
   simp at h;obtain ⟨rest,h1,h2⟩:=F5 y h;refine ⟨x.blk++rest,?_,?_⟩
   . simp only [T.dc];refine (h1.append_left x.blk).trans ?_;rw [← bg,← bg];exact dq.append_right rest
   . simp only [T.dc,aSR];refine (h2.append_left x.blk).trans ?_;rw [← bg,← bg];exact dq.append_right rest
theorem H9 {a b u v:List Nat}{r q s:List Nat}(h:a.Perm (u++r))(h':b.Perm (v++r))(k:u.Perm (s++q)):a.Perm (s++(q++r)):=by
 refine h.trans ?_;rw [← bg];exact k.append_right r
theorem Od:∀ (p:List Nat) (t u v t':T An),cR t p=some u->c8 t p v=some t'->∃ rest,t.blk.Perm (u.blk++rest)∧t'.blk.Perm (v.blk++rest)
 | [],t,u,v,t',h,k=>by
   simp only [cR,aa] at h;subst h;simp only [c8,aa] at k;subst k;exact ⟨[],by simp,by simp⟩
 | i::r,t,u,v,t',h,k=>by
   rcases J9 h k with ⟨l,x,w,ht,hl,h1,h2,rfl⟩ | ⟨a,z,l,n,x,w,rfl,hl,h1,h2,rfl⟩ | ⟨a,ks,l,x,w,rfl,hl,h1,h2,rfl⟩
   . obtain ⟨q,k1,k2⟩:=Od r x u v w h1 h2;obtain ⟨rest,k3,k4⟩:=F5 w hl
     have:t.blk=T.dc l:=by
      rcases ht with rfl | ⟨vs,rfl,rfl⟩
      . rfl
      . rw [F4];rfl
     rw [this,Oc];exact ⟨q++rest,H9 k3 k4 k1,H9 k4 k3 k2⟩
   . obtain ⟨q,k1,k2⟩:=Od r x u v w h1 h2;obtain ⟨rest,k3,k4⟩:=F5 w hl;simp only [T.blk];refine ⟨a.b.toList++(q++rest),?_,?_⟩
     . refine ((H9 k3 k4 k1).append_left _).trans ?_;rw [← bg,← bg u.blk];exact dq.append_right _
     . refine ((H9 k4 k3 k2).append_left _).trans ?_;rw [← bg,← bg v.blk];exact dq.append_right _
   . obtain ⟨q,k1,k2⟩:=Od r x u v w h1 h2;obtain ⟨rest,k3,k4⟩:=F5 w hl;simp only [T.blk];refine ⟨a.b.toList++(q++rest),?_,?_⟩
     . refine ((H9 k3 k4 k1).append_left _).trans ?_;rw [← bg,← bg u.blk];exact dq.append_right _
     . refine ((H9 k4 k3 k2).append_left _).trans ?_;rw [← bg,← bg v.blk];exact dq.append_right _
theorem Oe {n:di}:∀ {l:List (T An)} {i:Nat} {y:T An},T.j9 n l->y.st n->T.j9 n (l.set i y)
 | [],i,y,h,_=>by simpa using h
 | x::r,0,y,h,k=>by simp only [List.set_cons_zero,T.j9] at h ⊢;exact ⟨k,h.2⟩
 | x::r,i+1,y,h,k=>by simp only [aSR,T.j9] at h ⊢;exact ⟨h.1,Oe h.2 k⟩
theorem Of {n:di}(vs:List PV):T.j9 n (vs.map T.p):=by
 induction vs with
 | nil=>trivial
 | cons x r ih=>exact ⟨trivial,ih⟩
theorem R3 {n:di}{l:List (T An)}(h:T.j9 n l):(A0z l).st n:=by
 rcases Dh l with e | ⟨vs,rfl,e⟩<;>rw [e]
 . exact h
 . trivial
theorem Ia {n:di}:∀ (p:List Nat) (t u v t':T An),cR t p=some u->c8 t p v=some t'->t.st n->v.st n->t'.st n
 | [],t,u,v,t',h,k,_,kv=>by
   simp only [c8,aa] at k;subst k;exact kv
 | i::r,t,u,v,t',h,k,kt,kv=>by
   rcases J9 h k with ⟨l,x,w,ht,hl,h1,h2,rfl⟩ | ⟨a,z,l,n,x,w,rfl,hl,h1,h2,rfl⟩ | ⟨a,ks,l,x,w,rfl,hl,h1,h2,rfl⟩
   . have:T.j9 n l:=by
      rcases ht with rfl | ⟨vs,rfl,rfl⟩
      . exact kt
      . exact Of vs
     exact R3 (Oe this (Ia r x u v w h1 h2 (T.qh this hl) kv))
   . simp only [T.st] at kt ⊢;exact ⟨kt.1,Oe kt.2 (Ia r x u v w h1 h2 (T.qh kt.2 hl) kv)⟩
   . simp only [T.st] at kt ⊢;exact kt
def fE {α:Type}(t:T α)(q:List Nat):Option (α×Option Nat) :=
 match cR t q with
 | some (.vec a z _ _)=>some (a,some z)
 | some (.mp a _ _)=>some (a,none)
 | _=>none
theorem Ka {α:Type}(l:List (T α))(i:Nat)(r:List Nat):fE (.agg l) (i::r)=(l[i]?).bind λt=>fE t r:=by
 simp only [fE,cR];cases l[i]? <;> rfl
theorem R4 {α:Type}(l:List (T α))(i:Nat)(r:List Nat):fE (A0z l) (i::r)=(l[i]?).bind λt=>fE t r:=by
 rw [← Ka];simp only [fE,YK]
theorem Di {α:Type}(a:α)(z:Nat)(l:List (T α))(n i:Nat)(r:List Nat):fE (.vec a z l n) (i::r)=(l[i]?).bind λt=>fE t r:=by
 simp only [fE,cR];cases l[i]? <;> rfl
theorem R5 {α:Type}(a:α)(ks:List PV)(l:List (T α))(i:Nat)(r:List Nat):fE (.mp a ks l) (i::r)=none:=by
 simp only [fE,cR]
theorem R6 {α:Type}(l:List (T α)):fE (A0z l) []=none:=by
 rcases Dh l with e | ⟨vs,rfl,e⟩<;>rw [e]<;>rfl
theorem R7 {α:Type}{l:List (T α)}{i:Nat}{x w:T α}(hl:l[i]?=some x){j:Nat}{q:List Nat}{y:α×Option Nat}
 (h:((l.set i w)[j]?).bind (λt=>fE t q)=some y):(l[j]?).bind (λt=>fE t q)=some y∨(j=i∧fE w q=some y):=by
 rw [dD] at h;split at h
 . rename_i gM;subst gM;split at h
   . exact .inr ⟨rfl,h⟩
   . simp at h
 . exact .inl h
theorem Og {α:Type}:∀ (p:List Nat) (t u v t':T α),cR t p=some u->c8 t p v=some t'->∀ q y,fE t' q=some y->fE t q=some y∨∃ r,q=p++r∧fE v r=some y
 | [],t,u,v,t',h,k,q,y,hq=>by
   simp only [c8,aa] at k;subst k;exact .inr ⟨q,rfl,hq⟩
 | i::r,t,u,v,t',h,k,q,y,hq=>by
   rcases J9 h k with ⟨l,x,w,ht,hl,h1,h2,rfl⟩ | ⟨a,z,l,n,x,w,rfl,hl,h1,h2,rfl⟩ | ⟨a,ks,l,x,w,rfl,hl,h1,h2,rfl⟩
   . cases q with
     | nil=>rw [R6] at hq;cases hq
     | cons j q =>
       rw [R4] at hq;have Ib:fE t (j::q)=(l[j]?).bind λt=>fE t q:=by
        rcases ht with rfl | ⟨vs,rfl,rfl⟩
        . exact Ka l j q
        . rw [← Ka];simp only [fE,J8]
       rw [Ib];rcases R7 hl hq with h3 | ⟨rfl,h3⟩
       . exact .inl h3
       . rcases Og r x u v w h1 h2 q y h3 with h4 | ⟨s,rfl,h4⟩
         . exact .inl (by rw [hl];exact h4)
         . exact .inr ⟨s,rfl,h4⟩
   . cases q with
     | nil=>exact .inl hq
     | cons j q =>
       rw [Di] at hq ⊢;rcases R7 hl hq with h3 | ⟨rfl,h3⟩
       . exact .inl h3
       . rcases Og r x u v w h1 h2 q y h3 with h4 | ⟨s,rfl,h4⟩
         . exact .inl (by rw [hl];exact h4)
         . exact .inr ⟨s,rfl,h4⟩
   . cases q with
     | nil=>exact .inl hq
     | cons j q =>
       rw [R5] at hq;cases hq
end Go.Mid
namespace Go.Mid
open Go.RowKit
theorem YM (w:World)(a:Addr)(v:Value){b:Nat}(h:b≠a.block):(w.setCell a v).heap[b]?=w.heap[b]?:=by
 simp [tX,kJ,dv h]
theorem yC {b b':Nat}(h:b'≠b):∀ (vs:List Value) (o:Nat) (w:World),(w.setCells b o vs).heap[b']?=w.heap[b']?
 | [],_,_=>rfl
 | v::r,o,w=>by rw [ma,yC h r,YM _ _ _ h]
theorem zi (b:Nat):∀ (vs:List Value) (o:Nat) (w:World),(w.setCells b o vs).heap.size=w.heap.size∧(w.setCells b o vs).os=w.os∧(w.setCells b o vs).tape=w.tape∧(w.setCells b o vs).output=w.output∧w.drawn<=(w.setCells b o vs).drawn
 | [],_,_=>⟨rfl,rfl,rfl,rfl,ay _⟩
 | v::r,o,w=>by
   have:=zi b r (o+1) (w.setCell ⟨b,o,none⟩ v)
   rw [ma];exact ⟨this.1.trans (World.size_setCell _ _ _),this.2.1,this.2.2.1,this.2.2.2⟩
theorem lX.setCell {w:World}{a:Addr}{v:Value}{b n:Nat}(h:lX w b n):lX (w.setCell a v) b n:=by
 by_cases e:b=a.block
 . subst e;obtain ⟨c,ty,h1,h2⟩:=h;simp only [lX,tX,kJ,if_true,h1,ak];refine ⟨_,ty,rfl,?_⟩;split<;>simp [h2]
 . exact h.frame (YM w a v e)
theorem lX.setCells {b b' n:Nat}:∀ (vs:List Value) (o:Nat) (w:World),lX w b' n->lX (w.setCells b o vs) b' n
 | [],_,_,h=>h
 | v::r,o,w,h=>by rw [ma];exact lX.setCells r (o+1) _ h.setCell
theorem lX.cell {w:World}{b n j:Nat}(h:lX w b n)(hj:j<n):(w.cell? ⟨b,j,none⟩).isSome=true∧w.frozen? ⟨b,j,none⟩=false:=by
 obtain ⟨c,ty,h1,h2⟩:=h;simp [mL,World.frozen?,h1,h2,hj]
structure Wr (w w':World)(b o n:Nat)(X:List Nat):Prop where
 other:∀ b',b'<w.heap.size->b'≠b->b'∉X->w'.heap[b']?=w.heap[b']?
 blk:∀ m,lX w b m->lX w' b m
 cell:∀ j,(j<o∨o+n<=j)->w'.cell? ⟨b,j,none⟩=w.cell? ⟨b,j,none⟩
theorem Row.lt {w:World}{b o:Nat}{v:Value}{cs:List Value}(h:Row w b o (v::cs)):b<w.heap.size:=by
 have:=h 0 v rfl
 simp only [mL] at this;split at this
 . rename_i h1;exact (c7.1 h1).1
 . cases this
theorem lX.lt {w:World}{b n:Nat}(h:lX w b n):b<w.heap.size:=by
 obtain ⟨c,ty,h1,_⟩:=h;exact (c7.1 h1).1
theorem Row.iT {w w':World}{b o:Nat}{cs:List Value}(h:∀ j,o<=j->j<o+cs.length->w'.cell? ⟨b,j,none⟩=w.cell? ⟨b,j,none⟩)(r:Row w b o cs):Row w' b o cs:=by
 intro j v hj
 have:=(aJ.1 hj).1
 rw [h (o+j) (by omega) (by omega)]
 exact r j v hj
section
variable {w w':World}{A A':Nat->Prop}{E E':dP An}{nx nx':di}
mutual
theorem TAt.iT (f:Fr w w' A A' E E' nx nx'):∀ {t:T An} {b o:Nat},(∀ j,o<=j->j<o+t.cs->w'.cell? ⟨b,j,none⟩=w.cell? ⟨b,j,none⟩)->(∀ x∈t.blk,w'.heap[x]?=w.heap[x]?)->
 TAt w A E nx t b o->TAt w' A' E' nx' t b o
 | .p v,b,o,hb,_,h=>by
   simp only [TAt] at h ⊢;obtain ⟨cs,h1,h2⟩:=h;exact ⟨cs,h1.frame f.hA f.hw,h2.iT (by rw [h1.len];exact hb)⟩
 | .m v,b,o,hb,_,h=>by
   simp only [TAt] at h ⊢;obtain ⟨h0,Db,val,h1,h2⟩:=h;exact ⟨h0,Db,val,h1.frame f,h2.iT (by simpa only [T.cs,h0,dN] using hb)⟩
 | .agg l,b,o,hb,hk,h=>by
   simp only [TAt] at h ⊢;exact cD.iT f hb (by simpa only [T.blk] using hk) h
 | .vec an z l n,b,o,hb,hk,h=>by
   have kE:∀ {a:Option Addr} {cap:Nat},Row w b o [.slice a n cap]->Row w' b o [.slice a n cap]:=λr=>r.iT (by simpa only [T.cs,dN] using hb)
   simp only [TAt] at h ⊢;obtain ⟨a,cap,h1,h2,h3,h4⟩:=h;refine ⟨a,cap,kE h1,h2,h3,?_⟩;cases js:an.b with
   | none=>simpa only [js] using h4
   | some b' =>
     simp only [js] at h4 ⊢;simp only [T.blk,js,cg,aS,a7,aG] at hk;exact ⟨h4.1.frame (hk b' (.inl rfl)),h4.2.1,h4.2.2.1,cD.frame f (hk b' (.inl rfl)) (λx hx=>hk x (.inr hx)) h4.2.2.2⟩
 | .mp ..,_,_,_,_,h=>by simp only [TAt] at h
 | .hole n,b,o,hb,_,h=>by
   simp only [TAt] at h ⊢;intro j hj;rw [hb (o+j) (by omega) (by simp only [T.cs];omega)];exact h j hj
theorem cD.iT (f:Fr w w' A A' E E' nx nx'):∀ {l:List (T An)} {b o:Nat},(∀ j,o<=j->j<o+T.db l->w'.cell? ⟨b,j,none⟩=w.cell? ⟨b,j,none⟩)->(∀ x∈T.dc l,w'.heap[x]?=w.heap[x]?)->
 cD w A E nx l b o->cD w' A' E' nx' l b o
 | [],b,o,_,_,h=>by simp only [cD]
 | t::r,b,o,hb,hk,h=>by
   simp only [cD] at h ⊢;simp only [T.dc,az] at hk;simp only [T.db] at hb;exact ⟨TAt.iT f (λj h1 h2=>hb j h1 (by omega)) (λx hx=>hk x (.inl hx)) h.1,cD.iT f (λj h1 h2=>hb j (by omega) (by omega)) (λx hx=>hk x (.inr hx)) h.2⟩
end
end
def kW:T An->List Nat->Nat->Nat->Option (Nat×Nat)
 | _,[],b,o=>some (b,o)
 | .p (.agg l),i::r,b,o=>match l[i]? with | some v=>kW (.p v) r b (o+PV.db (l.take i)) | none=>none
 | .agg l,i::r,b,o=>match l[i]? with | some t=>kW t r b (o+T.db (l.take i)) | none=>none
 | .vec an z l _,i::r,_,_=>match an.b,l[i]? with | some b',some t=>kW t r b' (i*z) | _,_=>none
 | _,_::_,_,_=>none
def rW:Option (Obj An)->List Nat->Option (Nat×Nat)
 | some (.cell an t),p=>match an.b with | some b=>kW t p b 0 | none=>none
 | some (.vec an z l),i::r=>match an.b,l[i]? with | some b',some t=>kW t r b' (i*z) | _,_=>none
 | _,_=>none
theorem R8 (l:List PV)(i:Nat)(r:List Nat)(b o:Nat):kW (.p (.agg l)) (i::r) b o=kW (.agg (l.map .p)) (i::r) b o:=by
 simp only [kW,aL,← bP,EI];cases l[i]? <;> rfl
theorem Oh (b:Nat):∀ (p:List Nat) (t u:T An) (o o':Nat),GI t p o=some (u,o')->kW t p b o=some (b,o')
 | [],t,u,o,o',h=>by
   simp only [GI,aa,ae] at h;obtain ⟨rfl,rfl⟩:=h;simp [kW]
 | i::r,.p v,u,o,o',h=>by
   cases v<;>simp only [GI,reduceCtorEq] at h;simp only [kW];split at h
   . rename_i v hv;simp only [hv];exact Oh b r _ u _ o' h
   . cases h
 | i::r,.m v,u,o,o',h=>by simp [GI] at h
 | i::r,.agg l,u,o,o',h=>by
   simp only [GI] at h;simp only [kW];split at h
   . rename_i v hv;simp only [hv];exact Oh b r _ u _ o' h
   . cases h
 | i::r,.vec a z l n,u,o,o',h=>by simp [GI] at h
 | i::r,.mp a ks l,u,o,o',h=>by simp [GI] at h
 | i::r,.hole n,u,o,o',h=>by simp [GI] at h
theorem Kb:∀ (p q:List Nat) (t u:T An) (b o b' o':Nat),cR t p=some u->kW t p b o=some (b',o')->kW t (p++q) b o=kW u q b' o'
 | [],q,t,u,b,o,b',o',h,k=>by
   simp only [cR,aa] at h;subst h;simp only [kW,aa,ae] at k;obtain ⟨rfl,rfl⟩:=k;rfl
 | i::r,q,.p v,u,b,o,b',o',h,k=>by
   cases v<;>simp only [cR,reduceCtorEq] at h;simp only [kW,aS] at k ⊢;split at h
   . rename_i v hv;simp only [hv] at k ⊢;exact Kb r q _ u _ _ _ _ h k
   . cases h
 | i::r,q,.m v,u,b,o,b',o',h,_=>by simp [cR] at h
 | i::r,q,.agg l,u,b,o,b',o',h,k=>by
   simp only [cR] at h;simp only [kW,aS] at k ⊢;split at h
   . rename_i v hv;simp only [hv] at k ⊢;exact Kb r q _ u _ _ _ _ h k
   . cases h
 | i::r,q,.vec a z l n,u,b,o,b',o',h,k=>by
   simp only [cR] at h;simp only [kW,aS] at k ⊢;split at h
   . rename_i v hv;cases hb:a.b with
     | none=>simp [hb] at k
     | some b0=>simp only [hv,hb] at k ⊢;exact Kb r q _ u _ _ _ _ h k
   . cases h
 | i::r,q,.mp a ks l,u,b,o,b',o',h,k=>by simp [kW] at k
 | i::r,q,.hole n,u,b,o,b',o',h,_=>by simp [cR] at h
section
variable {w:World}{A:Nat->Prop}{E:dP An}{nx:di}
theorem sy {vs:List PV}{b o:Nat}:cD w A E nx (vs.map .p) b o↔TAt w A E nx (.p (.agg vs)) b o:=by
 induction vs generalizing o with
 | nil=>simp only [bt,cD,TAt,dU,cK,true_iff];exact ⟨[],rfl,Row.nil⟩
 | cons x r ih =>
   simp only [aF,cD,ih];simp only [TAt,dU,cK];constructor
   . rintro ⟨⟨c,h1,h2⟩,d,h3,h4⟩;refine ⟨c++d,⟨c,d,rfl,h1,h3⟩,Row.append.2 ⟨h2,?_⟩⟩;rw [h1.len];exact h4
   . rintro ⟨_,⟨c,d,rfl,h1,h3⟩,h2⟩;have h2:=Row.append.1 h2;refine ⟨⟨c,h1,h2.1⟩,d,h3,?_⟩
     have:=h2.2
     rw [h1.len] at this;exact this
theorem C6e {l:List (T An)}{b o:Nat}:TAt w A E nx (A0z l) b o↔cD w A E nx l b o:=by
 rcases Dh l with e | ⟨vs,rfl,e⟩<;>rw [e]
 . simp only [TAt]
 . exact sy.symm
theorem uI {l:List (T An)}{i:Nat}{t:T An}(h:l[i]?=some t){b:Nat}(hb:b∈t.blk):b∈T.dc l:=by
 induction l generalizing i with
 | nil=>simp at h
 | cons x q ih =>
   cases i with
   | zero=>simp at h;subst h;simp [T.dc,hb]
   | succ i=>simp at h;simp [T.dc,ih h]
theorem Dj:∀ (p:List Nat) (t u:T An) (b o:Nat),cR t p=some u->TAt w A E nx t b o->
 ∃ b' o',kW t p b o=some (b',o')∧TAt w A E nx u b' o'∧((b'=b∧o<=o'∧o'+u.cs<=o+t.cs)∨b'∈t.blk)∧(∀ x∈u.blk,x∈t.blk)∧((b::t.blk).Nodup->b'∉u.blk)
 | [],t,u,b,o,h,k=>by
   simp only [cR,aa] at h;subst h;exact ⟨b,o,by simp [kW],k,.inl ⟨rfl,ay _,ay _⟩,λ_ h=>h,λhn=>(bZ.1 hn).1⟩
 | i::r,.p v,u,b,o,h,k=>by
   cases v<;>simp only [cR,reduceCtorEq] at h;rename_i l;split at h
   . rename_i v hv;have k':=(sy.2 k).get (i:=i) (t:=.p v) (by simp [hv])
     rw [← bP,EI] at k';obtain ⟨b',o',h0,h1,h2,h3,h4⟩:=Dj r (.p v) u b _ h k';refine ⟨b',o',by simpa only [kW,hv] using h0,h1,?_,λx hx=>by have:=h3 x hx;simp [T.blk] at this,λ_ hx=>by have:=h3 _ hx;simp [T.blk] at this⟩
     rcases h2 with ⟨h5,h6,h7⟩ | h5
     . refine .inl ⟨h5,by omega,?_⟩
       have:PV.db (l.take i)+v.cs<=PV.db l:=by
        clear h k k' h1 h4 h7 h6 h0
        induction l generalizing i with
        | nil=>simp at hv
        | cons y q ih =>
          cases i with
          | zero=>simp at hv;subst hv;simp [PV.db]
          | succ i=>simp at hv;have:=ih i hv;simp [PV.db];omega
       simp only [T.cs,PV.cs] at h7 ⊢;omega
     . simp [T.blk] at h5
   . cases h
 | i::r,.m v,u,b,o,h,_=>by simp [cR] at h
 | i::r,.agg l,u,b,o,h,k=>by
   simp only [cR] at h;split at h
   . rename_i t ht;simp only [TAt] at k;obtain ⟨b',o',h0,h1,h2,h3,h4⟩:=Dj r t u b _ h (k.get ht);refine ⟨b',o',by simpa only [kW,ht] using h0,h1,?_,λx hx=>uI ht (h3 x hx),λhn=>h4 ?_⟩
     . rcases h2 with ⟨h5,h6,h7⟩ | h5
       . refine .inl ⟨h5,by omega,?_⟩
         have:T.db (l.take i)+t.cs<=T.db l:=by
          clear h k h1 h4 h7 h6 h0
          induction l generalizing i with
          | nil=>simp at ht
          | cons y q ih =>
            cases i with
            | zero=>simp at ht;subst ht;simp [T.db]
            | succ i=>simp at ht;have:=ih i ht;simp [T.db];omega
         simp only [T.cs];omega
       . exact .inr (uI ht h5)
     . simp only [T.blk] at hn;obtain ⟨rest,h5,_⟩:=F5 t ht
       have:=(h5.cons b).nodup_iff.1 hn
       exact (aT.1 (by simpa using this)).1
   . cases h
 | i::r,.vec a z l n,u,b,o,h,k=>by
   simp only [cR] at h;split at h
   . rename_i t ht;simp only [TAt] at k;obtain ⟨p,cap,_,_,_,k4⟩:=k;cases hb:a.b with
     | none=>simp only [hb] at k4;rw [k4.1] at ht;simp at ht
     | some b0 =>
       simp only [hb] at k4;obtain ⟨b',o',h0,h1,h2,h3,h4⟩:=Dj r t u b0 _ h (k4.2.2.2.elem k4.2.2.1 ht);refine ⟨b',o',by simpa only [kW,ht,hb] using h0,h1,.inr ?_,λx hx=>?_,λhn=>h4 ?_⟩
       . simp only [T.blk,hb,cg,aS,a7,aG];rcases h2 with ⟨h5,_⟩ | h5
         . exact .inl h5
         . exact .inr (uI ht h5)
       . simp only [T.blk,hb,cg,aS,a7,aG];exact .inr (uI ht (h3 x hx))
       . simp only [T.blk,hb,cg,aS,a7] at hn;obtain ⟨rest,h5,_⟩:=F5 t ht
         have:=((h5.cons b0).nodup_iff).1 (bZ.1 hn).2
         exact (aT.1 (by simpa using this)).1
   . cases h
 | i::r,.mp a ks l,u,b,o,_,k=>by simp only [TAt] at k
 | i::r,.hole n,u,b,o,h,_=>by simp [cR] at h
end
end Go.Mid
namespace Go.Mid
open Go.RowKit
section
variable {w:World}{A:Nat->Prop}{E:dP An}{nx:di}
theorem Dk:∀ {l:List (T An)} {b o:Nat},cD w A E nx l b o↔∀ (j:Nat) (y:T An),l[j]?=some y->TAt w A E nx y b (o+T.db (l.take j))
 | [],b,o=>by simp [cD]
 | t::r,b,o=>by
   simp only [cD,Dk (l:=r)];constructor
   . rintro ⟨h1,h2⟩ j y hj;cases j with
     | zero=>simp at hj;subst hj;simpa [T.db] using h1
     | succ j =>
       simp at hj
       have:=h2 j y hj
       rwa [bU,T.db,← bV]
   . intro h;refine ⟨by simpa [T.db] using h 0 t rfl,λj y hj=>?_⟩
     have:=h (j+1) y (by simpa using hj)
     rwa [bU,T.db,← bV] at this
theorem R9 {α:Type}:∀ {l:List (T α)} {i j:Nat} {x:T α},l[i]?=some x->i<j->T.db (l.take i)+x.cs<=T.db (l.take j)
 | [],i,j,x,h,_=>by simp at h
 | t::r,0,j+1,x,h,_=>by simp at h;subst h;simp [T.db]
 | t::r,i+1,j+1,x,h,k=>by
   simp at h
   have:=R9 h (show i<j by omega)
   simp [T.db];omega
theorem Oi {α:Type}{l:List (T α)}{i j:Nat}{x y:T α}(h:l[i]?=some x)(k:y.cs=x.cs):T.db ((l.set i y).take j)=T.db (l.take j):=by
 by_cases gM:i<j
 . have:(l.set i y).take j=(l.take j).set i y:=by rw [List.take_set]
   rw [this];exact Oa (by rw [List.getElem?_take_of_lt gM];exact h) k
 . rw [List.take_set_of_le (by omega)]
theorem YN:∀ {l:List (T An)} {i j:Nat} {x y:T An},(T.dc l).Nodup->l[i]?=some x->l[j]?=some y->j≠i->∀ b∈x.blk,b∉y.blk
 | [],i,j,x,y,_,h,_,_=>by simp at h
 | t::r,0,0,x,y,_,_,_,h=>by simp at h
 | t::r,0,j+1,x,y,hn,h,k,_=>by
   simp at h k;subst h;intro b hb js;simp only [T.dc] at hn;exact (aT.1 hn).2.2 b hb b (uI k js) rfl
 | t::r,i+1,0,x,y,hn,h,k,_=>by
   simp at h k;subst k;intro b hb js;simp only [T.dc] at hn;exact (aT.1 hn).2.2 b js b (uI h hb) rfl
 | t::r,i+1,j+1,x,y,hn,h,k,gM=>by
   simp at h k;simp only [T.dc] at hn;exact YN (aT.1 hn).2.1 h k (by omega)
theorem Oj {l:List (T An)}{i:Nat}{x:T An}{b:Nat}(hn:(b::T.dc l).Nodup)(h:l[i]?=some x):(b::x.blk).Nodup:=by
 obtain ⟨rest,h5,_⟩:=F5 x h
 have:=(h5.cons b).nodup_iff.1 hn
 exact (aT.1 (by simpa using this:((b::x.blk)++rest).Nodup)).1
end
section
variable {w w':World}{A A':Nat->Prop}{E E':dP An}{nx nx':di}
theorem Sa (f:Fr w w' A A' E E' nx nx'){l:List (T An)}{i b o b1 o1:Nat}{x x' u:T An}{r:List Nat}(hts:cD w A E nx l b o)(hl:l[i]?=some x)
 (hnd:(b::T.dc l).Nodup) (hsz:∀ y∈b::T.dc l,y<w.heap.size) (dK:cR x r=some u) (jC:kW x r b (o+T.db (l.take i))=some (b1,o1))
 (W:Wr w w' b1 o1 u.cs u.blk) (J1:TAt w' A' E' nx' x' b (o+T.db (l.take i))) (eV:x'.cs=x.cs):cD w' A' E' nx' (l.set i x') b o:=by
 rw [Dk];intro j y hj;rw [Oi hl eV];rw [dD] at hj;split at hj
 . rename_i gM;subst gM;split at hj
   . cases hj;exact J1
   . cases hj
 . rename_i gM;have hy:=Dk.1 hts j y hj;have hx:=Dk.1 hts i x hl;obtain ⟨b',o',h0,h1,h2,h3,h4⟩:=Dj r x u b _ dK hx;rw [h0] at jC;cases jC;have YO:=YN (bZ.1 hnd).2 hl hj (dv gM);have vn:=(bZ.1 hnd).1;refine TAt.iT f (λk Ic YP=>?_) (λz hz=>?_) hy
   . rcases h2 with ⟨rfl,h5,h6⟩ | h5
     . refine W.cell k ?_;by_cases eC:j<i
       . have:=R9 hj eC;omega
       . have:=R9 hl (show i<j by omega);omega
     . refine NY (W.other b (hsz b (by simp)) ?_ ?_) k
       . rintro rfl;exact vn (uI hl h5)
       . intro hb;exact vn (uI hl (h3 b hb))
   . refine W.other z (hsz z (by simp [uI hj hz])) ?_ ?_
     . rintro rfl;rcases h2 with ⟨rfl,_⟩ | h5
       . exact vn (uI hj hz)
       . exact YO _ h5 hz
     . intro Co;exact YO z (h3 z Co) hz
theorem Ol (f:Fr w w' A A' E E' nx nx'):∀ (p:List Nat) (t u v t':T An) (b o b1 o1:Nat),cR t p=some u->c8 t p v=some t'->kW t p b o=some (b1,o1)->TAt w A E nx t b o->
 (b::t.blk).Nodup->(∀ y∈b::t.blk,y<w.heap.size)->v.cs=u.cs->Wr w w' b1 o1 u.cs u.blk->TAt w' A' E' nx' v b1 o1->TAt w' A' E' nx' t' b o
 | [],t,u,v,t',b,o,b1,o1,h,k,hl,_,_,_,_,_,hv=>by
   simp only [c8,aa] at k;subst k;simp only [kW,aa,ae] at hl;obtain ⟨rfl,rfl⟩:=hl;exact hv
 | i::r,t,u,v,t',b,o,b1,o1,h,k,jC,hk,hnd,hsz,eV,W,hv=>by
   rcases J9 h k with ⟨l,x,y,ht,hl,h1,h2,rfl⟩ | ⟨a,z,l,n,x,y,rfl,hl,h1,h2,rfl⟩ | ⟨a,ks,l,x,y,rfl,hl,h1,h2,rfl⟩
   . have hts:cD w A E nx l b o:=by
      rcases ht with rfl | ⟨vs,rfl,rfl⟩
      . simpa only [TAt] using hk
      . exact sy.2 hk
     have hb:t.blk=T.dc l:=by
      rcases ht with rfl | ⟨vs,rfl,rfl⟩
      . rfl
      . rw [F4];rfl
     have qj:kW x r b (o+T.db (l.take i))=some (b1,o1):=by
      have:kW (.agg l) (i::r) b o=some (b1,o1):=by
       rcases ht with rfl | ⟨vs,rfl,rfl⟩
       . exact jC
       . rw [← R8];exact jC
      simpa only [kW,hl] using this
     rw [hb] at hnd hsz;have hx:=Ol f r x u v y b _ b1 o1 h1 h2 qj (Dk.1 hts i x hl) (Oj hnd hl) (λy hy=>hsz y (by
      rcases aG.1 hy with rfl | hy
      . simp
      . simp [uI hl hy])) eV W hv
     exact C6e.2 (Sa f hts hl hnd hsz h1 qj W hx (Cu r x u v y h1 h2 eV))
   . simp only [TAt] at hk ⊢;obtain ⟨p,cap,k1,k2,k3,k4⟩:=hk;cases hb:a.b with
     | none=>simp only [hb] at k4;rw [k4.1] at hl;simp at hl
     | some b0 =>
       simp only [hb] at k4 ⊢;simp only [T.blk,hb,cg,aS,a7] at hnd hsz;have tD:=(bZ.1 hnd).2;have Kc:∀ y∈b0::T.dc l,y<w.heap.size:=λy hy=>hsz y (by simp only [aG] at hy ⊢;exact .inr hy)
       have e:i*z=0+T.db (l.take i):=by rw [Cq k4.2.2.1 (fH (aJ.1 hl).1)];omega
       have qj:kW x r b0 (0+T.db (l.take i))=some (b1,o1):=by
        rw [← e];simpa only [kW,hl,hb] using jC
       have hx:=Ol f r x u v y b0 _ b1 o1 h1 h2 qj (Dk.1 k4.2.2.2 i x hl) (Oj tD hl) (λy hy=>Kc y (by
        rcases aG.1 hy with rfl | hy
        . simp
        . simp [uI hl hy])) eV W hv
       have Kd:=Cu r x u v y h1 h2 eV;obtain ⟨b',o',h0,_,h5,h3,h4⟩:=Dj r x u b0 _ h1 (Dk.1 k4.2.2.2 i x hl);rw [h0] at qj;cases qj;have vn:=(bZ.1 hnd).1;have ot:b1=b0∨b1∈T.dc l:=h5.imp (·.1) (uI hl);have hbh:w'.heap[b]?=w.heap[b]?:=by
        refine W.other b (hsz b (by simp)) ?_ ?_
        . rintro rfl;exact vn (aG.2 ot)
        . intro hb;exact vn (by simp [uI hl (h3 b hb)])
       refine ⟨p,cap,k1.frame hbh,by rw [iy];exact k2,k3,?_,by rw [iy];exact k4.2.1,?_,Sa f k4.2.2.2 hl tD Kc h1 h0 W hx Kd⟩
       . by_cases kE:b0=b1
         . subst kE;exact W.blk _ k4.1
         . refine k4.1.frame (W.other b0 (hsz b0 (by simp)) kE ?_)
           intro hb;exact (bZ.1 tD).1 (uI hl (h3 b0 hb))
       . intro q hq;rcases bx hq with hq | rfl
         . exact k4.2.2.1 q hq
         . rw [Kd];exact k4.2.2.1 x (bH hl)
   . simp only [TAt] at hk
end
theorem Dl {α:Type}(a:α)(t:T α)(p:List Nat):iE (some (.cell a t)) p=cR t p:=by cases p<;>rfl
theorem C4C {α:Type}(ob:Option (Obj α))(q:List Nat):fc ob (some q)=match ob,q with
 | some (.cell _ t),q=>fE t q
 | some (.vec a z l),q=>fE (.vec a z l 0) q
 | some (.mp a ks l),q=>fE (.mp a ks l) q
 | _,_=>none:=by
 cases ob with
 | none=>cases q<;>rfl
 | some o =>
   cases o with
   | cell a t =>
     simp only [fc,fE,Dl];cases cR t q with
     | none=>rfl
     | some x=>cases x<;>rfl
   | vec a z l =>
     cases q with
     | nil=>rfl
     | cons i r =>
       simp only [fc,fE,iE,cR];cases l[i]? with
       | none=>rfl
       | some t =>
         simp only;cases cR t r with
         | none=>rfl
         | some x=>cases x<;>rfl
   | mp a ks l=>cases q<;>rfl
   | gone=>cases q<;>rfl
def Obj.qk {α:Type}:Obj α->T α
 | .cell _ t=>t
 | .vec a z l=>.vec a z l 0
 | .mp a ks l=>.mp a ks l
 | .gone=>.hole 0
theorem uJ {α:Type}(o:Obj α)(q:List Nat):fc (some o) (some q)=fE o.qk q:=by
 rw [C4C];cases o<;>try rfl
 cases q<;>rfl
theorem Ie {α:Type}{o o':Obj α}{p:List Nat}{u v:T α}(h:iE (some o) p=some u)(k:put (some o) p v=some o') :
 (∃ a t t',o=.cell a t∧o'=.cell a t'∧cR t p=some u∧c8 t p v=some t') ∨
 (∃ a z l l' i r x y,o=.vec a z l∧o'=.vec a z l'∧p=i::r∧l[i]?=some x∧cR x r=some u∧c8 x r v=some y∧l'=l.set i y) ∨
 (∃ a ks l l' i r x y,o=.mp a ks l∧o'=.mp a ks l'∧p=i::r∧l[i]?=some x∧cR x r=some u∧c8 x r v=some y∧l'=l.set i y):=by
 cases o with
 | cell a t =>
   rw [Dl] at h;have e:put (some (.cell a t)) p v=match c8 t p v with | some w=>some (.cell a w) | none=>none:=by cases p<;>rfl
   rw [e] at k;split at k
   . rename_i w hw;cases k;exact .inl ⟨a,t,w,rfl,rfl,h,hw⟩
   . cases k
 | vec a z l =>
   cases p with
   | nil=>simp [iE] at h
   | cons i r =>
     simp only [iE] at h;simp only [put] at k;cases hl:l[i]? with
     | none=>simp [hl] at h
     | some x =>
       simp only [hl] at h k;split at k
       . rename_i y hy;cases k;exact .inr (.inl ⟨a,z,l,_,i,r,x,y,rfl,rfl,rfl,hl,h,hy,rfl⟩)
       . cases k
 | mp a ks l=>cases p<;>simp [iE] at h
 | gone=>cases p<;>simp [iE] at h
theorem Sb {α:Type}{o o':Obj α}{p:List Nat}{u v:T α}(h:iE (some o) p=some u)(k:put (some o) p v=some o') :
 cR o.qk p=some u∧c8 o.qk p v=some o'.qk:=by
 rcases Ie h k with ⟨a,t,t',rfl,rfl,h1,h2⟩ | ⟨a,z,l,l',i,r,x,y,rfl,rfl,rfl,hl,h1,h2,rfl⟩ | ⟨a,ks,l,l',i,r,x,y,rfl,rfl,rfl,hl,h1,h2,rfl⟩
 . exact ⟨h1,h2⟩
 . exact ⟨by simp only [Obj.qk,cR,hl,h1],by simp only [Obj.qk,c8,hl,h2]⟩
 . simp [iE] at h
theorem F6 {o o':Obj An}{p:List Nat}{u v:T An}(h:iE (some o) p=some u)(k:put (some o) p v=some o') :
 ∃ rest,o.blk.Perm (u.blk++rest)∧o'.blk.Perm (v.blk++rest):=by
 obtain ⟨h1,h2⟩:=Sb h k;obtain ⟨rest,h3,h4⟩:=Od p _ _ _ _ h1 h2;rcases Ie h k with ⟨a,t,t',rfl,rfl,_,_⟩ | ⟨a,z,l,l',i,r,x,y,rfl,rfl,rfl,hl,_,_,rfl⟩ | ⟨a,ks,l,l',i,r,x,y,rfl,rfl,rfl,hl,_,_,rfl⟩
 . simp only [Obj.qk] at h3 h4;refine ⟨a.b.toList++rest,?_,?_⟩
   . refine (h3.append_left a.b.toList).trans ?_;rw [← bg,← bg];exact dq.append_right _
   . refine (h4.append_left a.b.toList).trans ?_;rw [← bg,← bg];exact dq.append_right _
 . exact ⟨rest,h3,h4⟩
 . exact ⟨rest,h3,h4⟩
theorem D3f {n:di}{o o':Obj An}{p:List Nat}{u v:T An}(h:iE (some o) p=some u)(k:put (some o) p v=some o')(ho:o.st n)(hv:v.st n):o'.st n:=by
 obtain ⟨h1,h2⟩:=Sb h k;rcases Ie h k with ⟨a,t,t',rfl,rfl,_,_⟩ | ⟨a,z,l,l',i,r,x,y,rfl,rfl,rfl,hl,_,_,rfl⟩ | ⟨a,ks,l,l',i,r,x,y,rfl,rfl,rfl,hl,_,_,rfl⟩
 . exact ⟨ho.1,Ia p _ _ _ _ h1 h2 ho.2 hv⟩
 . exact Ia (i::r) _ _ _ _ h1 h2 ho hv
 . exact Ia (i::r) _ _ _ _ h1 h2 ho hv
theorem YQ {α:Type}{o o':Obj α}{p:List Nat}{u v:T α}(h:iE (some o) p=some u)(k:put (some o) p v=some o'){np:Option (List Nat)}{y:α×Option Nat}
 (hy:fc (some o') np=some y):fc (some o) np=some y∨∃ r,np=some (p++r)∧fE v r=some y:=by
 obtain ⟨h1,h2⟩:=Sb h k;cases np with
 | none =>
   rcases Ie h k with ⟨a,t,t',rfl,rfl,_,_⟩ | ⟨a,z,l,l',i,r,x,y,rfl,rfl,rfl,hl,_,_,rfl⟩ | ⟨a,ks,l,l',i,r,x,y,rfl,rfl,rfl,hl,_,_,rfl⟩
   . exact .inl hy
   . simp [fc] at hy
   . simp [fc] at hy
 | some q =>
   rw [uJ] at hy ⊢;rcases Og p _ _ _ _ h1 h2 q y hy with h3 | ⟨r,rfl,h3⟩
   . exact .inl h3
   . exact .inr ⟨r,rfl,h3⟩
end Go.Mid
namespace Go.Mid
open Go.RowKit
theorem YR (l:List (T An))(i:Nat)(r:List Nat)(b o:Nat):kW (A0z l) (i::r) b o=kW (.agg l) (i::r) b o:=by
 rcases Dh l with e | ⟨vs,rfl,e⟩<;>rw [e]
 exact R8 vs i r b o
theorem Ig:∀ (p:List Nat) (t u v t':T An),cR t p=some u->c8 t p v=some t'->v.cs=u.cs->∀ q y,cR t' q=some y->
 (∃ i r,q=p++i::r∧cR v (i::r)=some y)∨∃ y',cR t q=some y'∧y'.cs=y.cs∧∀ b o,kW t' q b o=kW t q b o
 | [],t,u,v,t',h,k,e,q,y,hq=>by
   simp only [c8,aa] at k;subst k;simp only [cR,aa] at h;subst h;cases q with
   | nil=>simp only [cR,aa] at hq;subst hq;exact .inr ⟨t,by simp [cR],e.symm,λb o=>by simp [kW]⟩
   | cons i r=>exact .inl ⟨i,r,rfl,hq⟩
 | i::r,t,u,v,t',h,k,e,q,y,hq=>by
   cases q with
   | nil =>
     simp only [cR,aa] at hq;subst hq;exact .inr ⟨t,by simp [cR],(Cu _ _ _ _ _ h k e).symm,λb o=>by simp [kW]⟩
   | cons j q =>
     rcases J9 h k with ⟨l,x,w,ht,hl,h1,h2,rfl⟩ | ⟨a,z,l,n,x,w,rfl,hl,h1,h2,rfl⟩ | ⟨a,ks,l,x,w,rfl,hl,h1,h2,rfl⟩
     . have hs:cR t (j::q)=cR (.agg l) (j::q):=by
        rcases ht with rfl | ⟨vs,rfl,rfl⟩
        . rfl
        . exact J8 vs j q
       have nU:∀ b o,kW t (j::q) b o=kW (.agg l) (j::q) b o:=by
        intro b o;rcases ht with rfl | ⟨vs,rfl,rfl⟩
        . rfl
        . exact R8 vs j q b o
       have hw:=Cu _ _ _ _ _ h1 h2 e;rw [YK] at hq;simp only [cR] at hq;rw [hs];simp only [cR];cases hj:(l.set i w)[j]? with
       | none=>simp [hj] at hq
       | some y0 =>
         simp only [hj] at hq;have EJ:=hj;rw [dD] at hj;split at hj
         . rename_i gM;subst gM;split at hj
           . cases hj;rcases Ig r x u v w h1 h2 e q y hq with ⟨i',r',rfl,h3⟩ | ⟨y',h3,h4,h5⟩
             . exact .inl ⟨i',r',rfl,h3⟩
             . refine .inr ⟨y',by rw [hl];exact h3,h4,λb o=>?_⟩
               rw [YR,nU];simp only [kW,EJ,hl,Oi hl hw,h5]
           . cases hj
         . refine .inr ⟨y,by rw [hj];exact hq,rfl,λb o=>?_⟩
           rw [YR,nU];simp only [kW,EJ,hj,Oi hl hw]
     . have hw:=Cu _ _ _ _ _ h1 h2 e;simp only [cR] at hq ⊢;cases hj:(l.set i w)[j]? with
       | none=>simp [hj] at hq
       | some y0 =>
         simp only [hj] at hq;have EJ:=hj;rw [dD] at hj;split at hj
         . rename_i gM;subst gM;split at hj
           . cases hj;rcases Ig r x u v w h1 h2 e q y hq with ⟨i',r',rfl,h3⟩ | ⟨y',h3,h4,h5⟩
             . exact .inl ⟨i',r',rfl,h3⟩
             . refine .inr ⟨y',by rw [hl];exact h3,h4,λb o=>?_⟩
               simp only [kW,EJ,hl];cases a.b with
               | none=>rfl
               | some b'=>exact h5 b' _
           . cases hj
         . refine .inr ⟨y,by rw [hj];exact hq,rfl,λb o=>?_⟩
           simp only [kW,EJ,hj]
     . simp [cR] at hq
def mS (E E':dP An):Prop:=∀ id p u,iE (E' id) p=some u->∃ u',iE (E id) p=some u'∧u'.cs=u.cs∧rW (E' id) p=rW (E id) p
theorem mS.refl (E:dP An):mS E E:=λ_ _ u h=>⟨u,h,rfl,rfl⟩
theorem mS.trans {E E' AR:dP An}(h:mS E E')(k:mS E' AR):mS E AR:=λid p u hu=>by
 obtain ⟨u',h1,h2,h3⟩:=k id p u hu;obtain ⟨u'',h4,h5,h6⟩:=h id p u' h1;exact ⟨u'',h4,h5.trans h2,h3.trans h6⟩
theorem mS.gone (E:dP An)(id:Nat):mS E (cq E id (some .gone)):=by
 intro i p u hu;by_cases e:i=id
 . subst e;simp only [cq,if_true] at hu;cases p<;>simp [iE] at hu
 . simp only [cq,e,if_false] at hu ⊢;exact ⟨u,hu,rfl,trivial⟩
theorem D1M {o o':Obj An}{p:List Nat}{u:T An}{n:Nat}(hs:iE (some o) p=some u)(hp:put (some o) p (.hole n)=some o')(hc:u.cs=n){q:List Nat}{y:T An}(hq:iE (some o') q=some y) :
 ∃ y',iE (some o) q=some y'∧y'.cs=y.cs∧rW (some o') q=rW (some o) q:=by
 have hole:∀ i r,cR (.hole n:T An) (i::r)≠some y:=by intro i r h;simp [cR] at h
 rcases Ie hs hp with ⟨a,t,t',rfl,rfl,h1,h2⟩ | ⟨a,z,l,l',i,r,x,w,rfl,rfl,rfl,hx,h1,h2,rfl⟩ | ⟨a,ks,l,l',i,r,x,w,rfl,rfl,rfl,hx,h1,h2,rfl⟩
 . rw [Dl] at hq;rcases Ig p t u _ t' h1 h2 hc.symm q y hq with ⟨i,r,_,h3⟩ | ⟨y',h3,h4,h5⟩
   . exact absurd h3 (hole i r)
   . refine ⟨y',by rw [Dl];exact h3,h4,?_⟩
     simp only [rW,h5]
 . cases q with
   | nil=>simp [iE] at hq
   | cons j q =>
     have vR:cR (.vec a z l 0) (i::r)=some u:=by simp only [cR,hx,h1]
     have sA:c8 (.vec a z l 0) (i::r) (.hole n)=some (.vec a z (l.set i w) 0):=by simp only [c8,hx,h2]
     rcases Ig (i::r) _ u _ _ vR sA hc.symm (j::q) y (by simpa only [iE,cR] using hq) with ⟨i',r',_,h3⟩ | ⟨y',h3,h4,h5⟩
     . exact absurd h3 (hole i' r')
     . refine ⟨y',by simpa only [iE,cR] using h3,h4,?_⟩
       have:=h5 0 0
       simpa only [rW,kW] using this
 . simp [iE] at hs
theorem mS.hole {E:dP An}{id:Nat}{o o':Obj An}{p:List Nat}{u:T An}{n:Nat}(hE:E id=some o)(hs:iE (some o) p=some u)(hp:put (some o) p (.hole n)=some o')(hc:u.cs=n):mS E (cq E id (some o')):=by
 intro i q y hy;by_cases e:i=id
 . subst e;simp only [cq,if_true] at hy ⊢;rw [hE];exact D1M hs hp hc hy
 . simp only [cq,e,if_false] at hy ⊢;exact ⟨y,hy,rfl,trivial⟩
end Go.Mid
namespace Go.Mid
open Go.RowKit
section
variable {w w':World}{A:Nat->Prop}{E:dP An}{h:cj}{nx nx':di}
theorem nV {α:Type}(f:Nat->α)(k:Nat)(v:α):cq f k v k=v:=by simp [cq]
theorem A0C {α:Type}(f:Nat->α){k i:Nat}(v:α)(h:i≠k):cq f k v i=f i:=by simp [cq,h]
theorem MR.j6 (m:MR w A E h nx){i:Nat}{o:Obj An}(ho:E i=some o){b:Nat}(hb:b∈o.blk):b<w.heap.size∧¬ A b:=m.lt b ⟨i,o,ho,hb⟩
structure nW (w w':World)(A:Nat->Prop)(E:dP An)(nx nx':di)(id:Nat)(o':Obj An):Prop where
 hn:nx.le nx'
 sz:w.heap.size<=w'.heap.size
 ch:∀ b,b<w.heap.size->(∀ o,E id=some o->b∉o.blk)->w'.heap[b]?=w.heap[b]?
 ns:∀ np y,fc (some o') np=some y->nx y.1.g->fc (E id) np=some y
 lt:∀ b∈o'.blk,b<w'.heap.size∧¬ A b
 nd:o'.blk.Nodup
 dj:∀ b∈o'.blk,∀ j o,j≠id->E j=some o->b∉o.blk
 st:o'.st nx'
theorem nW.fr {id:Nat}{o':Obj An}(m:MR w A E h nx)(s:nW w w' A E nx nx' id o'):Fr w w' A A E (cq E id (some o')) nx nx' :=
 ⟨λ_ h=>h,λb hb=>s.ch b (m.im b hb) (λo ho lZ=>(m.j6 ho lZ).2 hb),λi np an z bW hg=>by
   by_cases e:i=id
   . subst e;rw [nV] at bW;exact s.ns np _ bW hg
   . rw [A0C E _ e] at bW;exact bW,s.hn⟩
theorem MR.set (m:MR w A E h nx){id:Nat}{o':Obj An}(s:nW w w' A E nx nx' id o')(kV:OAt w' A (cq E id (some o')) nx' o') :
 MR w' A (cq E id (some o')) (cq h id (some (o'.mapA An.g))) nx':=by
 have f:=s.fr m;constructor
 . intro i;by_cases e:i=id
   . subst e;simp [cq]
   . simp [cq,e,m.er i]
 . intro i o ho;by_cases e:i=id
   . subst e;rw [nV] at ho;cases ho;exact kV
   . rw [A0C E _ e] at ho;refine OAt.frame f (λx hx=>s.ch x (m.j6 ho hx).1 (λo1 nr w7=>m.dj i id o o1 e ho nr x hx w7)) (m.at_ i o ho)
 . rintro b ⟨i,o,ho,hb⟩;by_cases e:i=id
   . subst e;rw [nV] at ho;cases ho;exact s.lt b hb
   . rw [A0C E _ e] at ho
     have:=m.j6 ho hb
     exact ⟨br this.1 s.sz,this.2⟩
 . intro i o ho;by_cases e:i=id
   . subst e;rw [nV] at ho;cases ho;exact s.nd
   . rw [A0C E _ e] at ho;exact m.nd i o ho
 . intro i j o o1 gM ho nr b hb ot;by_cases e:i=id
   . subst e;rw [nV] at ho;cases ho;rw [A0C E _ (dv gM)] at nr;exact s.dj b hb j o1 (dv gM) nr ot
   . rw [A0C E _ e] at ho;by_cases e':j=id
     . subst e';rw [nV] at nr;cases nr;exact s.dj b ot i o e ho hb
     . rw [A0C E _ e'] at nr;exact m.dj i j o o1 gM ho nr b hb ot
 . intro b hb;exact br (m.im b hb) s.sz
 . intro i o ho;by_cases e:i=id
   . subst e;rw [nV] at ho;cases ho;exact s.st
   . rw [A0C E _ e] at ho;exact Obj.ka s.hn (m.st i o ho)
theorem Cv {id:Nat}{o':Obj An}{b:Nat}(k:jr (cq E id (some o')) b):b∈o'.blk∨∃ i o,i≠id∧E i=some o∧b∈o.blk:=by
 obtain ⟨i,o,ho,hb⟩:=k;by_cases e:i=id
 . subst e;rw [nV] at ho;cases ho;exact .inl hb
 . rw [A0C E _ e] at ho;exact .inr ⟨i,o,e,ho,hb⟩
theorem YS {α:Type}(np:Option (List Nat)):fc (some (.gone:Obj α)) np=none:=by
 cases np with
 | none=>rfl
 | some p=>cases p<;>rfl
theorem nW.gone (hn:nx.le nx')(id:Nat):nW w w A E nx nx' id .gone where
 hn:=hn
 sz:=ay _
 ch:=λ_ _ _=>rfl
 ns:=λnp y h=>by rw [YS] at h;cases h
 lt:=λb hb=>by simp [Obj.blk] at hb
 nd:=by simp [Obj.blk]
 dj:=λb hb=>by simp [Obj.blk] at hb
 st:=trivial
theorem MR.gone (m:MR w A E h nx)(id:Nat):MR w A (cq E id (some .gone)) (cq h id (some .gone)) nx :=
 m.set (nW.gone (di.le_refl _) id) (by simp only [OAt])
theorem Cw {o:Obj An}{p:List Nat}{u:T An}(hs:iE (some o) p=some u)(k:OAt w A E nx o) :
 ∃ b' o',rW (some o) p=some (b',o')∧TAt w A E nx u b' o'∧b'∈o.blk∧(∀ x∈u.blk,x∈o.blk)∧(o.blk.Nodup->b'∉u.blk):=by
 cases o with
 | cell a t =>
   rw [Dl] at hs;simp only [OAt] at k;obtain ⟨b,hb,h1,h2⟩:=k;obtain ⟨b',o',h0,h3,h4,h5,h6⟩:=Dj p t u b 0 hs h2;refine ⟨b',o',?_,h3,?_,?_,?_⟩
   . cases p<;>simpa only [rW,hb] using h0
   . simp only [Obj.blk,hb,cg,aS,a7,aG];exact h4.imp (·.1) id
   . intro x hx;simp only [Obj.blk,az];exact .inr (h5 x hx)
   . intro hn;simp only [Obj.blk,hb,cg,aS,a7] at hn;exact h6 hn
 | vec a z l =>
   cases p with
   | nil=>simp [iE] at hs
   | cons i r =>
     simp only [iE] at hs;split at hs
     . rename_i t ht;simp only [OAt,VB] at k;cases hb:a.b with
       | none=>simp only [hb] at k;rw [k.1] at ht;simp at ht
       | some b =>
         simp only [hb] at k;obtain ⟨b',o',h0,h3,h4,h5,h6⟩:=Dj r t u b _ hs (k.2.2.2.elem k.2.2.1 ht);refine ⟨b',o',by simpa only [rW,hb,ht] using h0,h3,?_,?_,?_⟩
         . simp only [Obj.blk,hb,cg,aS,a7,aG];rcases h4 with h4 | h4
           . exact .inl h4.1
           . exact .inr (uI ht h4)
         . intro x hx;simp only [Obj.blk,az];exact .inr (uI ht (h5 x hx))
         . intro hn;simp only [Obj.blk,hb,cg,aS,a7] at hn;exact h6 (Oj hn ht)
     . cases hs
 | mp=>cases p<;>simp [iE] at hs
 | gone=>cases p<;>simp [iE] at hs
theorem C9P {an:An}{z n b0:Nat}{l:List (T An)}{i:Nat}{t:T An}{r:List Nat}{b o:Nat}(hb:an.b=some b0)(ht:l[i]?=some t):kW (.vec an z l n) (i::r) b o=kW t r b0 (i*z):=by
 simp only [kW,hb,ht]
theorem C4D {o:Obj An}{p:List Nat}{u:T An}{b' o':Nat}(hs:iE (some o) p=some u)(hl:rW (some o) p=some (b',o'))(q:List Nat):rW (some o) (p++q)=kW u q b' o':=by
 cases o with
 | cell a t =>
   rw [Dl] at hs;simp only [rW] at hl ⊢;cases hb:a.b with
   | none=>simp [hb] at hl
   | some b=>simp only [hb] at hl ⊢;exact Kb p q t u b 0 b' o' hs hl
 | vec a z l =>
   cases p with
   | nil=>simp [iE] at hs
   | cons i r =>
     simp only [iE] at hs;simp only [rW,aS] at hl ⊢;split at hs
     . rename_i t ht;cases hb:a.b with
       | none=>simp [hb] at hl
       | some b=>simp only [hb,ht] at hl ⊢;exact Kb r q t u b _ b' o' hs hl
     . cases hs
 | mp a ks l=>cases p<;>simp [rW] at hl
 | gone=>cases p<;>simp [iE] at hs
theorem MR.yD (m:MR w A E h nx){id:Nat}{ob:Obj An}(hE:E id=some ob){np:Option (List Nat)}{rp:List Nat}{an:An}{o b:Nat}{t:T An}(hv:Mid.look (some ob) np rp=some (t,an,o))(hb:an.b=some b) :
 rW (some ob) (sZ np rp)=some (b,o):=by
 cases np with
 | none =>
   cases ob<;>simp only [Mid.look,reduceCtorEq] at hv;rename_i a t0;split at hv
   . rename_i u o' hl;simp only [aa,ae] at hv;obtain ⟨rfl,rfl,rfl⟩:=hv
     have:=Oh b rp t0 u 0 o' hl
     simp only [sZ,cL,a7];cases rp<;>simpa only [rW,hb] using this
   . cases hv
 | some p =>
   simp only [Mid.look] at hv;simp only [sZ,bI];split at hv
   . rename_i a z l i r iD;split at hv
     . rename_i t0 Cr;split at hv
       . rename_i u o' hl;simp only [aa,ae] at hv;obtain ⟨rfl,rfl,rfl⟩:=hv;have h1:=Oh b r t0 u _ o' hl;rcases N5 iD with ⟨rfl,he⟩ | ⟨n,hs⟩
         . cases he;simpa only [a7,rW,hb,Cr] using h1
         . obtain ⟨b',Dm,h2,_⟩:=Cw hs (m.at_ id ob hE);rw [C4D hs h2,C9P hb Cr];exact h1
       . cases hv
     . cases hv
   . cases hv
theorem OAt.put {o o':Obj An}{p:List Nat}{u v:T An}{A':Nat->Prop}{E':dP An}(f:Fr w w' A A' E E' nx nx')(hs:iE (some o) p=some u)(hp:put (some o) p v=some o'){b1 o1:Nat}(hl:rW (some o) p=some (b1,o1))
 (eV:v.cs=u.cs) (W:Wr w w' b1 o1 u.cs u.blk) (hnd:o.blk.Nodup) (hsz:∀ y∈o.blk,y<w.heap.size) (k:OAt w A E nx o) (hv:TAt w' A' E' nx' v b1 o1):OAt w' A' E' nx' o':=by
 rcases Ie hs hp with ⟨a,t,t',rfl,rfl,h1,h2⟩ | ⟨a,z,l,l',i,r,x,y,rfl,rfl,rfl,hx,h1,h2,rfl⟩ | ⟨a,ks,l,l',i,r,x,y,rfl,rfl,rfl,hx,h1,h2,rfl⟩
 . simp only [OAt] at k ⊢;obtain ⟨b,hb,k1,k2⟩:=k;have zj:kW t p b 0=some (b1,o1):=by
    cases p<;>simpa only [rW,hb] using hl
   simp only [Obj.blk,hb,cg,aS,a7] at hnd hsz;refine ⟨b,hb,?_,Ol f p t u v t' b 0 b1 o1 h1 h2 zj k2 hnd hsz eV W hv⟩;rw [Cu p t u v t' h1 h2 eV];by_cases e:b=b1
   . subst e;exact W.blk _ k1
   . obtain ⟨b',o',h0,_,h5,h3,h4⟩:=Dj p t u b _ h1 k2;refine k1.frame (W.other b (hsz b (by simp)) e λhb=>(bZ.1 hnd).1 (h3 b hb))
 . simp only [OAt,VB] at k ⊢;cases hb:a.b with
   | none=>simp only [hb] at k;rw [k.1] at hx;simp at hx
   | some b0 =>
     simp only [hb] at k ⊢;simp only [Obj.blk,hb,cg,aS,a7] at hnd hsz;have e:i*z=0+T.db (l.take i):=by rw [Cq k.2.2.1 (fH (aJ.1 hx).1)];omega
     have qj:kW x r b0 (0+T.db (l.take i))=some (b1,o1):=by
      rw [← e];simpa only [rW,hx,hb] using hl
     have hy:=Ol f r x u v y b0 _ b1 o1 h1 h2 qj (Dk.1 k.2.2.2 i x hx) (Oj hnd hx) (λy hy=>hsz y (by
      rcases aG.1 hy with rfl | hy
      . simp
      . simp [uI hx hy])) eV W hv
     have zk:=Cu r x u v y h1 h2 eV;obtain ⟨b',o',h0,_,h5,h3,h4⟩:=Dj r x u b0 _ h1 (Dk.1 k.2.2.2 i x hx);refine ⟨?_,by rw [iy];exact k.2.1,?_,Sa f k.2.2.2 hx hnd hsz h1 qj W hy zk⟩
     . by_cases kE:b0=b1
       . subst kE;exact W.blk _ k.1
       . exact k.1.frame (W.other b0 (hsz b0 (by simp)) kE λhb=>(bZ.1 hnd).1 (uI hx (h3 b0 hb)))
     . intro q hq;rcases bx hq with hq | rfl
       . exact k.2.2.1 q hq
       . rw [zk];exact k.2.2.1 x (bH hx)
 . simp [iE] at hs
structure ph (w w':World)(A:Nat->Prop)(E:dP An)(nx nx':di)(id:Nat)(o:Obj An)(p:List Nat)(u v:T An)(b1 o1:Nat):Prop where
 hn:nx.le nx'
 sz:w.heap.size<=w'.heap.size
 hE:E id=some o
 hs:iE (some o) p=some u
 hl:rW (some o) p=some (b1,o1)
 cs:v.cs=u.cs
 W:Wr w w' b1 o1 u.cs u.blk
 ns:∀ r y,fE v r=some y->nx y.1.g->fE u r=some y
 lt:∀ b∈v.blk,b<w'.heap.size∧¬ A b
 nd:v.blk.Nodup
 dj:∀ b∈v.blk,b∈u.blk∨¬ jr E b
 st:v.st nx'
theorem Om {α:Type}{o:Obj α}{u:T α}{p r:List Nat}(h:iE (some o) p=some u):fc (some o) (some (p++r))=fE u r:=by
 rw [uJ]
 have:cR o.qk p=some u:=by
  cases o with
  | cell a t=>rw [Dl] at h;exact h
  | vec a z l =>
    cases p with
    | nil=>simp [iE] at h
    | cons i r=>simpa only [iE,cR,Obj.qk] using h
  | mp a ks l =>
    cases p with
    | nil=>simp [iE] at h
    | cons i r=>simpa only [iE,cR,Obj.qk] using h
  | gone=>cases p<;>simp [iE] at h
 simp only [fE,EG,this,Option.bind_some]
theorem ph.vS {id:Nat}{o o':Obj An}{p:List Nat}{u v:T An}{b1 o1:Nat}(m:MR w A E h nx)(k:ph w w' A E nx nx' id o p u v b1 o1)(hp:put (some o) p v=some o') :
 nW w w' A E nx nx' id o':=by
 obtain ⟨rest,h1,h2⟩:=F6 k.hs hp;have hnd:=m.nd id o k.hE;obtain ⟨b',Dm,h3,h4,h5,h6,h7⟩:=Cw k.hs (m.at_ id o k.hE);rw [k.hl] at h3;cases h3;have tD:=h1.nodup_iff.1 hnd;have ou:∀ b∈rest,b∈o.blk:=λb hb=>h1.mem_iff.2 (by simp [hb])
 have pE:∀ b∈o'.blk,b∈v.blk∨b∈rest:=λb hb=>by simpa using h2.mem_iff.1 hb
 constructor
 . exact k.hn
 . exact k.sz
 . intro b hb lZ;exact k.W.other b hb (λe=>lZ o k.hE (e ▸ h5)) (λhbu=>lZ o k.hE (h6 b hbu))
 . intro np y hy hg;rw [k.hE];rcases YQ k.hs hp hy with h8 | ⟨r,rfl,h8⟩
   . exact h8
   . rw [Om k.hs];exact k.ns r y h8 hg
 . intro b hb;rcases pE b hb with h8 | h8
   . exact k.lt b h8
   . have:=m.j6 k.hE (ou b h8)
     exact ⟨br this.1 k.sz,this.2⟩
 . refine h2.nodup_iff.2 (aT.2 ⟨k.nd,(aT.1 tD).2.1,?_⟩);rintro b hb _ js rfl;rcases k.dj b hb with h8 | h8
   . exact (aT.1 tD).2.2 b h8 b js rfl
   . exact h8 ⟨id,o,k.hE,ou b js⟩
 . intro b hb j oj hj Dn Sc;rcases pE b hb with h8 | h8
   . rcases k.dj b h8 with h9 | h9
     . exact m.dj id j o oj (dv hj) k.hE Dn b (h6 b h9) Sc
     . exact h9 ⟨j,oj,Dn,Sc⟩
   . exact m.dj id j o oj (dv hj) k.hE Dn b (ou b h8) Sc
 . exact D3f k.hs hp (Obj.ka k.hn (m.st id o k.hE)) k.st
theorem MR.put {id:Nat}{o o':Obj An}{p:List Nat}{u v:T An}{b1 o1:Nat}(m:MR w A E h nx)(k:ph w w' A E nx nx' id o p u v b1 o1)(hp:put (some o) p v=some o')
 (hv:Fr w w' A A E (cq E id (some o')) nx nx'->TAt w' A (cq E id (some o')) nx' v b1 o1) :
 MR w' A (cq E id (some o')) (cq h id (some (o'.mapA An.g))) nx':=by
 have s:=k.vS m hp;have f:=s.fr m;exact m.set s (OAt.put f k.hs hp k.hl k.cs k.W (m.nd id o k.hE) (λy hy=>(m.j6 k.hE hy).1) (m.at_ id o k.hE) (hv f))
theorem ph.owned {id:Nat}{o o':Obj An}{p:List Nat}{u v:T An}{b1 o1:Nat}(k:ph w w' A E nx nx' id o p u v b1 o1)(m:MR w A E h nx)(hp:Mid.put (some o) p v=some o'){b:Nat}(hb:jr (cq E id (some o')) b) :
 b∈v.blk∨(jr E b∧b∉u.blk):=by
 obtain ⟨rest,h1,h2⟩:=F6 k.hs hp;have tD:=h1.nodup_iff.1 (m.nd id o k.hE);rcases Cv hb with hb | ⟨i,oi,hi,tE,hb⟩
 . rcases az.1 (h2.mem_iff.1 hb) with h3 | h3
   . exact .inl h3
   . exact .inr ⟨⟨id,o,k.hE,h1.mem_iff.2 (by simp [h3])⟩,λhu=>(aT.1 tD).2.2 b hu b h3 rfl⟩
 . exact .inr ⟨⟨i,oi,tE,hb⟩,λhu=>m.dj id i o oi (dv hi) k.hE tE b (h1.mem_iff.2 (by simp [hu])) hb⟩
end
end Go.Mid
namespace Go.Mid
open Go.RowKit
section
variable (w:World)(A:Nat->Prop)(E:dP An)(nx:di)
mutual
def TC:T An->List Value->Prop
 | .p v,cs=>dU w A v cs
 | .m v,cs=>v.cs=1∧v.isAgg=false∧∃ val,bR w A E nx v val∧cs=[val]
 | .agg l,cs=>j7 l cs
 | .vec an z l n,cs=>∃ a cap,cs=[.slice a n cap]∧n<=l.length∧kU an z 0 n a cap∧VB w A E nx an z l
 | .mp ..,_=>False
 | .hole n,cs=>cs.length=n
def j7:List (T An)->List Value->Prop
 | [],cs=>cs=[]
 | t::r,cs=>∃ c d,cs=c++d∧TC t c∧j7 r d
end
end
section
variable {w w':World}{A A':Nat->Prop}{E E':dP An}{nx nx':di}
mutual
theorem TC.len:∀ {t:T An} {cs:List Value},TC w A E nx t cs->cs.length=t.cs
 | .p v,cs,h=>by simp only [TC] at h;exact h.len
 | .m v,cs,h=>by simp only [TC] at h;obtain ⟨h1,_,val,_,rfl⟩:=h;simp [T.cs,h1]
 | .agg l,cs,h=>by simp only [TC] at h;exact j7.len h
 | .vec ..,cs,h=>by simp only [TC] at h;obtain ⟨a,cap,rfl,_⟩:=h;rfl
 | .mp ..,cs,h=>by simp only [TC] at h
 | .hole n,cs,h=>by simp only [TC] at h;exact h
theorem j7.len:∀ {l:List (T An)} {cs:List Value},j7 w A E nx l cs->cs.length=T.db l
 | [],cs,h=>by simp only [j7] at h;subst h;rfl
 | t::r,cs,h=>by
   simp only [j7] at h;obtain ⟨c,d,rfl,h1,h2⟩:=h;rw [aR,TC.len h1,j7.len h2];rfl
end
mutual
theorem TC.at_:∀ {t:T An} {cs:List Value} {b o:Nat},TC w A E nx t cs->Row w b o cs->TAt w A E nx t b o
 | .p v,cs,b,o,h,k=>by simp only [TC] at h;simp only [TAt];exact ⟨cs,h,k⟩
 | .m v,cs,b,o,h,k=>by simp only [TC] at h;obtain ⟨h1,h2,val,h3,rfl⟩:=h;simp only [TAt];exact ⟨h1,h2,val,h3,k⟩
 | .agg l,cs,b,o,h,k=>by simp only [TC] at h;simp only [TAt];exact j7.at_ h k
 | .vec an z l n,cs,b,o,h,k=>by
   simp only [TC,VB] at h;obtain ⟨a,cap,rfl,h1,h2,h3⟩:=h;simp only [TAt];exact ⟨a,cap,k,h1,h2,h3⟩
 | .mp ..,cs,b,o,h,_=>by simp only [TC] at h
 | .hole n,cs,b,o,h,k=>by
   simp only [TC] at h;simp only [TAt];intro j hj
   have:j<cs.length:=by omega
   exact ⟨cs[j],k j _ (by simp [this])⟩
theorem j7.at_:∀ {l:List (T An)} {cs:List Value} {b o:Nat},j7 w A E nx l cs->Row w b o cs->cD w A E nx l b o
 | [],cs,b,o,_,_=>by simp only [cD]
 | t::r,cs,b,o,h,k=>by
   simp only [j7] at h;obtain ⟨c,d,rfl,h1,h2⟩:=h;have k:=Row.append.1 k;simp only [cD];refine ⟨TC.at_ h1 k.1,?_⟩
   have:=j7.at_ h2 k.2
   rwa [h1.len] at this
end
theorem VB.frame (f:Fr w w' A A' E E' nx nx'){an:An}{z:Nat}{l:List (T An)}(hk:∀ x∈an.b.toList++T.dc l,w'.heap[x]?=w.heap[x]?)(h:VB w A E nx an z l):VB w' A' E' nx' an z l:=by
 simp only [VB] at h ⊢;cases hb:an.b with
 | none=>simpa only [hb] using h
 | some b =>
   simp only [hb] at h ⊢;simp only [hb,cg,aS,a7,aG] at hk;exact ⟨h.1.frame (hk b (.inl rfl)),h.2.1,h.2.2.1,cD.frame f (hk b (.inl rfl)) (λx hx=>hk x (.inr hx)) h.2.2.2⟩
mutual
theorem TC.frame (f:Fr w w' A A' E E' nx nx'):∀ {t:T An} {cs:List Value},(∀ x∈t.blk,w'.heap[x]?=w.heap[x]?)->TC w A E nx t cs->TC w' A' E' nx' t cs
 | .p v,cs,_,h=>by simp only [TC] at h ⊢;exact h.frame f.hA f.hw
 | .m v,cs,_,h=>by simp only [TC] at h ⊢;obtain ⟨h1,h2,val,h3,h4⟩:=h;exact ⟨h1,h2,val,h3.frame f,h4⟩
 | .agg l,cs,hk,h=>by simp only [TC] at h ⊢;exact j7.frame f hk h
 | .vec an z l n,cs,hk,h=>by
   simp only [TC] at h ⊢;obtain ⟨a,cap,h1,h2,h3,h4⟩:=h;exact ⟨a,cap,h1,h2,h3,VB.frame f hk h4⟩
 | .mp ..,cs,_,h=>by simp only [TC] at h
 | .hole n,cs,_,h=>by simp only [TC] at h ⊢;exact h
theorem j7.frame (f:Fr w w' A A' E E' nx nx'):∀ {l:List (T An)} {cs:List Value},(∀ x∈T.dc l,w'.heap[x]?=w.heap[x]?)->j7 w A E nx l cs->j7 w' A' E' nx' l cs
 | [],cs,_,h=>by simp only [j7] at h ⊢;exact h
 | t::r,cs,hk,h=>by
   simp only [j7] at h ⊢;simp only [T.dc,az] at hk;obtain ⟨c,d,h1,h2,h3⟩:=h;exact ⟨c,d,h1,TC.frame f (λx hx=>hk x (.inl hx)) h2,j7.frame f (λx hx=>hk x (.inr hx)) h3⟩
end
theorem vT {vs:List PV}{cs:List Value}:j7 w A E nx (vs.map .p) cs↔cK w A vs cs:=by
 induction vs generalizing cs with
 | nil=>simp only [bt,j7,cK]
 | cons x r ih=>simp only [aF,j7,cK,TC,ih]
theorem YT {l:List (T An)}{cs:List Value}:TC w A E nx (A0z l) cs↔j7 w A E nx l cs:=by
 rcases Dh l with e | ⟨vs,rfl,e⟩<;>rw [e]
 . simp only [TC]
 . simp only [TC,dU];exact vT.symm
def A0Q (g:Nat)(an:An):An:={ an with g:=g }
mutual
theorem Sd (g:Nat):∀ {t:T An} {b o:Nat},TAt w A E nx t b o->TAt w A E nx (t.mapA (A0Q g)) b o
 | .p v,b,o,h=>h
 | .m v,b,o,h=>h
 | .agg l,b,o,h=>by simp only [TAt,T.mapA] at h ⊢;exact On g h
 | .vec an z l n,b,o,h=>by
   simp only [TAt,T.mapA] at h ⊢;obtain ⟨a,cap,h1,h2,h3,h4⟩:=h;refine ⟨a,cap,h1,by rw [T.mapAs_eq,aB];exact h2,h3,?_⟩
   cases hb:an.b with
   | none=>simp only [A0Q,hb] at h4 ⊢;exact ⟨by rw [h4.1];rfl,h4.2⟩
   | some b' =>
     simp only [A0Q,hb] at h4 ⊢;refine ⟨h4.1,by rw [T.mapAs_eq,aB];exact h4.2.1,?_,On g h4.2.2.2⟩
     intro t ht;rw [T.mapAs_eq] at ht;obtain ⟨u,hu,rfl⟩:=bp.1 ht;rw [T.kb];exact h4.2.2.1 u hu
 | .mp ..,b,o,h=>by simp only [TAt] at h
 | .hole n,b,o,h=>h
theorem On (g:Nat):∀ {l:List (T An)} {b o:Nat},cD w A E nx l b o->cD w A E nx (T.cI (A0Q g) l) b o
 | [],b,o,h=>by simp only [cD,T.cI]
 | t::r,b,o,h=>by
   simp only [cD,T.cI] at h ⊢;rw [T.kb];exact ⟨Sd g h.1,On g h.2⟩
end
theorem YU (g:Nat){an:An}{z:Nat}{l:List (T An)}(h:VB w A E nx an z l):VB w A E nx (A0Q g an) z (T.cI (A0Q g) l):=by
 simp only [VB] at h ⊢;cases hb:an.b with
 | none=>simp only [A0Q,hb] at h ⊢;exact ⟨by rw [h.1];rfl,h.2⟩
 | some b' =>
   simp only [A0Q,hb] at h ⊢;refine ⟨h.1,by rw [T.mapAs_eq,aB];exact h.2.1,?_,On g h.2.2.2⟩
   intro t ht;rw [T.mapAs_eq] at ht;obtain ⟨u,hu,rfl⟩:=bp.1 ht;rw [T.kb];exact h.2.2.1 u hu
end
mutual
theorem YV (g:Nat):∀ (t:T An),(t.mapA (A0Q g)).blk=t.blk
 | .p _=>rfl
 | .m _=>rfl
 | .agg l=>AZ g l
 | .vec an _ l _=>by simp only [T.mapA,T.blk,AZ g l];rfl
 | .mp an _ l=>by simp only [T.mapA,T.blk,AZ g l];rfl
 | .hole _=>rfl
theorem AZ (g:Nat):∀ (l:List (T An)),T.dc (T.cI (A0Q g) l)=T.dc l
 | []=>rfl
 | t::r=>by simp only [T.cI,T.dc,YV g t,AZ g r]
end
mutual
theorem YW (n:di)(g:Nat):∀ (t:T An),(t.mapA (A0Q g)).st (n.add g)
 | .p _=>trivial
 | .m _=>trivial
 | .agg l=>EK n g l
 | .vec an _ l _=>⟨n.iG g,EK n g l⟩
 | .mp an _ l=>n.iG g
 | .hole _=>trivial
theorem EK (n:di)(g:Nat):∀ (l:List (T An)),T.j9 (n.add g) (T.cI (A0Q g) l)
 | []=>trivial
 | t::r=>⟨YW n g t,EK n g r⟩
end
mutual
theorem YX (g:Nat):∀ (t:T An),(t.mapA (A0Q g)).mapA An.g=Cc g (t.mapA An.g)
 | .p _=>rfl
 | .m _=>rfl
 | .agg l=>by have:=EL g l;simp only [A0N] at this;simp only [T.mapA,Cc,iS,this]
 | .vec an _ l _=>by have:=EL g l;simp only [A0N] at this;simp only [T.mapA,Cc,iS,this];rfl
 | .mp an _ l=>by have:=EL g l;simp only [A0N] at this;simp only [T.mapA,Cc,iS,this];rfl
 | .hole _=>rfl
theorem EL (g:Nat):∀ (l:List (T An)),T.cI An.g (T.cI (A0Q g) l)=A0N g (T.cI An.g l)
 | []=>rfl
 | t::r=>by
   have h1:=YX g t;have h2:=EL g r;simp only [Cc] at h1;simp only [A0N] at h2;simp only [T.cI,A0N,jy,h1,h2]
end
theorem YY {α β:Type}(f:α->β)(t:T α)(q:List Nat):fE (t.mapA f) q=(fE t q).map λy=>(f y.1,y.2):=by
 simp only [fE,EF];cases cR t q with
 | none=>rfl
 | some u=>cases u<;>rfl
theorem Ke {g:Nat}{t:T An}{q:List Nat}{y:An×Option Nat}(h:fE (t.mapA (A0Q g)) q=some y):y.1.g=g:=by
 rw [YY] at h;cases hq:fE t q with
 | none=>simp [hq] at h
 | some x=>simp [hq] at h;rw [← h];rfl
section
variable {w:World}{A:Nat->Prop}{E:dP An}{nx:di}
mutual
theorem dU.ke:∀ {v:PV} {cs:List Value},dU w A v cs->∀ c∈cs,c.oneCell'=true
 | .int ..,cs,h,c,hc=>by simp only [dU] at h;subst h;simp at hc;subst hc;rfl
 | .bool ..,cs,h,c,hc=>by simp only [dU] at h;subst h;simp at hc;subst hc;rfl
 | .str ..,cs,h,c,hc=>by simp only [dU] at h;subst h;simp at hc;subst hc;rfl
 | .agg l,cs,h,c,hc=>by simp only [dU] at h;exact cK.ke h c hc
 | .sl ..,cs,h,c,hc=>by simp only [dU] at h;obtain ⟨_,_,rfl,_⟩:=h;simp at hc;subst hc;rfl
 | .ref ..,cs,h,c,hc=>by simp only [dU] at h;obtain ⟨_,_,rfl,_⟩:=h;simp at hc;subst hc;rfl
 | .fn ..,cs,h,c,hc=>by simp only [dU] at h;obtain ⟨_,rfl,_⟩:=h;simp at hc;subst hc;unfold xC;split<;>rfl
 | .mp ..,cs,h,c,hc=>by
   simp only [dU] at h;rcases h with ⟨rfl,_⟩ | ⟨_,_,_,rfl,_⟩<;>(simp at hc;subst hc;rfl)
 | .eM,cs,h,c,hc=>by simp only [dU] at h;subst h;simp at hc;subst hc;rfl
 | .fa,cs,h,c,hc=>by simp only [dU] at h;subst h;simp at hc;subst hc;rfl
theorem cK.ke:∀ {l:List PV} {cs:List Value},cK w A l cs->∀ c∈cs,c.oneCell'=true
 | [],cs,h,c,hc=>by simp only [cK] at h;subst h;simp at hc
 | x::r,cs,h,c,hc=>by
   simp only [cK] at h;obtain ⟨a,d,rfl,h1,h2⟩:=h;rcases az.1 hc with hc | hc
   . exact dU.ke h1 c hc
   . exact cK.ke h2 c hc
end
end
def jt (E E':dP An):Prop:=∀ id np y,fc (E' id) np=some y->fc (E id) np=some y
theorem jt.refl (E:dP An):jt E E:=λ_ _ _ h=>h
theorem jt.trans {E E' AR:dP An}(h:jt E E')(k:jt E' AR):jt E AR:=λi np y hy=>h i np y (k i np y hy)
theorem jt.F7 {E E':dP An}(h:jt E E')(n:di):pf n E E':=λi np an z hh _=>h i np _ hh
theorem jt.fr {w:World}{A:Nat->Prop}{E E':dP An}(h:jt E E'){n m:di}(hn:n.le m):Fr w w A A E E' n m:=⟨λ_ h=>h,λ_ _=>rfl,h.F7 n,hn⟩
structure pF (w:World)(A:Nat->Prop)(E:dP An)(nx:di)(γ:Nat)(cs:List Value)(t:T Nat)(h1:cj)(E1:dP An)(tA:T An):Prop where
 er:tA.mapA An.g=t
 mr:MR w A E1 h1 nx
 tc:TC w A E1 nx tA cs
 nd:tA.blk.Nodup
 own:∀ b∈tA.blk,jr E b∧¬ jr E1 b
 sub:∀ b,jr E1 b->jr E b
 st:tA.st (nx.add γ)
 ns:jt E E1
 new:∀ q y,fE tA q=some y->y.1.g=γ
 one:∀ c∈cs,c.oneCell'=true
 ls:mS E E1
structure l4 (w:World)(A:Nat->Prop)(E:dP An)(nx:di)(γ:Nat)(cs:List Value)(l:List (T Nat))(h1:cj)(E1:dP An)(lA:List (T An)):Prop where
 er:lA.map (T.mapA An.g)=l
 mr:MR w A E1 h1 nx
 tc:j7 w A E1 nx lA cs
 nd:(T.dc lA).Nodup
 own:∀ b∈T.dc lA,jr E b∧¬ jr E1 b
 sub:∀ b,jr E1 b->jr E b
 st:T.j9 (nx.add γ) lA
 ns:jt E E1
 new:∀ (i:Nat) (t:T An),lA[i]?=some t->∀ q y,fE t q=some y->y.1.g=γ
 one:∀ c∈cs,c.oneCell'=true
 ls:mS E E1
section
variable {w:World}{A:Nat->Prop}{nx:di}{γ:Nat}
theorem pF.idle {E:dP An}{h:cj}{cs:List Value}{t:T Nat}{tA:T An}(m:MR w A E h nx)(er:tA.mapA An.g=t)(tc:TC w A E nx tA cs)(hb:tA.blk=[])(hst:tA.st (nx.add γ))(hnd:∀ q y,fE tA q=some y->y.1.g=γ)
 (one:∀ c∈cs,c.oneCell'=true):pF w A E nx γ cs t h E tA :=
 ⟨er,m,tc,by simp [hb],by simp [hb],λ_ h=>h,hst,jt.refl E,hnd,one,mS.refl E⟩
theorem Wr.refl (w:World)(b o n:Nat)(X:List Nat):Wr w w b o n X:=⟨λ_ _ _ _=>rfl,λ_ h=>h,λ_ _=>rfl⟩
theorem jt.gone (E:dP An)(id:Nat):jt E (cq E id (some .gone)):=by
 intro i np y hy;by_cases e:i=id
 . subst e;rw [nV,YS] at hy;cases hy
 . rwa [A0C E _ e] at hy
theorem jt.hole {E:dP An}{id:Nat}{o o':Obj An}{p:List Nat}{u:T An}{n:Nat}(hE:E id=some o)(hs:iE (some o) p=some u)(hp:put (some o) p (.hole n)=some o'):jt E (cq E id (some o')):=by
 intro i np y hy;by_cases e:i=id
 . subst e;rw [nV] at hy;rw [hE];rcases YQ hs hp hy with h | ⟨r,_,h⟩
   . exact h
   . cases r<;>simp [fE,cR] at h
 . rwa [A0C E _ e] at hy
theorem MR.yE {E:dP An}{h:cj}(m:MR w A E h nx){id:Nat}{path:List Nat}{g z n:Nat}{l:List (T Nat)}{oh:Obj Nat}(hs:iE (h id) path=some (.vec g z l n))(hp:Mid.put (h id) path (.hole 1)=some oh) :
 ∃ E1 an l',iE (E id) path=some (.vec an z l' n)∧fc (E id) (some path)=some (an,some z)∧an.g=g∧l=l'.map (T.mapA An.g)∧MR w A E1 (cq h id (some oh)) nx∧VB w A E nx an z l' ∧
  (an.b.toList++T.dc l').Nodup∧(∀ b∈an.b.toList++T.dc l',jr E b∧¬ jr E1 b)∧(∀ b,jr E1 b->jr E b)∧jt E E1∧mS E E1:=by
 obtain ⟨t',ht,he⟩:=m.sub hs;cases t'<;>simp only [T.mapA,reduceCtorEq,T.vec.injEq] at he;rename_i an z' l' n';obtain ⟨rfl,rfl,rfl,rfl⟩:=he;cases hE:E id with
 | none=>rw [hE] at ht;cases path<;>simp [iE] at ht
 | some o =>
   rw [hE] at ht;rw [m.er id,hE,show (T.hole 1:T Nat)=(T.hole 1:T An).mapA An.g from rfl,B0J] at hp;cases iw:Mid.put (some o) path (T.hole 1:T An) with
   | none=>simp [iw] at hp
   | some o' =>
     simp only [iw,ak,aa] at hp;obtain ⟨b1,o1,h1,h2,h3,h4,h5⟩:=Cw ht (m.at_ id o hE);have xG:ph w w A E nx nx id o path (.vec an z l' n) (.hole 1) b1 o1:=by
      refine ⟨di.le_refl _,ay _,hE,ht,h1,rfl,Wr.refl _ _ _ _ _,?_,by simp [T.blk],by simp [T.blk],by simp [T.blk],trivial⟩
      intro r y hy;cases r<;>simp [fE,cR] at hy
     have Ab:=m.put xG iw (λf=>by
      simp only [TAt] at h2 ⊢;obtain ⟨a,cap,k1,_⟩:=h2;intro j hj
      have:j=0:=by omega
      subst this;exact ⟨_,k1 0 _ rfl⟩)
     have bW:fc (some o) (some path)=some (an,some z):=by
      have:=Om (r:=[]) ht
      rw [List.append_nil] at this;exact this
     obtain ⟨rest,p1,_⟩:=F6 ht iw;have hnd:=(aT.1 (p1.nodup_iff.1 (m.nd id o hE))).1;refine ⟨cq E id (some o'),an,l',ht,bW,rfl,T.mapAs_eq _ _,by rw [hp] at Ab;exact Ab,?_,hnd,?_,?_,jt.hole hE ht iw,mS.hole hE ht iw rfl⟩
     . simp only [TAt] at h2;obtain ⟨a,cap,_,_,_,k⟩:=h2;simp only [VB];exact k
     . intro b hb;refine ⟨⟨id,o,hE,h4 b hb⟩,λho=>?_⟩
       rcases xG.owned m iw ho with k | k
       . simp [T.blk] at k
       . exact k.2 hb
     . intro b ho;rcases xG.owned m iw ho with k | k
       . simp [T.blk] at k
       . exact k.1
theorem MR.vU {E:dP An}{h:cj}(m:MR w A E h nx){id:Nat}{g z:Nat}{l:List (T Nat)}(hs:h id=some (.vec g z l)) :
 ∃ an l',E id=some (.vec an z l')∧an.g=g∧l=l'.map (T.mapA An.g)∧MR w A (cq E id (some .gone)) (cq h id (some .gone)) nx∧VB w A E nx an z l' ∧
  (an.b.toList++T.dc l').Nodup∧(∀ b∈an.b.toList++T.dc l',jr E b∧¬ jr (cq E id (some .gone)) b)∧(∀ b,jr (cq E id (some .gone)) b->jr E b):=by
 rw [m.er id] at hs;cases hE:E id with
 | none=>simp [hE] at hs
 | some o =>
   cases o<;>simp only [hE,ak,Obj.mapA,reduceCtorEq,aa,Obj.vec.injEq] at hs;rename_i an z' l';obtain ⟨rfl,rfl,rfl⟩:=hs;have iL:∀ b,jr (cq E id (some .gone)) b->∃ i o,i≠id∧E i=some o∧b∈o.blk:=λb ho=>(Cv ho).resolve_left (by simp [Obj.blk])
   refine ⟨an,l',rfl,rfl,T.mapAs_eq _ _,m.gone id,?_,m.nd id _ hE,?_,?_⟩
   . have:=m.at_ id _ hE;simpa only [OAt] using this
   . intro b hb;refine ⟨⟨id,_,hE,hb⟩,λho=>?_⟩
     obtain ⟨i,o,hi,ho,lZ⟩:=iL b ho;exact m.dj id i _ o (dv hi) hE ho b hb lZ
   . intro b ho;obtain ⟨i,o,hi,ho,lZ⟩:=iL b ho;exact ⟨i,o,ho,lZ⟩
theorem pF.vec {E E1:dP An}{h1:cj}{an:An}{z len cap:Nat}{a:Option Addr}{l':List (T An)}(hm:MR w A E1 h1 nx)(hv:VB w A E nx an z l')(hnd:(an.b.toList++T.dc l').Nodup)
 (iL:∀ b∈an.b.toList++T.dc l',jr E b∧¬ jr E1 b) (dK:∀ b,jr E1 b->jr E b) (xH:jt E E1) (Ih:mS E E1) (hlen:len<=l'.length) (hh:kU an z 0 len a cap) :
 pF w A E nx γ [.slice a len cap] (.vec γ z (A0N γ (l'.map (T.mapA An.g))) len) h1 E1 (.vec (A0Q γ an) z (T.cI (A0Q γ) l') len) where
 er:=by
  have:=EL γ l'
  rw [T.mapAs_eq An.g l'] at this;simp only [T.mapA,this];rfl
 mr:=hm
 tc:=by
  simp only [TC];exact ⟨a,cap,rfl,by rw [T.mapAs_eq,aB];exact hlen,hh,YU γ (VB.frame (jt.fr xH (di.le_refl nx)) (λ_ _=>rfl) hv)⟩
 nd:=by simp only [T.blk,AZ];exact hnd
 own:=by simp only [T.blk,AZ];exact iL
 sub:=dK
 st:=⟨nx.iG γ,EK nx γ l'⟩
 ns:=xH
 new:=by
  intro q y hy;exact Ke (t:=.vec an z l' len) hy
 one:=by intro c hc;simp at hc;subst hc;rfl
 ls:=Ih
end
end Go.Mid
