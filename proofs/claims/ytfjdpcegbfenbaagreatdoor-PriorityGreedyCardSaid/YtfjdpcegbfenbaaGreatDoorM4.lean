/- Copy and clear. -/
import Derived.Test.YtfjdpcegbfenbaaGreatDoorM3
set_option linter.unusedSimpArgs false
set_option linter.unusedVariables false
open Array renaming map → qm, ext' → gI, eq_empty_of_size_eq_zero → eT
open Bool renaming and_eq_true → aj
open Go renaming run_storeCells_cells → iX, run_underlying → aZ
open Go.Builtin renaming copy_ → fT, lenOf → gJ, clear_ → gS, zeroCells → aY
open Go.Result renaming andThen_ok → aV
open Go.Sem renaming run_bind → bn, run_pure → bL
open List renaming cons_append → aS, length_append → aQ, length_take → aW, length_map → aB, length_drop → cn, map_map → cm, mem_append → ay, mem_map → bj, mem_of_mem_take → dh, mem_of_mem_drop → gA, append_nil → bD, take_append_drop → bM, drop_drop → km, nodup_append → aT, append_assoc → bf, getElem?_append_left → cP, getElem?_append_right → bE, getElem?_map → aH, all_eq_true → bB, take_of_length_le → a7, replicate → aq, take_zero → fj, mem_map_of_mem → dX, map_cons → aD, getElem?_eq_getElem → ah, mem_of_getElem? → bG, getElem?_eq_some_iff → aF, nodup_iff_pairwise_ne → iZ, mem_cons → aE, nodup_nil → gf
open Nat renaming add_assoc → bU, succ_mul → dv, lt_of_lt_of_le → bp, mul_le_mul_right → iY, add_mul → gX, le_refl → ar, add_zero → dF, zero_le → dg, zero_mul → c9, min_zero → pS, le_add_right → fX, add_sub_cancel_left → dy
open Option renaming map_some → ak, bind_some → ai, map_none → dx, map_map → ko, none → ja, bind_eq_some_iff → jW
open Option.some renaming injEq → aa, inj → b9
open Prod.mk renaming injEq → ae
namespace Go.Mid
open Go.RowKit
section
variable {w w':World} {A A':Nat→Prop} {E E':dL An} {nx nx':di} {h:cj}
theorem T.o7 {α:Type} (l m:List (T α)):T.da (l++m)=T.da l + T.da m:=by
 induction l with
 | nil=>simp [T.da]
 | cons t r ih=>simp only [aS,T.da,ih,bU]
theorem QM {α:Type} {l:List (T α)} {off:Nat} {vs:List PV} (hle:off + vs.length ≤ l.length):(nQ l off vs).length=l.length:=by
 simp only [nQ,aQ,aW,aB,cn]; omega
theorem Xi {α β:Type} (f:α→β) (l:List (T α)) (off:Nat) (vs:List PV):(nQ l off vs).map (T.mapA f)=nQ (l.map (T.mapA f)) off vs:=by
 simp only [nQ,List.map_append,List.map_take,List.map_drop,cm];rfl
theorem Xj {α:Type} {l:List (T α)} {off z:Nat} {vs:List PV} (hz:∀ t ∈ l,t.cs=z) (hv:∀ v ∈ vs,v.cs=z):∀ t ∈ nQ l off vs,t.cs=z:=by
 intro t ht;simp only [nQ,ay,bj] at ht;rcases ht with (ht | ⟨v,hv',rfl⟩) | ht
 · exact hz t (dh ht)
 · exact hv v hv'
 · exact hz t (gA ht)
theorem Xk (l:List (T An)) (off:Nat) (vs:List PV):T.b6 (nQ l off vs)=T.b6 (l.take off)++T.b6 (l.drop (off + vs.length)):=by
 rw [nQ,v7,v7,DZ,bD]
theorem Mu {l:List (T An)} {off:Nat} {vs:List PV} {b:Nat} (hb:b ∈ T.b6 (nQ l off vs)):b ∈ T.b6 l:=by
 rw [Xk] at hb;rcases ay.1 hb with hb | hb
 · rw [← bM off l,v7]; simp [hb]
 · rw [← bM (off + vs.length) l,v7]; simp [hb]
theorem Xl {l:List (T An)} {off:Nat} {vs:List PV} (h:(T.b6 l).Nodup):(T.b6 (nQ l off vs)).Nodup:=by
 have e:l=l.take off++((l.drop off).take vs.length++l.drop (off + vs.length)):=by
  rw [← km,bM,bM]
 rw [e,v7,v7] at h;rw [Xk];have h1:=aT.1 h;have h2:=aT.1 h1.2.1;exact aT.2 ⟨h1.1,h2.2.1,fun a ha b hb=>h1.2.2 a ha b (ay.2 (.inr hb))⟩
theorem Xm {n:di} {l:List (T An)} {off:Nat} {vs:List PV} (h:T.j7 n l):T.j7 n (nQ l off vs):=by
 have app:∀ l m:List (T An),T.j7 n l→T.j7 n m→T.j7 n (l++m):=by
  intro l m
  induction l with
  | nil=>intro _ h; exact h
  | cons x r ih=>intro h1 h2; simp only [T.j7,aS] at h1 ⊢; exact ⟨h1.1,ih h1.2 h2⟩
 exact app _ _ (app _ _ (QA (fun t ht=>dh ht) h) (L9 vs)) (QA (fun t ht=>gA ht) h)
theorem Xn {l:List (T An)} {off:Nat} {vs:List PV} (hle:off + vs.length ≤ l.length) {i:Nat} {q:List Nat} {y:An×Option Nat} (h:(((nQ l off vs)[i]?).bind fun t=>fH t q)=some y):((l[i]?).bind fun t=>fH t q)=some y:=by
 simp only [nQ] at h;by_cases h1:i < off
 · rw [bf,cP (by rw [aW]; omega),List.getElem?_take_of_lt h1] at h
   exact h
 · by_cases h2:i < off + vs.length
   · rw [bf,bE (by rw [aW]; omega),cP (by rw [aW,aB]; omega),aH] at h
     cases hv:vs[i - (l.take off).length]? with
     | none=>rw [hv] at h; cases h
     | some v=>simp only [hv,ak,ai,Mk] at h; cases h
   · rw [bE (by simp only [aQ,aW,aB]; omega),List.getElem?_drop] at h
     have e:off + vs.length + (i - (l.take off++vs.map (T.p (α:=An))).length)=i:=by simp only [aQ,aW,aB]; omega
     rwa [e] at h
theorem Xo (f:Fr w w' A A' E E' nx nx') {l:List (T An)} {vs:List PV} {b z off:Nat} {cs:List Value} (k:cD w A E nx l b 0) (hz:∀ t ∈ l,t.cs=z) (hle:off + vs.length ≤ l.length) (hc:cK w A vs cs) (hv:∀ v ∈ vs,v.cs=z)
 (hw:w'=w.setCells b (off * z) cs) (xS:b ∉ T.b6 l) (gQ:∀ j,j < cs.length→(w.cell? ⟨b,off * z + j,none⟩).isSome=true):cD w' A' E' nx' (nQ l off vs) b 0:=by
 have nI:cs.length=vs.length * z:=by
  rw [hc.len];clear hc gQ hw hle
  induction vs with
  | nil=>simp [PV.da]
  | cons x r ih=>rw [PV.da,hv x (by simp),ih (fun v h=>hv v (by simp [h])),List.length_cons,dv]; omega
 have IB:∀ j,(j < off * z∨off * z + cs.length ≤ j)→w'.cell? ⟨b,j,none⟩=w.cell? ⟨b,j,none⟩:=by
  intro j hj;rw [hw];exact World.cell?_setCells_out b cs (off * z) w ⟨b,j,none⟩ (fun _ _=>by simp only; omega)
 have iM:∀ x ∈ T.b6 l,w'.heap[x]?=w.heap[x]?:=fun x hx=>by rw [hw]; exact v8 (fun e:x=b=>xS (e ▸ hx)) _ _ _
 have e:l=l.take off++((l.drop off).take vs.length++l.drop (off + vs.length)):=by
  rw [← km,bM,bM]
 have kk:=k;rw [e] at kk;obtain ⟨k1,k2⟩:=cD.append.1 kk;obtain ⟨_,k3⟩:=cD.append.1 k2;have c1:T.da (l.take off)=off * z:=Aq hz (by omega)
 have c2:T.da ((l.drop off).take vs.length)=vs.length * z:=Aq (fun t ht=>hz t (gA ht)) (by rw [cn]; omega)
 rw [c1,c2] at k3;simp only [nQ];refine cD.append.2 ⟨cD.append.2 ⟨?_,?_⟩,?_⟩
 · refine k1.iT f (fun j _ hj=>IB j (.inl (by rw [c1] at hj; omega))) (fun x hx=>iM x ?_)
   rw [← bM off l,v7]; simp [hx]
 · rw [c1];refine j4.at_ (tX.2 (cK.frame f.hA f.hw hc)) ?_;rw [Nat.zero_add,hw];exact Row.setCells gQ
 · rw [T.o7,c1,CI]
   have:PV.da vs=vs.length * z:=by rw [← hc.len,nI]
   rw [this];rw [bU] at k3;refine k3.iT f (fun j hj _=>IB j (.inr (by rw [nI]; omega))) (fun x hx=>iM x ?_)
   rw [← bM (off + vs.length) l,v7]; simp [hx]
theorem IC {an:An} {h':cj} (m:MR w A E h nx) {id:Nat} {CV:List Nat} {z off:Nat} {vs:List PV} {cs:List Value} (hn:fg (E id) (some CV)=some (an,some z)) (jm:qb h id CV an.g z off vs=some h') (hc:cK w A vs cs) :
 (an.b=none→cs=[])∧∃ E',(∀ b,an.b=some b→MR (w.setCells b (off * z) cs) A E' h' nx∧gE w A E nx (w.setCells b (off * z) cs) A E'∧(∀ j,j < cs.length→(w.cell? ⟨b,off * z + j,none⟩).isSome=true)∧∀ j,w.frozen? ⟨b,j,none⟩=false) ∧
   (an.b=none→MR w A E' h' nx∧gE w A E nx w A E'):=by
 unfold qb at jm;split at jm
 · rename_i kD;have wo:∀ v ∈ vs,v.cs=z:=fun v hv=>by simpa using bB.1 kD v hv
   split at jm
   · -- a root
     rename_i a z' l gq;split at jm
     · rename_i dS;obtain ⟨rfl,rfl,hle⟩:=dS;simp only [aa] at jm;subst jm;rw [m.er id] at gq;cases hE:E id with
       | none=>simp [hE] at gq
       | some ob =>
         cases ob <;> simp only [hE,ak,Obj.mapA,reduceCtorEq,aa,Obj.vec.injEq] at gq;rename_i qF ua l';obtain ⟨hg,rfl,rfl⟩:=gq;rw [hE] at hn;simp only [fg,aa,ae] at hn;obtain ⟨rfl,_⟩:=hn;rw [T.mapAs_eq,aB] at hle;have kS:=m.at_ id _ hE;have q9:=m.nd id _ hE;have Ek:=m.st id _ hE;simp only [OAt,VB] at kS;simp only [Obj.blk] at q9;simp only [Obj.st] at Ek;have xf:(Obj.vec qF ua (nQ l' off vs)).mapA An.g=.vec qF.g ua (nQ (T.cI An.g l') off vs):=by
          simp only [Obj.mapA,T.mapAs_eq,Xi]
         have dJ:∀ b ∈ (Obj.vec qF ua (nQ l' off vs)).blk,b ∈ (Obj.vec qF ua l').blk:=by
          intro b hb;simp only [Obj.blk,ay] at hb ⊢;exact hb.imp (fun h=>h) Mu
         have q0:∀ w1:World,w.heap.size ≤ w1.heap.size→(∀ b,b < w.heap.size→qF.b ≠ some b→w1.heap[b]?=w.heap[b]?)→yT w w1 A E nx nx id (.vec qF ua (nQ l' off vs)):=by
          intro w1 uM sQ;refine ⟨di.le_refl _,uM,fun b hb nS=>sQ b hb (fun e=>?_),?_,fun b hb=>?_,?_,fun b hb j o hj ho=>m.dj id j _ o (Ne.symm hj) hE ho b (dJ b hb),⟨Ek.1,Xm Ek.2⟩⟩
          · have hbm:b ∈ (Obj.vec qF ua l').blk:=by simp [Obj.blk,e]
            rcases nS with hA | ⟨j,o,hj,ho,lV⟩
            · exact (m.j3 hE hbm).2 hA
            · exact m.dj id j _ o (Ne.symm hj) hE ho b hbm lV
          · intro np y hy _;rw [hE];cases np with
            | none=>simp [fg] at hy
            | some q =>
              rw [sO] at hy ⊢;cases q with
              | nil=>exact hy
              | cons i r=>simp only [Obj.pF,Bq] at hy ⊢; exact Xn hle hy
          · have:=m.j3 hE (dJ b hb); exact ⟨bp this.1 uM,this.2⟩
          · simp only [Obj.blk];refine aT.2 ⟨(aT.1 q9).1,Xl (aT.1 q9).2.1,?_⟩;exact fun a ha b hb=>(aT.1 q9).2.2 a ha b (Mu hb)
         have BK:∀ w1:World,(w1.os=w.os∧w1.tape=w.tape∧w1.output=w.output)→w.heap.size ≤ w1.heap.size→(∀ b,b < w.heap.size→qF.b ≠ some b→w1.heap[b]?=w.heap[b]?)→gE w A E nx w1 A (cz E id (some (.vec qF ua (nQ l' off vs)))):=by
          intro w1 h3 uM sQ;refine gE.of (E1:=E) h3 uM (fun b hb ho=>sQ b hb (fun e=>ho ⟨id,_,hE,by simp [Obj.blk,e]⟩)) ?_ (oO.refl _ _) ((q0 w1 uM sQ).fr m).hE
          intro b _ ho;rcases Aw ho with h1 | ⟨i,oi,_,rV,Ay⟩
          · exact ⟨id,_,hE,dJ b h1⟩
          · exact ⟨i,oi,rV,Ay⟩
         refine ⟨fun hb=>?_,cz E id (some (.vec qF ua (nQ l' off vs))),fun b hb=>?_,fun hb=>?_⟩
         · simp only [hb] at kS;have h0:=kS.1;subst h0
           have:vs=[]:=by simp [T.cI] at hle; exact hle.2
           subst this;simpa only [cK] using hc
         · simp only [hb] at kS;obtain ⟨h1,h2,h3,h4⟩:=kS;have nI:cs.length=vs.length * ua:=by
            rw [hc.len,← CI (α:=An)]
            have:=Aq (α:=An) (l:=vs.map .p) (i:=vs.length) (z:=ua) (fun t ht=>by obtain ⟨v,hv,rfl⟩:=bj.1 ht; exact wo v hv) (by simp)
            rwa [a7 (by simp)] at this
           have gQ:∀ j,j < cs.length→(w.cell? ⟨b,off * ua + j,none⟩).isSome=true:=by
            intro j hj;refine (h1.cell ?_).1
            have:(off + vs.length) * ua ≤ qF.cap * ua:=iY _ (by omega)
            rw [gX] at this;omega
           have sQ:∀ x,x < w.heap.size→qF.b ≠ some x→(w.setCells b (off * ua) cs).heap[x]?=w.heap[x]?:=fun x _ hx=>v8 (fun e:x=b=>hx (e ▸ hb)) _ _ _
           obtain ⟨s1,s2,s3,s4⟩:=wZ b cs (off * ua) w;have hs:=q0 (w.setCells b (off * ua) cs) (by rw [s1]; exact ar _) sQ
           have xS:b ∉ T.b6 l':=by
            rw [hb] at q9;exact fun hbm=>(aT.1 q9).2.2 b (by simp) b hbm rfl
           refine ⟨?_,BK _ ⟨s2,s3,s4⟩ (by rw [s1]; exact ar _) sQ,gQ,fun j=>h1.frozen⟩
           rw [← xf];refine m.Ea hs ?_;simp only [OAt,VB,hb];exact ⟨h1.setCells _ _ _,by rw [QM hle]; exact h2,Xj h3 wo,Xo (hs.fr m) h4 h3 hle hc wo rfl xS gQ⟩
         · have hs:=q0 w (ar _) (fun _ _ _=>rfl)
           refine ⟨?_,BK w ⟨rfl,rfl,rfl⟩ (ar _) (fun _ _ _=>rfl)⟩
           rw [← xf];refine m.Ea hs ?_;simp only [hb] at kS;have h0:=kS.1;subst h0
           have:vs=[]:=by simp [T.cI] at hle; exact hle.2
           subst this;simp only [OAt,VB,hb];exact ⟨by simp [nQ],kS.2⟩
     · cases jm
   · -- a place
     rename_i CV _ _ _;split at jm
     · rename_i a z' l n dJ;split at jm
       · rename_i dS;obtain ⟨rfl,rfl,hle⟩:=dS;split at jm
         · rename_i oh eR;simp only [aa] at jm;subst jm;obtain ⟨tA,Em,he⟩:=m.sub dJ;cases tA <;> simp only [T.mapA,reduceCtorEq,T.vec.injEq] at he;rename_i an ua l' n;obtain ⟨hg,rfl,rfl,rfl⟩:=he;obtain ⟨ob,hE⟩:=m.la Em;rw [hE] at Em hn;have AE:=Mf (r:=[]) Em;rw [bD] at AE;rw [AE] at hn;simp only [fH,cU,aa,ae] at hn;obtain ⟨rfl,_⟩:=hn;rw [T.mapAs_eq,aB] at hle;have hT:(T.vec an.g z' (nQ (T.cI An.g l') off vs) n:T Nat)=(T.vec an z' (nQ l' off vs) n).mapA An.g:=by
            simp only [T.mapA,T.mapAs_eq,Xi]
           rw [m.er id,hE,hT,F9] at eR;cases ig:put (some ob) CV (T.vec an z' (nQ l' off vs) n) with
           | none=>simp [ig] at eR
           | some o' =>
             simp only [ig,ak,aa] at eR;subst eR;obtain ⟨b1,o1,hl,kS,nY,iM,QN⟩:=Ax Em (m.at_ id ob hE);have hst:(T.vec an z' l' n).st nx:=m.tT (by rw [hE]; exact Em)
             obtain ⟨rest,p1,_⟩:=D1 Em ig;have gV:(T.vec an z' l' n).blk.Nodup:=(aT.1 (p1.nodup_iff.1 (m.nd id ob hE))).1;have yZ:=QN (m.nd id ob hE);have agu:=kS;simp only [TAt] at kS;obtain ⟨ad,cap,hrow,BC,kE,lX⟩:=kS;simp only [T.blk] at gV yZ;simp only [T.st] at hst;have y5:∀ b ∈ (T.vec an z' (nQ l' off vs) n).blk,b ∈ (T.vec an z' l' n).blk:=by
              intro b hb;simp only [T.blk,ay] at hb ⊢;exact hb.imp (fun h=>h) Mu
             have vl:∀ w1:World,w.heap.size ≤ w1.heap.size→(∀ b,an.b ≠ some b→w1.heap[b]?=w.heap[b]?)→(∀ m b,lT w b m→lT w1 b m)→oQ w w1 A E nx nx id ob CV (.vec an z' l' n) (.vec an z' (nQ l' off vs) n) b1 o1:=by
              intro w1 uM sQ rH;refine ⟨di.le_refl _,uM,hE,Em,hl,rfl,⟨fun x hx Gl hxu=>?_,fun k hk=>rH k _ hk,fun j hj=>?_⟩,?_,?_,?_,?_,⟨hst.1,Xm hst.2⟩⟩
              · exact sQ x (fun e=>hxu (by simp [T.blk,e]))
              · exact LQ (sQ b1 (fun e=>yZ (by simp [e]))) j
              · intro r y hy _;cases r with
                | nil=>exact hy
                | cons i r=>simp only [Bq] at hy ⊢; exact Xn hle hy
              · intro b hb
                have:=m.j3 hE (iM b (y5 b hb)); exact ⟨bp this.1 uM,this.2⟩
              · simp only [T.blk];refine aT.2 ⟨(aT.1 gV).1,Xl (aT.1 gV).2.1,?_⟩;exact fun a ha b hb=>(aT.1 gV).2.2 a ha b (Mu hb)
              · exact fun b hb=>.inl (y5 b hb)
             have BK:∀ w1:World,(w1.os=w.os∧w1.tape=w.tape∧w1.output=w.output)→w.heap.size ≤ w1.heap.size→(∀ b,an.b ≠ some b→w1.heap[b]?=w.heap[b]?)→(∀ m b,lT w b m→lT w1 b m)→gE w A E nx w1 A (cz E id (some o')):=by
              intro w1 h3 uM sQ rH;have hp:=vl w1 uM sQ rH;refine gE.of (E1:=E) h3 uM (fun b _ ho=>sQ b (fun e=>ho ⟨id,ob,hE,iM b (by simp [T.blk,e])⟩)) ?_ (oO.refl _ _) ((hp.tW m ig).fr m).hE
              intro b _ ho;rcases hp.owned m ig ho with k | k
              · exact ⟨id,ob,hE,iM b (y5 b k)⟩
              · exact k.1
             refine ⟨fun hb=>?_,cz E id (some o'),fun b hb=>?_,fun hb=>?_⟩
             · simp only [hb] at lX;have h0:=lX.1;subst h0
               have:vs=[]:=by simp [T.cI] at hle; exact hle.2
               subst this;simpa only [cK] using hc
             · simp only [hb] at lX;obtain ⟨h1,h2,h3,h4⟩:=lX;have nI:cs.length=vs.length * z':=by
                rw [hc.len,← CI (α:=An)]
                have:=Aq (α:=An) (l:=vs.map .p) (i:=vs.length) (z:=z') (fun t ht=>by obtain ⟨v,hv,rfl⟩:=bj.1 ht; exact wo v hv) (by simp)
                rwa [a7 (by simp)] at this
               have gQ:∀ j,j < cs.length→(w.cell? ⟨b,off * z' + j,none⟩).isSome=true:=by
                intro j hj;refine (h1.cell ?_).1
                have:(off + vs.length) * z' ≤ an.cap * z':=iY _ (by omega)
                rw [gX] at this;omega
               have sQ:∀ x,an.b ≠ some x→(w.setCells b (off * z') cs).heap[x]?=w.heap[x]?:=fun x hx=>v8 (fun e:x=b=>hx (e ▸ hb)) _ _ _
               obtain ⟨s1,s2,s3,s4⟩:=wZ b cs (off * z') w;have rH:∀ m x,lT w x m→lT (w.setCells b (off * z') cs) x m:=fun m x hx=>hx.setCells _ _ _
               have hp:=vl (w.setCells b (off * z') cs) (by rw [s1]; exact ar _) sQ rH
               have xS:b ∉ T.b6 l':=by
                rw [hb] at gV;exact fun hbm=>(aT.1 gV).2.2 b (by simp) b hbm rfl
               refine ⟨m.put hp ig (fun f=>?_),BK _ ⟨s2,s3,s4⟩ (by rw [s1]; exact ar _) sQ rH,gQ,fun j=>h1.frozen⟩
               simp only [TAt,hb];refine ⟨ad,cap,hrow.frame (sQ b1 (fun e=>yZ (by simp [e]))),by rw [QM hle]; exact BC,kE,h1.setCells _ _ _,by rw [QM hle]; exact h2,Xj h3 wo,?_⟩
               exact Xo f h4 h3 hle hc wo rfl xS gQ
             · have hp:=vl w (ar _) (fun _ _=>rfl) (fun _ _ h=>h)
               refine ⟨m.put hp ig (fun f=>?_),BK w ⟨rfl,rfl,rfl⟩ (ar _) (fun _ _=>rfl) (fun _ _ h=>h)⟩
               simp only [hb] at lX;have h0:=lX.1;subst h0
               have:vs=[]:=by simp [T.cI] at hle; exact hle.2
               subst this;simp only [TAt,hb];exact ⟨ad,cap,hrow,by simpa [nQ] using BC,kE,by simp [nQ],lX.2⟩
         · cases jm
       · cases jm
     · cases jm
 · cases jm
end
section
variable {P:Program} {o:Oper} {a:Act} {w:World} {A:Nat→Prop} {E:dL An} {nx:di} {γ:Nat} {v:MV} {h h':cj} {s:gD} {K:jl} {d:Option Nat}
theorem C70 {vs:List PV} {cs:List Value} {z n:Nat} (h:cK w A vs cs) (hz:∀ v ∈ vs,v.cs=z):cK w A (vs.take n) (cs.take (n * z)):=by
 induction vs generalizing cs n with
 | nil=>simp only [cK] at h; subst h; simp [cK]
 | cons x r ih =>
   cases n with
   | zero=>simp [cK]
   | succ n =>
     simp only [cK] at h;obtain ⟨c,d,rfl,h1,h2⟩:=h;have hl:c.length=z:=by rw [h1.len]; exact hz x (by simp)
     simp only [List.take_succ_cons,cK];refine ⟨c,d.take (n * z),?_,h1,ih h2 (fun v hv=>hz v (by simp [hv]))⟩
     rw [List.take_append,hl,a7 (by rw [hl,dv]; omega)]
     congr 2;rw [dv]; omega
theorem B9A {v:PV} {c:List Value} (h:dR w A v c) (n:Nat):cK w A (aq n v) (aq n c).flatten:=by
 induction n with
 | zero=>simp [cK]
 | succ n ih=>simp only [List.replicate_succ,cK,List.flatten_cons]; exact ⟨c,_,rfl,h,ih⟩
theorem Mv {ob:Option (Obj Nat)} {p:List Nat} {g z n:Nat} {l:List (T Nat)} (ng:∀ g z l,ob=some (.vec g z l)→p=[]→False) (hs:ef ob p=some (.vec g z l n)):jo ob p=some (g,z,l):=by
 unfold jo;split
 · exact (ng _ _ _ rfl rfl).elim
 · rw [hs]
theorem Xp {b off z:Nat} {cs:List Value} (gQ:∀ j,j < cs.length→(w.cell? ⟨b,off * z + j,none⟩).isSome=true) (hf:∀ j,w.frozen? ⟨b,j,none⟩=false) (h1:∀ u ∈ cs,u.oneCell'=true) :
 (storeCells ⟨b,off * z,none⟩ cs).run P w=.ok () (w.setCells b (off * z) cs):=by
 have hst:=iX (P:=P) b (off * z) cs 0 w (by simpa using gQ) (fun j _=>hf _) h1
 simpa only [dF] using hst
variable (hs:pZ P w A E nx s a) (hm:MR w A E h nx)
include hm
theorem QO {id:Nat} {path:List Nat} {off len g z:Nat} {vs:List PV} {val:Value} (hv:bQ w A E nx (.own id path off len g) val) (jm:qb h id path g z off vs=some h') :
 ∃ an ad cap,an.g=g∧val=.slice ad len cap∧len ≤ cap∧fg (E id) (some path)=some (an,some z)∧kR an z off len ad cap:=by
 simp only [bQ] at hv;obtain ⟨_,ad,cap,rfl,nF,hh⟩:=hv;have iC:∃ l,jo (h id) path=some (g,z,l):=by
  unfold qb at jm;split at jm
  · split at jm
    · rename_i gq;split at jm
      · rename_i hc; obtain ⟨rfl,rfl,_⟩:=hc; exact ⟨_,by rw [gq]; rfl⟩
      · cases jm
    · rename_i CV _ _ ng;split at jm
      · rename_i dJ;split at jm
        · rename_i hc;obtain ⟨rfl,rfl,_⟩:=hc;exact ⟨_,Mv ng dJ⟩
        · cases jm
      · cases jm
  · cases jm
 obtain ⟨l,iC⟩:=iC;obtain ⟨an,lA,nm,rfl,_⟩:=hm.vec iC;exact ⟨an,ad,cap,rfl,rfl,nF,sL nm,hh an z (sL nm) rfl⟩
theorem C9M {id:Nat} {path:List Nat} {off len k g z:Nat} {vs:List PV} {val:Value} (hv:bQ w A E nx (.own id path off len g) val) (jm:qb h id path g z k vs=some h') :
 ∃ an ad cap,an.g=g∧val=.slice ad len cap∧len ≤ cap∧fg (E id) (some path)=some (an,some z)∧kR an z off len ad cap:=by
 simp only [bQ] at hv;obtain ⟨q,ad,cap,rfl,nF,hh⟩:=hv;have h2:bQ w A E nx (.own id path k 0 g) (.slice none 0 cap)∨True:=.inr trivial;have iC:∃ l,jo (h id) path=some (g,z,l):=by
  unfold qb at jm;split at jm
  · split at jm
    · rename_i gq;split at jm
      · rename_i hc; obtain ⟨rfl,rfl,_⟩:=hc; exact ⟨_,by rw [gq]; rfl⟩
      · cases jm
    · rename_i CV _ _ ng;split at jm
      · rename_i dJ;split at jm
        · rename_i hc;obtain ⟨rfl,rfl,_⟩:=hc;exact ⟨_,Mv ng dJ⟩
        · cases jm
      · cases jm
  · cases jm
 obtain ⟨l,iC⟩:=iC;obtain ⟨an,lA,nm,rfl,_⟩:=hm.vec iC;exact ⟨an,ad,cap,rfl,rfl,nF,sL nm,hh an z (sL nm) rfl⟩
theorem C71 {id:Nat} {path:List Nat} {k z:Nat} {vs:List PV} {an:An} {z':Nat} (jm:qb h id path an.g z k vs=some h') (hn:fg (E id) (some path)=some (an,some z')) :
 match an.b with | none=>k + vs.length=0 | some _=>k + vs.length ≤ an.cap:=by
 have iC:∃ l,jo (h id) path=some (an.g,z,l)∧k + vs.length ≤ l.length:=by
  unfold qb at jm;split at jm
  · split at jm
    · rename_i gq;split at jm
      · rename_i hc; obtain ⟨rfl,rfl,hle⟩:=hc; exact ⟨_,by rw [gq]; rfl,hle⟩
      · cases jm
    · rename_i CV _ _ ng;split at jm
      · rename_i dJ;split at jm
        · rename_i hc;obtain ⟨rfl,rfl,hle⟩:=hc;exact ⟨_,Mv ng dJ,hle⟩
        · cases jm
      · cases jm
  · cases jm
 obtain ⟨l,iC,hle⟩:=iC;obtain ⟨Mw,lA,nm,_,rfl⟩:=hm.vec iC;have AE:=sL nm;rw [AE] at hn;cases hn;have hB:=hm.tR nm;rw [aB] at hle;unfold VB at hB;cases hb:an.b with
 | none =>
   simp only [hb] at hB ⊢;obtain ⟨rfl,_⟩:=hB
   have:k + vs.length ≤ 0:=hle
   omega
 | some b =>
   simp only [hb] at hB ⊢;omega
include hs
theorem D1K {c:Call} {t t' e:TypeId} {x y:Operand} {x' y':dI} {t1 t2:TypeId} (ho:o.op=.call c) (pB:c.callee=.builtin .copy) (oP:c.args=#[x,y]) (sr:c.argTypes=#[t,t']) (hx:fx P t1 x=some x') (hy:fx P t2 y=some y')
 (ht:P.underlying t=some (.slice e)) (rG:P.cellsOf e ≠ 0)
 (he:b7 K γ d s h (.cpy (P.cellsOf e) x' y')=some (v,h')):cC P o a w A E nx γ v h':=by
 have dH:=jM hs hx;have uK:=jM hs hy;obtain ⟨i,hi,qe⟩:=PI rG;simp only [b7,FY] at he;split at he
 · cases he
 · rename_i ts gZ;split at he
   · cases he
   · rename_i vs fR;split at he
     · rename_i eY;have rF:=F8 fR;subst rF;have p0:(vs.map (T.p (α:=Nat))).all tj=true:=by simp [tj]
       have BE:rP h (cJ s y')=some (vs.map .p,h):=by simp only [rP,gZ,p0,if_true]
       have ub:∀ {src:Value} {w1:World},(fT #[t,t'] o.type #[a.eval x,a.eval y]).run P w=.ok src w1→(execOp a.eval o).run P w=.ok (.value src) w1:=by
        intro src w1 hr;rw [Bm ho pB];simp only [builtin,oP,sr];have e:qm a.eval #[x,y]=#[a.eval x,a.eval y]:=by simp
        rw [e];simp only [bn,hr,aV,bL]
       obtain ⟨news,E1,lA,jB,kA⟩:=QB (P:=P) (γ:=γ) hm uK BE eY;obtain ⟨xb,xc,AF⟩:=jB.val;rw [aB] at jB AF;rw [AF] at jB;split at he
       · rename_i zz w9;simp only [aa,ae,vW] at he;obtain ⟨rfl,rfl⟩:=he;rw [w9] at dH;simp only [bQ] at dH;obtain ⟨ax,uN⟩:=dH;have o8:=jB.pre 0 (dg _);rw [← qe,c9,fj] at o8;refine cC.idle (val:=.int .i64 0) (ub ?_) (A1X.2 rfl) hm;rw [uN,AF];cases ax <;> simp [fT,aZ ht,sizeOf,typeInfo,hi,gJ,o8,goInt,storeCells]
       · rename_i id path off len g w9;split at he
         · rename_i h1 jm;simp only [aa,ae,vW] at he;obtain ⟨rfl,rfl⟩:=he;rw [w9] at dH;obtain ⟨an,ad,cap,rfl,uN,nF,bW,kE⟩:=QO hm dH jm;have wo:∀ v ∈ vs,v.cs=P.cellsOf e:=by
            intro v hv;simp only [pw,bB,beq_iff_eq] at eY;exact eY (.p v) (dX hv)
           have nW:lA=vs.map .p:=by
            have h2:=kA.er;rw [Mo] at h2;obtain ⟨us,ID⟩:=Qz (l:=lA) (by rw [h2]; exact p0)
            subst ID;rw [cm] at h2;have h3:(us.map (T.p (α:=Nat)))=vs.map .p:=h2
            have:=congrArg mh h3
            rw [Bo,Bo] at this;rw [b9 this]
           subst nW;have Mx:cK w A vs news:=tX.1 kA.tc;have hk:min vs.length len ≤ vs.length:=Nat.min_le_left _ _;have o8:=jB.pre (min vs.length len) hk;have My:vs.take len=vs.take (min vs.length len):=by
            rcases Nat.le_total len vs.length with hle | hle
            · rw [Nat.min_eq_right hle]
            · rw [Nat.min_eq_left hle,a7 hle,List.take_length]
           rw [My] at jm;have IE:=C70 (n:=min vs.length len) Mx wo;obtain ⟨pI,E',n4,En⟩:=IC hm bW jm IE;have Xq:len=0→vs.take (min vs.length len)=[]:=by intro h0; rw [h0,pS,fj]
           cases hb:an.b with
           | none =>
             obtain ⟨k1,k2⟩:=En hb;simp only [kR,hb] at kE;obtain ⟨rfl,rfl⟩:=kE;rw [pS] at o8 ⊢;rw [← qe,c9,fj] at o8;refine ⟨.int .i64 0,w,A,E',.inl (ub ?_),A1X.2 rfl,k1.mono (nx.eH γ),k2⟩;rw [uN,AF];cases ad <;> simp [fT,aZ ht,sizeOf,typeInfo,hi,gJ,o8,goInt,storeCells]
           | some b =>
             obtain ⟨k1,k2,k3,k4⟩:=n4 b hb;simp only [kR,hb] at kE;refine ⟨.int .i64 (min vs.length len:Nat),_,A,E',.inl (ub ?_),A1X.2 rfl,k1.mono (nx.eH γ),k2⟩;rw [uN,AF];rcases kE.2 with ⟨rfl,rfl⟩ | hA
             · rw [pS] at o8 ⊢;rw [← qe,c9,fj] at o8;have e0:w.setCells b (off * P.cellsOf e) (news.take (0 * P.cellsOf e))=w:=by rw [c9,fj]; rfl
               rw [e0];cases ad <;> simp [fT,aZ ht,sizeOf,typeInfo,hi,gJ,o8,goInt,storeCells]
             · have hst:=Xp (P:=P) k3 k4 IE.ka;rw [hA];rw [← qe] at o8;simp only [← qe] at hst;simp only [← qe];simp [fT,aZ ht,sizeOf,typeInfo,hi,gJ,o8,goInt,hst]
         · cases he
       · cases he
     · cases he
theorem C9N {c:Call} {t e:TypeId} {x y:Operand} {x' y':dI} {t1 t2:TypeId} (ho:o.op=.call c) (pB:c.callee=.builtin .append) (oP:c.args=#[x,y]) (sr:c.argTypes=#[t,t]) (hx:fx P t1 x=some x') (hy:fx P t2 y=some y')
 (ht:P.underlying t=some (.slice e)) (rG:P.cellsOf e ≠ 0)
 (he:b7 K γ d s h (.appk (P.cellsOf e) x' y')=some (v,h')):cC P o a w A E nx γ v h':=by
 have dH:=jM hs hx;have uK:=jM hs hy;obtain ⟨i,hi,qe⟩:=PI rG;simp only [b7] at he;split at he
 · cases he
 · rename_i ts gZ;split at he
   · cases he
   · rename_i vs fR;split at he
     · rename_i eY;have rF:=F8 fR;subst rF;have p0:(vs.map (T.p (α:=Nat))).all tj=true:=by simp [tj]
       have BE:rP h (cJ s y')=some (vs.map .p,h):=by simp only [rP,gZ,p0,if_true]
       obtain ⟨news,E1,lA,jB,kA⟩:=QB (P:=P) (γ:=γ) hm uK BE eY;obtain ⟨xb,xc,AF⟩:=jB.val;rw [aB] at jB AF;rw [AF] at jB;split at he
       · rename_i id path off len g w9;split at he
         · rename_i h1 jm;simp only [aa,ae] at he;obtain ⟨rfl,rfl⟩:=he;rw [w9] at dH;obtain ⟨an,ad,cap,rfl,uN,nF,bW,kE⟩:=C9M hm dH jm;have Xr:nx an.g:=by simp only [bQ] at dH; exact dH.1
           have wo:∀ v ∈ vs,v.cs=P.cellsOf e:=by
            intro v hv;simp only [pw,bB,beq_iff_eq] at eY;exact eY (.p v) (dX hv)
           have nW:lA=vs.map .p:=by
            have h2:=kA.er;rw [Mo] at h2;obtain ⟨us,ID⟩:=Qz (l:=lA) (by rw [h2]; exact p0)
            subst ID;rw [cm] at h2;have h3:(us.map (T.p (α:=Nat)))=vs.map .p:=h2
            have:=congrArg mh h3
            rw [Bo,Bo] at this;rw [b9 this]
           subst nW;have Mx:cK w A vs news:=tX.1 kA.tc;have fS:=C71 hm jm bW;obtain ⟨pI,E',n4,En⟩:=IC hm bW jm Mx;have nN:∀ {w':World},gE w A E nx w' A E'→len + vs.length ≤ cap→bQ w' A E' (nx.add γ) (.own id path off (len + vs.length) an.g) (.slice ad (len + vs.length) cap):=by
            intro w' hg hle;simp only [bQ];refine ⟨.inl Xr,ad,cap,rfl,hle,fun Ws z1 Eo hg1=>?_⟩
            have AE:=hg.ns id (some path) Ws (some z1) Eo (by rw [hg1]; exact Xr)
            rw [bW] at AE;cases AE;unfold kR at kE ⊢;cases hb:an.b with
            | none =>
              simp only [hb] at kE ⊢;have yO:vs.length=0:=by
               have:=fS
               simp only [hb] at this;omega
              omega
            | some b =>
              simp only [hb] at kE ⊢;refine ⟨kE.1,?_⟩;rcases kE.2 with ⟨q1,q2⟩ | q
              · left; omega
              · right; exact q
           cases hb:an.b with
           | none =>
             obtain ⟨k1,k2⟩:=En hb;have Az:=pI hb;simp only [kR,hb] at kE;obtain ⟨rfl,rfl⟩:=kE;have yO:vs.length=0:=by
              have:=fS
              simp only [hb] at this;omega
             have o8:=jB.pre 0 (dg _);rw [c9,fj] at o8;refine ⟨_,w,A,E',.inl ?_,nN k2 (by omega),k1.mono (nx.eH γ),k2⟩
             rw [QD ho pB oP sr,uN,AF];rw [yO] at jB ⊢;rw [Az] at jB;rw [Qv ht hi ad 0 0 (by first | exact jB | (rw [← qe]; exact jB) | (rw [qe]; exact jB)) (ar _)]
           | some b =>
             obtain ⟨k1,k2,k3,k4⟩:=n4 b hb;have hle:len + vs.length ≤ cap:=by
              have h5:=fS;simp only [hb] at h5;simp only [kR,hb] at kE;omega
             refine ⟨_,_,A,E',.inl ?_,nN k2 hle,k1.mono (nx.eH γ),k2⟩;rw [QD ho pB oP sr,uN,AF];simp only [kR,hb] at kE;have wq:lf P w i.size (.slice xb vs.length xc) vs.length news:=by first | exact jB | (rw [qe]; exact jB)
             rcases kE.2 with ⟨rfl,rfl⟩ | hA
             · have yO:vs.length=0:=by omega
               have BC:news=[]:=List.eq_nil_of_length_eq_zero (by rw [jB.len,yO,c9])
               rw [yO] at wq ⊢;rw [BC] at wq ⊢;rw [Qv ht hi ad 0 0 wq (ar _)];rfl
             · rw [hA];have hst:=iX (P:=P) b ((off + len) * i.size) news 0 w (by simp only [dF]; first | exact k3 | (rw [qe]; exact k3)) (fun j _=>k4 _) Mx.ka
               simp only [dF] at hst;have Qw:=wq.rd w rfl;have Ep:(⟨b,off * P.cellsOf e,none⟩:Addr).add (len * i.size)=⟨b,(off + len) * i.size,none⟩:=by
                rw [tU,qe,gX]
               simp [Builtin.append_,aZ ht,sizeOf,typeInfo,hi,gJ,Qw,hle,Ep,hst];rw [qe]
         · cases he
       · cases he
     · cases he
theorem D1L {c:Call} {t e:TypeId} {x:Operand} {x':dI} {t1:TypeId} {zero:PV} (ho:o.op=.call c) (pB:c.callee=.builtin .clear) (oP:c.args=#[x]) (sr:c.argTypes=#[t]) (hx:fx P t1 x=some x')
 (ht:P.underlying t=some (.slice e)) (hz:LI P e=some zero)
 (he:b7 K γ d s h (.clr (P.cellsOf e) zero x')=some (v,h')):cC P o a w A E nx γ v h':=by
 have dH:=jM hs hx;obtain ⟨zc,rW,QP⟩:=C7X hz;obtain ⟨zv,D5,mz,i,hi,CQ⟩:=CP rW w;have IF:dR w A zero zc:=QP w A;have ub:∀ {src:Value} {w1:World},(gS #[t] o.type #[a.eval x]).run P w=.ok src w1→(execOp a.eval o).run P w=.ok (.value src) w1:=by
  intro src w1 hr;rw [Bm ho pB];simp only [builtin,oP,sr];have e:qm a.eval #[x]=#[a.eval x]:=by simp
  rw [e];simp only [bn,hr,aV,bL]
 have IG:bQ w A E nx (.eJ []) (.tuple #[]):=by simp only [bQ]; exact ⟨[],rfl,by simp only [c8]⟩
 simp only [b7] at he;split at he
 · rename_i w9;simp only [aa,ae] at he;obtain ⟨rfl,rfl⟩:=he;rw [w9] at dH;obtain ⟨p,cap,uN,_⟩:=vg.1 dH;refine cC.idle (ub ?_) IG hm;rw [uN];cases p <;> simp [gS,aZ ht]
 · rename_i zz w9;simp only [aa,ae] at he;obtain ⟨rfl,rfl⟩:=he;rw [w9] at dH;simp only [bQ] at dH;obtain ⟨p,uN⟩:=dH;refine cC.idle (ub ?_) IG hm;rw [uN];cases p <;> simp [gS,aZ ht]
 · rename_i id path off len g w9;split at he
   · rename_i h1 jm;split at he
     · rename_i sP;simp only [aa,ae] at he;obtain ⟨rfl,rfl⟩:=he;rw [w9] at dH;obtain ⟨an,ad,cap,rfl,uN,nF,bW,kE⟩:=QO hm dH jm;have IE:=B9A IF len;obtain ⟨pI,E',n4,En⟩:=IC hm bW jm IE;have II:∀ w1 E1 n1,bQ w1 A E1 n1 (.eJ []) (.tuple #[]):=by intro w1 E1 n1; simp only [bQ]; exact ⟨[],rfl,by simp only [c8]⟩
       cases hb:an.b with
       | none =>
         obtain ⟨k1,k2⟩:=En hb;simp only [kR,hb] at kE;obtain ⟨rfl,rfl⟩:=kE;refine ⟨_,w,A,E',.inl (ub ?_),II _ _ _,k1.mono (nx.eH γ),k2⟩;rw [uN];cases ad <;> simp [gS,aZ ht]
       | some b =>
         obtain ⟨k1,k2,k3,k4⟩:=n4 b hb;simp only [kR,hb] at kE;refine ⟨_,_,A,E',.inl (ub ?_),II _ _ _,k1.mono (nx.eH γ),k2⟩;rw [uN];rcases kE.2 with ⟨rfl,rfl⟩ | hA
         · have e0:w.setCells b (off * P.cellsOf e) (aq 0 zc).flatten=w:=rfl;rw [e0];cases ad <;> simp [gS,aZ ht]
         · have hst:=Xp (P:=P) k3 k4 IE.ka;rw [hA];have yQ:zc.length=zc.length:=rfl;have Ib:(aY zv.cells len).toList=(aq len zc).flatten:=by
            rw [mz];simp only [aY,Array.toList_map,Array.toList_range];exact Qh yQ len
           cases len with
           | zero =>
             have e0:w.setCells b (off * P.cellsOf e) (aq 0 zc).flatten=w:=rfl;rw [e0];simp [gS,aZ ht]
           | succ len=>simp [gS,aZ ht,D5,Ib,hst]
     · cases he
   · cases he
 · cases he
end
end Go.Mid
namespace Go.Mid
open Go.RowKit
def zA (ζ:Nat→Nat) (an:An):An:={ an with g:=ζ an.g }
section
variable {α:Type} (φ:MV→MV)
section
variable (ζ:α→α)
theorem BL (l:List (T α)):jw φ ζ l=l.map (iS φ ζ):=by
 induction l with
 | nil=>rfl
 | cons x r ih=>simp only [jw,aD,ih]
theorem Gm:∀ (p:List Nat) (t:T α),cU (iS φ ζ t) p=(cU t p).map (iS φ ζ)
 | [],t=>rfl
 | i::r,.p v=>by
   cases v <;> simp only [iS,cU,dx];rename_i l;cases l[i]? with
   | none=>rfl
   | some x =>
     have:=Gm r (.p x)
     simpa only [iS] using this
 | i::r,.m v=>rfl
 | i::r,.agg l=>by
   simp only [iS,cU,BL,aH];cases l[i]? with
   | none=>rfl
   | some x=>exact Gm r x
 | i::r,.vec a z l n=>by
   simp only [iS,cU,BL,aH];cases l[i]? with
   | none=>rfl
   | some x=>exact Gm r x
 | i::r,.mp a ks l=>by
   simp only [iS,cU,BL,aH];cases l[i]? with
   | none=>rfl
   | some x=>exact Gm r x
 | i::r,.hole n=>rfl
theorem QQ (o:Obj α) (np:Option (List Nat)):fg (some (kF φ ζ o)) np=(fg (some o) np).map fun y=>(ζ y.1,y.2):=by
 cases np with
 | none=>cases o <;> rfl
 | some p =>
   rw [sO,sO];have e:(kF φ ζ o).pF=iS φ ζ o.pF:=by cases o <;> rfl
   rw [e];simp only [fH,Gm];cases cU o.pF p with
   | none=>rfl
   | some u=>cases u <;> rfl
mutual
theorem AG (hφ:∀ v,(φ v).cs=v.cs):∀ (t:T α),(iS φ ζ t).cs=t.cs
 | .p _=>rfl
 | .m v=>hφ v
 | .agg l=>QR hφ l
 | .vec ..=>rfl
 | .mp ..=>rfl
 | .hole _=>rfl
theorem QR (hφ:∀ v,(φ v).cs=v.cs):∀ (l:List (T α)),T.da (jw φ ζ l)=T.da l
 | []=>rfl
 | x::r=>by simp only [jw,T.da,AG hφ x,QR hφ r]
end
end
mutual
theorem Xs (ζ:Nat→Nat):∀ (t:T An),(iS φ (zA ζ) t).mapA An.g=iS φ ζ (t.mapA An.g)
 | .p _=>rfl
 | .m _=>rfl
 | .agg l=>by simp only [iS,T.mapA,IJ ζ l]
 | .vec an _ l _=>by simp only [iS,T.mapA,IJ ζ l]; rfl
 | .mp an _ l=>by simp only [iS,T.mapA,IJ ζ l]; rfl
 | .hole _=>rfl
theorem IJ (ζ:Nat→Nat):∀ (l:List (T An)),T.cI An.g (jw φ (zA ζ) l)=jw φ ζ (T.cI An.g l)
 | []=>rfl
 | x::r=>by simp only [jw,T.cI,Xs ζ x,IJ ζ r]
end
theorem Xt (ζ:Nat→Nat) (o:Obj An):(kF φ (zA ζ) o).mapA An.g=kF φ ζ (o.mapA An.g):=by
 cases o <;> simp only [kF,Obj.mapA,Xs,IJ] <;> rfl
mutual
theorem xT (ζ:An→An) (hζ:∀ an,(ζ an).b=an.b):∀ (t:T An),(iS φ ζ t).blk=t.blk
 | .p _=>rfl
 | .m _=>rfl
 | .agg l=>BM ζ hζ l
 | .vec an _ l _=>by simp only [iS,T.blk,BM ζ hζ l,hζ]
 | .mp an _ l=>by simp only [iS,T.blk,BM ζ hζ l,hζ]
 | .hole _=>rfl
theorem BM (ζ:An→An) (hζ:∀ an,(ζ an).b=an.b):∀ (l:List (T An)),T.b6 (jw φ ζ l)=T.b6 l
 | []=>rfl
 | x::r=>by simp only [jw,T.b6,xT ζ hζ x,BM ζ hζ r]
end
theorem Er (ζ:An→An) (hζ:∀ an,(ζ an).b=an.b) (o:Obj An):(kF φ ζ o).blk=o.blk:=by
 cases o <;> simp only [kF,Obj.blk,xT φ ζ hζ,BM φ ζ hζ,hζ]
mutual
theorem Xu {nx nx':di} (ζ:An→An) (hζ:∀ an,nx an.g→nx' (ζ an).g):∀ (t:T An),t.st nx→(iS φ ζ t).st nx'
 | .p _,_=>trivial
 | .m _,_=>trivial
 | .agg l,h=>by simp only [iS,T.st] at h ⊢; exact Gn ζ hζ l h
 | .vec an _ l _,h=>by simp only [iS,T.st] at h ⊢; exact ⟨hζ _ h.1,Gn ζ hζ l h.2⟩
 | .mp an _ l,h=>by simp only [iS,T.st] at h ⊢; exact ⟨hζ _ h.1,Gn ζ hζ l h.2⟩
 | .hole _,_=>trivial
theorem Gn {nx nx':di} (ζ:An→An) (hζ:∀ an,nx an.g→nx' (ζ an).g):∀ (l:List (T An)),T.j7 nx l→T.j7 nx' (jw φ ζ l)
 | [],_=>trivial
 | x::r,h=>by simp only [jw,T.j7] at h ⊢; exact ⟨Xu ζ hζ x h.1,Gn ζ hζ r h.2⟩
end
theorem D1M {nx nx':di} (ζ:An→An) (hζ:∀ an,nx an.g→nx' (ζ an).g) {o:Obj An} (h:o.st nx):(kF φ ζ o).st nx':=by
 cases o <;> simp only [kF,Obj.st] at h ⊢
 · exact ⟨hζ _ h.1,Xu φ ζ hζ _ h.2⟩
 · exact ⟨hζ _ h.1,Gn φ ζ hζ _ h.2⟩
 · exact ⟨hζ _ h.1,Gn φ ζ hζ _ h.2⟩
end
theorem Mz {an qF:An} (hb:qF.b=an.b) (hc:qF.cap=an.cap) {z off len cap:Nat} {a:Option Addr} (h:kR an z off len a cap):kR qF z off len a cap:=by
 simp only [kR,hb,hc] at h ⊢; exact h
section
variable {w:World} {A:Nat→Prop} {E E':dL An} {nx nx':di} {h:cj}
structure uc (w:World) (A:Nat→Prop) (E:dL An) (nx:di) (E':dL An) (nx':di) (φ:MV→MV):Prop where
 val:∀ v val,bQ w A E nx v val→bQ w A E' nx' (φ v) val
 cs:∀ v,(φ v).cs=v.cs
 agg:∀ v,(φ v).isAgg=v.isAgg
mutual
theorem TAt.ch {φ:MV→MV} {ζ:An→An} (c:uc w A E nx E' nx' φ) (hb:∀ an,(ζ an).b=an.b) (hc:∀ an,(ζ an).cap=an.cap):∀ {t:T An} {b o:Nat},TAt w A E nx t b o→TAt w A E' nx' (iS φ ζ t) b o
 | .p v,b,o,k=>k
 | .m v,b,o,k=>by
   simp only [TAt,iS] at k ⊢;obtain ⟨h1,h2,val,h3,h4⟩:=k;exact ⟨by rw [c.cs]; exact h1,by rw [c.agg]; exact h2,val,c.val v val h3,h4⟩
 | .agg l,b,o,k=>by simp only [TAt,iS] at k ⊢; exact cD.ch c hb hc k
 | .vec an z l n,b,o,k=>by
   simp only [TAt,iS] at k ⊢;obtain ⟨a,cap,h1,h2,h3,h4⟩:=k;refine ⟨a,cap,h1,by rw [BL,aB]; exact h2,Mz (hb an) (hc an) h3,?_⟩
   rw [hb,hc];cases kC:an.b with
   | none=>simp only [kC] at h4 ⊢; exact ⟨by rw [h4.1]; rfl,h4.2⟩
   | some b' =>
     simp only [kC] at h4 ⊢;refine ⟨h4.1,by rw [BL,aB]; exact h4.2.1,?_,cD.ch c hb hc h4.2.2.2⟩
     intro t ht;rw [BL] at ht;obtain ⟨u,hu,rfl⟩:=bj.1 ht;rw [AG φ ζ c.cs]; exact h4.2.2.1 u hu
 | .mp ..,b,o,k=>by simp only [TAt] at k
 | .hole n,b,o,k=>k
theorem cD.ch {φ:MV→MV} {ζ:An→An} (c:uc w A E nx E' nx' φ) (hb:∀ an,(ζ an).b=an.b) (hc:∀ an,(ζ an).cap=an.cap):∀ {l:List (T An)} {b o:Nat},cD w A E nx l b o→cD w A E' nx' (jw φ ζ l) b o
 | [],b,o,k=>by simp only [cD,jw]
 | t::r,b,o,k=>by
   simp only [cD,jw] at k ⊢;rw [AG φ ζ c.cs];exact ⟨TAt.ch c hb hc k.1,cD.ch c hb hc k.2⟩
end
theorem OAt.ch {φ:MV→MV} {ζ:An→An} (c:uc w A E nx E' nx' φ) (hb:∀ an,(ζ an).b=an.b) (hc:∀ an,(ζ an).cap=an.cap) {o:Obj An} (k:OAt w A E nx o):OAt w A E' nx' (kF φ ζ o):=by
 cases o with
 | cell an t =>
   simp only [OAt,kF] at k ⊢;obtain ⟨b,h1,h2,h3⟩:=k;exact ⟨b,by rw [hb]; exact h1,by rw [AG φ ζ c.cs]; exact h2,h3.ch c hb hc⟩
 | vec an z l =>
   simp only [OAt,VB,kF] at k ⊢;rw [hb,hc];cases kC:an.b with
   | none=>simp only [kC] at k ⊢; exact ⟨by rw [k.1]; rfl,k.2⟩
   | some b' =>
     simp only [kC] at k ⊢;refine ⟨k.1,by rw [BL,aB]; exact k.2.1,?_,cD.ch c hb hc k.2.2.2⟩
     intro t ht;rw [BL] at ht;obtain ⟨u,hu,rfl⟩:=bj.1 ht;rw [AG φ ζ c.cs]; exact k.2.2.1 u hu
 | mp=>simp only [OAt] at k
 | gone=>trivial
section
variable (h:cj) (ρ:Nat→Option Nat) (ζ:Nat→Nat)
mutual
theorem QS:∀ (v:MV),(jT h ρ ζ v).cs=v.cs
 | .p _=>rfl
 | .nil _=>rfl
 | .own id path off len g=>by simp only [jT]; split <;> (try split) <;> rfl
 | .ptr id np rp g o=>by simp only [jT]; split <;> (try split) <;> rfl
 | .fy id path g=>by simp only [jT]; split <;> (try split) <;> rfl
 | .agg l=>Xv l
 | .fn _ _=>rfl
 | .eJ _=>rfl
 | .dead _=>rfl
theorem Xv:∀ (l:List MV),MV.da (sm h ρ ζ l)=MV.da l
 | []=>rfl
 | x::r=>by simp only [sm,MV.da,QS x,Xv r]
end
theorem Xw (v:MV):(jT h ρ ζ v).isAgg=v.isAgg:=by
 cases v <;> simp only [jT] <;> (try split) <;> (try split) <;> rfl
end
def rX (E:dL An) (h:cj) (ρ:Nat→Option Nat) (ζ:Nat→Nat) (ζn:Nat→Nat→Nat) (bk:Nat→Option Nat):dL An:=fun j=>(bk j).bind fun i=>(E i).map (kF (jT h ρ ζ) (zA (ζn i)))
def y6 (h:cj) (ρ:Nat→Option Nat) (ζ:Nat→Nat) (ζn:Nat→Nat→Nat) (bk:Nat→Option Nat):cj:=fun j=>(bk j).bind fun i=>(h i).map (kF (jT h ρ ζ) (ζn i))
theorem IK {h:cj} {ρ:Nat→Option Nat} {ζ:Nat→Nat} {ζn:Nat→Nat→Nat} {bk:Nat→Option Nat} {i j:Nat} (hb:bk j=some i) (np:Option (List Nat)):fg (rX E h ρ ζ ζn bk j) np=(fg (E i) np).map fun y=>(zA (ζn i) y.1,y.2):=by
 simp only [rX,hb,ai];cases hE:E i with
 | none =>
   simp only [dx];cases np with
   | none=>rfl
   | some p=>cases p <;> rfl
 | some o=>exact QQ _ _ o np
section
variable {ρ:Nat→Option Nat} {ζ:Nat→Nat} {ζn:Nat→Nat→Nat} {bk:Nat→Option Nat}
mutual
theorem bQ.clean (m:MR w A E h nx) (hρ:∀ i j,ρ i=some j→bk j=some i) (hn:∀ g,nx g→nx' (ζ g)):∀ {v:MV} {val:Value},bQ w A E nx v val→bQ w A (rX E h ρ ζ ζn bk) nx' (jT h ρ ζ v) val
 | .p v,val,k=>by simp only [bQ,jT] at k ⊢; exact k
 | .nil _,val,k=>by simp only [bQ,jT] at k ⊢; exact k
 | .own id path off len g,val,k=>by
   simp only [bQ] at k;obtain ⟨hg,a,cap,rfl,hc,hh⟩:=k;simp only [jT];split
   · rename_i j hj;split
     · rename_i kL;simp only [bQ];refine ⟨hn g hg,a,cap,rfl,hc,fun an z bW hgg=>?_⟩
       rw [IK (hρ id j hj)] at bW;unfold uC at kL;split at kL
       · rename_i g' z' l' iC;obtain ⟨CW,lA,nm,rfl,_⟩:=m.vec iC;simp only [beq_iff_eq] at kL;subst kL;rw [sL nm] at bW;simp only [ak,aa,ae] at bW;obtain ⟨rfl,rfl⟩:=bW;exact Mz (an:=CW) rfl rfl (hh CW z' (sL nm) rfl)
       · cases kL
     · simp only [bQ]
   · simp only [bQ]
 | .ptr id np rp g o,val,k=>by
   simp only [bQ] at k;obtain ⟨hg,a,rfl,hh⟩:=k;simp only [jT];split
   · rename_i j hj;split
     · rename_i kL;simp only [bQ];refine ⟨hn g hg,a,rfl,fun an z bW hgg=>?_⟩
       rw [IK (hρ id j hj)] at bW;unfold xD at kL;split at kL
       · rename_i t s o' hl;obtain ⟨CW,tA,nW,rfl,_⟩:=m.look hl;simp only [aj,beq_iff_eq] at kL;obtain ⟨rfl,rfl⟩:=kL;obtain ⟨z0,gV⟩:=F5 nW;rw [gV] at bW;simp only [ak,aa,ae] at bW;obtain ⟨rfl,rfl⟩:=bW;exact hh CW z0 gV rfl
       · cases kL
     · simp only [bQ]
   · simp only [bQ]
 | .fy ..,val,k=>by simp only [bQ] at k
 | .agg l,val,k=>by
   simp only [bQ,jT] at k ⊢;obtain ⟨cs,rfl,k⟩:=k;exact ⟨cs,rfl,dV.clean m hρ hn k⟩
 | .fn f l,val,k=>by
   simp only [bQ,jT] at k ⊢;obtain ⟨vs,rfl,k⟩:=k;exact ⟨vs,rfl,c8.clean m hρ hn k⟩
 | .eJ l,val,k=>by
   simp only [bQ,jT] at k ⊢;obtain ⟨vs,rfl,k⟩:=k;exact ⟨vs,rfl,c8.clean m hρ hn k⟩
 | .dead _,val,k=>by simp only [bQ,jT]
theorem dV.clean (m:MR w A E h nx) (hρ:∀ i j,ρ i=some j→bk j=some i) (hn:∀ g,nx g→nx' (ζ g)):∀ {l:List MV} {cs:List Value},dV w A E nx l cs→dV w A (rX E h ρ ζ ζn bk) nx' (sm h ρ ζ l) cs
 | [],cs,k=>by simp only [dV,sm] at k ⊢; exact k
 | x::r,cs,k=>by
   simp only [dV,sm] at k ⊢;obtain ⟨v,d,rfl,h1,h2,h3,h4⟩:=k;refine ⟨v,d,rfl,by rw [QS]; exact h1,fun c hc=>?_,bQ.clean m hρ hn h3,dV.clean m hρ hn h4⟩
   rw [Xw];rcases h2 c hc with h5 | ⟨n,rfl⟩
   · exact .inl h5
   · exact .inr ⟨n,rfl⟩
theorem c8.clean (m:MR w A E h nx) (hρ:∀ i j,ρ i=some j→bk j=some i) (hn:∀ g,nx g→nx' (ζ g)):∀ {l:List MV} {vs:List Value},c8 w A E nx l vs→c8 w A (rX E h ρ ζ ζn bk) nx' (sm h ρ ζ l) vs
 | [],vs,k=>by simp only [c8,sm] at k ⊢; exact k
 | x::r,vs,k=>by
   simp only [c8,sm] at k ⊢;obtain ⟨v,d,rfl,h1,h2⟩:=k;exact ⟨v,d,rfl,bQ.clean m hρ hn h1,c8.clean m hρ hn h2⟩
end
theorem Es {j:Nat} {o:Obj An} (ho:rX E h ρ ζ ζn bk j=some o):∃ i o0,bk j=some i∧E i=some o0∧o=kF (jT h ρ ζ) (zA (ζn i)) o0:=by
 simp only [rX] at ho;cases hb:bk j with
 | none=>simp [hb] at ho
 | some i =>
   simp only [hb,ai] at ho;cases hE:E i with
   | none=>simp [hE] at ho
   | some o0 =>
     simp only [hE,ak,aa] at ho;exact ⟨i,o0,rfl,hE,ho.symm⟩
theorem MA {b:Nat} (k:jq (rX E h ρ ζ ζn bk) b):jq E b:=by
 obtain ⟨j,o,ho,hb⟩:=k;obtain ⟨i,o0,_,hE,rfl⟩:=Es ho;rw [Er _ (zA (ζn i)) (fun _=>rfl)] at hb
 exact ⟨i,o0,hE,hb⟩
theorem MR.clean (m:MR w A E h nx) (hρ:∀ i j,ρ i=some j→bk j=some i) (sS:∀ i j j',bk j=some i→bk j'=some i→j=j') (hn:∀ g,nx g→nx' (ζ g)) (En:∀ i g,nx g→nx' (ζn i g)):MR w A (rX E h ρ ζ ζn bk) (y6 h ρ ζ ζn bk) nx':=by
 have c:uc w A E nx (rX E h ρ ζ ζn bk) nx' (jT h ρ ζ):=⟨fun v val k=>bQ.clean m hρ hn k,QS h ρ ζ,Xw h ρ ζ⟩
 constructor
 · intro j;simp only [rX,y6];cases bk j with
   | none=>rfl
   | some i =>
     simp only [ai,m.er i,ko];cases E i with
     | none=>rfl
     | some o=>simp only [ak,Function.comp,Xt]
 · intro j o ho;obtain ⟨i,o0,_,hE,rfl⟩:=Es ho;exact (m.at_ i o0 hE).ch (ζ:=zA (ζn i)) c (fun _=>rfl) (fun _=>rfl)
 · intro b hb;exact m.lt b (MA hb)
 · intro j o ho;obtain ⟨i,o0,_,hE,rfl⟩:=Es ho;rw [Er _ (zA (ζn i)) (fun _=>rfl)]
   exact m.nd i o0 hE
 · intro j j' o o' eA ho oH b hb jr;obtain ⟨i,o0,hi,hE,rfl⟩:=Es ho;obtain ⟨i',o1,eN,ud,rfl⟩:=Es oH;rw [Er _ (zA (ζn i)) (fun _=>rfl)] at hb
   rw [Er _ (zA (ζn i')) (fun _=>rfl)] at jr
   by_cases e:i=i'
   · subst e; exact eA (sS i j j' hi eN)
   · exact m.dj i i' o0 o1 e hE ud b hb jr
 · exact m.im
 · intro j o ho;obtain ⟨i,o0,_,hE,rfl⟩:=Es ho;exact D1M _ (zA (ζn i)) (fun an hg=>En _ _ hg) (m.st i o0 hE)
end
end
end Go.Mid
namespace Go.Mid
open Go.RowKit
def wu (γ g0:Nat) (an:An):An:={ an with g:=uE γ g0 an.g }
theorem D4Y (γ g0:Nat) (an:An):(wu γ g0 an).b=an.b:=rfl
section
variable {α β:Type}
mutual
theorem Xx (f:α→β) (ck:Nat→α→α) (rs:α→α) (xU:Nat→β→β) (nh:β→β) (h1:∀ g a,f (ck g a)=xU g (f a)) (h2:∀ a,f (rs a)=nh (f a)) :
 ∀ (t:T Nat) (u:T α),(mQ ck rs t u).mapA f=mQ xU nh t (u.mapA f)
 | .agg l,.agg m=>by simp only [mQ,T.mapA,Xy f ck rs xU nh h1 h2 l m]
 | .vec g0 _ _ _,.vec a z l n=>by simp only [mQ,T.mapA,h1,vo f rs nh h2]
 | .mp g0 _ _,.mp a ks l=>by simp only [mQ,T.mapA,h1,vo f rs nh h2]
 | .p _,u=>by simp only [mQ,Gp f rs nh h2]
 | .m _,u=>by simp only [mQ,Gp f rs nh h2]
 | .hole _,u=>by simp only [mQ,Gp f rs nh h2]
 | .agg _,.p _=>rfl
 | .agg _,.m _=>rfl
 | .agg _,.vec ..=>by simp only [mQ,T.mapA,iS,h2,vo f rs nh h2]
 | .agg _,.mp ..=>by simp only [mQ,T.mapA,iS,h2,vo f rs nh h2]
 | .agg _,.hole _=>rfl
 | .vec ..,.p _=>rfl
 | .vec ..,.m _=>rfl
 | .vec ..,.agg _=>by simp only [mQ,T.mapA,iS,vo f rs nh h2]
 | .vec ..,.mp ..=>by simp only [mQ,T.mapA,iS,h2,vo f rs nh h2]
 | .vec ..,.hole _=>rfl
 | .mp ..,.p _=>rfl
 | .mp ..,.m _=>rfl
 | .mp ..,.agg _=>by simp only [mQ,T.mapA,iS,vo f rs nh h2]
 | .mp ..,.vec ..=>by simp only [mQ,T.mapA,iS,h2,vo f rs nh h2]
 | .mp ..,.hole _=>rfl
theorem Xy (f:α→β) (ck:Nat→α→α) (rs:α→α) (xU:Nat→β→β) (nh:β→β) (h1:∀ g a,f (ck g a)=xU g (f a)) (h2:∀ a,f (rs a)=nh (f a)) :
 ∀ (l:List (T Nat)) (m:List (T α)),T.cI f (ou ck rs l m)=ou xU nh l (T.cI f m)
 | x::r,y::q=>by simp only [ou,T.cI,Xx f ck rs xU nh h1 h2 x y,Xy f ck rs xU nh h1 h2 r q]
 | [],q=>by simp only [ou,vo f rs nh h2]
 | x::r,[]=>by simp only [ou,T.cI,jw]
theorem Gp (f:α→β) (rs:α→α) (nh:β→β) (h2:∀ a,f (rs a)=nh (f a)):∀ (t:T α),(iS (fun v=>v) rs t).mapA f=iS (fun v=>v) nh (t.mapA f)
 | .p _=>rfl
 | .m _=>rfl
 | .agg l=>by simp only [iS,T.mapA,vo f rs nh h2 l]
 | .vec an _ l _=>by simp only [iS,T.mapA,vo f rs nh h2 l,h2]
 | .mp an _ l=>by simp only [iS,T.mapA,vo f rs nh h2 l,h2]
 | .hole _=>rfl
theorem vo (f:α→β) (rs:α→α) (nh:β→β) (h2:∀ a,f (rs a)=nh (f a)):∀ (l:List (T α)),T.cI f (jw (fun v=>v) rs l)=jw (fun v=>v) nh (T.cI f l)
 | []=>rfl
 | x::r=>by simp only [jw,T.cI,Gp f rs nh h2 x,vo f rs nh h2 r]
end
theorem Xz (f:α→β) (ck:Nat→α→α) (rs:α→α) (xU:Nat→β→β) (nh:β→β) (h1:∀ g a,f (ck g a)=xU g (f a)) (h2:∀ a,f (rs a)=nh (f a)) (t:Option (Obj Nat)) (o:Obj α) :
 (qT ck rs t o).mapA f=qT xU nh t (o.mapA f):=by
 have e:∀ o:Obj α,(kF (fun v=>v) rs o).mapA f=kF (fun v=>v) nh (o.mapA f):=by
  intro o; cases o <;> simp only [kF,Obj.mapA,h2,Gp f rs nh h2,vo f rs nh h2]
 cases t with
 | none=>exact e o
 | some t =>
   cases t <;> cases o <;> simp only [qT,Obj.mapA,kF,h1,h2,Xx f ck rs xU nh h1 h2,vo f rs nh h2,Gp f rs nh h2]
end
section
variable (ck:Nat→An→An) (rs:An→An)
mutual
theorem XA (hc:∀ g a,(ck g a).b=a.b) (hr:∀ a,(rs a).b=a.b):∀ (t:T Nat) (u:T An),(mQ ck rs t u).blk=u.blk
 | .agg l,.agg m=>XB hc hr l m
 | .vec g0 _ _ _,.vec a z l n=>by simp only [mQ,T.blk,hc,BM _ _ hr]
 | .mp g0 _ _,.mp a ks l=>by simp only [mQ,T.blk,hc,BM _ _ hr]
 | .p _,u=>by simp only [mQ,xT _ _ hr]
 | .m _,u=>by simp only [mQ,xT _ _ hr]
 | .hole _,u=>by simp only [mQ,xT _ _ hr]
 | .agg _,.p _=>rfl
 | .agg _,.m _=>rfl
 | .agg _,.vec ..=>xT _ _ hr _
 | .agg _,.mp ..=>xT _ _ hr _
 | .agg _,.hole _=>rfl
 | .vec ..,.p _=>rfl
 | .vec ..,.m _=>rfl
 | .vec ..,.agg _=>xT _ _ hr _
 | .vec ..,.mp ..=>xT _ _ hr _
 | .vec ..,.hole _=>rfl
 | .mp ..,.p _=>rfl
 | .mp ..,.m _=>rfl
 | .mp ..,.agg _=>xT _ _ hr _
 | .mp ..,.vec ..=>xT _ _ hr _
 | .mp ..,.hole _=>rfl
theorem XB (hc:∀ g a,(ck g a).b=a.b) (hr:∀ a,(rs a).b=a.b):∀ (l:List (T Nat)) (m:List (T An)),T.b6 (ou ck rs l m)=T.b6 m
 | x::r,y::q=>by simp only [ou,T.b6,XA hc hr x y,XB hc hr r q]
 | [],q=>by simp only [ou,BM _ _ hr]
 | x::r,[]=>by simp only [ou,T.b6,jw]
end
theorem C6b (hc:∀ g a,(ck g a).b=a.b) (hr:∀ a,(rs a).b=a.b) (t:Option (Obj Nat)) (o:Obj An):(qT ck rs t o).blk=o.blk:=by
 cases t with
 | none=>exact Er _ _ hr o
 | some t =>
   cases t <;> cases o <;> simp only [qT,kF,Obj.blk,hc,hr,XA ck rs hc hr,BM _ _ hr,xT _ _ hr]
end
def IL (ck:Nat→An→An) (rs:An→An) (t:Option (Nat×Option Nat)) (y0 y:An×Option Nat):Prop :=
 y.2=y0.2∧(y.1=rs y0.1∨∃ g0 z0,t=some (g0,z0)∧y.1=ck g0 y0.1)
theorem XC (rs:An→An) (t:T An) (q:List Nat):fH (iS (fun v=>v) rs t) q=(fH t q).map fun y=>(rs y.1,y.2):=by
 simp only [fH,Gm];cases cU t q with
 | none=>rfl
 | some u=>cases u <;> rfl
theorem QT (ck:Nat→An→An) (rs:An→An):∀ (q:List Nat) (t:T Nat) (u:T An),(∀ y0,fH u q=some y0→∃ y,fH (mQ ck rs t u) q=some y∧IL ck rs (fH t q) y0 y)∧(fH u q=none→fH (mQ ck rs t u) q=none):=by
 have plain:∀ (q:List Nat) (t:T Nat) (u:T An),(∀ y0,fH u q=some y0→∃ y,fH (iS (fun v=>v) rs u) q=some y∧IL ck rs (fH t q) y0 y)∧(fH u q=none→fH (iS (fun v=>v) rs u) q=none):=by
  intro q t u;rw [XC];refine ⟨fun y0 h=>⟨(rs y0.1,y0.2),by rw [h]; rfl,rfl,.inl rfl⟩,fun h=>by rw [h]; rfl⟩
 have Et:∀ (l:List (T An)) (i:Nat) (r:List Nat),((jw (fun v=>v) rs l)[i]?).bind (fun t=>fH t r)=((l[i]?).bind fun t=>fH t r).map fun y=>(rs y.1,y.2):=by
  intro l i r;rw [BL,aH];cases l[i]? with
  | none=>rfl
  | some x=>simp only [ak,ai,XC]
 intro q
 induction q with
 | nil =>
   intro t u;cases t <;> cases u <;> first
    | exact plain [] _ _
    | exact ⟨fun y0 h=>(by cases h),fun _=>rfl⟩
    | (refine ⟨fun y0 h=>?_,fun h=>(by cases h)⟩
       simp only [fH,cU,aa] at h;subst h;exact ⟨_,rfl,rfl,.inr ⟨_,_,rfl,rfl⟩⟩)
 | cons i r ih =>
   intro t u;cases t <;> cases u <;> try exact plain (i::r) _ _
   · -- agg,agg
     rename_i l m;simp only [mQ,Ih];have key:∀ (l:List (T Nat)) (m:List (T An)) (i:Nat),(∀ y0,(m[i]?).bind (fun t=>fH t r)=some y0→∃ y,((ou ck rs l m)[i]?).bind (fun t=>fH t r)=some y∧IL ck rs ((l[i]?).bind fun t=>fH t r) y0 y) ∧
      ((m[i]?).bind (fun t=>fH t r)=none→((ou ck rs l m)[i]?).bind (fun t=>fH t r)=none):=by
      intro l
      induction l with
      | nil =>
        intro m i;simp only [ou];rw [Et];refine ⟨fun y0 h=>⟨(rs y0.1,y0.2),by rw [h]; rfl,rfl,.inl rfl⟩,fun h=>by rw [h]; rfl⟩
      | cons x l' ihl =>
        intro m i;cases m with
        | nil=>exact ⟨fun y0 h=>by simp at h,fun _=>by simp [ou,jw]⟩
        | cons y m' =>
          cases i with
          | zero=>simp only [ou,List.getElem?_cons_zero,ai]; exact ih x y
          | succ i=>simp only [ou,List.getElem?_cons_succ]; exact ihl m' i
     exact key l m i
theorem QU (ck:Nat→An→An) (rs:An→An) (t:Option (Obj Nat)) (u:Obj An) (np:Option (List Nat)):(∀ y0,fg (some u) np=some y0→∃ y,fg (some (qT ck rs t u)) np=some y∧IL ck rs (fg t np) y0 y)∧(fg (some u) np=none→fg (some (qT ck rs t u)) np=none):=by
 have plain:∀ (t:Option (Obj Nat)) (u:Obj An),(∀ y0,fg (some u) np=some y0→∃ y,fg (some (kF (fun v=>v) rs u)) np=some y∧IL ck rs (fg t np) y0 y)∧(fg (some u) np=none→fg (some (kF (fun v=>v) rs u)) np=none):=by
  intro t u;rw [QQ];refine ⟨fun y0 h=>⟨(rs y0.1,y0.2),by rw [h]; rfl,rfl,.inl rfl⟩,fun h=>by rw [h]; rfl⟩
 cases t with
 | none=>exact plain none u
 | some t =>
   cases np with
   | none =>
     cases t <;> cases u <;> first
      | exact plain _ _
      | exact ⟨fun y0 h=>(by cases h),fun _=>rfl⟩
      | (refine ⟨fun y0 h=>?_,fun h=>(by cases h)⟩
         simp only [fg,aa] at h;subst h;exact ⟨_,rfl,rfl,.inr ⟨_,_,rfl,rfl⟩⟩)
   | some p =>
     cases t <;> cases u <;> try exact plain _ _
     · rename_i g0 t a u;simp only [sO,qT,Obj.pF];exact QT ck rs p t u
     · rename_i g0 z0 l0 a z l;simp only [sO,qT,Obj.pF];exact QT ck rs p (.vec g0 z0 l0 0) (.vec a z l 0)
     · rename_i g0 ks0 l0 a ks l;simp only [sO,qT,Obj.pF];exact QT ck rs p (.mp g0 ks0 l0) (.mp a ks l)
end Go.Mid
namespace Go.Mid
open Go.RowKit
theorem Eu {l:List Nat} {x k:Nat} (h:oX l x=some k):l[k]?=some x:=by
 unfold oX at h;rw [List.findIdx?_eq_some_iff_getElem] at h;obtain ⟨h1,h2,_⟩:=h;simp only [beq_iff_eq] at h2;rw [ah h1,h2]
theorem MB {l:List Nat} {x:Nat} (h:oX l x=none):x ∉ l:=by
 unfold oX at h;rw [List.findIdx?_eq_none_iff] at h;intro hx
 have:=h x hx
 simp at this
theorem Gq {l:List Nat} {x k:Nat} (hn:l.Nodup) (h:l[k]?=some x):oX l x=some k:=by
 cases hi:oX l x with
 | none=>exact (MB hi (bG h)).elim
 | some k' =>
   have:=Eu hi
   congr 1;obtain ⟨h1,h2⟩:=aF.1 this;obtain ⟨h3,h4⟩:=aF.1 h;have hp:=List.pairwise_iff_getElem.1 (iZ.1 hn);rcases Nat.lt_trichotomy k' k with eF | rfl | eF
   · exact (hp k' k h1 h3 eF (h2.trans h4.symm)).elim
   · rfl
   · exact (hp k k' h3 h1 eF (h4.trans h2.symm)).elim
theorem XD (d:Option Nat) (n k:Nat) (hk:k < n):(j6 d n)[k]?=some (xG (d.getD 0) k):=by
 simp only [j6,aH,List.getElem?_range hk,ak]
theorem C6c (d:Option Nat) (n:Nat):(j6 d n).Nodup:=by
 simp only [j6];rw [iZ,List.pairwise_map];refine List.Pairwise.imp ?_ (iZ.1 List.nodup_range);intro a b qO h;simp only [xG] at h;omega
theorem MD {es ids:List Nat} {i j:Nat} (h:mR es ids i=some j):(∃ k,es[k]?=some i∧j=kG + k)∨(i ∉ es∧∃ k,ids[k]?=some i∧j=ep + k):=by
 unfold mR at h;split at h
 · rename_i k hk; cases h; exact .inl ⟨k,Eu hk,rfl⟩
 · rename_i hk;split at h
   · rename_i k' nR; cases h; exact .inr ⟨MB hk,k',Eu nR,rfl⟩
   · cases h
theorem C6d {es ids:List Nat} {i:Nat} (h:mR es ids i=none):i ∉ es∧i ∉ ids:=by
 unfold mR at h;split at h
 · cases h
 · rename_i hk;split at h
   · cases h
   · rename_i nR; exact ⟨MB hk,MB nR⟩
mutual
theorem XE {n:di}:∀ {t:T An},(∀ q y,fH t q=some y→n y.1.g)→t.st n
 | .p _,_=>trivial
 | .m _,_=>trivial
 | .agg l,h=>by
   simp only [T.st];exact Gs fun i t ht q y hy=>h (i::q) y (by simp only [Ih,ht,ai]; exact hy)
 | .vec an z l k,h=>by
   simp only [T.st];exact ⟨h [] (an,some z) rfl,Gs fun i t ht q y hy=>h (i::q) y (by simp only [Bq,ht,ai]; exact hy)⟩
 | .mp an ks l,h=>by
   simp only [T.st];exact ⟨h [] (an,none) rfl,Gs fun i t ht q y hy=>h (i::q) y (by simp only [P0,ht,ai]; exact hy)⟩
 | .hole _,_=>trivial
theorem Gs {n:di}:∀ {l:List (T An)},(∀ (i:Nat) (t:T An),l[i]?=some t→∀ q y,fH t q=some y→n y.1.g)→T.j7 n l
 | [],_=>trivial
 | x::r,h=>by
   simp only [T.j7];exact ⟨XE fun q y hy=>h 0 x rfl q y hy,Gs fun i t ht q y hy=>h (i + 1) t ht q y hy⟩
end
theorem B9C {n:di} {o:Obj An} (h:∀ np y,fg (some o) np=some y→n y.1.g):o.st n:=by
 cases o with
 | cell an t =>
   refine ⟨h none (an,none) rfl,XE fun q y hy=>h (some q) y ?_⟩
   rw [sO]; exact hy
 | vec an z l =>
   refine ⟨h (some []) (an,some z) rfl,Gs fun i t ht q y hy=>h (some (i::q)) y ?_⟩
   rw [sO]; simp only [Obj.pF,Bq,ht,ai]; exact hy
 | mp an ks l =>
   refine ⟨h (some []) (an,none) rfl,Gs fun i t ht q y hy=>h (some (i::q)) y ?_⟩
   rw [sO]; simp only [Obj.pF,P0,ht,ai]; exact hy
 | gone=>trivial
theorem D26 {n:di}:∀ (q:List Nat) (t:T An) (y:An×Option Nat),t.st n→fH t q=some y→n y.1.g:=by
 intro q t y hs h;simp only [fH] at h;split at h <;> rename_i heq
 · cases h
   have:=Bl q t _ heq hs
   exact this.1
 · cases h
   have:=Bl q t _ heq hs
   exact this.1
 · cases h
theorem XF {n:di} {o:Obj An} {np:Option (List Nat)} {y:An×Option Nat} (hs:o.st n) (h:fg (some o) np=some y):n y.1.g:=by
 cases np with
 | none =>
   cases o <;> simp only [fg,reduceCtorEq,aa] at h;subst h; exact hs.1
 | some q =>
   rw [sO] at h;refine D26 q o.pF y ?_ h;cases o <;> first
    | exact hs.2
    | exact hs
    | trivial
theorem QV {α β:Type} (f:α→β) (ob:Option (Obj α)) (np:Option (List Nat)):fg (ob.map (Obj.mapA f)) np=(fg ob np).map fun y=>(f y.1,y.2):=by
 cases ob with
 | none =>
   cases np with
   | none=>rfl
   | some p=>cases p <;> rfl
 | some o =>
   cases np with
   | none=>cases o <;> rfl
   | some p =>
     simp only [ak];rw [sO,sO];have e:(o.mapA f).pF=o.pF.mapA f:=by cases o <;> rfl
     rw [e,WK]
section
variable {w:World} {A:Nat→Prop} {E:dL An} {nx:di}
theorem uc.id (w:World) (A:Nat→Prop) (E:dL An) (nx:di):uc w A E nx E nx (fun v=>v):=⟨fun _ _ h=>h,fun _=>rfl,fun _=>rfl⟩
mutual
theorem QW (ck:Nat→An→An) (rs:An→An):∀ (t:T Nat) (u:T An),(mQ ck rs t u).cs=u.cs
 | .agg l,.agg m=>XG ck rs l m
 | .vec ..,.vec ..=>rfl
 | .mp ..,.mp ..=>rfl
 | .p _,u=>by simp only [mQ]; exact AG _ _ (fun _=>rfl) u
 | .m _,u=>by simp only [mQ]; exact AG _ _ (fun _=>rfl) u
 | .hole _,u=>by simp only [mQ]; exact AG _ _ (fun _=>rfl) u
 | .agg _,.p _=>rfl
 | .agg _,.m _=>rfl
 | .agg _,.vec ..=>rfl
 | .agg _,.mp ..=>rfl
 | .agg _,.hole _=>rfl
 | .vec ..,.p _=>rfl
 | .vec ..,.m _=>rfl
 | .vec ..,.agg _=>AG _ _ (fun _=>rfl) _
 | .vec ..,.mp ..=>rfl
 | .vec ..,.hole _=>rfl
 | .mp ..,.p _=>rfl
 | .mp ..,.m _=>rfl
 | .mp ..,.agg _=>AG _ _ (fun _=>rfl) _
 | .mp ..,.vec ..=>rfl
 | .mp ..,.hole _=>rfl
theorem XG (ck:Nat→An→An) (rs:An→An):∀ (l:List (T Nat)) (m:List (T An)),T.da (ou ck rs l m)=T.da m
 | x::r,y::q=>by simp only [ou,T.da,QW ck rs x y,XG ck rs r q]
 | [],q=>by simp only [ou]; exact QR _ _ (fun _=>rfl) q
 | x::r,[]=>by simp only [ou,jw]
end
theorem TAt.IM {an qF:An} {z n b o:Nat} {l:List (T An)} (hb:qF.b=an.b) (hc:qF.cap=an.cap) (h:TAt w A E nx (.vec an z l n) b o):TAt w A E nx (.vec qF z l n) b o:=by
 simp only [TAt,hb,hc] at h ⊢;obtain ⟨a,cap,h1,h2,h3,h4⟩:=h;exact ⟨a,cap,h1,h2,Mz hb hc h3,h4⟩
mutual
theorem XH {ck:Nat→An→An} {rs:An→An} (BN:∀ g a,(ck g a).b=a.b) (tn:∀ g a,(ck g a).cap=a.cap) (tp:∀ a,(rs a).b=a.b) (tq:∀ a,(rs a).cap=a.cap):∀ (t:T Nat) (u:T An) {b o:Nat},TAt w A E nx u b o→TAt w A E nx (mQ ck rs t u) b o
 | .agg l,.agg m,b,o,h=>by simp only [TAt,mQ] at h ⊢; exact XI BN tn tp tq l m h
 | .vec g0 _ _ _,.vec a z l n,b,o,h=>by
   have:=h.ch (ζ:=rs) (uc.id w A E nx) tp tq
   simp only [iS] at this;exact this.IM (by rw [BN,tp]) (by rw [tn,tq])
 | .mp g0 _ _,.mp a ks l,b,o,h=>by simp only [TAt] at h
 | .p _,u,b,o,h=>by simp only [mQ]; exact h.ch (uc.id w A E nx) tp tq
 | .m _,u,b,o,h=>by simp only [mQ]; exact h.ch (uc.id w A E nx) tp tq
 | .hole _,u,b,o,h=>by simp only [mQ]; exact h.ch (uc.id w A E nx) tp tq
 | .agg _,.p _,b,o,h=>h
 | .agg _,.m _,b,o,h=>h
 | .agg _,.vec ..,b,o,h=>h.ch (uc.id w A E nx) tp tq
 | .agg _,.mp ..,b,o,h=>by simp only [TAt] at h
 | .agg _,.hole _,b,o,h=>h
 | .vec ..,.p _,b,o,h=>h
 | .vec ..,.m _,b,o,h=>h
 | .vec ..,.agg _,b,o,h=>h.ch (uc.id w A E nx) tp tq
 | .vec ..,.mp ..,b,o,h=>by simp only [TAt] at h
 | .vec ..,.hole _,b,o,h=>h
 | .mp ..,.p _,b,o,h=>h
 | .mp ..,.m _,b,o,h=>h
 | .mp ..,.agg _,b,o,h=>h.ch (uc.id w A E nx) tp tq
 | .mp ..,.vec ..,b,o,h=>h.ch (uc.id w A E nx) tp tq
 | .mp ..,.hole _,b,o,h=>h
theorem XI {ck:Nat→An→An} {rs:An→An} (BN:∀ g a,(ck g a).b=a.b) (tn:∀ g a,(ck g a).cap=a.cap) (tp:∀ a,(rs a).b=a.b) (tq:∀ a,(rs a).cap=a.cap):∀ (l:List (T Nat)) (m:List (T An)) {b o:Nat},cD w A E nx m b o→cD w A E nx (ou ck rs l m) b o
 | x::r,y::q,b,o,h=>by
   simp only [cD,ou] at h ⊢;rw [QW];exact ⟨XH BN tn tp tq x y h.1,XI BN tn tp tq r q h.2⟩
 | [],q,b,o,h=>by simp only [ou]; exact h.ch (uc.id w A E nx) tp tq
 | x::r,[],b,o,h=>by simp only [ou,jw,cD]
end
theorem C72 {ck:Nat→An→An} {rs:An→An} (BN:∀ g a,(ck g a).b=a.b) (tn:∀ g a,(ck g a).cap=a.cap) (tp:∀ a,(rs a).b=a.b) (tq:∀ a,(rs a).cap=a.cap) (t:Option (Obj Nat)) {o:Obj An} (h:OAt w A E nx o):OAt w A E nx (qT ck rs t o):=by
 have plain:=h.ch (ζ:=rs) (uc.id w A E nx) tp tq;cases t with
 | none=>exact plain
 | some t =>
   cases t with
   | cell g0 t =>
     cases o with
     | cell an u =>
       simp only [OAt,qT] at h ⊢;obtain ⟨b,h1,h2,h3⟩:=h;exact ⟨b,by rw [BN]; exact h1,by rw [QW]; exact h2,XH BN tn tp tq t u h3⟩
     | _=>exact plain
   | vec g0 z0 l0 =>
     cases o with
     | vec an z l =>
       simp only [kF,OAt,VB,tp,tq] at plain;simp only [qT,OAt,VB,BN,tn];exact plain
     | _=>exact plain
   | mp g0 ks l0 =>
     cases o with
     | mp an ks l=>simp only [OAt] at h
     | _=>exact plain
   | gone=>exact plain
end
end Go.Mid
namespace Go.Mid
open Go.RowKit
def S0:di:=fun g=>g=0
section
variable (hr h:cj) (ρ:Nat→Nat)
mutual
theorem QX:∀ (v:MV),(na hr h ρ v).cs=v.cs
 | .p _=>rfl
 | .nil _=>rfl
 | .own id path off len g=>by simp only [na]; split <;> (try split) <;> rfl
 | .ptr id np rp g o=>by simp only [na]; split <;> (try split) <;> rfl
 | .fy id path g=>by simp only [na]; split <;> (try split) <;> rfl
 | .agg l=>XJ l
 | .fn _ _=>rfl
 | .eJ _=>rfl
 | .dead _=>rfl
theorem XJ:∀ (l:List MV),MV.da (tD hr h ρ l)=MV.da l
 | []=>rfl
 | x::r=>by simp only [tD,MV.da,QX x,XJ r]
end
theorem XK (v:MV):(na hr h ρ v).isAgg=v.isAgg:=by
 cases v <;> simp only [na] <;> (try split) <;> (try split) <;> rfl
end
section
variable {w w':World} {A A':Nat→Prop} {E E' Ec:dL An} {nx nx':di} {γ:Nat} {h:cj} {d:Option Nat} {ids:List Nat} {ext dG:List (Obj Nat)} {r:MV}
theorem C2C {j:Nat} {o:Obj Nat} (ho:j0 ext dG j=some o):(∃ k,k < dG.length∧j=kG + k)∨(∃ k,k < ext.length∧j=ep + k):=by
 unfold j0 at ho;split at ho
 · have:=(aF.1 ho).1
   exact .inl ⟨j - kG,this,by omega⟩
 · split at ho
   · have:=(aF.1 ho).1
     exact .inr ⟨j - ep,this,by omega⟩
   · cases ho
theorem XL (hl:ext.length=ids.length) (hn:ids.Nodup) (lB:(j6 d dG.length).any ids.contains=false) (kM:ids.length ≤ 1000000) {j:Nat} {o:Obj Nat} (ho:j0 ext dG j=some o) :
 mR (j6 d dG.length) ids (pX (d.getD 0) ids j)=some j:=by
 rcases C2C ho with ⟨k,hk,rfl⟩ | ⟨k,hk,rfl⟩
 · have e:pX (d.getD 0) ids (kG + k)=xG (d.getD 0) k:=by
    unfold pX; rw [if_pos (fX _ _),dy]
   rw [e];unfold mR;rw [Gq (C6c d _) (XD d _ k hk)]
 · rw [hl] at hk;have e:pX (d.getD 0) ids (ep + k)=ids[k]:=by
    unfold pX;rw [if_neg (by simp only [kG,ep]; omega)]
    rw [dy];simp [List.getD,ah hk]
   rw [e];have QY:oX (j6 d dG.length) ids[k]=none:=by
    cases hi:oX (j6 d dG.length) ids[k] with
    | none=>rfl
    | some k' =>
      exfalso;have hm:=bG (Eu hi)
      have:(j6 d dG.length).any ids.contains=true:=List.any_eq_true.2 ⟨_,hm,by simp⟩
      rw [lB] at this; cases this
   unfold mR;rw [QY,Gq hn (ah hk)]
def BO (γ:Nat) (h:cj) (es ids:List Nat) (E E':dL An):dL An:=fun i=>match mR es ids i with
 | some j=>(E' j).map (qT (wu γ) (mV γ) (if kG ≤ j then none else h i))
 | none=>E i
def vp (γ:Nat) (h:cj) (es ids:List Nat) (φ:MV→MV) (E E':dL An):dL An:=fun i=>match mR es ids i with
 | some j=>(E' j).map (fun o=>kF φ (zA fun a=>a) (qT (wu γ) (mV γ) (if kG ≤ j then none else h i) o))
 | none=>E i
theorem QZ {es:List Nat} {φ:MV→MV} (i:Nat) (np:Option (List Nat)):fg (vp γ h es ids φ E E' i) np=fg (BO γ h es ids E E' i) np:=by
 unfold vp BO;cases mR es ids i with
 | none=>rfl
 | some j =>
   simp only;cases E' j with
   | none=>rfl
   | some o =>
     simp only [ak];rw [QQ];cases fg (some (qT (wu γ) (mV γ) (if kG ≤ j then none else h i) o)) np with
     | none=>rfl
     | some y=>rfl
theorem C9O (m:MR w A E h nx) (m':MR w' A' E' (j0 ext dG) nx') (es:List Nat) (i:Nat) :
 (match mR es ids i with | some j=>(j0 ext dG j).map (qL γ h i j) | none=>h i)=(BO γ h es ids E E' i).map (Obj.mapA An.g):=by
 unfold BO;cases mR es ids i with
 | none=>exact m.er i
 | some j =>
   simp only [m'.er j,ko];cases E' j with
   | none=>rfl
   | some o =>
     simp only [ak,Function.comp,qL];congr 1;exact (Xz An.g (wu γ) (mV γ) (uE γ) (xE γ) (fun _ _=>rfl) (fun _=>rfl) _ o).symm
structure Entry (E Ec:dL An) (ids:List Nat):Prop where
 nd:ids.Nodup
 node:∀ (k i:Nat) (np:Option (List Nat)) (y:An×Option Nat),ids[k]?=some i→fg (Ec (ep + k)) np=some y→∃ y0,fg (E i) np=some y0∧y.2=y0.2∧y.1.b=y0.1.b∧y.1.cap=y0.1.cap
 own:∀ b,jq Ec b→∃ i,i ∈ ids∧∃ o,E i=some o∧b ∈ o.blk
theorem C73 (hγ:¬ nx γ) (m:MR w A E h nx) (en:Entry E Ec ids) (g:gE w A Ec S0 w' A' E') (hl:ext.length=ids.length) (kM:ids.length ≤ 1000000) (m':MR w' A' E' (j0 ext dG) nx') (es:List Nat) (φ:MV→MV):oO nx E (vp γ h es ids φ E E'):=by
 intro i np an z bW hg;rw [QZ] at bW;unfold BO at bW;cases hs:mR es ids i with
 | none=>simpa only [hs] using bW
 | some j =>
   simp only [hs] at bW;cases ud:E' j with
   | none =>
     rw [ud] at bW;exfalso;cases np with
     | none=>cases bW
     | some p=>cases p <;> cases bW
   | some o =>
     simp only [ud,ak] at bW;obtain ⟨h1,h2⟩:=QU (wu γ) (mV γ) (if kG ≤ j then none else h i) o np
     cases Ei:fg (some o) np with
     | none=>rw [h2 Ei] at bW; cases bW
     | some y0 =>
       obtain ⟨y,hy,hz,nS⟩:=h1 y0 Ei;rw [hy] at bW;cases bW;rcases nS with nS | ⟨g0,z0,hold,nS⟩
       · simp only at nS; rw [nS] at hg; exact (hγ hg).elim
       · simp only at nS hz;rcases MD hs with ⟨k,_,rfl⟩ | ⟨_,k,hk,rfl⟩
         · rw [if_pos (by omega)] at hold
           exfalso;cases np with
           | none=>cases hold
           | some p=>cases p <;> cases hold
         · have nR:k < ids.length:=(aF.1 hk).1;rw [if_neg (by simp only [kG,ep]; omega)] at hold
           by_cases xQ:y0.1.g=0
           · have Q0:=g.ns (ep + k) np y0.1 y0.2 (by rw [ud]; exact Ei) xQ
             obtain ⟨y1,CE,CX,nY,pB⟩:=en.node k i np _ hk Q0;have IP:fg (h i) np=some (y1.1.g,y1.2):=by rw [m.er i,QV,CE]; rfl
             rw [IP] at hold;simp only [aa,ae] at hold;obtain ⟨rfl,_⟩:=hold;rw [CE];obtain ⟨⟨g1,b1,c1⟩,zz1⟩:=y1;obtain ⟨⟨gg,bb,cc⟩,zz0⟩:=y0;simp only at xQ nY pB CX hz nS;subst xQ nY pB CX;rw [nS,hz];rfl
           · have:an.g=γ:=by rw [nS]; simp only [wu,uE,if_neg xQ]
             rw [this] at hg; exact (hγ hg).elim
theorem XM (m:MR w A E h nx) {es:List Nat} {i:Nat} {np:Option (List Nat)} {y:An×Option Nat} (bW:fg (BO γ h es ids E E' i) np=some y):(nx.add γ) y.1.g:=by
 have old:∀ {g0 z0},fg (h i) np=some (g0,z0)→nx g0:=by
  intro g0 z0 h1;rw [m.er i,QV] at h1;cases hE:E i with
  | none =>
    rw [hE] at h1;cases np with
    | none=>cases h1
    | some p=>cases p <;> cases h1
  | some o =>
    rw [hE] at h1;cases hn:fg (some o) np with
    | none=>rw [hn] at h1; cases h1
    | some y1 =>
      rw [hn] at h1;simp only [ak,aa,ae] at h1;rw [← h1.1];exact XF (m.st i o hE) hn
 unfold BO at bW;cases hs:mR es ids i with
 | none =>
   simp only [hs] at bW;cases hE:E i with
   | none =>
     rw [hE] at bW;exfalso;cases np with
     | none=>cases bW
     | some p=>cases p <;> cases bW
   | some o=>rw [hE] at bW; exact .inl (XF (m.st i o hE) bW)
 | some j =>
   simp only [hs] at bW;cases ud:E' j with
   | none =>
     rw [ud] at bW;exfalso;cases np with
     | none=>cases bW
     | some p=>cases p <;> cases bW
   | some o =>
     simp only [ud,ak] at bW;obtain ⟨h1,h2⟩:=QU (wu γ) (mV γ) (if kG ≤ j then none else h i) o np
     cases Ei:fg (some o) np with
     | none=>rw [h2 Ei] at bW; cases bW
     | some y0 =>
       obtain ⟨y',hy,hz,nS⟩:=h1 y0 Ei;rw [hy] at bW;cases bW;rcases nS with nS | ⟨g0,z0,hold,nS⟩
       · rw [nS]; exact .inr rfl
       · rw [nS];simp only [wu,uE];split
         · split at hold
           · exfalso;cases np with
             | none=>cases hold
             | some p=>cases p <;> cases hold
           · exact .inl (old hold)
         · exact .inr rfl
section
theorem XN (m:MR w A E h nx) (m':MR w' A' E' (j0 ext dG) nx') (hl:ext.length=ids.length) (hn:ids.Nodup) (lB:(j6 d dG.length).any ids.contains=false) (kM:ids.length ≤ 1000000) {j:Nat} {np:Option (List Nat)} {y0:An×Option Nat} (bW:fg (E' j) np=some y0) (φ:MV→MV) :
 ∃ y,fg (vp γ h (j6 d dG.length) ids φ E E' (pX (d.getD 0) ids j)) np=some y∧y.2=y0.2∧y.1.b=y0.1.b∧y.1.cap=y0.1.cap∧(nx.add γ) y.1.g ∧
  fg (match mR (j6 d dG.length) ids (pX (d.getD 0) ids j) with | some j'=>(j0 ext dG j').map (qL γ h (pX (d.getD 0) ids j) j') | none=>h (pX (d.getD 0) ids j)) np=some (y.1.g,y.2):=by
 cases ud:E' j with
 | none =>
   rw [ud] at bW;exfalso;cases np with
   | none=>cases bW
   | some p=>cases p <;> cases bW
 | some o =>
   have y7:j0 ext dG j=some (o.mapA An.g):=by rw [m'.er j,ud]; rfl
   have jB:=XL (d:=d) hl hn lB kM y7;rw [ud] at bW;obtain ⟨y,hy,hz,nS⟩:=(QU (wu γ) (mV γ) (if kG ≤ j then none else h (pX (d.getD 0) ids j)) o np).1 y0 bW
   have hm:fg (BO γ h (j6 d dG.length) ids E E' (pX (d.getD 0) ids j)) np=some y:=by
    unfold BO;simp only [jB,ud,ak];exact hy
   refine ⟨y,by rw [QZ]; exact hm,hz,?_,?_,XM m hm,?_⟩
   · rcases nS with nS | ⟨_,_,_,nS⟩ <;> rw [nS] <;> rfl
   · rcases nS with nS | ⟨_,_,_,nS⟩ <;> rw [nS] <;> rfl
   · have:=C9O (γ:=γ) (ids:=ids) m m' (j6 d dG.length) (pX (d.getD 0) ids j)
     rw [this,QV,hm];rfl
mutual
theorem bQ.fresh (m:MR w A E h nx) (m':MR w' A' E' (j0 ext dG) nx') (hl:ext.length=ids.length) (hn:ids.Nodup) (lB:(j6 d dG.length).any ids.contains=false) (kM:ids.length ≤ 1000000) (φ:MV→MV):∀ {v:MV} {val:Value},bQ w' A' E' nx' v val→bQ w' A' (vp γ h (j6 d dG.length) ids φ E E') (nx.add γ)
 (na (j0 ext dG) (fun i=>match mR (j6 d dG.length) ids i with | some j=>(j0 ext dG j).map (qL γ h i j) | none=>h i) (pX (d.getD 0) ids) v) val
 | .p v,val,k=>by simp only [bQ,na] at k ⊢; exact k
 | .nil _,val,k=>by simp only [bQ,na] at k ⊢; exact k
 | .own id path off len g,val,k=>by
   simp only [bQ] at k;obtain ⟨hg,a,cap,rfl,hc,hh⟩:=k;simp only [na];split
   · rename_i kL;unfold uC at kL;split at kL
     · rename_i g' z' l' iC;obtain ⟨CW,lA,nm,rfl,_⟩:=m'.vec iC;simp only [beq_iff_eq] at kL;subst kL;obtain ⟨y,h1,h2,h3,h4,h5,h6⟩:=XN (γ:=γ) (d:=d) m m' hl hn lB kM (sL nm) φ;rw [h6];simp only [bQ];refine ⟨h5,a,cap,rfl,hc,fun an z bW _=>?_⟩
       rw [h1] at bW;cases bW;simp only at h2 h3 h4;have h0:=hh CW z' (sL nm) rfl;simp only [aa] at h2;subst h2;exact Mz h3 h4 h0
     · cases kL
   · simp only [bQ]
 | .ptr id np rp g o,val,k=>by
   simp only [bQ] at k;obtain ⟨hg,a,rfl,hh⟩:=k;simp only [na];split
   · rename_i kL;unfold xD at kL;split at kL
     · rename_i t s o' hlk;obtain ⟨CW,tA,nW,rfl,_⟩:=m'.look hlk;simp only [aj,beq_iff_eq] at kL;obtain ⟨rfl,rfl⟩:=kL;obtain ⟨z0,gV⟩:=F5 nW;obtain ⟨y,h1,h2,h3,h4,h5,h6⟩:=XN (γ:=γ) (d:=d) m m' hl hn lB kM gV φ;rw [h6];simp only [bQ];refine ⟨h5,a,rfl,fun an z bW _=>?_⟩
       rw [h1] at bW;cases bW;simp only at h3;obtain ⟨b,hb,rfl⟩:=hh CW z0 gV rfl;exact ⟨b,by rw [h3,hb],rfl⟩
     · cases kL
   · simp only [bQ]
 | .fy ..,val,k=>by simp only [bQ] at k
 | .agg l,val,k=>by
   simp only [bQ,na] at k ⊢;obtain ⟨cs,rfl,k⟩:=k;exact ⟨cs,rfl,dV.fresh m m' hl hn lB kM φ k⟩
 | .fn f l,val,k=>by
   simp only [bQ,na] at k ⊢;obtain ⟨vs,rfl,k⟩:=k;exact ⟨vs,rfl,c8.fresh m m' hl hn lB kM φ k⟩
 | .eJ l,val,k=>by
   simp only [bQ,na] at k ⊢;obtain ⟨vs,rfl,k⟩:=k;exact ⟨vs,rfl,c8.fresh m m' hl hn lB kM φ k⟩
 | .dead _,val,k=>by simp only [bQ,na]
theorem dV.fresh (m:MR w A E h nx) (m':MR w' A' E' (j0 ext dG) nx') (hl:ext.length=ids.length) (hn:ids.Nodup) (lB:(j6 d dG.length).any ids.contains=false) (kM:ids.length ≤ 1000000) (φ:MV→MV):∀ {l:List MV} {cs:List Value},dV w' A' E' nx' l cs→dV w' A' (vp γ h (j6 d dG.length) ids φ E E') (nx.add γ)
 (tD (j0 ext dG) (fun i=>match mR (j6 d dG.length) ids i with | some j=>(j0 ext dG j).map (qL γ h i j) | none=>h i) (pX (d.getD 0) ids) l) cs
 | [],cs,k=>by simp only [dV,tD] at k ⊢; exact k
 | x::r,cs,k=>by
   simp only [dV,tD] at k ⊢;obtain ⟨v,d',rfl,h1,h2,h3,h4⟩:=k;refine ⟨v,d',rfl,by rw [QX]; exact h1,fun c hc=>?_,bQ.fresh m m' hl hn lB kM φ h3,dV.fresh m m' hl hn lB kM φ h4⟩
   rw [XK];rcases h2 c hc with h5 | ⟨n,rfl⟩
   · exact .inl h5
   · exact .inr ⟨n,rfl⟩
theorem c8.fresh (m:MR w A E h nx) (m':MR w' A' E' (j0 ext dG) nx') (hl:ext.length=ids.length) (hn:ids.Nodup) (lB:(j6 d dG.length).any ids.contains=false) (kM:ids.length ≤ 1000000) (φ:MV→MV):∀ {l:List MV} {vs:List Value},c8 w' A' E' nx' l vs→c8 w' A' (vp γ h (j6 d dG.length) ids φ E E') (nx.add γ)
 (tD (j0 ext dG) (fun i=>match mR (j6 d dG.length) ids i with | some j=>(j0 ext dG j).map (qL γ h i j) | none=>h i) (pX (d.getD 0) ids) l) vs
 | [],vs,k=>by simp only [c8,tD] at k ⊢; exact k
 | x::r,vs,k=>by
   simp only [c8,tD] at k ⊢;obtain ⟨v,d',rfl,h1,h2⟩:=k;exact ⟨v,d',rfl,bQ.fresh m m' hl hn lB kM φ h1,c8.fresh m m' hl hn lB kM φ h2⟩
end
end
theorem XO {v:MV} {h2:cj} {val:Value} (hγ:¬ nx γ) (m:MR w A E h nx) (en:Entry E Ec ids) (g:gE w A Ec S0 w' A' E') (m':MR w' A' E' (j0 ext dG) nx') (ht:yu γ d h ids r ext dG=some (v,h2)) (hv:bQ w' A' E' nx' r val) :
 ∃ E2,MR w' A' E2 h2 (nx.add γ)∧gE w A E nx w' A' E2∧bQ w' A' E2 (nx.add γ) v val:=by
 unfold yu at ht
 dsimp only at ht
 split at ht
 · cases ht
 · rename_i dS;simp only [not_or,ne_eq,Decidable.not_not,Bool.not_eq_true,Nat.not_lt] at dS;obtain ⟨hl,_,lB,kM,_⟩:=dS;simp only [aa,ae] at ht;obtain ⟨rfl,rfl⟩:=ht;have hn:=en.nd
   let DW:cj:=fun i=>match mR (j6 d dG.length) ids i with | some j=>(j0 ext dG j).map (qL γ h i j) | none=>h i
   let φ:MV→MV:=na (j0 ext dG) DW (pX (d.getD 0) ids)
   have vm:=C73 hγ m en g hl kM m' (j6 d dG.length) φ;have c:uc w' A' E' nx' (vp γ h (j6 d dG.length) ids φ E E') (nx.add γ) φ:=⟨fun v val k=>bQ.fresh m m' hl hn lB kM φ k,QX _ _ _,XK _ _ _⟩
   have ME:∀ b,jq Ec b→jq E b:=fun b hb=>by obtain ⟨i,_,o,ho,lV⟩:=en.own b hb; exact ⟨i,o,ho,lV⟩
   have Ev:∀ b,A b→w'.heap[b]?=w.heap[b]?:=fun b hb=>g.bm b (m.im b hb) fun ho=>(m.lt b (ME b ho)).2 hb
   have f:Fr w w' A A' E (vp γ h (j6 d dG.length) ids φ E E') nx (nx.add γ):=⟨g.sub,Ev,vm,nx.eH γ⟩;have sT:∀ i o,mR (j6 d dG.length) ids i=none→E i=some o→∀ b ∈ o.blk,¬ jq Ec b:=by
    intro i o hs ho b hb hc;obtain ⟨i',eN,o',oH,jr⟩:=en.own b hc;by_cases e:i=i'
    · subst e; exact (C6d hs).2 eN
    · exact m.dj i i' o o' e ho oH b hb jr
   have get:∀ {i o},vp γ h (j6 d dG.length) ids φ E E' i=some o→(mR (j6 d dG.length) ids i=none∧E i=some o)∨∃ j o0,mR (j6 d dG.length) ids i=some j∧E' j=some o0∧o=kF φ (zA fun a=>a) (qT (wu γ) (mV γ) (if kG ≤ j then none else h i) o0):=by
    intro i o ho;unfold vp at ho;cases hs:mR (j6 d dG.length) ids i with
    | none=>simp only [hs] at ho; exact .inl ⟨rfl,ho⟩
    | some j =>
      simp only [hs] at ho;cases ud:E' j with
      | none=>rw [ud] at ho; cases ho
      | some o0=>rw [ud] at ho; simp only [ak,aa] at ho; exact .inr ⟨j,o0,rfl,ud,ho.symm⟩
   have ue:∀ t (o0:Obj An),(kF φ (zA fun a=>a) (qT (wu γ) (mV γ) t o0)).blk=o0.blk:=by
    intro t o0;rw [Er _ _ (by intro an; rfl),C6b _ _ (D4Y γ) (by intro an; rfl)]
   have owned:∀ b,jq (vp γ h (j6 d dG.length) ids φ E E') b→(∃ i o,mR (j6 d dG.length) ids i=none∧E i=some o∧b ∈ o.blk)∨jq E' b:=by
    rintro b ⟨i,o,ho,hb⟩;rcases get ho with ⟨hs,ho⟩ | ⟨j,o0,hs,hq,rfl⟩
    · exact .inl ⟨i,o,hs,ho,hb⟩
    · rw [ue] at hb; exact .inr ⟨j,o0,hq,hb⟩
   refine ⟨vp γ h (j6 d dG.length) ids φ E E',?_,?_,c.val r val hv⟩
   · constructor
     · intro i;unfold vp;cases hs:mR (j6 d dG.length) ids i with
       | none=>simp only; exact m.er i
       | some j =>
         simp only [m'.er j,ko];cases E' j with
         | none=>rfl
         | some o =>
           simp only [ak,Function.comp,qL];congr 1;rw [Xt,Xz An.g (wu γ) (mV γ) (uE γ) (xE γ) (fun _ _=>rfl) (fun _=>rfl)]
           rfl
     · intro i o ho;rcases get ho with ⟨hs,ho⟩ | ⟨j,o0,hs,hq,rfl⟩
       · exact OAt.frame f (fun x hx=>g.bm x (m.j3 ho hx).1 (sT i o hs ho x hx)) (m.at_ i o ho)
       · exact (C72 (ck:=wu γ) (rs:=mV γ) (fun _ _=>rfl) (fun _ _=>rfl) (fun _=>rfl) (fun _=>rfl) _ (m'.at_ j o0 hq)).ch (ζ:=zA fun a=>a) c (fun _=>rfl) (fun _=>rfl)
     · intro b hb;rcases owned b hb with ⟨i,o,hs,ho,lV⟩ | hb
       · have h1:=m.j3 ho lV;refine ⟨bp h1.1 g.size,fun hA=>?_⟩
         rcases g.Al b h1.1 hA with h2 | h2
         · exact h1.2 h2
         · exact sT i o hs ho b lV h2
       · exact m'.lt b hb
     · intro i o ho;rcases get ho with ⟨hs,ho⟩ | ⟨j,o0,hs,hq,rfl⟩
       · exact m.nd i o ho
       · rw [ue]; exact m'.nd j o0 hq
     · intro i i' o o' eA ho oH b hb jr;rcases get ho with ⟨hs,ho⟩ | ⟨j,o0,hs,hq,rfl⟩ <;> rcases get oH with ⟨D3,oH⟩ | ⟨j',XP,D3,XQ,rfl⟩
       · exact m.dj i i' o o' eA ho oH b hb jr
       · rw [ue] at jr;exact sT i o hs ho b hb (g.own b (m.j3 ho hb).1 ⟨j',XP,XQ,jr⟩)
       · rw [ue] at hb;exact sT i' o' D3 oH b jr (g.own b (m.j3 oH jr).1 ⟨j,o0,hq,hb⟩)
       · rw [ue] at hb jr;by_cases e:j=j'
         · subst e;have hr:j0 ext dG j=some (o0.mapA An.g):=by rw [m'.er j,hq]; rfl
           rcases MD hs with ⟨k,hk,rfl⟩ | ⟨_,k,hk,rfl⟩ <;> rcases MD D3 with ⟨k',nR,e⟩ | ⟨_,k',nR,e⟩
           · have:k=k':=by omega
             subst this; rw [hk] at nR; exact eA (b9 nR)
           · have:=(aF.1 nR).1
             simp only [kG,ep] at e; omega
           · have:=(aF.1 hk).1
             simp only [kG,ep] at e; omega
           · have:k=k':=by omega
             subst this; rw [hk] at nR; exact eA (b9 nR)
         · exact m'.dj j j' o0 XP e hq XQ b hb jr
     · exact m'.im
     · intro i o ho;refine B9C fun np y hy=>?_
       have:fg (vp γ h (j6 d dG.length) ids φ E E' i) np=some y:=by rw [ho]; exact hy
       rw [QZ] at this;exact XM m this
   · refine ⟨g.os,g.tape,g.output,g.size,fun b hb ho=>g.bm b hb fun hc=>ho (ME b hc),g.sub,fun b hb hA=>(g.Al b hb hA).imp (fun h=>h) (ME b),?_,vm⟩
     intro b eF hb;rcases owned b hb with ⟨i,o,_,ho,lV⟩ | hb
     · exact ⟨i,o,ho,lV⟩
     · exact ME b (g.own b eF hb)
end
end Go.Mid
namespace Go.Mid
open Go.RowKit
def Q1 (P:Program) (o:Oper) (a:Act) (w:World) (A:Nat→Prop) (E:dL An) (nx:di) (γ:Nat) (v:MV) (h':cj):Prop :=
 ∀ (next:Act→World→Prop) (Q:Exit→Act→World→Prop),(∀ val w' A' E',bQ w' A' E' (nx.add γ) v val→MR w' A' E' h' (nx.add γ)→gE w A E nx w' A' E'→next (a.put o.dst val) w')→o.wp P a w next Q
theorem cC.wp {P:Program} {o:Oper} {a:Act} {w:World} {A:Nat→Prop} {E:dL An} {nx:di} {γ:Nat} {v:MV} {h':cj} (k:cC P o a w A E nx γ v h'):Q1 P o a w A E nx γ v h':=by
 intro next Q qp
 obtain ⟨val,w',A',E',hr,h1,h2,h3⟩:=k;rcases hr with hr | ⟨hr,rfl⟩
 · exact PH hr (qp val w' A' E' h1 h2 h3)
 · exact C5Z hr (qp undef w' A' E' h1 h2 h3)
def Ew (P:Program) (f:Nat):Prop:=∃ fn,P.funcs[f]?=some fn∧(fn.name == "runtime.NumGoroutine")=false∧fn.body.isNone=false
def AH (P:Program) (K:jl):Prop:=∀ f args ext r ext' dG,K f args ext=some (r,ext',dG)→Ew P f ∧
 ∀ (w:World) (A:Nat→Prop) (E:dL An) (gP:List Value),GL P w A→c8 w A E S0 args gP→MR w A E (nc ext) S0 →
  Calls P f gP.toArray w fun e w'=>∃ v,e=.returned v∧∃ A' E' nx',MR w' A' E' (j0 ext' dG) nx'∧gE w A E S0 w' A' E'∧bQ w' A' E' nx' r v
section
variable {w:World} {A A':Nat→Prop} {E:dL An} {nx:di}
mutual
theorem Q2:∀ {v:PV} {cs:List Value},u6 v=true→dR w A' v cs→dR w A v cs
 | .int ..,cs,_,h=>by simpa only [dR] using h
 | .bool _,cs,_,h=>by simpa only [dR] using h
 | .str _,cs,_,h=>by simpa only [dR] using h
 | .agg l,cs,hf,h=>by simp only [dR] at h ⊢; exact XR (by simpa only [u6] using hf) h
 | .sl _,cs,hf,h=>by simp [u6] at hf
 | .ref _,cs,hf,h=>by simp [u6] at hf
 | .fn ..,cs,hf,h=>by simp [u6] at hf
 | .mp ..,cs,hf,h=>by simp [u6] at hf
 | .eQ,cs,_,h=>by simpa only [dR] using h
 | .ff,cs,_,h=>by simpa only [dR] using h
theorem XR:∀ {l:List PV} {cs:List Value},DJ l=true→cK w A' l cs→cK w A l cs
 | [],cs,_,h=>by simpa only [cK] using h
 | x::r,cs,hf,h=>by
   simp only [cK] at h ⊢;simp only [DJ,aj] at hf;obtain ⟨c,d,rfl,h1,h2⟩:=h;exact ⟨c,d,rfl,Q2 hf.1 h1,XR hf.2 h2⟩
end
theorem C9Q {v:PV} {val:Value} (hf:u6 v=true) (h:oZ w A' v val):oZ w A v val:=by
 obtain ⟨c,h1,h2⟩:=h;exact ⟨c,Q2 hf h1,h2⟩
mutual
theorem Q3:∀ {v:MV} {val:Value},uG v=true→bQ w A' E nx v val→bQ w A E nx v val
 | .p v,val,hf,h=>by simp only [bQ] at h ⊢; exact C9Q (by simpa only [uG] using hf) h
 | .nil _,val,_,h=>by simpa only [bQ] using h
 | .own ..,val,_,h=>by simpa only [bQ] using h
 | .ptr ..,val,_,h=>by simpa only [bQ] using h
 | .fy ..,val,_,h=>by simp only [bQ] at h
 | .agg l,val,hf,h=>by
   simp only [bQ] at h ⊢;obtain ⟨cs,rfl,h⟩:=h;exact ⟨cs,rfl,XS (by simpa only [uG] using hf) h⟩
 | .fn f l,val,hf,h=>by
   simp only [bQ] at h ⊢;obtain ⟨vs,rfl,h⟩:=h;exact ⟨vs,rfl,Q4 (by simpa only [uG] using hf) h⟩
 | .eJ l,val,hf,h=>by
   simp only [bQ] at h ⊢;obtain ⟨vs,rfl,h⟩:=h;exact ⟨vs,rfl,Q4 (by simpa only [uG] using hf) h⟩
 | .dead _,val,_,h=>by simp only [bQ]
theorem XS:∀ {l:List MV} {cs:List Value},Bc l=true→dV w A' E nx l cs→dV w A E nx l cs
 | [],cs,_,h=>by simpa only [dV] using h
 | x::r,cs,hf,h=>by
   simp only [dV] at h ⊢;simp only [Bc,aj] at hf;obtain ⟨v,d,rfl,h1,h2,h3,h4⟩:=h;exact ⟨v,d,rfl,h1,h2,Q3 hf.1 h3,XS hf.2 h4⟩
theorem Q4:∀ {l:List MV} {vs:List Value},Bc l=true→c8 w A' E nx l vs→c8 w A E nx l vs
 | [],vs,_,h=>by simpa only [c8] using h
 | x::r,vs,hf,h=>by
   simp only [c8] at h ⊢;simp only [Bc,aj] at hf;obtain ⟨v,d,rfl,h1,h2⟩:=h;exact ⟨v,d,rfl,Q3 hf.1 h1,Q4 hf.2 h2⟩
end
mutual
theorem XT:∀ {t:T An} {b o:Nat},yq t=true→TAt w A' E nx t b o→TAt w A E nx t b o
 | .p v,b,o,hf,h=>by simp only [TAt] at h ⊢; obtain ⟨cs,h1,h2⟩:=h; exact ⟨cs,Q2 (by simpa only [yq] using hf) h1,h2⟩
 | .m v,b,o,hf,h=>by simp [yq] at hf
 | .agg l,b,o,hf,h=>by simp only [TAt] at h ⊢; exact MF (by simpa only [yq] using hf) h
 | .vec an z l n,b,o,hf,h=>by
   simp only [TAt] at h ⊢;simp only [yq] at hf;obtain ⟨a,cap,h1,h2,h3,h4⟩:=h;refine ⟨a,cap,h1,h2,h3,?_⟩;cases hb:an.b with
   | none=>simpa only [hb] using h4
   | some b'=>simp only [hb] at h4 ⊢; exact ⟨h4.1,h4.2.1,h4.2.2.1,MF hf h4.2.2.2⟩
 | .mp ..,b,o,hf,h=>by simp only [TAt] at h
 | .hole n,b,o,_,h=>by simpa only [TAt] using h
theorem MF:∀ {l:List (T An)} {b o:Nat},uF l=true→cD w A' E nx l b o→cD w A E nx l b o
 | [],b,o,_,h=>by simp only [cD]
 | t::r,b,o,hf,h=>by
   simp only [cD] at h ⊢;simp only [uF,aj] at hf;exact ⟨XT hf.1 h.1,MF hf.2 h.2⟩
end
theorem C9R {o:Obj An} (hf:tE o=true) (h:OAt w A' E nx o):OAt w A E nx o:=by
 cases o with
 | cell an t=>simp only [OAt] at h ⊢; obtain ⟨b,h1,h2,h3⟩:=h; exact ⟨b,h1,h2,XT (by simpa only [tE] using hf) h3⟩
 | vec an z l =>
   simp only [OAt,VB] at h ⊢;simp only [tE] at hf;cases hb:an.b with
   | none=>simpa only [hb] using h
   | some b'=>simp only [hb] at h ⊢; exact ⟨h.1,h.2.1,h.2.2.1,MF hf h.2.2.2⟩
 | mp=>simp only [OAt] at h
 | gone=>trivial
end
section
variable {α β:Type} (f:α→β)
mutual
theorem XU:∀ (t:T α),yq (t.mapA f)=yq t
 | .p _=>rfl
 | .m _=>rfl
 | .agg l=>IQ l
 | .vec _ _ l _=>IQ l
 | .mp _ _ l=>IQ l
 | .hole _=>rfl
theorem IQ:∀ (l:List (T α)),uF (T.cI f l)=uF l
 | []=>rfl
 | x::r=>by simp only [T.cI,uF,XU x,IQ r]
end
theorem C6e (o:Obj α):tE (o.mapA f)=tE o:=by
 cases o <;> simp only [Obj.mapA,tE,XU,IQ]
end
theorem Q5 {l:List Nat} {x:Nat}:x ∈ yp l↔x ∈ l:=by
 induction l with
 | nil=>rfl
 | cons y r ih =>
   simp only [yp];split
   · rename_i h
     have:y ∈ yp r:=by simpa using h
     simp only [aE,← ih];exact ⟨.inr,fun h=>h.elim (fun e=>e ▸ this) id⟩
   · simp only [aE,ih]
theorem Q6 (l:List Nat):(yp l).Nodup:=by
 induction l with
 | nil=>exact gf
 | cons y r ih =>
   simp only [yp];split
   · exact ih
   · rename_i h;exact List.nodup_cons.2 ⟨by simpa using h,ih⟩
theorem IU {h:cj}:∀ {ids:List Nat} {qa:List (Obj Nat)},sn h ids=some qa→∀ k:Nat,qa[k]?=(ids[k]?).bind h
 | [],qa,hg,k=>by simp only [sn,aa] at hg; subst hg; simp
 | i::r,qa,hg,k=>by
   simp only [sn] at hg;split at hg
   · rename_i o os h1 h2;cases hg;cases k with
     | zero=>simp [h1]
     | succ k=>simpa using IU h2 k
   · cases hg
section
variable {P:Program} {o:Oper} {a:Act} {w:World} {A:Nat→Prop} {E:dL An} {nx:di} {γ:Nat} {v:MV} {h h':cj} {s:gD} {K:jl} {d:Option Nat}
theorem c8.append:∀ {l m:List MV} {vs ws:List Value},c8 w A E nx l vs→c8 w A E nx m ws→c8 w A E nx (l++m) (vs++ws)
 | [],m,vs,ws,h1,h2=>by simp only [c8] at h1; subst h1; exact h2
 | x::r,m,vs,ws,h1,h2=>by
   simp only [c8,aS] at h1 ⊢;obtain ⟨u,d,rfl,h3,h4⟩:=h1;exact ⟨u,d++ws,rfl,h3,h4.append h2⟩
theorem XV {c:Call} {fo:Operand} {f:Nat} {first iR:Array Value} (ho:o.op=.call c) (hc:c.callee=.value fo) (hv:a.eval fo=.func (.func f) first iR) (he:Ew P f) :
 (execOp a.eval o).run P w=.ok (.enter f (first++c.args.map a.eval++iR)) w:=by
 obtain ⟨fn,h1,h2,h3⟩:=he;simp only [execOp,ho,resolve,hc,hv,Deferred.ofValue,bn,bL,aV,invoke,callFunc,run_program,h1,h2,h3,Bool.false_eq_true,if_false]
theorem C6f {m:MV} {val:Value} {f:Nat} {cs:List MV} (hc:callee m=some (f,cs)) (hv:bQ w A E nx m val):∃ iR:List Value,val=vf f iR.toArray∧c8 w A E nx cs iR:=by
 unfold callee at hc;split at hc
 · cases hc;obtain ⟨vs,rfl,h1⟩:=LS.1 hv;exact ⟨vs,rfl,yJ.2 h1⟩
 · cases hc;simp only [bQ] at hv;obtain ⟨vs,rfl,h1⟩:=hv;exact ⟨vs,rfl,h1⟩
 · cases hc
theorem C4x {c:Call} {fo:Operand} {m:MV} {f:Nat} {args al:List MV} (ho:o.op=.call c) (Mm:c.callee=.value fo) (hc:DK m args=some (f,al)) (hv:bQ w A E nx m (a.eval fo)) (ha:c8 w A E nx args (c.args.toList.map a.eval)) :
 ∃ gP:List Value,c8 w A E nx al gP∧(Ew P f→(execOp a.eval o).run P w=.ok (.enter f gP.toArray) w):=by
 unfold DK at hc;split at hc
 · rename_i f0 cs hcal;obtain ⟨iR,Ey,Ap⟩:=C6f hcal hv;split at hc
   · rename_i eF;cases hc;rw [PF eF] at Ey;refine ⟨c.args.toList.map a.eval++iR,ha.append Ap,fun he=>?_⟩
     rw [XV ho Mm Ey he];congr 2;apply gI;simp
   · rename_i wg;simp only [aa,ae] at hc;obtain ⟨rfl,rfl⟩:=hc;rw [V0 (Nat.le_of_not_lt wg)] at Ey;refine ⟨iR++c.args.toList.map a.eval,Ap.append ha,fun he=>?_⟩
     rw [XV ho Mm Ey he];congr 2;apply gI;simp
 · cases hc
theorem MR.none (hA:∀ b,A b→b < w.heap.size):MR w A (fun _=>ja) (nc []) S0 where
 er:=fun i=>by simp [nc]
 at_:=fun i o ho=>by cases ho
 lt:=fun b ⟨i,o,ho,_⟩=>by cases ho
 nd:=fun i o ho=>by cases ho
 dj:=fun i j o o' _ ho=>by cases ho
 im:=hA
 st:=fun i o ho=>by cases ho
theorem Gt {b:Nat}:¬ jq (fun _=>ja) b:=fun ⟨_,_,ho,_⟩=>by cases ho
theorem XW (hK:AH P K) (rY:GL P w A) (m:MR w A E h nx) {f:Nat} {args:List MV} {vs:List PV} {gP:List Value} {r:MV} {dG:List (Obj Nat)} (hp:rz h args=some vs) (hk:K f (vs.map .p) []=some (r,[],dG))
 (hc:(pq args).isSome=true∨(uG r && dG.all tE)=true) (hv:c8 w A E nx args gP) :
 Ew P f∧Calls P f gP.toArray w fun e w'=>∃ v,e=.returned v∧∃ A' E' nx',MR w' A' E' (j0 [] dG) nx'∧gE w A (fun _=>ja) S0 w' A' E'∧bQ w' A' E' nx' r v:=by
 obtain ⟨k1,k2⟩:=hK _ _ _ _ _ _ hk;refine ⟨k1,?_⟩;rcases hc with hc | hc
 · obtain ⟨us,ID⟩:=Option.isSome_iff_exists.1 hc;have e:=CH ID;have fR:vs=us:=by
    have:∀ l:List PV,rz h (l.map .p)=some l:=by
     intro l
     induction l with
     | nil=>rfl
     | cons x r ih=>simp only [aD,rz,mq,ih]
    rw [e,this] at hp;exact (b9 hp).symm
   subst fR;rw [e] at hv;exact k2 w A _ gP rY (yJ.2 (yJ.1 hv)) (MR.none m.im)
 · simp only [aj] at hc;have xL:=Ms (A':=fun b=>A b∨jq E b) m (fun b hb=>.inl hb) hp (fun i _ o ho b hb=>.inr ⟨i,o,ho,hb⟩) hv
   refine (k2 w _ _ gP (rY.frame (fun b hb=>.inl hb) (fun _ _=>rfl)) (yJ.2 xL) (MR.none fun b hb=>hb.elim (m.im b) fun ho=>(m.lt b ho).1)).mono ?_
   rintro e w' ⟨v,rfl,A',E',nx',m',g,h1⟩;refine ⟨v,rfl,A,E',nx',?_,?_,Q3 hc.1 h1⟩
   · have hold:∀ b,jq E' b→¬ A b:=by
      intro b hb hA;exact Gt (g.own b (m.im b hA) hb)
     refine ⟨m'.er,fun i o ho=>?_,fun b hb=>⟨(m'.lt b hb).1,hold b hb⟩,m'.nd,m'.dj,fun b hb=>bp (m.im b hb) g.size,m'.st⟩
     refine C9R ?_ (m'.at_ i o ho);have hr:j0 [] dG i=some (o.mapA An.g):=by rw [m'.er i,ho]; rfl
     have nn:o.mapA An.g ∈ dG:=by
      unfold j0 at hr;split at hr
      · exact bG hr
      · split at hr
        · simp at hr
        · cases hr
     have:=bB.1 hc.2 _ nn
     rwa [C6e] at this
   · exact ⟨g.os,g.tape,g.output,g.size,g.bm,fun _ h=>h,fun _ _ h=>.inl h,g.own,g.ns⟩
theorem C6g (dG:List (Obj Nat)):j0 [] dG=DL dG:=by
 funext i;unfold j0 DL;split
 · rfl
 · split <;> simp
theorem Entry.none (E:dL An):Entry E (fun _=>ja) [] where
 nd:=gf
 node:=fun k i np y h=>by simp at h
 own:=fun b hb=>(Gt hb).elim
theorem C6h (m:MR w A E h nx) {w':World} {A':Nat→Prop} {E':dL An} {nx':di} {hh:cj} (m':MR w' A' E' hh nx') (g:gE w A (fun _=>ja) S0 w' A' E') (γ:Nat) :
 MR w' (fun b=>A' b∨jq E' b) E h (nx.add γ)∧gE w A E nx w' (fun b=>A' b∨jq E' b) E:=by
 have hold:∀ b,b < w.heap.size→w'.heap[b]?=w.heap[b]?:=fun b hb=>g.bm b hb Gt
 have f:Fr w w' A (fun b=>A' b∨jq E' b) E E nx (nx.add γ):=⟨fun b hb=>.inl (g.sub b hb),fun b hb=>hold b (m.im b hb),oO.refl _ _,nx.eH γ⟩
 have IV:∀ b,b < w.heap.size→(A' b∨jq E' b)→A b:=by
  intro b hb h1;rcases h1 with h1 | h1
  · exact (g.Al b hb h1).resolve_right Gt
  · exact (Gt (g.own b hb h1)).elim
 refine ⟨⟨m.er,fun i o ho=>OAt.frame f (fun x hx=>hold x (m.j3 ho hx).1) (m.at_ i o ho),fun b hb=>?_,m.nd,m.dj,fun b hb=>?_,fun i o ho=>Obj.j8 (nx.eH γ) (m.st i o ho)⟩,?_⟩
 · have:=m.lt b hb
   exact ⟨bp this.1 g.size,fun h1=>this.2 (IV b this.1 h1)⟩
 · exact hb.elim (m'.im b) fun ho=>(m'.lt b ho).1
 · exact ⟨g.os,g.tape,g.output,g.size,fun b hb _=>hold b hb,fun b hb=>.inl (g.sub b hb),fun b hb h1=>.inl (IV b hb h1),fun _ _ h=>h,oO.refl _ _⟩
theorem Q7 {f:Nat} {args:Array Value} {R:Ending→World→Prop} {next:Act→World→Prop} {Q:Exit→Act→World→Prop} (hr:(execOp a.eval o).run P w=.ok (.enter f args) w) (hc:Calls P f args w R)
 (hn:∀ e w',R e w'→∃ v,e=.returned v∧next (a.put o.dst v) w'):o.wp P a w next Q:=by
 unfold Oper.wp;rw [hr];refine hc.mono ?_;intro e w' he;obtain ⟨v,rfl,h1⟩:=hn e w' he;exact h1
theorem C9S (hs:pZ P w A E nx s a) (hm:MR w A E h nx) (hγ:¬ nx γ) (hK:AH P K) {c:Call} {fo:Operand} {f':dI} {l:List dI} {t0:TypeId} {ts:List TypeId} {md:Nat} (ho:o.op=.call c) (hc:c.callee=.value fo) (hf:fx P t0 fo=some f') (hl:qE P ts c.args.toList=some l)
 (he:b7 K γ d s h (.call md f' l)=some (v,h')):Q1 P o a w A E nx γ v h':=by
 have hvf:=jM hs hf;have CY:=F3 hs hl;simp only [b7] at he;split at he
 · rename_i f al hcal;obtain ⟨gP,y8,gr⟩:=C4x (P:=P) ho hc hcal hvf CY;split at he
   · -- a IW
     unfold yr at he;split at he
     · rename_i vs fR;split at he
       · rename_i u fr qo;split at he
         · rename_i dS;simp only [aa,ae] at he;obtain ⟨rfl,rfl⟩:=he;unfold xF at qo;split at qo
           · rename_i r dG hk;have Ez:fr=(uG r && dG.all tE):=by
              split at qo
              · split at qo <;> simp only [aa,ae,reduceCtorEq] at qo;exact qo.2.symm
              · split at qo <;> simp only [aa,ae,reduceCtorEq] at qo;exact qo.2.symm
             have nS:(pq al).isSome=true∨(uG r && dG.all tE)=true:=by
              rw [Ez] at dS;simp only [Bool.or_eq_true] at dS;exact dS.symm
             obtain ⟨k1,k2⟩:=XW hK hs.gl hm fR hk nS y8;intro next Q qp
             refine Q7 (gr k1) k2 ?_;rintro e w' ⟨v,rfl,A',E',nx',m',g,h1⟩;refine ⟨v,rfl,?_⟩;obtain ⟨q1,q2⟩:=C6h hm m' g γ;refine qp v w' _ E ?_ q1 q2;rw [C6g] at m';split at qo
             · rename_i ll;split at qo
               · rename_i ws hws;simp only [aa,ae] at qo;rw [← qo.1];simp only [bQ] at h1 ⊢;obtain ⟨vs1,rfl,h1⟩:=h1;refine ⟨vs1,rfl,yJ.2 ?_⟩;exact Ms m' (fun b hb=>.inl hb) hws (fun i _ o ho b hb=>.inr ⟨i,o,ho,hb⟩) h1
               · cases qo
             · split at qo
               · rename_i u1 Gi;simp only [aa,ae] at qo;rw [← qo.1];simp only [bQ];exact CU m' (fun b hb=>.inl hb) Gi (fun i _ o ho b hb=>.inr ⟨i,o,ho,hb⟩) h1
               · cases qo
           · cases qo
         · cases he
       · cases he
     · cases he
   · -- shared memory
     unfold Bd at he
     dsimp only at he
     split at he
     · cases he
     · rename_i qa sx;split at he
       · cases he
       · rename_i r ext dG hk;obtain ⟨k1,k2⟩:=hK _ _ _ _ _ _ hk;generalize BP:jd h (jd h (mu al))=ids at he hk sx k2;have gV:ids.Nodup:=by rw [← BP]; exact Q6 _
         let bk:Nat→Option Nat:=fun j=>if ep ≤ j then ids[j - ep]? else none
         have hρ:∀ i j,tF ids i=some j→bk j=some i:=by
          intro i j hj;unfold tF at hj;cases hi:oX ids i with
          | none=>simp [hi] at hj
          | some k =>
            simp only [hi,ak,aa] at hj;subst hj;simp only [bk];rw [if_pos (fX _ _),dy];exact Eu hi
         have sS:∀ i j j',bk j=some i→bk j'=some i→j=j':=by
          intro i j j' h1 h2;simp only [bk] at h1 h2;split at h1
          · split at h2
            · have e1:=Gq gV h1;have e2:=Gq gV h2;rw [e1] at e2
              have:=b9 e2
              omega
            · cases h2
          · cases h1
         have m1:MR w A (rX E h (tF ids) (fun _=>0) (fun _ _=>0) bk) (y6 h (tF ids) (fun _=>0) (fun _ _=>0) bk) S0:=hm.clean hρ sS (fun _ _=>rfl) (fun _ _ _=>rfl)
         have MG:y6 h (tF ids) (fun _=>0) (fun _ _=>0) bk=nc (qa.map (kF (jT h (tF ids) (fun _=>0)) (fun _=>0))):=by
          funext j;simp only [y6,nc,bk];split
          · rw [aH,IU sx];cases ids[j - ep]? <;> rfl
          · rfl
         rw [MG] at m1;have EA:c8 w A (rX E h (tF ids) (fun _=>0) (fun _ _=>0) bk) S0 (sm h (tF ids) (fun _=>0) al) gP:=c8.clean (nx':=S0) (ζ:=fun _=>0) hm hρ (fun _ _=>rfl) y8
         have y9:=k2 w A _ _ hs.gl EA m1;intro next Q qp
         refine Q7 (gr k1) y9 ?_;rintro e w' ⟨v1,rfl,A',E',nx',m',g,h1⟩;refine ⟨v1,rfl,?_⟩;have en:Entry E (rX E h (tF ids) (fun _=>0) (fun _ _=>0) bk) ids:=by
          refine ⟨gV,fun k i np y hk bW=>?_,fun b hb=>?_⟩
          · have hb:bk (ep + k)=some i:=by
             simp only [bk];rw [if_pos (fX _ _),dy]; exact hk
            rw [IK hb] at bW;cases hn:fg (E i) np with
            | none=>simp [hn] at bW
            | some y0 =>
              simp only [hn,ak,aa] at bW;subst bW;exact ⟨y0,rfl,rfl,rfl,rfl⟩
          · obtain ⟨j,o1,nf,hb⟩:=hb;obtain ⟨i,o0,rH,hE,rfl⟩:=Es nf;rw [Er _ (zA fun _=>0) (fun _=>rfl)] at hb
            simp only [bk] at rH;split at rH
            · exact ⟨i,bG rH,o0,hE,hb⟩
            · cases rH
         obtain ⟨E2,q1,q2,q3⟩:=XO hγ hm en g m' he h1;exact qp v1 w' A' E2 q3 q1 q2
   · -- pure arguments,an owned result
     unfold Ad at he;split at he
     · rename_i vs fR;split at he
       · rename_i r dG hk;split at he
         · rename_i dS;have nS:(pq al).isSome=true∨(uG r && dG.all tE)=true:=by simpa using dS
           obtain ⟨k1,k2⟩:=XW hK hs.gl hm fR hk nS y8;intro next Q qp
           refine Q7 (gr k1) k2 ?_;rintro e w' ⟨v1,rfl,A',E',nx',m',g,h1⟩;refine ⟨v1,rfl,?_⟩;obtain ⟨E2,q1,q2,q3⟩:=XO hγ hm (Entry.none E) g m' he h1;exact qp v1 w' A' E2 q3 q1 q2
         · cases he
       · cases he
     · cases he
 · cases he
end
end Go.Mid
namespace Go.Mid
open Go.RowKit
section
variable {P:Program} {o:Oper} {a:Act} {w:World} {A:Nat→Prop} {E:dL An} {nx:di} {γ:Nat} {v:MV} {h h':cj} {s:gD} {K:jl} {d:Option Nat}
theorem IX {l:List TypeId} {xs:List Operand} {x:dI} (h:qE P l xs=some [x]):∃ y t,xs=[y]∧fx P t y=some x:=by
 cases xs with
 | nil=>cases l <;> simp [qE] at h
 | cons y r =>
   cases l with
   | nil =>
     simp only [qE] at h;split at h
     · rename_i o os h1 h2;cases h;cases r with
       | nil=>exact ⟨y,0,rfl,h1⟩
       | cons z q=>simp only [qE] at h2; split at h2 <;> cases h2
     · cases h
   | cons t ts =>
     simp only [qE] at h;split at h
     · rename_i o os h1 h2;cases h;cases r with
       | nil=>exact ⟨y,t,rfl,h1⟩
       | cons z q=>cases ts <;> (simp only [qE] at h2; split at h2 <;> cases h2)
     · cases h
theorem XX {l:List TypeId} {xs:List Operand} {x x':dI} (h:qE P l xs=some [x,x']):∃ y y' t t',xs=[y,y']∧fx P t y=some x∧fx P t' y'=some x':=by
 cases xs with
 | nil=>cases l <;> simp [qE] at h
 | cons y r =>
   cases l with
   | nil =>
     simp only [qE] at h;split at h
     · rename_i o os h1 h2;cases h;obtain ⟨z,t,rfl,h3⟩:=IX h2;exact ⟨y,z,0,t,rfl,h1,h3⟩
     · cases h
   | cons t ts =>
     simp only [qE] at h;split at h
     · rename_i o os h1 h2;cases h;obtain ⟨z,t',rfl,h3⟩:=IX h2;exact ⟨y,z,t,t',rfl,h1,h3⟩
     · cases h
theorem uO {α:Type} {a:Array α} {l:List α} (h:a.toList=l):a=l.toArray:=by
 apply gI; simpa using h
theorem XY {P:Program} {x:Option Operand} (h:ve P x=some none):x=none:=by
 cases x with
 | none=>rfl
 | some x =>
   simp only [ve] at h;cases hc:fx P 0 x <;> simp [hc] at h
theorem XZ {P:Program} {x:Option Operand} {y:dI} (h:ve P x=some (some y)):∃ z,x=some z∧fx P 0 z=some y:=by
 unfold ve at h;cases x with
 | none=>simp at h
 | some z =>
   simp only at h;split at h
   · rename_i o ho;cases h;exact ⟨z,rfl,ho⟩
   · cases h
variable (hs:pZ P w A E nx s a) (hm:MR w A E h nx) (hγ:¬ nx γ) (hK:AH P K)
include hs hm hγ hK
theorem D27 {m:si} {md:Nat} {mt pz:Bool} (hc:pA P md mt pz o.type o.op=some m) (he:b7 K γ d s h m=some (v,h')):Q1 P o a w A E nx γ v h':=by
 cases eZ:o.op with
 | move x =>
   rw [eZ] at hc; simp only [pA] at hc;split at hc
   · rename_i y hy; cases hc; exact (Wg hs hm (.inl eZ) hy he).wp
   · cases hc
 | assign x =>
   rw [eZ] at hc; simp only [pA] at hc;split at hc
   · rename_i e hu; cases hc; exact (C9I (e:=e) hm hγ eZ he).wp
   · split at hc
     · rename_i y hy; cases hc; exact (Wg hs hm (.inr eZ) hy he).wp
     · cases hc
 | pick c x y =>
   rw [eZ] at hc; simp only [pA] at hc;split at hc
   · rename_i c' x' y' h1 h2 h3; cases hc; exact (C9y hs hm eZ h1 h2 h3 he).wp
   · cases hc
 | alloc t =>
   rw [eZ] at hc; simp only [pA] at hc;split at hc
   · rename_i z hz; cases hc; exact (C7Y hm hγ eZ hz he).wp
   · cases hc
 | box t x =>
   rw [eZ] at hc; simp only [pA] at hc;split at hc
   · rename_i y hy; cases hc; exact (D1F hs hm hγ eZ hy he).wp
   · cases hc
 | build t parts =>
   rw [eZ] at hc; simp only [pA] at hc;split at hc
   · rename_i zc fs hz hu;split at hc
     · rename_i dS;simp only [aj] at dS;split at hc
       · rename_i l hl; cases hc; exact (C58 hs hm eZ hz hu dS.1 dS.2 hl he).wp
       · cases hc
     · cases hc
   · rename_i zc n e hz hu;split at hc
     · rename_i dS;simp only [aj] at dS;split at hc
       · rename_i l hl; cases hc; exact (C59 hs hm eZ hz hu dS.1 dS.2 hl he).wp
       · cases hc
     · cases hc
   · cases hc
 | buildSlice t n parts =>
   rw [eZ] at hc; simp only [pA] at hc;split at hc
   · rename_i e hu;split at hc
     · cases hc
     · rename_i eA;split at hc
       · rename_i zc hz;split at hc
         · rename_i dS;split at hc
           · rename_i l hl;cases hc;have h1:P.cellsOf e ≠ 0:=fun h=>eA (.inl h)
             have h2:n * P.cellsOf e ≤ 16777216:=by
              have:¬ (n * P.cellsOf e > 16777216):=fun h=>eA (.inr h)
              omega
             split at he
             · exact (C9L hs hm hγ eZ hu h1 h2 hz dS.1 dS.2 hl he).wp
             · exact (W2 hs hm hγ eZ hu h1 h2 hz dS.1 dS.2 hl (fun h0=>by simp [h0]) he).wp
           · cases hc
         · cases hc
       · cases hc
   · cases hc
 | load t x =>
   rw [eZ] at hc; simp only [pA] at hc;split at hc
   · rename_i y hy;split at hc
     · rename_i hU; cases hc; exact (C9B hs hm eZ hy hU he).wp
     · cases hc
   · cases hc
 | store t x y =>
   rw [eZ] at hc; simp only [pA] at hc;split at hc
   · rename_i x' y' h1 h2;split at hc
     · rename_i hU; cases hc; exact (C7Z hs hm hγ eZ h1 h2 hU he).wp
     · cases hc
   · cases hc
 | nilCheck x =>
   rw [eZ] at hc; simp only [pA] at hc;split at hc
   · rename_i y hy; cases hc; exact (C9z hs hm eZ hy he).wp
   · cases hc
 | binOp op t x y yt =>
   rw [eZ] at hc; simp only [pA] at hc;split at hc
   · rename_i x' y' h1 h2;split at hc
     · rename_i k hu; cases hc; exact (PL hs hm eZ h1 h2 (.inr (.inl ⟨k,hu⟩)) (by intro h; cases h) he).wp
     · rename_i hu; cases hc; exact (PL hs hm eZ h1 h2 (.inr (.inr hu)) (by intro h; cases h) he).wp
     · rename_i hu; cases hc; exact (PL hs hm eZ h1 h2 (.inl hu) (fun _=>hu) he).wp
     · rename_i fs hu;have hagg:mO P t=true:=by simp only [mO,hu]
       split at hc
       · rename_i td wY; cases hc; exact (LU (neg:=false) hs hm eZ rfl h1 h2 wY hagg he).wp
       · rename_i td wY; cases hc; exact (LU (neg:=true) hs hm eZ rfl h1 h2 wY hagg he).wp
       · cases hc
     · rename_i n e hu;have hagg:mO P t=true:=by simp only [mO,hu]
       split at hc
       · rename_i td wY; cases hc; exact (LU (neg:=false) hs hm eZ rfl h1 h2 wY hagg he).wp
       · rename_i td wY; cases hc; exact (LU (neg:=true) hs hm eZ rfl h1 h2 wY hagg he).wp
       · cases hc
     · rename_i e hu;split at hc
       · cases hc; exact (Wi (neg:=false) hs hm eZ rfl h1 hu he).wp
       · cases hc; exact (Wi (neg:=true) hs hm eZ rfl h1 hu he).wp
       · cases hc
     · rename_i hu;split at hc
       · cases hc; exact (Wj (neg:=false) hs hm eZ rfl h1 hu he).wp
       · cases hc; exact (Wj (neg:=true) hs hm eZ rfl h1 hu he).wp
       · cases hc
     · cases hc
   · cases hc
 | unOp op t x =>
   rw [eZ] at hc; simp only [pA] at hc;split at hc
   · rename_i y hy;split at hc
     · cases hc; exact (D1v hs hm eZ hy he).wp
     · cases hc; exact (D1w hs hm eZ hy he).wp
     · cases hc; exact (D1x hs hm eZ hy he).wp
     · cases hc
   · cases hc
 | convert src dst x =>
   rw [eZ] at hc; simp only [pA] at hc;split at hc
   · rename_i y hy;split at hc
     · rename_i k0 k h0 h1; cases hc; exact (C7N hs hm eZ hy h0 h1 he).wp
     · rename_i h0 h1; cases hc; exact (C7O hs hm eZ hy h0 h1 he).wp
     · rename_i k0 h0 h1; cases hc; exact (C7P hs hm eZ hy h0 h1 he).wp
     · cases hc
   · cases hc
 | makeFunc fn first iR =>
   rw [eZ] at hc;cases fn <;> simp only [pA,reduceCtorEq] at hc;rename_i f;split at hc
   · cases hc
   rename_i hbf;split at hc
   · rename_i hsz;split at hc
     · rename_i l hl;cases hc
       have:first=#[]:=eT hsz
       exact (Wt hs hm eZ (.inl ⟨rfl,Nat.lt_of_not_le hbf,this,rfl⟩) hl he).wp
     · cases hc
   · split at hc
     · rename_i hsz;split at hc
       · rename_i l hl;cases hc
         have:iR=#[]:=eT hsz
         exact (Wt hs hm eZ (.inr ⟨rfl,this,rfl⟩) hl he).wp
       · cases hc
     · cases hc
 | makeSlice t l c =>
   rw [eZ] at hc; simp only [pA] at hc;split at hc
   · rename_i e hu;split at hc
     · cases hc
     · rename_i eA;split at hc
       · rename_i z l' c' hz h1 h2;cases hc;exact (C9J hs hm hγ eZ hu (fun h=>eA (.inl h)) (fun h=>eA (.inr h)) hz h1 h2 he).wp
       · cases hc
   · cases hc
 | slice t x lo hi mx =>
   rw [eZ] at hc;simp only [pA] at hc;split at hc
   · rename_i PT
     have:mx=none:=by simpa using PT
     subst this;split at hc
     · rename_i x' j2 eN h1 h2 h3;split at hc
       · rename_i e hu;split at hc
         · cases hc
         · rename_i eA;split at hc
           · split at hc
             · rename_i l1 l2;cases hc;obtain ⟨y2,rfl,e2⟩:=XZ h2;obtain ⟨y3,rfl,e3⟩:=XZ h3;exact (C54 hs hm eZ h1 e2 e3 hu eA he).wp
             · cases hc
           · cases hc; exact (C7S hs hm eZ h1 h2 h3 hu eA he).wp
       · rename_i hu; cases hc; exact (C52 hs hm eZ h1 h2 h3 hu he).wp
       · rename_i n e hu;split at hc
         · cases hc
         · rename_i eA;split at hc
           · rename_i l1 l2;cases hc;have e2:=XY h2;have e3:=XY h3;subst e2; subst e3;exact (D1A hs hm eZ h1 hu eA he).wp
           · cases hc
       · cases hc
     · cases hc
   · split at hc
     · rename_i hz;have zero:∀ {x:Option Operand},LK x=true→x=some (.const (.int .i64 0)):=by
        intro x hx;unfold LK at hx;split at hx
        · simp only [aj,beq_iff_eq] at hx;rw [hx.1,hx.2]
        · cases hx
       simp only [aj,Option.isNone_iff_eq_none] at hz;obtain ⟨⟨rfl,CX⟩,Gu⟩:=hz;rw [zero CX,zero Gu] at eZ;split at hc
       · rename_i x' e h1 hu;split at hc
         · cases hc
         · rename_i eA; cases hc; exact (C9E hs hm eZ h1 hu eA he).wp
       · cases hc
     · split at hc
       · rename_i x' j2 eN PS h1 h2 h3 h4;obtain ⟨y2,rfl,h2⟩:=jW.1 h2;obtain ⟨y3,rfl,h3⟩:=jW.1 h3;obtain ⟨y4,rfl,h4⟩:=jW.1 h4;split at hc
         · rename_i e hu;split at hc
           · cases hc
           · rename_i eA; cases hc; exact (C53 hs hm eZ h1 h2 h3 h4 hu eA he).wp
         · cases hc
       · cases hc
 | fieldAddr t x i =>
   rw [eZ] at hc; simp only [pA] at hc;split at hc
   · rename_i x' fs h1 hu;split at hc
     · rename_i fd hf;split at hc
       · cases hc
       · rename_i eA; cases hc; exact (C7T hs hm eZ h1 hu hf eA he).wp
     · cases hc
   · cases hc
 | field t x i =>
   rw [eZ] at hc; simp only [pA] at hc;split at hc
   · rename_i x' fs h1 hu;split at hc
     · rename_i fd hf;split at hc
       · rename_i hU; cases hc; exact (D1B hs hm eZ h1 hu hf hU he).wp
       · cases hc
     · cases hc
   · cases hc
 | indexAddr t x ix =>
   rw [eZ] at hc; simp only [pA] at hc;split at hc
   · rename_i x' i' e h1 h2 hu;split at hc
     · cases hc
     · rename_i eA; cases hc; exact (C7Q hs hm eZ h1 h2 hu eA he).wp
   · rename_i x' i' n e h1 h2 hu;split at hc
     · cases hc
     · rename_i eA; cases hc; exact (C55 hs hm eZ h1 h2 hu eA he).wp
   · cases hc
 | index t x ix =>
   rw [eZ] at hc; simp only [pA] at hc;split at hc
   · rename_i x' i' n e h1 h2 hu;split at hc
     · rename_i hU; cases hc; exact (D1C hs hm eZ h1 h2 hu hU he).wp
     · cases hc
   · rename_i x' i' h1 h2 hu;cases hc; exact (C9F hs hm eZ h1 h2 hu he).wp
   · cases hc
 | extract x i =>
   rw [eZ] at hc; simp only [pA] at hc;split at hc
   · rename_i y hy; cases hc; exact (D1y hs hm eZ hy he).wp
   · cases hc
 | call c =>
   rw [eZ] at hc; simp only [pA] at hc;split at hc
   · rename_i fo hcal;split at hc
     · rename_i f' l h1 h2; cases hc; exact C9S hs hm hγ hK eZ hcal h1 h2 he
     · cases hc
   · cases hc
   · rename_i b hcal;split at hc
     · cases hc
     · rename_i l hl;split at hc
       · rename_i x t kS;obtain ⟨y,t0,h1,h2⟩:=IX hl;split at hc
         · rename_i hu; cases hc; exact (C9D hs hm eZ hcal (uO h1) (uO kS) h2 hu he).wp
         · rename_i e hu; cases hc; exact (D1z hs hm eZ hcal (uO h1) (uO kS) h2 hu he).wp
         · cases hc
       · rename_i x t kS;obtain ⟨y,t0,h1,h2⟩:=IX hl;split at hc
         · rename_i e hu; cases hc; exact (C9C hs hm eZ hcal (uO h1) (uO kS) h2 hu he).wp
         · cases hc
       · rename_i x y t ty kS;obtain ⟨x0,y0,t1,t2,h1,h2,h3⟩:=XX hl;split at hc
         · rename_i e k hu hk;split at hc
           · cases hc
           · rename_i eA;split at hc
             · rename_i zz hz;cases hc; exact (C9K hs hm hγ eZ hcal (uO h1) (uO kS) hu hk (fun h=>eA (.inl h)) (fun h=>eA (.inr h)) hz h2 h3 he).wp
             · cases hc
         · rename_i e hu ng;split at hc
           · split at hc
             · rename_i dS;obtain ⟨rfl,rG,we⟩:=dS;cases hc; exact (C9N hs hm eZ hcal (uO h1) (uO kS) h2 h3 hu rG he).wp
             · cases hc
           · split at hc
             · rename_i dS;obtain ⟨rfl,rG,we,hz⟩:=dS;cases hc; exact (D1J hs hm hγ eZ hcal (uO h1) (uO kS) h2 h3 hu rG we hz he).wp
             · cases hc
         · cases hc
       · rename_i x y t ty kS;obtain ⟨x0,y0,t1,t2,h1,h2,h3⟩:=XX hl;split at hc
         · rename_i e hu;split at hc
           · cases hc
           · rename_i eA; cases hc; exact (D1K hs hm eZ hcal (uO h1) (uO kS) h2 h3 hu eA he).wp
         · cases hc
       · rename_i x t kS;obtain ⟨y,t0,h1,h2⟩:=IX hl;split at hc
         · rename_i e hu;split at hc
           · rename_i z hz;split at hc
             · cases hc
             · cases hc; exact (D1L hs hm eZ hcal (uO h1) (uO kS) h2 hu hz he).wp
           · cases hc
         · cases hc
       · cases hc; exact (D24 hs hm eZ hcal hl he).wp
       · cases hc; exact (D23 hs hm eZ hcal hl he).wp
       · split at hc
         · cases hc; simp [b7] at he
         · cases hc
       · cases hc
 | makeMap t r=>rw [eZ] at hc; simp only [pA] at hc; split at hc <;> cases hc; simp [b7] at he
 | lookup t m k ok =>
   rw [eZ] at hc; simp only [pA] at hc;split at hc
   · split at hc <;> cases hc; simp [b7] at he
   · cases hc
 | mapUpdate t m k v =>
   rw [eZ] at hc; simp only [pA] at hc;split at hc
   · split at hc <;> cases hc; simp [b7] at he
   · cases hc
 | _=>rw [eZ] at hc; simp [pA] at hc
end
end Go.Mid
