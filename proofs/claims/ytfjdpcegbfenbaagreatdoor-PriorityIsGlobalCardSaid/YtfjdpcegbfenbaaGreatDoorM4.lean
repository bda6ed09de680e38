/- Copy and clear. -/
import Derived.Test.YtfjdpcegbfenbaaGreatDoorM3
set_option linter.unusedSimpArgs false
set_option linter.unusedVariables false
open Array renaming map → qy, ext' → gO, eq_empty_of_size_eq_zero → fc
open Bool renaming and_eq_true → ak
open Go renaming run_storeCells_cells → jo, run_underlying → a8
open Go.Builtin renaming copy_ → gk, lenOf → gQ, clear_ → ic, zeroCells → a6
open Go.Result renaming andThen_ok → aV
open Go.Sem renaming run_bind → bx, run_pure → bN
open List renaming cons_append → aS, length_append → aQ, length_take → aX, length_map → aD, length_drop → cz, map_map → cu, mem_append → ay, mem_map → bh, mem_of_mem_take → c8, mem_of_mem_drop → gF, append_nil → bF, take_append_drop → bO, drop_drop → kG, nodup_append → aT, append_assoc → bf, getElem?_append_left → cY, getElem?_append_right → bH, getElem?_map → aN, all_eq_true → bj, take_of_length_le → aZ, replicate → az, take_zero → fv, mem_map_of_mem → eg, map_cons → aG, getElem?_eq_getElem → af, mem_of_getElem? → bI, getElem?_eq_some_iff → aL, nodup_iff_pairwise_ne → jr, mem_cons → aM, nodup_nil → hZ
open Nat renaming add_assoc → bY, succ_mul → dA, lt_of_lt_of_le → br, mul_le_mul_right → jq, add_mul → ir, le_refl → au, add_zero → du, zero_le → dt, zero_mul → dk, min_zero → p7, le_add_right → gp, add_sub_cancel_left → dD
open Option renaming map_some → ar, bind_some → ah, map_none → dO, map_map → kH, none → js, bind_eq_some_iff → ka
open Option.some renaming injEq → aa, inj → cm
open Prod.mk renaming injEq → ae
namespace Go.Mid
open Go.RowKit
section
variable {w w':World} {A A':Nat→Prop} {E E':dW An} {nx nx':dv} {h:cq}
theorem T.pn {α:Type} (l m:List (T α)):T.dm (l++m)=T.dm l+T.dm m:=by
 induction l with
 | nil=>simp [T.dm]
 | cons t r ih=>simp only [aS,T.dm,ih,bY]
theorem RX {α:Type} {l:List (T α)} {off:Nat} {vs:List PV} (hle:off+vs.length≤l.length):(nX l off vs).length=l.length:=by
 simp only [nX,aQ,aX,aD,cz];omega
theorem YR {α β:Type} (f:α→β) (l:List (T α)) (off:Nat) (vs:List PV):(nX l off vs).map (T.mapA f)=nX (l.map (T.mapA f)) off vs:=by
 simp only [nX,List.map_append,List.map_take,List.map_drop,cu];rfl
theorem YS {α:Type} {l:List (T α)} {off z:Nat} {vs:List PV} (hz:∀ t∈l,t.cs=z) (hv:∀ v∈vs,v.cs=z):∀ t∈nX l off vs,t.cs=z:=by
 intro t ht;simp only [nX,ay,bh] at ht;rcases ht with (ht | ⟨v,hv',rfl⟩) | ht
 · exact hz t (c8 ht)
 · exact hv v hv'
 · exact hz t (gF ht)
theorem YT (l:List (T An)) (off:Nat) (vs:List PV):T.b9 (nX l off vs)=T.b9 (l.take off)++T.b9 (l.drop (off+vs.length)):=by
 rw [nX,wu,wu,Eg,bF]
theorem Nj {l:List (T An)} {off:Nat} {vs:List PV} {b:Nat} (hb:b∈T.b9 (nX l off vs)):b∈T.b9 l:=by
 rw [YT] at hb;rcases ay.1 hb with hb | hb
 · rw [← bO off l,wu];simp [hb]
 · rw [← bO (off+vs.length) l,wu];simp [hb]
theorem YU {l:List (T An)} {off:Nat} {vs:List PV} (h:(T.b9 l).Nodup):(T.b9 (nX l off vs)).Nodup:=by
 have e:l=l.take off++((l.drop off).take vs.length++l.drop (off+vs.length)):=by
  rw [← kG,bO,bO]
 rw [e,wu,wu] at h;rw [YT];have h1:=aT.1 h;have h2:=aT.1 h1.2.1;exact aT.2 ⟨h1.1,h2.2.1,fun a ha b hb=>h1.2.2 a ha b (ay.2 (.inr hb))⟩
theorem YV {n:dv} {l:List (T An)} {off:Nat} {vs:List PV} (h:T.ku n l):T.ku n (nX l off vs):=by
 have app:∀ l m:List (T An),T.ku n l→T.ku n m→T.ku n (l++m):=by
  intro l m
  induction l with
  | nil=>intro _ h;exact h
  | cons x r ih=>intro h1 h2;simp only [T.ku,aS] at h1 ⊢;exact ⟨h1.1,ih h1.2 h2⟩
 exact app _ _ (app _ _ (RK (fun t ht=>c8 ht) h) (MW vs)) (RK (fun t ht=>gF ht) h)
theorem YW {l:List (T An)} {off:Nat} {vs:List PV} (hle:off+vs.length≤l.length) {i:Nat} {q:List Nat} {y:An×Option Nat} (h:(((nX l off vs)[i]?).bind fun t=>fM t q)=some y):((l[i]?).bind fun t=>fM t q)=some y:=by
 simp only [nX] at h;by_cases h1:i<off
 · rw [bf,cY (by rw [aX];omega),List.getElem?_take_of_lt h1] at h
   exact h
 · by_cases h2:i<off+vs.length
   · rw [bf,bH (by rw [aX];omega),cY (by rw [aX,aD];omega),aN] at h
     cases hv:vs[i-(l.take off).length]? with
     | none=>rw [hv] at h;cases h
     | some v=>simp only [hv,ar,ah,M8] at h;cases h
   · rw [bH (by simp only [aQ,aX,aD];omega),List.getElem?_drop] at h
     have e:off+vs.length+(i-(l.take off++vs.map (T.p (α:=An))).length)=i:=by simp only [aQ,aX,aD];omega
     rwa [e] at h
theorem YX (f:Fr w w' A A' E E' nx nx') {l:List (T An)} {vs:List PV} {b z off:Nat} {cs:List Value} (k:cK w A E nx l b 0) (hz:∀ t∈l,t.cs=z) (hle:off+vs.length≤l.length) (hc:cR w A vs cs) (hv:∀ v∈vs,v.cs=z)
 (hw:w'=w.setCells b (off*z) cs) (AW:b∉T.b9 l) (hO:∀ j,j<cs.length→(w.cell? ⟨b,off*z+j,none⟩).isSome=true):cK w' A' E' nx' (nX l off vs) b 0:=by
 have nP:cs.length=vs.length*z:=by
  rw [hc.len];clear hc hO hw hle
  induction vs with
  | nil=>simp [PV.dm]
  | cons x r ih=>rw [PV.dm,hv x (by simp),ih (fun v h=>hv v (by simp [h])),List.length_cons,dA];omega
 have IY:∀ j,(j<off*z∨off*z+cs.length≤j)→w'.cell? ⟨b,j,none⟩=w.cell? ⟨b,j,none⟩:=by
  intro j hj;rw [hw];exact World.cell?_setCells_out b cs (off*z) w ⟨b,j,none⟩ (fun _ _=>by simp only;omega)
 have je:∀ x∈T.b9 l,w'.heap[x]?=w.heap[x]?:=fun x hx=>by rw [hw];exact wv (fun e:x=b=>AW (e ▸ hx)) _ _ _
 have e:l=l.take off++((l.drop off).take vs.length++l.drop (off+vs.length)):=by
  rw [← kG,bO,bO]
 have kk:=k;rw [e] at kk;obtain ⟨k1,k2⟩:=cK.append.1 kk;obtain ⟨_,k3⟩:=cK.append.1 k2;have c1:T.dm (l.take off)=off*z:=AJ hz (by omega)
 have c2:T.dm ((l.drop off).take vs.length)=vs.length*z:=AJ (fun t ht=>hz t (gF ht)) (by rw [cz];omega)
 rw [c1,c2] at k3;simp only [nX];refine cK.append.2 ⟨cK.append.2 ⟨?_,?_⟩,?_⟩
 · refine k1.jl f (fun j _ hj=>IY j (.inl (by rw [c1] at hj;omega))) (fun x hx=>je x ?_)
   rw [← bO off l,wu];simp [hx]
 · rw [c1];refine kq.at_ (uj.2 (cR.frame f.hA f.hw hc)) ?_;rw [Nat.zero_add,hw];exact Row.setCells hO
 · rw [T.pn,c1,CW]
   have:PV.dm vs=vs.length*z:=by rw [← hc.len,nP]
   rw [this];rw [bY] at k3;refine k3.jl f (fun j hj _=>IY j (.inr (by rw [nP];omega))) (fun x hx=>je x ?_)
   rw [← bO (off+vs.length) l,wu];simp [hx]
theorem IZ {an:An} {h':cq} (m:MR w A E h nx) {id:Nat} {C8:List Nat} {z off:Nat} {vs:List PV} {cs:List Value} (hn:fu (E id) (some C8)=some (an,some z)) (jF:qm h id C8 an.g z off vs=some h') (hc:cR w A vs cs) :
 (an.b=none→cs=[])∧∃ E',(∀ b,an.b=some b→MR (w.setCells b (off*z) cs) A E' h' nx∧gJ w A E nx (w.setCells b (off*z) cs) A E'∧(∀ j,j<cs.length→(w.cell? ⟨b,off*z+j,none⟩).isSome=true)∧∀ j,w.frozen? ⟨b,j,none⟩=false) ∧
   (an.b=none→MR w A E' h' nx∧gJ w A E nx w A E'):=by
 unfold qm at jF;split at jF
 · rename_i ko;have wH:∀ v∈vs,v.cs=z:=fun v hv=>by simpa using bj.1 ko v hv
   split at jF
   · -- a root
     rename_i a z' l gx;split at jF
     · rename_i ed;obtain ⟨rfl,rfl,hle⟩:=ed;simp only [aa] at jF;subst jF;rw [m.er id] at gx;cases hE:E id with
       | none=>simp [hE] at gx
       | some ob =>
         cases ob<;>simp only [hE,ar,Obj.mapA,reduceCtorEq,aa,Obj.vec.injEq] at gx;rename_i qS uq l';obtain ⟨hg,rfl,rfl⟩:=gx;rw [hE] at hn;simp only [fu,aa,ae] at hn;obtain ⟨rfl,_⟩:=hn;rw [T.mapAs_eq,aD] at hle;have lh:=m.at_ id _ hE;have rn:=m.nd id _ hE;have EB:=m.st id _ hE;simp only [OAt,VB] at lh;simp only [Obj.blk] at rn;simp only [Obj.st] at EB;have uo:(Obj.vec qS uq (nX l' off vs)).mapA An.g=.vec qS.g uq (nX (T.cP An.g l') off vs):=by
          simp only [Obj.mapA,T.mapAs_eq,YR]
         have dM:∀ b∈(Obj.vec qS uq (nX l' off vs)).blk,b∈(Obj.vec qS uq l').blk:=by
          intro b hb;simp only [Obj.blk,ay] at hb ⊢;exact hb.imp (fun h=>h) Nj
         have rl:∀ w1:World,w.heap.size≤w1.heap.size→(∀ b,b<w.heap.size→qS.b≠some b→w1.heap[b]?=w.heap[b]?)→y9 w w1 A E nx nx id (.vec qS uq (nX l' off vs)):=by
          intro w1 tE sZ;refine ⟨dv.le_refl _,tE,fun b hb nY=>sZ b hb (fun e=>?_),?_,fun b hb=>?_,?_,fun b hb j o hj ho=>m.dj id j _ o (Ne.symm hj) hE ho b (dM b hb),⟨EB.1,YV EB.2⟩⟩
          · have hbm:b∈(Obj.vec qS uq l').blk:=by simp [Obj.blk,e]
            rcases nY with hA | ⟨j,o,hj,ho,l7⟩
            · exact (m.kp hE hbm).2 hA
            · exact m.dj id j _ o (Ne.symm hj) hE ho b hbm l7
          · intro np y hy _;rw [hE];cases np with
            | none=>simp [fu] at hy
            | some q =>
              rw [sV] at hy ⊢;cases q with
              | nil=>exact hy
              | cons i r=>simp only [Obj.pO,BF] at hy ⊢;exact YW hle hy
          · have:=m.kp hE (dM b hb);exact ⟨br this.1 tE,this.2⟩
          · simp only [Obj.blk];refine aT.2 ⟨(aT.1 rn).1,YU (aT.1 rn).2.1,?_⟩;exact fun a ha b hb=>(aT.1 rn).2.2 a ha b (Nj hb)
         have BZ:∀ w1:World,(w1.os=w.os∧w1.tape=w.tape∧w1.output=w.output)→w.heap.size≤w1.heap.size→(∀ b,b<w.heap.size→qS.b≠some b→w1.heap[b]?=w.heap[b]?)→gJ w A E nx w1 A (cD E id (some (.vec qS uq (nX l' off vs)))):=by
          intro w1 h3 tE sZ;refine gJ.of (E1:=E) h3 tE (fun b hb ho=>sZ b hb (fun e=>ho ⟨id,_,hE,by simp [Obj.blk,e]⟩)) ?_ (oV.refl _ _) ((rl w1 tE sZ).fr m).hE
          intro b _ ho;rcases AO ho with h1 | ⟨i,oi,_,r8,AQ⟩
          · exact ⟨id,_,hE,dM b h1⟩
          · exact ⟨i,oi,r8,AQ⟩
         refine ⟨fun hb=>?_,cD E id (some (.vec qS uq (nX l' off vs))),fun b hb=>?_,fun hb=>?_⟩
         · simp only [hb] at lh;have h0:=lh.1;subst h0
           have:vs=[]:=by simp [T.cP] at hle;exact hle.2
           subst this;simpa only [cR] using hc
         · simp only [hb] at lh;obtain ⟨h1,h2,h3,h4⟩:=lh;have nP:cs.length=vs.length*uq:=by
            rw [hc.len,← CW (α:=An)]
            have:=AJ (α:=An) (l:=vs.map .p) (i:=vs.length) (z:=uq) (fun t ht=>by obtain ⟨v,hv,rfl⟩:=bh.1 ht;exact wH v hv) (by simp)
            rwa [aZ (by simp)] at this
           have hO:∀ j,j<cs.length→(w.cell? ⟨b,off*uq+j,none⟩).isSome=true:=by
            intro j hj;refine (h1.cell ?_).1
            have:(off+vs.length)*uq≤qS.cap*uq:=jq _ (by omega)
            rw [ir] at this;omega
           have sZ:∀ x,x<w.heap.size→qS.b≠some x→(w.setCells b (off*uq) cs).heap[x]?=w.heap[x]?:=fun x _ hx=>wv (fun e:x=b=>hx (e ▸ hb)) _ _ _
           obtain ⟨s1,s2,s3,s4⟩:=xj b cs (off*uq) w;have hs:=rl (w.setCells b (off*uq) cs) (by rw [s1];exact au _) sZ
           have AW:b∉T.b9 l':=by
            rw [hb] at rn;exact fun hbm=>(aT.1 rn).2.2 b (by simp) b hbm rfl
           refine ⟨?_,BZ _ ⟨s2,s3,s4⟩ (by rw [s1];exact au _) sZ,hO,fun j=>h1.frozen⟩
           rw [← uo];refine m.Eu hs ?_;simp only [OAt,VB,hb];exact ⟨h1.setCells _ _ _,by rw [RX hle];exact h2,YS h3 wH,YX (hs.fr m) h4 h3 hle hc wH rfl AW hO⟩
         · have hs:=rl w (au _) (fun _ _ _=>rfl)
           refine ⟨?_,BZ w ⟨rfl,rfl,rfl⟩ (au _) (fun _ _ _=>rfl)⟩
           rw [← uo];refine m.Eu hs ?_;simp only [hb] at lh;have h0:=lh.1;subst h0
           have:vs=[]:=by simp [T.cP] at hle;exact hle.2
           subst this;simp only [OAt,VB,hb];exact ⟨by simp [nX],lh.2⟩
     · cases jF
   · -- a place
     rename_i C8 _ _ _;split at jF
     · rename_i a z' l n dM;split at jF
       · rename_i ed;obtain ⟨rfl,rfl,hle⟩:=ed;split at jF
         · rename_i oh eZ;simp only [aa] at jF;subst jF;obtain ⟨tA,EC,he⟩:=m.sub dM;cases tA<;>simp only [T.mapA,reduceCtorEq,T.vec.injEq] at he;rename_i an uq l' n;obtain ⟨hg,rfl,rfl,rfl⟩:=he;obtain ⟨ob,hE⟩:=m.lz EC;rw [hE] at EC hn;have AX:=M3 (r:=[]) EC;rw [bF] at AX;rw [AX] at hn;simp only [fM,c6,aa,ae] at hn;obtain ⟨rfl,_⟩:=hn;rw [T.mapAs_eq,aD] at hle;have hT:(T.vec an.g z' (nX (T.cP An.g l') off vs) n:T Nat)=(T.vec an z' (nX l' off vs) n).mapA An.g:=by
            simp only [T.mapA,T.mapAs_eq,YR]
           rw [m.er id,hE,hT,Gm] at eZ;cases iM:put (some ob) C8 (T.vec an z' (nX l' off vs) n) with
           | none=>simp [iM] at eZ
           | some o' =>
             simp only [iM,ar,aa] at eZ;subst eZ;obtain ⟨b1,o1,hl,lh,n9,je,RY⟩:=AP EC (m.at_ id ob hE);have hst:(T.vec an z' l' n).st nx:=m.uf (by rw [hE];exact EC)
             obtain ⟨rest,p1,_⟩:=Ej EC iM;have iq:(T.vec an z' l' n).blk.Nodup:=(aT.1 (p1.nodup_iff.1 (m.nd id ob hE))).1;have zg:=RY (m.nd id ob hE);have aik:=lh;simp only [TAt] at lh;obtain ⟨ad,cap,hrow,BQ,kN,l9⟩:=lh;simp only [T.blk] at iq zg;simp only [T.st] at hst;have zh:∀ b∈(T.vec an z' (nX l' off vs) n).blk,b∈(T.vec an z' l' n).blk:=by
              intro b hb;simp only [T.blk,ay] at hb ⊢;exact hb.imp (fun h=>h) Nj
             have vB:∀ w1:World,w.heap.size≤w1.heap.size→(∀ b,an.b≠some b→w1.heap[b]?=w.heap[b]?)→(∀ m b,l5 w b m→l5 w1 b m)→oX w w1 A E nx nx id ob C8 (.vec an z' l' n) (.vec an z' (nX l' off vs) n) b1 o1:=by
              intro w1 tE sZ rQ;refine ⟨dv.le_refl _,tE,hE,EC,hl,rfl,⟨fun x hx Gy hxu=>?_,fun k hk=>rQ k _ hk,fun j hj=>?_⟩,?_,?_,?_,?_,⟨hst.1,YV hst.2⟩⟩
              · exact sZ x (fun e=>hxu (by simp [T.blk,e]))
              · exact MD (sZ b1 (fun e=>zg (by simp [e]))) j
              · intro r y hy _;cases r with
                | nil=>exact hy
                | cons i r=>simp only [BF] at hy ⊢;exact YW hle hy
              · intro b hb
                have:=m.kp hE (je b (zh b hb));exact ⟨br this.1 tE,this.2⟩
              · simp only [T.blk];refine aT.2 ⟨(aT.1 iq).1,YU (aT.1 iq).2.1,?_⟩;exact fun a ha b hb=>(aT.1 iq).2.2 a ha b (Nj hb)
              · exact fun b hb=>.inl (zh b hb)
             have BZ:∀ w1:World,(w1.os=w.os∧w1.tape=w.tape∧w1.output=w.output)→w.heap.size≤w1.heap.size→(∀ b,an.b≠some b→w1.heap[b]?=w.heap[b]?)→(∀ m b,l5 w b m→l5 w1 b m)→gJ w A E nx w1 A (cD E id (some o')):=by
              intro w1 h3 tE sZ rQ;have hp:=vB w1 tE sZ rQ;refine gJ.of (E1:=E) h3 tE (fun b _ ho=>sZ b (fun e=>ho ⟨id,ob,hE,je b (by simp [T.blk,e])⟩)) ?_ (oV.refl _ _) ((hp.ui m iM).fr m).hE
              intro b _ ho;rcases hp.owned m iM ho with k | k
              · exact ⟨id,ob,hE,je b (zh b k)⟩
              · exact k.1
             refine ⟨fun hb=>?_,cD E id (some o'),fun b hb=>?_,fun hb=>?_⟩
             · simp only [hb] at l9;have h0:=l9.1;subst h0
               have:vs=[]:=by simp [T.cP] at hle;exact hle.2
               subst this;simpa only [cR] using hc
             · simp only [hb] at l9;obtain ⟨h1,h2,h3,h4⟩:=l9;have nP:cs.length=vs.length*z':=by
                rw [hc.len,← CW (α:=An)]
                have:=AJ (α:=An) (l:=vs.map .p) (i:=vs.length) (z:=z') (fun t ht=>by obtain ⟨v,hv,rfl⟩:=bh.1 ht;exact wH v hv) (by simp)
                rwa [aZ (by simp)] at this
               have hO:∀ j,j<cs.length→(w.cell? ⟨b,off*z'+j,none⟩).isSome=true:=by
                intro j hj;refine (h1.cell ?_).1
                have:(off+vs.length)*z'≤an.cap*z':=jq _ (by omega)
                rw [ir] at this;omega
               have sZ:∀ x,an.b≠some x→(w.setCells b (off*z') cs).heap[x]?=w.heap[x]?:=fun x hx=>wv (fun e:x=b=>hx (e ▸ hb)) _ _ _
               obtain ⟨s1,s2,s3,s4⟩:=xj b cs (off*z') w;have rQ:∀ m x,l5 w x m→l5 (w.setCells b (off*z') cs) x m:=fun m x hx=>hx.setCells _ _ _
               have hp:=vB (w.setCells b (off*z') cs) (by rw [s1];exact au _) sZ rQ
               have AW:b∉T.b9 l':=by
                rw [hb] at iq;exact fun hbm=>(aT.1 iq).2.2 b (by simp) b hbm rfl
               refine ⟨m.put hp iM (fun f=>?_),BZ _ ⟨s2,s3,s4⟩ (by rw [s1];exact au _) sZ rQ,hO,fun j=>h1.frozen⟩
               simp only [TAt,hb];refine ⟨ad,cap,hrow.frame (sZ b1 (fun e=>zg (by simp [e]))),by rw [RX hle];exact BQ,kN,h1.setCells _ _ _,by rw [RX hle];exact h2,YS h3 wH,?_⟩
               exact YX f h4 h3 hle hc wH rfl AW hO
             · have hp:=vB w (au _) (fun _ _=>rfl) (fun _ _ h=>h)
               refine ⟨m.put hp iM (fun f=>?_),BZ w ⟨rfl,rfl,rfl⟩ (au _) (fun _ _=>rfl) (fun _ _ h=>h)⟩
               simp only [hb] at l9;have h0:=l9.1;subst h0
               have:vs=[]:=by simp [T.cP] at hle;exact hle.2
               subst this;simp only [TAt,hb];exact ⟨ad,cap,hrow,by simpa [nX] using BQ,kN,by simp [nX],l9.2⟩
         · cases jF
       · cases jF
     · cases jF
 · cases jF
end
section
variable {P:Program} {o:Oper} {a:Act} {w:World} {A:Nat→Prop} {E:dW An} {nx:dv} {γ:Nat} {v:MV} {h h':cq} {s:gI} {K:jE} {d:Option Nat}
theorem C8V {vs:List PV} {cs:List Value} {z n:Nat} (h:cR w A vs cs) (hz:∀ v∈vs,v.cs=z):cR w A (vs.take n) (cs.take (n*z)):=by
 induction vs generalizing cs n with
 | nil=>simp only [cR] at h;subst h;simp [cR]
 | cons x r ih =>
   cases n with
   | zero=>simp [cR]
   | succ n =>
     simp only [cR] at h;obtain ⟨c,d,rfl,h1,h2⟩:=h;have hl:c.length=z:=by rw [h1.len];exact hz x (by simp)
     simp only [List.take_succ_cons,cR];refine ⟨c,d.take (n*z),?_,h1,ih h2 (fun v hv=>hz v (by simp [hv]))⟩
     rw [List.take_append,hl,aZ (by rw [hl,dA];omega)]
     congr 2;rw [dA];omega
theorem C0b {v:PV} {c:List Value} (h:ec w A v c) (n:Nat):cR w A (az n v) (az n c).flatten:=by
 induction n with
 | zero=>simp [cR]
 | succ n ih=>simp only [List.replicate_succ,cR,List.flatten_cons];exact ⟨c,_,rfl,h,ih⟩
theorem Nk {ob:Option (Obj Nat)} {p:List Nat} {g z n:Nat} {l:List (T Nat)} (mG:∀ g z l,ob=some (.vec g z l)→p=[]→False) (hs:ew ob p=some (.vec g z l n)):jI ob p=some (g,z,l):=by
 unfold jI;split
 · exact (mG _ _ _ rfl rfl).elim
 · rw [hs]
theorem YY {b off z:Nat} {cs:List Value} (hO:∀ j,j<cs.length→(w.cell? ⟨b,off*z+j,none⟩).isSome=true) (hf:∀ j,w.frozen? ⟨b,j,none⟩=false) (h1:∀ u∈cs,u.oneCell'=true) :
 (storeCells ⟨b,off*z,none⟩ cs).run P w=.ok () (w.setCells b (off*z) cs):=by
 have hst:=jo (P:=P) b (off*z) cs 0 w (by simpa using hO) (fun j _=>hf _) h1
 simpa only [du] using hst
variable (hs:qf P w A E nx s a) (hm:MR w A E h nx)
include hm
theorem RZ {id:Nat} {path:List Nat} {off len g z:Nat} {vs:List PV} {val:Value} (hv:bT w A E nx (.own id path off len g) val) (jF:qm h id path g z off vs=some h') :
 ∃ an ad cap,an.g=g∧val=.slice ad len cap∧len≤cap∧fu (E id) (some path)=some (an,some z)∧lg an z off len ad cap:=by
 simp only [bT] at hv;obtain ⟨_,ad,cap,rfl,nM,hh⟩:=hv;have iW:∃ l,jI (h id) path=some (g,z,l):=by
  unfold qm at jF;split at jF
  · split at jF
    · rename_i gx;split at jF
      · rename_i hc;obtain ⟨rfl,rfl,_⟩:=hc;exact ⟨_,by rw [gx];rfl⟩
      · cases jF
    · rename_i C8 _ _ mG;split at jF
      · rename_i dM;split at jF
        · rename_i hc;obtain ⟨rfl,rfl,_⟩:=hc;exact ⟨_,Nk mG dM⟩
        · cases jF
      · cases jF
  · cases jF
 obtain ⟨l,iW⟩:=iW;obtain ⟨an,lA,nB,rfl,_⟩:=hm.vec iW;exact ⟨an,ad,cap,rfl,rfl,nM,sS nB,hh an z (sS nB) rfl⟩
theorem D0K {id:Nat} {path:List Nat} {off len k g z:Nat} {vs:List PV} {val:Value} (hv:bT w A E nx (.own id path off len g) val) (jF:qm h id path g z k vs=some h') :
 ∃ an ad cap,an.g=g∧val=.slice ad len cap∧len≤cap∧fu (E id) (some path)=some (an,some z)∧lg an z off len ad cap:=by
 simp only [bT] at hv;obtain ⟨q,ad,cap,rfl,nM,hh⟩:=hv;have h2:bT w A E nx (.own id path k 0 g) (.slice none 0 cap)∨True:=.inr trivial;have iW:∃ l,jI (h id) path=some (g,z,l):=by
  unfold qm at jF;split at jF
  · split at jF
    · rename_i gx;split at jF
      · rename_i hc;obtain ⟨rfl,rfl,_⟩:=hc;exact ⟨_,by rw [gx];rfl⟩
      · cases jF
    · rename_i C8 _ _ mG;split at jF
      · rename_i dM;split at jF
        · rename_i hc;obtain ⟨rfl,rfl,_⟩:=hc;exact ⟨_,Nk mG dM⟩
        · cases jF
      · cases jF
  · cases jF
 obtain ⟨l,iW⟩:=iW;obtain ⟨an,lA,nB,rfl,_⟩:=hm.vec iW;exact ⟨an,ad,cap,rfl,rfl,nM,sS nB,hh an z (sS nB) rfl⟩
theorem C8W {id:Nat} {path:List Nat} {k z:Nat} {vs:List PV} {an:An} {z':Nat} (jF:qm h id path an.g z k vs=some h') (hn:fu (E id) (some path)=some (an,some z')) :
 match an.b with | none=>k+vs.length=0 | some _=>k+vs.length≤an.cap:=by
 have iW:∃ l,jI (h id) path=some (an.g,z,l)∧k+vs.length≤l.length:=by
  unfold qm at jF;split at jF
  · split at jF
    · rename_i gx;split at jF
      · rename_i hc;obtain ⟨rfl,rfl,hle⟩:=hc;exact ⟨_,by rw [gx];rfl,hle⟩
      · cases jF
    · rename_i C8 _ _ mG;split at jF
      · rename_i dM;split at jF
        · rename_i hc;obtain ⟨rfl,rfl,hle⟩:=hc;exact ⟨_,Nk mG dM,hle⟩
        · cases jF
      · cases jF
  · cases jF
 obtain ⟨l,iW,hle⟩:=iW;obtain ⟨Nl,lA,nB,_,rfl⟩:=hm.vec iW;have AX:=sS nB;rw [AX] at hn;cases hn;have hB:=hm.ue nB;rw [aD] at hle;unfold VB at hB;cases hb:an.b with
 | none =>
   simp only [hb] at hB ⊢;obtain ⟨rfl,_⟩:=hB
   have:k+vs.length≤0:=hle
   omega
 | some b =>
   simp only [hb] at hB ⊢;omega
include hs
theorem D2M {c:Call} {t t' e:TypeId} {x y:Operand} {x' y':dQ} {t1 t2:TypeId} (ho:o.op=.call c) (pK:c.callee=.builtin .copy) (oW:c.args=#[x,y]) (sC:c.argTypes=#[t,t']) (hx:fD P t1 x=some x') (hy:fD P t2 y=some y')
 (ht:P.underlying t=some (.slice e)) (rP:P.cellsOf e≠0)
 (he:cf K γ d s h (.cpy (P.cellsOf e) x' y')=some (v,h')):cI P o a w A E nx γ v h':=by
 have dN:=j3 hs hx;have uY:=j3 hs hy;obtain ⟨i,hi,qp⟩:=QR rP;simp only [cf,Ga] at he;split at he
 · cases he
 · rename_i ts iw;split at he
   · cases he
   · rename_i vs fY;split at he
     · rename_i fh;have rO:=Gl fY;subst rO;have qg:(vs.map (T.p (α:=Nat))).all tC=true:=by simp [tC]
       have BS:rY h (cQ s y')=some (vs.map .p,h):=by simp only [rY,iw,qg,if_true]
       have ur:∀ {src:Value} {w1:World},(gk #[t,t'] o.type #[a.eval x,a.eval y]).run P w=.ok src w1→(execOp a.eval o).run P w=.ok (.value src) w1:=by
        intro src w1 hr;rw [BC ho pK];simp only [builtin,oW,sC];have e:qy a.eval #[x,y]=#[a.eval x,a.eval y]:=by simp
        rw [e];simp only [bx,hr,aV,bN]
       obtain ⟨news,E1,lA,jV,kA⟩:=RL (P:=P) (γ:=γ) hm uY BS fh;obtain ⟨xb,xc,AY⟩:=jV.val;rw [aD] at jV AY;rw [AY] at jV;split at he
       · rename_i zz xp;simp only [aa,ae,wj] at he;obtain ⟨rfl,rfl⟩:=he;rw [xp] at dN;simp only [bT] at dN;obtain ⟨ax,u0⟩:=dN;have po:=jV.pre 0 (dt _);rw [← qp,dk,fv] at po;refine cI.idle (val:=.int .i64 0) (ur ?_) (A17.2 rfl) hm;rw [u0,AY];cases ax<;>simp [gk,a8 ht,sizeOf,typeInfo,hi,gQ,po,goInt,storeCells]
       · rename_i id path off len g xp;split at he
         · rename_i h1 jF;simp only [aa,ae,wj] at he;obtain ⟨rfl,rfl⟩:=he;rw [xp] at dN;obtain ⟨an,ad,cap,rfl,u0,nM,bZ,kN⟩:=RZ hm dN jF;have wH:∀ v∈vs,v.cs=P.cellsOf e:=by
            intro v hv;simp only [pI,bj,beq_iff_eq] at fh;exact fh (.p v) (eg hv)
           have n7:lA=vs.map .p:=by
            have h2:=kA.er;rw [Nc] at h2;obtain ⟨us,I0⟩:=RJ (l:=lA) (by rw [h2];exact qg)
            subst I0;rw [cu] at h2;have h3:(us.map (T.p (α:=Nat)))=vs.map .p:=h2
            have:=congrArg mw h3
            rw [BD,BD] at this;rw [cm this]
           subst n7;have Nn:cR w A vs news:=uj.1 kA.tc;have hk:min vs.length len≤vs.length:=Nat.min_le_left _ _;have po:=jV.pre (min vs.length len) hk;have Np:vs.take len=vs.take (min vs.length len):=by
            rcases Nat.le_total len vs.length with hle | hle
            · rw [Nat.min_eq_right hle]
            · rw [Nat.min_eq_left hle,aZ hle,List.take_length]
           rw [Np] at jF;have I1:=C8V (n:=min vs.length len) Nn wH;obtain ⟨pR,E',od,ED⟩:=IZ hm bZ jF I1;have YZ:len=0→vs.take (min vs.length len)=[]:=by intro h0;rw [h0,p7,fv]
           cases hb:an.b with
           | none =>
             obtain ⟨k1,k2⟩:=ED hb;simp only [lg,hb] at kN;obtain ⟨rfl,rfl⟩:=kN;rw [p7] at po ⊢;rw [← qp,dk,fv] at po;refine ⟨.int .i64 0,w,A,E',.inl (ur ?_),A17.2 rfl,k1.mono (nx.eP γ),k2⟩;rw [u0,AY];cases ad<;>simp [gk,a8 ht,sizeOf,typeInfo,hi,gQ,po,goInt,storeCells]
           | some b =>
             obtain ⟨k1,k2,k3,k4⟩:=od b hb;simp only [lg,hb] at kN;refine ⟨.int .i64 (min vs.length len:Nat),_,A,E',.inl (ur ?_),A17.2 rfl,k1.mono (nx.eP γ),k2⟩;rw [u0,AY];rcases kN.2 with ⟨rfl,rfl⟩ | hA
             · rw [p7] at po ⊢;rw [← qp,dk,fv] at po;have e0:w.setCells b (off*P.cellsOf e) (news.take (0*P.cellsOf e))=w:=by rw [dk,fv];rfl
               rw [e0];cases ad<;>simp [gk,a8 ht,sizeOf,typeInfo,hi,gQ,po,goInt,storeCells]
             · have hst:=YY (P:=P) k3 k4 I1.kz;rw [hA];rw [← qp] at po;simp only [← qp] at hst;simp only [← qp];simp [gk,a8 ht,sizeOf,typeInfo,hi,gQ,po,goInt,hst]
         · cases he
       · cases he
     · cases he
theorem D0L {c:Call} {t e:TypeId} {x y:Operand} {x' y':dQ} {t1 t2:TypeId} (ho:o.op=.call c) (pK:c.callee=.builtin .append) (oW:c.args=#[x,y]) (sC:c.argTypes=#[t,t]) (hx:fD P t1 x=some x') (hy:fD P t2 y=some y')
 (ht:P.underlying t=some (.slice e)) (rP:P.cellsOf e≠0)
 (he:cf K γ d s h (.appk (P.cellsOf e) x' y')=some (v,h')):cI P o a w A E nx γ v h':=by
 have dN:=j3 hs hx;have uY:=j3 hs hy;obtain ⟨i,hi,qp⟩:=QR rP;simp only [cf] at he;split at he
 · cases he
 · rename_i ts iw;split at he
   · cases he
   · rename_i vs fY;split at he
     · rename_i fh;have rO:=Gl fY;subst rO;have qg:(vs.map (T.p (α:=Nat))).all tC=true:=by simp [tC]
       have BS:rY h (cQ s y')=some (vs.map .p,h):=by simp only [rY,iw,qg,if_true]
       obtain ⟨news,E1,lA,jV,kA⟩:=RL (P:=P) (γ:=γ) hm uY BS fh;obtain ⟨xb,xc,AY⟩:=jV.val;rw [aD] at jV AY;rw [AY] at jV;split at he
       · rename_i id path off len g xp;split at he
         · rename_i h1 jF;simp only [aa,ae] at he;obtain ⟨rfl,rfl⟩:=he;rw [xp] at dN;obtain ⟨an,ad,cap,rfl,u0,nM,bZ,kN⟩:=D0K hm dN jF;have Y0:nx an.g:=by simp only [bT] at dN;exact dN.1
           have wH:∀ v∈vs,v.cs=P.cellsOf e:=by
            intro v hv;simp only [pI,bj,beq_iff_eq] at fh;exact fh (.p v) (eg hv)
           have n7:lA=vs.map .p:=by
            have h2:=kA.er;rw [Nc] at h2;obtain ⟨us,I0⟩:=RJ (l:=lA) (by rw [h2];exact qg)
            subst I0;rw [cu] at h2;have h3:(us.map (T.p (α:=Nat)))=vs.map .p:=h2
            have:=congrArg mw h3
            rw [BD,BD] at this;rw [cm this]
           subst n7;have Nn:cR w A vs news:=uj.1 kA.tc;have fZ:=C8W hm jF bZ;obtain ⟨pR,E',od,ED⟩:=IZ hm bZ jF Nn;have nT:∀ {w':World},gJ w A E nx w' A E'→len+vs.length≤cap→bT w' A E' (nx.add γ) (.own id path off (len+vs.length) an.g) (.slice ad (len+vs.length) cap):=by
            intro w' hg hle;simp only [bT];refine ⟨.inl Y0,ad,cap,rfl,hle,fun X4 z1 EE hg1=>?_⟩
            have AX:=hg.ns id (some path) X4 (some z1) EE (by rw [hg1];exact Y0)
            rw [bZ] at AX;cases AX;unfold lg at kN ⊢;cases hb:an.b with
            | none =>
              simp only [hb] at kN ⊢;have yZ:vs.length=0:=by
               have:=fZ
               simp only [hb] at this;omega
              omega
            | some b =>
              simp only [hb] at kN ⊢;refine ⟨kN.1,?_⟩;rcases kN.2 with ⟨q1,q2⟩ | q
              · left;omega
              · right;exact q
           cases hb:an.b with
           | none =>
             obtain ⟨k1,k2⟩:=ED hb;have AR:=pR hb;simp only [lg,hb] at kN;obtain ⟨rfl,rfl⟩:=kN;have yZ:vs.length=0:=by
              have:=fZ
              simp only [hb] at this;omega
             have po:=jV.pre 0 (dt _);rw [dk,fv] at po;refine ⟨_,w,A,E',.inl ?_,nT k2 (by omega),k1.mono (nx.eP γ),k2⟩
             rw [RN ho pK oW sC,u0,AY];rw [yZ] at jV ⊢;rw [AR] at jV;rw [RF ht hi ad 0 0 (by first | exact jV | (rw [← qp];exact jV) | (rw [qp];exact jV)) (au _)]
           | some b =>
             obtain ⟨k1,k2,k3,k4⟩:=od b hb;have hle:len+vs.length≤cap:=by
              have h5:=fZ;simp only [hb] at h5;simp only [lg,hb] at kN;omega
             refine ⟨_,_,A,E',.inl ?_,nT k2 hle,k1.mono (nx.eP γ),k2⟩;rw [RN ho pK oW sC,u0,AY];simp only [lg,hb] at kN;have wJ:lB P w i.size (.slice xb vs.length xc) vs.length news:=by first | exact jV | (rw [qp];exact jV)
             rcases kN.2 with ⟨rfl,rfl⟩ | hA
             · have yZ:vs.length=0:=by omega
               have BQ:news=[]:=List.eq_nil_of_length_eq_zero (by rw [jV.len,yZ,dk])
               rw [yZ] at wJ ⊢;rw [BQ] at wJ ⊢;rw [RF ht hi ad 0 0 wJ (au _)];rfl
             · rw [hA];have hst:=jo (P:=P) b ((off+len)*i.size) news 0 w (by simp only [du];first | exact k3 | (rw [qp];exact k3)) (fun j _=>k4 _) Nn.kz
               simp only [du] at hst;have RG:=wJ.rd w rfl;have EF:(⟨b,off*P.cellsOf e,none⟩:Addr).add (len*i.size)=⟨b,(off+len)*i.size,none⟩:=by
                rw [ug,qp,ir]
               simp [Builtin.append_,a8 ht,sizeOf,typeInfo,hi,gQ,RG,hle,EF,hst];rw [qp]
         · cases he
       · cases he
     · cases he
theorem D2N {c:Call} {t e:TypeId} {x:Operand} {x':dQ} {t1:TypeId} {zero:PV} (ho:o.op=.call c) (pK:c.callee=.builtin .clear) (oW:c.args=#[x]) (sC:c.argTypes=#[t]) (hx:fD P t1 x=some x')
 (ht:P.underlying t=some (.slice e)) (hz:Mv P e=some zero)
 (he:cf K γ d s h (.clr (P.cellsOf e) zero x')=some (v,h')):cI P o a w A E nx γ v h':=by
 have dN:=j3 hs hx;obtain ⟨zc,r9,R0⟩:=C8S hz;obtain ⟨zv,Eo,mF,i,hi,C4⟩:=C3 r9 w;have I2:ec w A zero zc:=R0 w A;have ur:∀ {src:Value} {w1:World},(ic #[t] o.type #[a.eval x]).run P w=.ok src w1→(execOp a.eval o).run P w=.ok (.value src) w1:=by
  intro src w1 hr;rw [BC ho pK];simp only [builtin,oW,sC];have e:qy a.eval #[x]=#[a.eval x]:=by simp
  rw [e];simp only [bx,hr,aV,bN]
 have I3:bT w A E nx (.eO []) (.tuple #[]):=by simp only [bT];exact ⟨[],rfl,by simp only [di]⟩
 simp only [cf] at he;split at he
 · rename_i xp;simp only [aa,ae] at he;obtain ⟨rfl,rfl⟩:=he;rw [xp] at dN;obtain ⟨p,cap,u0,_⟩:=vw.1 dN;refine cI.idle (ur ?_) I3 hm;rw [u0];cases p<;>simp [ic,a8 ht]
 · rename_i zz xp;simp only [aa,ae] at he;obtain ⟨rfl,rfl⟩:=he;rw [xp] at dN;simp only [bT] at dN;obtain ⟨p,u0⟩:=dN;refine cI.idle (ur ?_) I3 hm;rw [u0];cases p<;>simp [ic,a8 ht]
 · rename_i id path off len g xp;split at he
   · rename_i h1 jF;split at he
     · rename_i sW;simp only [aa,ae] at he;obtain ⟨rfl,rfl⟩:=he;rw [xp] at dN;obtain ⟨an,ad,cap,rfl,u0,nM,bZ,kN⟩:=RZ hm dN jF;have I1:=C0b I2 len;obtain ⟨pR,E',od,ED⟩:=IZ hm bZ jF I1;have I4:∀ w1 E1 n1,bT w1 A E1 n1 (.eO []) (.tuple #[]):=by intro w1 E1 n1;simp only [bT];exact ⟨[],rfl,by simp only [di]⟩
       cases hb:an.b with
       | none =>
         obtain ⟨k1,k2⟩:=ED hb;simp only [lg,hb] at kN;obtain ⟨rfl,rfl⟩:=kN;refine ⟨_,w,A,E',.inl (ur ?_),I4 _ _ _,k1.mono (nx.eP γ),k2⟩;rw [u0];cases ad<;>simp [ic,a8 ht]
       | some b =>
         obtain ⟨k1,k2,k3,k4⟩:=od b hb;simp only [lg,hb] at kN;refine ⟨_,_,A,E',.inl (ur ?_),I4 _ _ _,k1.mono (nx.eP γ),k2⟩;rw [u0];rcases kN.2 with ⟨rfl,rfl⟩ | hA
         · have e0:w.setCells b (off*P.cellsOf e) (az 0 zc).flatten=w:=rfl;rw [e0];cases ad<;>simp [ic,a8 ht]
         · have hst:=YY (P:=P) k3 k4 I1.kz;rw [hA];have y6:zc.length=zc.length:=rfl;have Iv:(a6 zv.cells len).toList=(az len zc).flatten:=by
            rw [mF];simp only [a6,Array.toList_map,Array.toList_range];exact Rr y6 len
           cases len with
           | zero =>
             have e0:w.setCells b (off*P.cellsOf e) (az 0 zc).flatten=w:=rfl;rw [e0];simp [ic,a8 ht]
           | succ len=>simp [ic,a8 ht,Eo,Iv,hst]
     · cases he
   · cases he
 · cases he
end
end Go.Mid
namespace Go.Mid
open Go.RowKit
def zA (ζ:Nat→Nat) (an:An):An:={ an with g:=ζ an.g }
section
variable {α:Type} (φ:MV→MV)
section
variable (ζ:α→α)
theorem B0 (l:List (T α)):jQ φ ζ l=l.map (jk φ ζ):=by
 induction l with
 | nil=>rfl
 | cons x r ih=>simp only [jQ,aG,ih]
theorem Gz:∀ (p:List Nat) (t:T α),c6 (jk φ ζ t) p=(c6 t p).map (jk φ ζ)
 | [],t=>rfl
 | i::r,.p v=>by
   cases v<;>simp only [jk,c6,dO];rename_i l;cases l[i]? with
   | none=>rfl
   | some x =>
     have:=Gz r (.p x)
     simpa only [jk] using this
 | i::r,.m v=>rfl
 | i::r,.agg l=>by
   simp only [jk,c6,B0,aN];cases l[i]? with
   | none=>rfl
   | some x=>exact Gz r x
 | i::r,.vec a z l n=>by
   simp only [jk,c6,B0,aN];cases l[i]? with
   | none=>rfl
   | some x=>exact Gz r x
 | i::r,.mp a ks l=>by
   simp only [jk,c6,B0,aN];cases l[i]? with
   | none=>rfl
   | some x=>exact Gz r x
 | i::r,.hole n=>rfl
theorem R1 (o:Obj α) (np:Option (List Nat)):fu (some (kO φ ζ o)) np=(fu (some o) np).map fun y=>(ζ y.1,y.2):=by
 cases np with
 | none=>cases o<;>rfl
 | some p =>
   rw [sV,sV];have e:(kO φ ζ o).pO=jk φ ζ o.pO:=by cases o<;>rfl
   rw [e];simp only [fM,Gz];cases c6 o.pO p with
   | none=>rfl
   | some u=>cases u<;>rfl
mutual
theorem AZ (hφ:∀ v,(φ v).cs=v.cs):∀ (t:T α),(jk φ ζ t).cs=t.cs
 | .p _=>rfl
 | .m v=>hφ v
 | .agg l=>R3 hφ l
 | .vec ..=>rfl
 | .mp ..=>rfl
 | .hole _=>rfl
theorem R3 (hφ:∀ v,(φ v).cs=v.cs):∀ (l:List (T α)),T.dm (jQ φ ζ l)=T.dm l
 | []=>rfl
 | x::r=>by simp only [jQ,T.dm,AZ hφ x,R3 hφ r]
end
end
mutual
theorem Y1 (ζ:Nat→Nat):∀ (t:T An),(jk φ (zA ζ) t).mapA An.g=jk φ ζ (t.mapA An.g)
 | .p _=>rfl
 | .m _=>rfl
 | .agg l=>by simp only [jk,T.mapA,I5 ζ l]
 | .vec an _ l _=>by simp only [jk,T.mapA,I5 ζ l];rfl
 | .mp an _ l=>by simp only [jk,T.mapA,I5 ζ l];rfl
 | .hole _=>rfl
theorem I5 (ζ:Nat→Nat):∀ (l:List (T An)),T.cP An.g (jQ φ (zA ζ) l)=jQ φ ζ (T.cP An.g l)
 | []=>rfl
 | x::r=>by simp only [jQ,T.cP,Y1 ζ x,I5 ζ r]
end
theorem Y2 (ζ:Nat→Nat) (o:Obj An):(kO φ (zA ζ) o).mapA An.g=kO φ ζ (o.mapA An.g):=by
 cases o<;>simp only [kO,Obj.mapA,Y1,I5]<;>rfl
mutual
theorem yg (ζ:An→An) (hζ:∀ an,(ζ an).b=an.b):∀ (t:T An),(jk φ ζ t).blk=t.blk
 | .p _=>rfl
 | .m _=>rfl
 | .agg l=>B1 ζ hζ l
 | .vec an _ l _=>by simp only [jk,T.blk,B1 ζ hζ l,hζ]
 | .mp an _ l=>by simp only [jk,T.blk,B1 ζ hζ l,hζ]
 | .hole _=>rfl
theorem B1 (ζ:An→An) (hζ:∀ an,(ζ an).b=an.b):∀ (l:List (T An)),T.b9 (jQ φ ζ l)=T.b9 l
 | []=>rfl
 | x::r=>by simp only [jQ,T.b9,yg ζ hζ x,B1 ζ hζ r]
end
theorem EG (ζ:An→An) (hζ:∀ an,(ζ an).b=an.b) (o:Obj An):(kO φ ζ o).blk=o.blk:=by
 cases o<;>simp only [kO,Obj.blk,yg φ ζ hζ,B1 φ ζ hζ,hζ]
mutual
theorem Y3 {nx nx':dv} (ζ:An→An) (hζ:∀ an,nx an.g→nx' (ζ an).g):∀ (t:T An),t.st nx→(jk φ ζ t).st nx'
 | .p _,_=>trivial
 | .m _,_=>trivial
 | .agg l,h=>by simp only [jk,T.st] at h ⊢;exact GA ζ hζ l h
 | .vec an _ l _,h=>by simp only [jk,T.st] at h ⊢;exact ⟨hζ _ h.1,GA ζ hζ l h.2⟩
 | .mp an _ l,h=>by simp only [jk,T.st] at h ⊢;exact ⟨hζ _ h.1,GA ζ hζ l h.2⟩
 | .hole _,_=>trivial
theorem GA {nx nx':dv} (ζ:An→An) (hζ:∀ an,nx an.g→nx' (ζ an).g):∀ (l:List (T An)),T.ku nx l→T.ku nx' (jQ φ ζ l)
 | [],_=>trivial
 | x::r,h=>by simp only [jQ,T.ku] at h ⊢;exact ⟨Y3 ζ hζ x h.1,GA ζ hζ r h.2⟩
end
theorem D2O {nx nx':dv} (ζ:An→An) (hζ:∀ an,nx an.g→nx' (ζ an).g) {o:Obj An} (h:o.st nx):(kO φ ζ o).st nx':=by
 cases o<;>simp only [kO,Obj.st] at h ⊢
 · exact ⟨hζ _ h.1,Y3 φ ζ hζ _ h.2⟩
 · exact ⟨hζ _ h.1,GA φ ζ hζ _ h.2⟩
 · exact ⟨hζ _ h.1,GA φ ζ hζ _ h.2⟩
end
theorem Nq {an qS:An} (hb:qS.b=an.b) (hc:qS.cap=an.cap) {z off len cap:Nat} {a:Option Addr} (h:lg an z off len a cap):lg qS z off len a cap:=by
 simp only [lg,hb,hc] at h ⊢;exact h
section
variable {w:World} {A:Nat→Prop} {E E':dW An} {nx nx':dv} {h:cq}
structure uu (w:World) (A:Nat→Prop) (E:dW An) (nx:dv) (E':dW An) (nx':dv) (φ:MV→MV):Prop where
 val:∀ v val,bT w A E nx v val→bT w A E' nx' (φ v) val
 cs:∀ v,(φ v).cs=v.cs
 agg:∀ v,(φ v).isAgg=v.isAgg
mutual
theorem TAt.ch {φ:MV→MV} {ζ:An→An} (c:uu w A E nx E' nx' φ) (hb:∀ an,(ζ an).b=an.b) (hc:∀ an,(ζ an).cap=an.cap):∀ {t:T An} {b o:Nat},TAt w A E nx t b o→TAt w A E' nx' (jk φ ζ t) b o
 | .p v,b,o,k=>k
 | .m v,b,o,k=>by
   simp only [TAt,jk] at k ⊢;obtain ⟨h1,h2,val,h3,h4⟩:=k;exact ⟨by rw [c.cs];exact h1,by rw [c.agg];exact h2,val,c.val v val h3,h4⟩
 | .agg l,b,o,k=>by simp only [TAt,jk] at k ⊢;exact cK.ch c hb hc k
 | .vec an z l n,b,o,k=>by
   simp only [TAt,jk] at k ⊢;obtain ⟨a,cap,h1,h2,h3,h4⟩:=k;refine ⟨a,cap,h1,by rw [B0,aD];exact h2,Nq (hb an) (hc an) h3,?_⟩
   rw [hb,hc];cases kM:an.b with
   | none=>simp only [kM] at h4 ⊢;exact ⟨by rw [h4.1];rfl,h4.2⟩
   | some b' =>
     simp only [kM] at h4 ⊢;refine ⟨h4.1,by rw [B0,aD];exact h4.2.1,?_,cK.ch c hb hc h4.2.2.2⟩
     intro t ht;rw [B0] at ht;obtain ⟨u,hu,rfl⟩:=bh.1 ht;rw [AZ φ ζ c.cs];exact h4.2.2.1 u hu
 | .mp ..,b,o,k=>by simp only [TAt] at k
 | .hole n,b,o,k=>k
theorem cK.ch {φ:MV→MV} {ζ:An→An} (c:uu w A E nx E' nx' φ) (hb:∀ an,(ζ an).b=an.b) (hc:∀ an,(ζ an).cap=an.cap):∀ {l:List (T An)} {b o:Nat},cK w A E nx l b o→cK w A E' nx' (jQ φ ζ l) b o
 | [],b,o,k=>by simp only [cK,jQ]
 | t::r,b,o,k=>by
   simp only [cK,jQ] at k ⊢;rw [AZ φ ζ c.cs];exact ⟨TAt.ch c hb hc k.1,cK.ch c hb hc k.2⟩
end
theorem OAt.ch {φ:MV→MV} {ζ:An→An} (c:uu w A E nx E' nx' φ) (hb:∀ an,(ζ an).b=an.b) (hc:∀ an,(ζ an).cap=an.cap) {o:Obj An} (k:OAt w A E nx o):OAt w A E' nx' (kO φ ζ o):=by
 cases o with
 | cell an t =>
   simp only [OAt,kO] at k ⊢;obtain ⟨b,h1,h2,h3⟩:=k;exact ⟨b,by rw [hb];exact h1,by rw [AZ φ ζ c.cs];exact h2,h3.ch c hb hc⟩
 | vec an z l =>
   simp only [OAt,VB,kO] at k ⊢;rw [hb,hc];cases kM:an.b with
   | none=>simp only [kM] at k ⊢;exact ⟨by rw [k.1];rfl,k.2⟩
   | some b' =>
     simp only [kM] at k ⊢;refine ⟨k.1,by rw [B0,aD];exact k.2.1,?_,cK.ch c hb hc k.2.2.2⟩
     intro t ht;rw [B0] at ht;obtain ⟨u,hu,rfl⟩:=bh.1 ht;rw [AZ φ ζ c.cs];exact k.2.2.1 u hu
 | mp=>simp only [OAt] at k
 | gone=>trivial
section
variable (h:cq) (ρ:Nat→Option Nat) (ζ:Nat→Nat)
mutual
theorem R4:∀ (v:MV),(j7 h ρ ζ v).cs=v.cs
 | .p _=>rfl
 | .nil _=>rfl
 | .own id path off len g=>by simp only [j7];split<;>(try split)<;>rfl
 | .ptr id np rp g o=>by simp only [j7];split<;>(try split)<;>rfl
 | .fE id path g=>by simp only [j7];split<;>(try split)<;>rfl
 | .agg l=>Y4 l
 | .fn _ _=>rfl
 | .eO _=>rfl
 | .dead _=>rfl
theorem Y4:∀ (l:List MV),MV.dm (sx h ρ ζ l)=MV.dm l
 | []=>rfl
 | x::r=>by simp only [sx,MV.dm,R4 x,Y4 r]
end
theorem Y5 (v:MV):(j7 h ρ ζ v).isAgg=v.isAgg:=by
 cases v<;>simp only [j7]<;>(try split)<;>(try split)<;>rfl
end
def sa (E:dW An) (h:cq) (ρ:Nat→Option Nat) (ζ:Nat→Nat) (ζn:Nat→Nat→Nat) (bk:Nat→Option Nat):dW An:=fun j=>(bk j).bind fun i=>(E i).map (kO (j7 h ρ ζ) (zA (ζn i)))
def zi (h:cq) (ρ:Nat→Option Nat) (ζ:Nat→Nat) (ζn:Nat→Nat→Nat) (bk:Nat→Option Nat):cq:=fun j=>(bk j).bind fun i=>(h i).map (kO (j7 h ρ ζ) (ζn i))
theorem I6 {h:cq} {ρ:Nat→Option Nat} {ζ:Nat→Nat} {ζn:Nat→Nat→Nat} {bk:Nat→Option Nat} {i j:Nat} (hb:bk j=some i) (np:Option (List Nat)):fu (sa E h ρ ζ ζn bk j) np=(fu (E i) np).map fun y=>(zA (ζn i) y.1,y.2):=by
 simp only [sa,hb,ah];cases hE:E i with
 | none =>
   simp only [dO];cases np with
   | none=>rfl
   | some p=>cases p<;>rfl
 | some o=>exact R1 _ _ o np
section
variable {ρ:Nat→Option Nat} {ζ:Nat→Nat} {ζn:Nat→Nat→Nat} {bk:Nat→Option Nat}
mutual
theorem bT.clean (m:MR w A E h nx) (hρ:∀ i j,ρ i=some j→bk j=some i) (hn:∀ g,nx g→nx' (ζ g)):∀ {v:MV} {val:Value},bT w A E nx v val→bT w A (sa E h ρ ζ ζn bk) nx' (j7 h ρ ζ v) val
 | .p v,val,k=>by simp only [bT,j7] at k ⊢;exact k
 | .nil _,val,k=>by simp only [bT,j7] at k ⊢;exact k
 | .own id path off len g,val,k=>by
   simp only [bT] at k;obtain ⟨hg,a,cap,rfl,hc,hh⟩:=k;simp only [j7];split
   · rename_i j hj;split
     · rename_i kV;simp only [bT];refine ⟨hn g hg,a,cap,rfl,hc,fun an z bZ hgg=>?_⟩
       rw [I6 (hρ id j hj)] at bZ;unfold uQ at kV;split at kV
       · rename_i g' z' l' iW;obtain ⟨C9,lA,nB,rfl,_⟩:=m.vec iW;simp only [beq_iff_eq] at kV;subst kV;rw [sS nB] at bZ;simp only [ar,aa,ae] at bZ;obtain ⟨rfl,rfl⟩:=bZ;exact Nq (an:=C9) rfl rfl (hh C9 z' (sS nB) rfl)
       · cases kV
     · simp only [bT]
   · simp only [bT]
 | .ptr id np rp g o,val,k=>by
   simp only [bT] at k;obtain ⟨hg,a,rfl,hh⟩:=k;simp only [j7];split
   · rename_i j hj;split
     · rename_i kV;simp only [bT];refine ⟨hn g hg,a,rfl,fun an z bZ hgg=>?_⟩
       rw [I6 (hρ id j hj)] at bZ;unfold xQ at kV;split at kV
       · rename_i t s o' hl;obtain ⟨C9,tA,n7,rfl,_⟩:=m.look hl;simp only [ak,beq_iff_eq] at kV;obtain ⟨rfl,rfl⟩:=kV;obtain ⟨z0,iq⟩:=Gi n7;rw [iq] at bZ;simp only [ar,aa,ae] at bZ;obtain ⟨rfl,rfl⟩:=bZ;exact hh C9 z0 iq rfl
       · cases kV
     · simp only [bT]
   · simp only [bT]
 | .fE ..,val,k=>by simp only [bT] at k
 | .agg l,val,k=>by
   simp only [bT,j7] at k ⊢;obtain ⟨cs,rfl,k⟩:=k;exact ⟨cs,rfl,ee.clean m hρ hn k⟩
 | .fn f l,val,k=>by
   simp only [bT,j7] at k ⊢;obtain ⟨vs,rfl,k⟩:=k;exact ⟨vs,rfl,di.clean m hρ hn k⟩
 | .eO l,val,k=>by
   simp only [bT,j7] at k ⊢;obtain ⟨vs,rfl,k⟩:=k;exact ⟨vs,rfl,di.clean m hρ hn k⟩
 | .dead _,val,k=>by simp only [bT,j7]
theorem ee.clean (m:MR w A E h nx) (hρ:∀ i j,ρ i=some j→bk j=some i) (hn:∀ g,nx g→nx' (ζ g)):∀ {l:List MV} {cs:List Value},ee w A E nx l cs→ee w A (sa E h ρ ζ ζn bk) nx' (sx h ρ ζ l) cs
 | [],cs,k=>by simp only [ee,sx] at k ⊢;exact k
 | x::r,cs,k=>by
   simp only [ee,sx] at k ⊢;obtain ⟨v,d,rfl,h1,h2,h3,h4⟩:=k;refine ⟨v,d,rfl,by rw [R4];exact h1,fun c hc=>?_,bT.clean m hρ hn h3,ee.clean m hρ hn h4⟩
   rw [Y5];rcases h2 c hc with h5 | ⟨n,rfl⟩
   · exact .inl h5
   · exact .inr ⟨n,rfl⟩
theorem di.clean (m:MR w A E h nx) (hρ:∀ i j,ρ i=some j→bk j=some i) (hn:∀ g,nx g→nx' (ζ g)):∀ {l:List MV} {vs:List Value},di w A E nx l vs→di w A (sa E h ρ ζ ζn bk) nx' (sx h ρ ζ l) vs
 | [],vs,k=>by simp only [di,sx] at k ⊢;exact k
 | x::r,vs,k=>by
   simp only [di,sx] at k ⊢;obtain ⟨v,d,rfl,h1,h2⟩:=k;exact ⟨v,d,rfl,bT.clean m hρ hn h1,di.clean m hρ hn h2⟩
end
theorem EH {j:Nat} {o:Obj An} (ho:sa E h ρ ζ ζn bk j=some o):∃ i o0,bk j=some i∧E i=some o0∧o=kO (j7 h ρ ζ) (zA (ζn i)) o0:=by
 simp only [sa] at ho;cases hb:bk j with
 | none=>simp [hb] at ho
 | some i =>
   simp only [hb,ah] at ho;cases hE:E i with
   | none=>simp [hE] at ho
   | some o0 =>
     simp only [hE,ar,aa] at ho;exact ⟨i,o0,rfl,hE,ho.symm⟩
theorem Nr {b:Nat} (k:jJ (sa E h ρ ζ ζn bk) b):jJ E b:=by
 obtain ⟨j,o,ho,hb⟩:=k;obtain ⟨i,o0,_,hE,rfl⟩:=EH ho;rw [EG _ (zA (ζn i)) (fun _=>rfl)] at hb
 exact ⟨i,o0,hE,hb⟩
theorem MR.clean (m:MR w A E h nx) (hρ:∀ i j,ρ i=some j→bk j=some i) (s0:∀ i j j',bk j=some i→bk j'=some i→j=j') (hn:∀ g,nx g→nx' (ζ g)) (ED:∀ i g,nx g→nx' (ζn i g)):MR w A (sa E h ρ ζ ζn bk) (zi h ρ ζ ζn bk) nx':=by
 have c:uu w A E nx (sa E h ρ ζ ζn bk) nx' (j7 h ρ ζ):=⟨fun v val k=>bT.clean m hρ hn k,R4 h ρ ζ,Y5 h ρ ζ⟩
 constructor
 · intro j;simp only [sa,zi];cases bk j with
   | none=>rfl
   | some i =>
     simp only [ah,m.er i,kH];cases E i with
     | none=>rfl
     | some o=>simp only [ar,Function.comp,Y2]
 · intro j o ho;obtain ⟨i,o0,_,hE,rfl⟩:=EH ho;exact (m.at_ i o0 hE).ch (ζ:=zA (ζn i)) c (fun _=>rfl) (fun _=>rfl)
 · intro b hb;exact m.lt b (Nr hb)
 · intro j o ho;obtain ⟨i,o0,_,hE,rfl⟩:=EH ho;rw [EG _ (zA (ζn i)) (fun _=>rfl)]
   exact m.nd i o0 hE
 · intro j j' o o' ev ho oP b hb jx;obtain ⟨i,o0,hi,hE,rfl⟩:=EH ho;obtain ⟨i',o1,dP,uv,rfl⟩:=EH oP;rw [EG _ (zA (ζn i)) (fun _=>rfl)] at hb
   rw [EG _ (zA (ζn i')) (fun _=>rfl)] at jx
   by_cases e:i=i'
   · subst e;exact ev (s0 i j j' hi dP)
   · exact m.dj i i' o0 o1 e hE uv b hb jx
 · exact m.im
 · intro j o ho;obtain ⟨i,o0,_,hE,rfl⟩:=EH ho;exact D2O _ (zA (ζn i)) (fun an hg=>ED _ _ hg) (m.st i o0 hE)
end
end
end Go.Mid
namespace Go.Mid
open Go.RowKit
def wK (γ g0:Nat) (an:An):An:={ an with g:=uS γ g0 an.g }
theorem D6d (γ g0:Nat) (an:An):(wK γ g0 an).b=an.b:=rfl
section
variable {α β:Type}
mutual
theorem Y6 (f:α→β) (ck:Nat→α→α) (rs:α→α) (yh:Nat→β→β) (ny:β→β) (h1:∀ g a,f (ck g a)=yh g (f a)) (h2:∀ a,f (rs a)=ny (f a)) :
 ∀ (t:T Nat) (u:T α),(mY ck rs t u).mapA f=mY yh ny t (u.mapA f)
 | .agg l,.agg m=>by simp only [mY,T.mapA,Y7 f ck rs yh ny h1 h2 l m]
 | .vec g0 _ _ _,.vec a z l n=>by simp only [mY,T.mapA,h1,vF f rs ny h2]
 | .mp g0 _ _,.mp a ks l=>by simp only [mY,T.mapA,h1,vF f rs ny h2]
 | .p _,u=>by simp only [mY,GB f rs ny h2]
 | .m _,u=>by simp only [mY,GB f rs ny h2]
 | .hole _,u=>by simp only [mY,GB f rs ny h2]
 | .agg _,.p _=>rfl
 | .agg _,.m _=>rfl
 | .agg _,.vec ..=>by simp only [mY,T.mapA,jk,h2,vF f rs ny h2]
 | .agg _,.mp ..=>by simp only [mY,T.mapA,jk,h2,vF f rs ny h2]
 | .agg _,.hole _=>rfl
 | .vec ..,.p _=>rfl
 | .vec ..,.m _=>rfl
 | .vec ..,.agg _=>by simp only [mY,T.mapA,jk,vF f rs ny h2]
 | .vec ..,.mp ..=>by simp only [mY,T.mapA,jk,h2,vF f rs ny h2]
 | .vec ..,.hole _=>rfl
 | .mp ..,.p _=>rfl
 | .mp ..,.m _=>rfl
 | .mp ..,.agg _=>by simp only [mY,T.mapA,jk,vF f rs ny h2]
 | .mp ..,.vec ..=>by simp only [mY,T.mapA,jk,h2,vF f rs ny h2]
 | .mp ..,.hole _=>rfl
theorem Y7 (f:α→β) (ck:Nat→α→α) (rs:α→α) (yh:Nat→β→β) (ny:β→β) (h1:∀ g a,f (ck g a)=yh g (f a)) (h2:∀ a,f (rs a)=ny (f a)) :
 ∀ (l:List (T Nat)) (m:List (T α)),T.cP f (oD ck rs l m)=oD yh ny l (T.cP f m)
 | x::r,y::q=>by simp only [oD,T.cP,Y6 f ck rs yh ny h1 h2 x y,Y7 f ck rs yh ny h1 h2 r q]
 | [],q=>by simp only [oD,vF f rs ny h2]
 | x::r,[]=>by simp only [oD,T.cP,jQ]
theorem GB (f:α→β) (rs:α→α) (ny:β→β) (h2:∀ a,f (rs a)=ny (f a)):∀ (t:T α),(jk (fun v=>v) rs t).mapA f=jk (fun v=>v) ny (t.mapA f)
 | .p _=>rfl
 | .m _=>rfl
 | .agg l=>by simp only [jk,T.mapA,vF f rs ny h2 l]
 | .vec an _ l _=>by simp only [jk,T.mapA,vF f rs ny h2 l,h2]
 | .mp an _ l=>by simp only [jk,T.mapA,vF f rs ny h2 l,h2]
 | .hole _=>rfl
theorem vF (f:α→β) (rs:α→α) (ny:β→β) (h2:∀ a,f (rs a)=ny (f a)):∀ (l:List (T α)),T.cP f (jQ (fun v=>v) rs l)=jQ (fun v=>v) ny (T.cP f l)
 | []=>rfl
 | x::r=>by simp only [jQ,T.cP,GB f rs ny h2 x,vF f rs ny h2 r]
end
theorem Y8 (f:α→β) (ck:Nat→α→α) (rs:α→α) (yh:Nat→β→β) (ny:β→β) (h1:∀ g a,f (ck g a)=yh g (f a)) (h2:∀ a,f (rs a)=ny (f a)) (t:Option (Obj Nat)) (o:Obj α) :
 (q9 ck rs t o).mapA f=q9 yh ny t (o.mapA f):=by
 have e:∀ o:Obj α,(kO (fun v=>v) rs o).mapA f=kO (fun v=>v) ny (o.mapA f):=by
  intro o;cases o<;>simp only [kO,Obj.mapA,h2,GB f rs ny h2,vF f rs ny h2]
 cases t with
 | none=>exact e o
 | some t =>
   cases t<;>cases o<;>simp only [q9,Obj.mapA,kO,h1,h2,Y6 f ck rs yh ny h1 h2,vF f rs ny h2,GB f rs ny h2]
end
section
variable (ck:Nat→An→An) (rs:An→An)
mutual
theorem Y9 (hc:∀ g a,(ck g a).b=a.b) (hr:∀ a,(rs a).b=a.b):∀ (t:T Nat) (u:T An),(mY ck rs t u).blk=u.blk
 | .agg l,.agg m=>Za hc hr l m
 | .vec g0 _ _ _,.vec a z l n=>by simp only [mY,T.blk,hc,B1 _ _ hr]
 | .mp g0 _ _,.mp a ks l=>by simp only [mY,T.blk,hc,B1 _ _ hr]
 | .p _,u=>by simp only [mY,yg _ _ hr]
 | .m _,u=>by simp only [mY,yg _ _ hr]
 | .hole _,u=>by simp only [mY,yg _ _ hr]
 | .agg _,.p _=>rfl
 | .agg _,.m _=>rfl
 | .agg _,.vec ..=>yg _ _ hr _
 | .agg _,.mp ..=>yg _ _ hr _
 | .agg _,.hole _=>rfl
 | .vec ..,.p _=>rfl
 | .vec ..,.m _=>rfl
 | .vec ..,.agg _=>yg _ _ hr _
 | .vec ..,.mp ..=>yg _ _ hr _
 | .vec ..,.hole _=>rfl
 | .mp ..,.p _=>rfl
 | .mp ..,.m _=>rfl
 | .mp ..,.agg _=>yg _ _ hr _
 | .mp ..,.vec ..=>yg _ _ hr _
 | .mp ..,.hole _=>rfl
theorem Za (hc:∀ g a,(ck g a).b=a.b) (hr:∀ a,(rs a).b=a.b):∀ (l:List (T Nat)) (m:List (T An)),T.b9 (oD ck rs l m)=T.b9 m
 | x::r,y::q=>by simp only [oD,T.b9,Y9 hc hr x y,Za hc hr r q]
 | [],q=>by simp only [oD,B1 _ _ hr]
 | x::r,[]=>by simp only [oD,T.b9,jQ]
end
theorem C62 (hc:∀ g a,(ck g a).b=a.b) (hr:∀ a,(rs a).b=a.b) (t:Option (Obj Nat)) (o:Obj An):(q9 ck rs t o).blk=o.blk:=by
 cases t with
 | none=>exact EG _ _ hr o
 | some t =>
   cases t<;>cases o<;>simp only [q9,kO,Obj.blk,hc,hr,Y9 ck rs hc hr,B1 _ _ hr,yg _ _ hr]
end
def I7 (ck:Nat→An→An) (rs:An→An) (t:Option (Nat×Option Nat)) (y0 y:An×Option Nat):Prop :=
 y.2=y0.2∧(y.1=rs y0.1∨∃ g0 z0,t=some (g0,z0)∧y.1=ck g0 y0.1)
theorem Zb (rs:An→An) (t:T An) (q:List Nat):fM (jk (fun v=>v) rs t) q=(fM t q).map fun y=>(rs y.1,y.2):=by
 simp only [fM,Gz];cases c6 t q with
 | none=>rfl
 | some u=>cases u<;>rfl
theorem R5 (ck:Nat→An→An) (rs:An→An):∀ (q:List Nat) (t:T Nat) (u:T An),(∀ y0,fM u q=some y0→∃ y,fM (mY ck rs t u) q=some y∧I7 ck rs (fM t q) y0 y)∧(fM u q=none→fM (mY ck rs t u) q=none):=by
 have plain:∀ (q:List Nat) (t:T Nat) (u:T An),(∀ y0,fM u q=some y0→∃ y,fM (jk (fun v=>v) rs u) q=some y∧I7 ck rs (fM t q) y0 y)∧(fM u q=none→fM (jk (fun v=>v) rs u) q=none):=by
  intro q t u;rw [Zb];refine ⟨fun y0 h=>⟨(rs y0.1,y0.2),by rw [h];rfl,rfl,.inl rfl⟩,fun h=>by rw [h];rfl⟩
 have EI:∀ (l:List (T An)) (i:Nat) (r:List Nat),((jQ (fun v=>v) rs l)[i]?).bind (fun t=>fM t r)=((l[i]?).bind fun t=>fM t r).map fun y=>(rs y.1,y.2):=by
  intro l i r;rw [B0,aN];cases l[i]? with
  | none=>rfl
  | some x=>simp only [ar,ah,Zb]
 intro q
 induction q with
 | nil =>
   intro t u;cases t<;>cases u<;>first
    | exact plain [] _ _
    | exact ⟨fun y0 h=>(by cases h),fun _=>rfl⟩
    | (refine ⟨fun y0 h=>?_,fun h=>(by cases h)⟩
       simp only [fM,c6,aa] at h;subst h;exact ⟨_,rfl,rfl,.inr ⟨_,_,rfl,rfl⟩⟩)
 | cons i r ih =>
   intro t u;cases t<;>cases u<;>try exact plain (i::r) _ _
   · -- agg,agg
     rename_i l m;simp only [mY,Iz];have key:∀ (l:List (T Nat)) (m:List (T An)) (i:Nat),(∀ y0,(m[i]?).bind (fun t=>fM t r)=some y0→∃ y,((oD ck rs l m)[i]?).bind (fun t=>fM t r)=some y∧I7 ck rs ((l[i]?).bind fun t=>fM t r) y0 y) ∧
      ((m[i]?).bind (fun t=>fM t r)=none→((oD ck rs l m)[i]?).bind (fun t=>fM t r)=none):=by
      intro l
      induction l with
      | nil =>
        intro m i;simp only [oD];rw [EI];refine ⟨fun y0 h=>⟨(rs y0.1,y0.2),by rw [h];rfl,rfl,.inl rfl⟩,fun h=>by rw [h];rfl⟩
      | cons x l' ihl =>
        intro m i;cases m with
        | nil=>exact ⟨fun y0 h=>by simp at h,fun _=>by simp [oD,jQ]⟩
        | cons y m' =>
          cases i with
          | zero=>simp only [oD,List.getElem?_cons_zero,ah];exact ih x y
          | succ i=>simp only [oD,List.getElem?_cons_succ];exact ihl m' i
     exact key l m i
theorem R6 (ck:Nat→An→An) (rs:An→An) (t:Option (Obj Nat)) (u:Obj An) (np:Option (List Nat)):(∀ y0,fu (some u) np=some y0→∃ y,fu (some (q9 ck rs t u)) np=some y∧I7 ck rs (fu t np) y0 y)∧(fu (some u) np=none→fu (some (q9 ck rs t u)) np=none):=by
 have plain:∀ (t:Option (Obj Nat)) (u:Obj An),(∀ y0,fu (some u) np=some y0→∃ y,fu (some (kO (fun v=>v) rs u)) np=some y∧I7 ck rs (fu t np) y0 y)∧(fu (some u) np=none→fu (some (kO (fun v=>v) rs u)) np=none):=by
  intro t u;rw [R1];refine ⟨fun y0 h=>⟨(rs y0.1,y0.2),by rw [h];rfl,rfl,.inl rfl⟩,fun h=>by rw [h];rfl⟩
 cases t with
 | none=>exact plain none u
 | some t =>
   cases np with
   | none =>
     cases t<;>cases u<;>first
      | exact plain _ _
      | exact ⟨fun y0 h=>(by cases h),fun _=>rfl⟩
      | (refine ⟨fun y0 h=>?_,fun h=>(by cases h)⟩
         simp only [fu,aa] at h;subst h;exact ⟨_,rfl,rfl,.inr ⟨_,_,rfl,rfl⟩⟩)
   | some p =>
     cases t<;>cases u<;>try exact plain _ _
     · rename_i g0 t a u;simp only [sV,q9,Obj.pO];exact R5 ck rs p t u
     · rename_i g0 z0 l0 a z l;simp only [sV,q9,Obj.pO];exact R5 ck rs p (.vec g0 z0 l0 0) (.vec a z l 0)
     · rename_i g0 ks0 l0 a ks l;simp only [sV,q9,Obj.pO];exact R5 ck rs p (.mp g0 ks0 l0) (.mp a ks l)
end Go.Mid
namespace Go.Mid
open Go.RowKit
theorem EJ {l:List Nat} {x k:Nat} (h:pc l x=some k):l[k]?=some x:=by
 unfold pc at h;rw [List.findIdx?_eq_some_iff_getElem] at h;obtain ⟨h1,h2,_⟩:=h;simp only [beq_iff_eq] at h2;rw [af h1,h2]
theorem Ns {l:List Nat} {x:Nat} (h:pc l x=none):x∉l:=by
 unfold pc at h;rw [List.findIdx?_eq_none_iff] at h;intro hx
 have:=h x hx
 simp at this
theorem GC {l:List Nat} {x k:Nat} (hn:l.Nodup) (h:l[k]?=some x):pc l x=some k:=by
 cases hi:pc l x with
 | none=>exact (Ns hi (bI h)).elim
 | some k' =>
   have:=EJ hi
   congr 1;obtain ⟨h1,h2⟩:=aL.1 this;obtain ⟨h3,h4⟩:=aL.1 h;have hp:=List.pairwise_iff_getElem.1 (jr.1 hn);rcases Nat.lt_trichotomy k' k with eE | rfl | eE
   · exact (hp k' k h1 h3 eE (h2.trans h4.symm)).elim
   · rfl
   · exact (hp k k' h3 h1 eE (h4.trans h2.symm)).elim
theorem Zc (d:Option Nat) (n k:Nat) (hk:k<n):(kr d n)[k]?=some (xT (d.getD 0) k):=by
 simp only [kr,aN,List.getElem?_range hk,ar]
theorem C63 (d:Option Nat) (n:Nat):(kr d n).Nodup:=by
 simp only [kr];rw [jr,List.pairwise_map];refine List.Pairwise.imp ?_ (jr.1 List.nodup_range);intro a b s5 h;simp only [xT] at h;omega
theorem Nt {es ids:List Nat} {i j:Nat} (h:mZ es ids i=some j):(∃ k,es[k]?=some i∧j=kP+k)∨(i∉es∧∃ k,ids[k]?=some i∧j=eD+k):=by
 unfold mZ at h;split at h
 · rename_i k hk;cases h;exact .inl ⟨k,EJ hk,rfl⟩
 · rename_i hk;split at h
   · rename_i k' nu;cases h;exact .inr ⟨Ns hk,k',EJ nu,rfl⟩
   · cases h
theorem C64 {es ids:List Nat} {i:Nat} (h:mZ es ids i=none):i∉es∧i∉ids:=by
 unfold mZ at h;split at h
 · cases h
 · rename_i hk;split at h
   · cases h
   · rename_i nu;exact ⟨Ns hk,Ns nu⟩
mutual
theorem Zd {n:dv}:∀ {t:T An},(∀ q y,fM t q=some y→n y.1.g)→t.st n
 | .p _,_=>trivial
 | .m _,_=>trivial
 | .agg l,h=>by
   simp only [T.st];exact GD fun i t ht q y hy=>h (i::q) y (by simp only [Iz,ht,ah];exact hy)
 | .vec an z l k,h=>by
   simp only [T.st];exact ⟨h [] (an,some z) rfl,GD fun i t ht q y hy=>h (i::q) y (by simp only [BF,ht,ah];exact hy)⟩
 | .mp an ks l,h=>by
   simp only [T.st];exact ⟨h [] (an,none) rfl,GD fun i t ht q y hy=>h (i::q) y (by simp only [Q7,ht,ah];exact hy)⟩
 | .hole _,_=>trivial
theorem GD {n:dv}:∀ {l:List (T An)},(∀ (i:Nat) (t:T An),l[i]?=some t→∀ q y,fM t q=some y→n y.1.g)→T.ku n l
 | [],_=>trivial
 | x::r,h=>by
   simp only [T.ku];exact ⟨Zd fun q y hy=>h 0 x rfl q y hy,GD fun i t ht q y hy=>h (i+1) t ht q y hy⟩
end
theorem C0d {n:dv} {o:Obj An} (h:∀ np y,fu (some o) np=some y→n y.1.g):o.st n:=by
 cases o with
 | cell an t =>
   refine ⟨h none (an,none) rfl,Zd fun q y hy=>h (some q) y ?_⟩
   rw [sV];exact hy
 | vec an z l =>
   refine ⟨h (some []) (an,some z) rfl,GD fun i t ht q y hy=>h (some (i::q)) y ?_⟩
   rw [sV];simp only [Obj.pO,BF,ht,ah];exact hy
 | mp an ks l =>
   refine ⟨h (some []) (an,none) rfl,GD fun i t ht q y hy=>h (some (i::q)) y ?_⟩
   rw [sV];simp only [Obj.pO,Q7,ht,ah];exact hy
 | gone=>trivial
theorem D4e {n:dv}:∀ (q:List Nat) (t:T An) (y:An×Option Nat),t.st n→fM t q=some y→n y.1.g:=by
 intro q t y hs h;simp only [fM] at h;split at h<;>rename_i heq
 · cases h
   have:=BB q t _ heq hs
   exact this.1
 · cases h
   have:=BB q t _ heq hs
   exact this.1
 · cases h
theorem Ze {n:dv} {o:Obj An} {np:Option (List Nat)} {y:An×Option Nat} (hs:o.st n) (h:fu (some o) np=some y):n y.1.g:=by
 cases np with
 | none =>
   cases o<;>simp only [fu,reduceCtorEq,aa] at h;subst h;exact hs.1
 | some q =>
   rw [sV] at h;refine D4e q o.pO y ?_ h;cases o<;>first
    | exact hs.2
    | exact hs
    | trivial
theorem R7 {α β:Type} (f:α→β) (ob:Option (Obj α)) (np:Option (List Nat)):fu (ob.map (Obj.mapA f)) np=(fu ob np).map fun y=>(f y.1,y.2):=by
 cases ob with
 | none =>
   cases np with
   | none=>rfl
   | some p=>cases p<;>rfl
 | some o =>
   cases np with
   | none=>cases o<;>rfl
   | some p =>
     simp only [ar];rw [sV,sV];have e:(o.mapA f).pO=o.pO.mapA f:=by cases o<;>rfl
     rw [e,Yl]
section
variable {w:World} {A:Nat→Prop} {E:dW An} {nx:dv}
theorem uu.id (w:World) (A:Nat→Prop) (E:dW An) (nx:dv):uu w A E nx E nx (fun v=>v):=⟨fun _ _ h=>h,fun _=>rfl,fun _=>rfl⟩
mutual
theorem R8 (ck:Nat→An→An) (rs:An→An):∀ (t:T Nat) (u:T An),(mY ck rs t u).cs=u.cs
 | .agg l,.agg m=>Zf ck rs l m
 | .vec ..,.vec ..=>rfl
 | .mp ..,.mp ..=>rfl
 | .p _,u=>by simp only [mY];exact AZ _ _ (fun _=>rfl) u
 | .m _,u=>by simp only [mY];exact AZ _ _ (fun _=>rfl) u
 | .hole _,u=>by simp only [mY];exact AZ _ _ (fun _=>rfl) u
 | .agg _,.p _=>rfl
 | .agg _,.m _=>rfl
 | .agg _,.vec ..=>rfl
 | .agg _,.mp ..=>rfl
 | .agg _,.hole _=>rfl
 | .vec ..,.p _=>rfl
 | .vec ..,.m _=>rfl
 | .vec ..,.agg _=>AZ _ _ (fun _=>rfl) _
 | .vec ..,.mp ..=>rfl
 | .vec ..,.hole _=>rfl
 | .mp ..,.p _=>rfl
 | .mp ..,.m _=>rfl
 | .mp ..,.agg _=>AZ _ _ (fun _=>rfl) _
 | .mp ..,.vec ..=>rfl
 | .mp ..,.hole _=>rfl
theorem Zf (ck:Nat→An→An) (rs:An→An):∀ (l:List (T Nat)) (m:List (T An)),T.dm (oD ck rs l m)=T.dm m
 | x::r,y::q=>by simp only [oD,T.dm,R8 ck rs x y,Zf ck rs r q]
 | [],q=>by simp only [oD];exact R3 _ _ (fun _=>rfl) q
 | x::r,[]=>by simp only [oD,jQ]
end
theorem TAt.I8 {an qS:An} {z n b o:Nat} {l:List (T An)} (hb:qS.b=an.b) (hc:qS.cap=an.cap) (h:TAt w A E nx (.vec an z l n) b o):TAt w A E nx (.vec qS z l n) b o:=by
 simp only [TAt,hb,hc] at h ⊢;obtain ⟨a,cap,h1,h2,h3,h4⟩:=h;exact ⟨a,cap,h1,h2,Nq hb hc h3,h4⟩
mutual
theorem Zg {ck:Nat→An→An} {rs:An→An} (zj:∀ g a,(ck g a).b=a.b) (tF:∀ g a,(ck g a).cap=a.cap) (tG:∀ a,(rs a).b=a.b) (tH:∀ a,(rs a).cap=a.cap):∀ (t:T Nat) (u:T An) {b o:Nat},TAt w A E nx u b o→TAt w A E nx (mY ck rs t u) b o
 | .agg l,.agg m,b,o,h=>by simp only [TAt,mY] at h ⊢;exact Zh zj tF tG tH l m h
 | .vec g0 _ _ _,.vec a z l n,b,o,h=>by
   have:=h.ch (ζ:=rs) (uu.id w A E nx) tG tH
   simp only [jk] at this;exact this.I8 (by rw [zj,tG]) (by rw [tF,tH])
 | .mp g0 _ _,.mp a ks l,b,o,h=>by simp only [TAt] at h
 | .p _,u,b,o,h=>by simp only [mY];exact h.ch (uu.id w A E nx) tG tH
 | .m _,u,b,o,h=>by simp only [mY];exact h.ch (uu.id w A E nx) tG tH
 | .hole _,u,b,o,h=>by simp only [mY];exact h.ch (uu.id w A E nx) tG tH
 | .agg _,.p _,b,o,h=>h
 | .agg _,.m _,b,o,h=>h
 | .agg _,.vec ..,b,o,h=>h.ch (uu.id w A E nx) tG tH
 | .agg _,.mp ..,b,o,h=>by simp only [TAt] at h
 | .agg _,.hole _,b,o,h=>h
 | .vec ..,.p _,b,o,h=>h
 | .vec ..,.m _,b,o,h=>h
 | .vec ..,.agg _,b,o,h=>h.ch (uu.id w A E nx) tG tH
 | .vec ..,.mp ..,b,o,h=>by simp only [TAt] at h
 | .vec ..,.hole _,b,o,h=>h
 | .mp ..,.p _,b,o,h=>h
 | .mp ..,.m _,b,o,h=>h
 | .mp ..,.agg _,b,o,h=>h.ch (uu.id w A E nx) tG tH
 | .mp ..,.vec ..,b,o,h=>h.ch (uu.id w A E nx) tG tH
 | .mp ..,.hole _,b,o,h=>h
theorem Zh {ck:Nat→An→An} {rs:An→An} (zj:∀ g a,(ck g a).b=a.b) (tF:∀ g a,(ck g a).cap=a.cap) (tG:∀ a,(rs a).b=a.b) (tH:∀ a,(rs a).cap=a.cap):∀ (l:List (T Nat)) (m:List (T An)) {b o:Nat},cK w A E nx m b o→cK w A E nx (oD ck rs l m) b o
 | x::r,y::q,b,o,h=>by
   simp only [cK,oD] at h ⊢;rw [R8];exact ⟨Zg zj tF tG tH x y h.1,Zh zj tF tG tH r q h.2⟩
 | [],q,b,o,h=>by simp only [oD];exact h.ch (uu.id w A E nx) tG tH
 | x::r,[],b,o,h=>by simp only [oD,jQ,cK]
end
theorem C8X {ck:Nat→An→An} {rs:An→An} (zj:∀ g a,(ck g a).b=a.b) (tF:∀ g a,(ck g a).cap=a.cap) (tG:∀ a,(rs a).b=a.b) (tH:∀ a,(rs a).cap=a.cap) (t:Option (Obj Nat)) {o:Obj An} (h:OAt w A E nx o):OAt w A E nx (q9 ck rs t o):=by
 have plain:=h.ch (ζ:=rs) (uu.id w A E nx) tG tH;cases t with
 | none=>exact plain
 | some t =>
   cases t with
   | cell g0 t =>
     cases o with
     | cell an u =>
       simp only [OAt,q9] at h ⊢;obtain ⟨b,h1,h2,h3⟩:=h;exact ⟨b,by rw [zj];exact h1,by rw [R8];exact h2,Zg zj tF tG tH t u h3⟩
     | _=>exact plain
   | vec g0 z0 l0 =>
     cases o with
     | vec an z l =>
       simp only [kO,OAt,VB,tG,tH] at plain;simp only [q9,OAt,VB,zj,tF];exact plain
     | _=>exact plain
   | mp g0 ks l0 =>
     cases o with
     | mp an ks l=>simp only [OAt] at h
     | _=>exact plain
   | gone=>exact plain
end
end Go.Mid
namespace Go.Mid
open Go.RowKit
def S0:dv:=fun g=>g=0
section
variable (hr h:cq) (ρ:Nat→Nat)
mutual
theorem R9:∀ (v:MV),(nn hr h ρ v).cs=v.cs
 | .p _=>rfl
 | .nil _=>rfl
 | .own id path off len g=>by simp only [nn];split<;>(try split)<;>rfl
 | .ptr id np rp g o=>by simp only [nn];split<;>(try split)<;>rfl
 | .fE id path g=>by simp only [nn];split<;>(try split)<;>rfl
 | .agg l=>Zi l
 | .fn _ _=>rfl
 | .eO _=>rfl
 | .dead _=>rfl
theorem Zi:∀ (l:List MV),MV.dm (tR hr h ρ l)=MV.dm l
 | []=>rfl
 | x::r=>by simp only [tR,MV.dm,R9 x,Zi r]
end
theorem Zj (v:MV):(nn hr h ρ v).isAgg=v.isAgg:=by
 cases v<;>simp only [nn]<;>(try split)<;>(try split)<;>rfl
end
section
variable {w w':World} {A A':Nat→Prop} {E E' Ec:dW An} {nx nx':dv} {γ:Nat} {h:cq} {d:Option Nat} {ids:List Nat} {ext dL:List (Obj Nat)} {r:MV}
theorem C3e {j:Nat} {o:Obj Nat} (ho:kg ext dL j=some o):(∃ k,k<dL.length∧j=kP+k)∨(∃ k,k<ext.length∧j=eD+k):=by
 unfold kg at ho;split at ho
 · have:=(aL.1 ho).1
   exact .inl ⟨j-kP,this,by omega⟩
 · split at ho
   · have:=(aL.1 ho).1
     exact .inr ⟨j-eD,this,by omega⟩
   · cases ho
theorem Zk (hl:ext.length=ids.length) (hn:ids.Nodup) (lM:(kr d dL.length).any ids.contains=false) (kW:ids.length≤1000000) {j:Nat} {o:Obj Nat} (ho:kg ext dL j=some o) :
 mZ (kr d dL.length) ids (qd (d.getD 0) ids j)=some j:=by
 rcases C3e ho with ⟨k,hk,rfl⟩ | ⟨k,hk,rfl⟩
 · have e:qd (d.getD 0) ids (kP+k)=xT (d.getD 0) k:=by
    unfold qd;rw [if_pos (gp _ _),dD]
   rw [e];unfold mZ;rw [GC (C63 d _) (Zc d _ k hk)]
 · rw [hl] at hk;have e:qd (d.getD 0) ids (eD+k)=ids[k]:=by
    unfold qd;rw [if_neg (by simp only [kP,eD];omega)]
    rw [dD];simp [List.getD,af hk]
   rw [e];have Sa:pc (kr d dL.length) ids[k]=none:=by
    cases hi:pc (kr d dL.length) ids[k] with
    | none=>rfl
    | some k' =>
      exfalso;have hm:=bI (EJ hi)
      have:(kr d dL.length).any ids.contains=true:=List.any_eq_true.2 ⟨_,hm,by simp⟩
      rw [lM] at this;cases this
   unfold mZ;rw [Sa,GC hn (af hk)]
def B2 (γ:Nat) (h:cq) (es ids:List Nat) (E E':dW An):dW An:=fun i=>match mZ es ids i with
 | some j=>(E' j).map (q9 (wK γ) (m7 γ) (if kP≤j then none else h i))
 | none=>E i
def vG (γ:Nat) (h:cq) (es ids:List Nat) (φ:MV→MV) (E E':dW An):dW An:=fun i=>match mZ es ids i with
 | some j=>(E' j).map (fun o=>kO φ (zA fun a=>a) (q9 (wK γ) (m7 γ) (if kP≤j then none else h i) o))
 | none=>E i
theorem Sb {es:List Nat} {φ:MV→MV} (i:Nat) (np:Option (List Nat)):fu (vG γ h es ids φ E E' i) np=fu (B2 γ h es ids E E' i) np:=by
 unfold vG B2;cases mZ es ids i with
 | none=>rfl
 | some j =>
   simp only;cases E' j with
   | none=>rfl
   | some o =>
     simp only [ar];rw [R1];cases fu (some (q9 (wK γ) (m7 γ) (if kP≤j then none else h i) o)) np with
     | none=>rfl
     | some y=>rfl
theorem D0M (m:MR w A E h nx) (m':MR w' A' E' (kg ext dL) nx') (es:List Nat) (i:Nat) :
 (match mZ es ids i with | some j=>(kg ext dL j).map (qX γ h i j) | none=>h i)=(B2 γ h es ids E E' i).map (Obj.mapA An.g):=by
 unfold B2;cases mZ es ids i with
 | none=>exact m.er i
 | some j =>
   simp only [m'.er j,kH];cases E' j with
   | none=>rfl
   | some o =>
     simp only [ar,Function.comp,qX];congr 1;exact (Y8 An.g (wK γ) (m7 γ) (uS γ) (xR γ) (fun _ _=>rfl) (fun _=>rfl) _ o).symm
structure Entry (E Ec:dW An) (ids:List Nat):Prop where
 nd:ids.Nodup
 node:∀ (k i:Nat) (np:Option (List Nat)) (y:An×Option Nat),ids[k]?=some i→fu (Ec (eD+k)) np=some y→∃ y0,fu (E i) np=some y0∧y.2=y0.2∧y.1.b=y0.1.b∧y.1.cap=y0.1.cap
 own:∀ b,jJ Ec b→∃ i,i∈ids∧∃ o,E i=some o∧b∈o.blk
theorem C8Y (hγ:¬ nx γ) (m:MR w A E h nx) (en:Entry E Ec ids) (g:gJ w A Ec S0 w' A' E') (hl:ext.length=ids.length) (kW:ids.length≤1000000) (m':MR w' A' E' (kg ext dL) nx') (es:List Nat) (φ:MV→MV):oV nx E (vG γ h es ids φ E E'):=by
 intro i np an z bZ hg;rw [Sb] at bZ;unfold B2 at bZ;cases hs:mZ es ids i with
 | none=>simpa only [hs] using bZ
 | some j =>
   simp only [hs] at bZ;cases uv:E' j with
   | none =>
     rw [uv] at bZ;exfalso;cases np with
     | none=>cases bZ
     | some p=>cases p<;>cases bZ
   | some o =>
     simp only [uv,ar] at bZ;obtain ⟨h1,h2⟩:=R6 (wK γ) (m7 γ) (if kP≤j then none else h i) o np
     cases Ez:fu (some o) np with
     | none=>rw [h2 Ez] at bZ;cases bZ
     | some y0 =>
       obtain ⟨y,hy,hz,nY⟩:=h1 y0 Ez;rw [hy] at bZ;cases bZ;rcases nY with nY | ⟨g0,z0,hold,nY⟩
       · simp only at nY;rw [nY] at hg;exact (hγ hg).elim
       · simp only at nY hz;rcases Nt hs with ⟨k,_,rfl⟩ | ⟨_,k,hk,rfl⟩
         · rw [if_pos (by omega)] at hold
           exfalso;cases np with
           | none=>cases hold
           | some p=>cases p<;>cases hold
         · have nu:k<ids.length:=(aL.1 hk).1;rw [if_neg (by simp only [kP,eD];omega)] at hold
           by_cases ye:y0.1.g=0
           · have Sc:=g.ns (eD+k) np y0.1 y0.2 (by rw [uv];exact Ez) ye
             obtain ⟨y1,CS,Da,n9,pK⟩:=en.node k i np _ hk Sc;have I9:fu (h i) np=some (y1.1.g,y1.2):=by rw [m.er i,R7,CS];rfl
             rw [I9] at hold;simp only [aa,ae] at hold;obtain ⟨rfl,_⟩:=hold;rw [CS];obtain ⟨⟨g1,b1,c1⟩,zz1⟩:=y1;obtain ⟨⟨gg,bb,cc⟩,zz0⟩:=y0;simp only at ye n9 pK Da hz nY;subst ye n9 pK Da;rw [nY,hz];rfl
           · have:an.g=γ:=by rw [nY];simp only [wK,uS,if_neg ye]
             rw [this] at hg;exact (hγ hg).elim
theorem Zl (m:MR w A E h nx) {es:List Nat} {i:Nat} {np:Option (List Nat)} {y:An×Option Nat} (bZ:fu (B2 γ h es ids E E' i) np=some y):(nx.add γ) y.1.g:=by
 have old:∀ {g0 z0},fu (h i) np=some (g0,z0)→nx g0:=by
  intro g0 z0 h1;rw [m.er i,R7] at h1;cases hE:E i with
  | none =>
    rw [hE] at h1;cases np with
    | none=>cases h1
    | some p=>cases p<;>cases h1
  | some o =>
    rw [hE] at h1;cases hn:fu (some o) np with
    | none=>rw [hn] at h1;cases h1
    | some y1 =>
      rw [hn] at h1;simp only [ar,aa,ae] at h1;rw [← h1.1];exact Ze (m.st i o hE) hn
 unfold B2 at bZ;cases hs:mZ es ids i with
 | none =>
   simp only [hs] at bZ;cases hE:E i with
   | none =>
     rw [hE] at bZ;exfalso;cases np with
     | none=>cases bZ
     | some p=>cases p<;>cases bZ
   | some o=>rw [hE] at bZ;exact .inl (Ze (m.st i o hE) bZ)
 | some j =>
   simp only [hs] at bZ;cases uv:E' j with
   | none =>
     rw [uv] at bZ;exfalso;cases np with
     | none=>cases bZ
     | some p=>cases p<;>cases bZ
   | some o =>
     simp only [uv,ar] at bZ;obtain ⟨h1,h2⟩:=R6 (wK γ) (m7 γ) (if kP≤j then none else h i) o np
     cases Ez:fu (some o) np with
     | none=>rw [h2 Ez] at bZ;cases bZ
     | some y0 =>
       obtain ⟨y',hy,hz,nY⟩:=h1 y0 Ez;rw [hy] at bZ;cases bZ;rcases nY with nY | ⟨g0,z0,hold,nY⟩
       · rw [nY];exact .inr rfl
       · rw [nY];simp only [wK,uS];split
         · split at hold
           · exfalso;cases np with
             | none=>cases hold
             | some p=>cases p<;>cases hold
           · exact .inl (old hold)
         · exact .inr rfl
section
theorem Zm (m:MR w A E h nx) (m':MR w' A' E' (kg ext dL) nx') (hl:ext.length=ids.length) (hn:ids.Nodup) (lM:(kr d dL.length).any ids.contains=false) (kW:ids.length≤1000000) {j:Nat} {np:Option (List Nat)} {y0:An×Option Nat} (bZ:fu (E' j) np=some y0) (φ:MV→MV) :
 ∃ y,fu (vG γ h (kr d dL.length) ids φ E E' (qd (d.getD 0) ids j)) np=some y∧y.2=y0.2∧y.1.b=y0.1.b∧y.1.cap=y0.1.cap∧(nx.add γ) y.1.g ∧
  fu (match mZ (kr d dL.length) ids (qd (d.getD 0) ids j) with | some j'=>(kg ext dL j').map (qX γ h (qd (d.getD 0) ids j) j') | none=>h (qd (d.getD 0) ids j)) np=some (y.1.g,y.2):=by
 cases uv:E' j with
 | none =>
   rw [uv] at bZ;exfalso;cases np with
   | none=>cases bZ
   | some p=>cases p<;>cases bZ
 | some o =>
   have zk:kg ext dL j=some (o.mapA An.g):=by rw [m'.er j,uv];rfl
   have jV:=Zk (d:=d) hl hn lM kW zk;rw [uv] at bZ;obtain ⟨y,hy,hz,nY⟩:=(R6 (wK γ) (m7 γ) (if kP≤j then none else h (qd (d.getD 0) ids j)) o np).1 y0 bZ
   have hm:fu (B2 γ h (kr d dL.length) ids E E' (qd (d.getD 0) ids j)) np=some y:=by
    unfold B2;simp only [jV,uv,ar];exact hy
   refine ⟨y,by rw [Sb];exact hm,hz,?_,?_,Zl m hm,?_⟩
   · rcases nY with nY | ⟨_,_,_,nY⟩<;>rw [nY]<;>rfl
   · rcases nY with nY | ⟨_,_,_,nY⟩<;>rw [nY]<;>rfl
   · have:=D0M (γ:=γ) (ids:=ids) m m' (kr d dL.length) (qd (d.getD 0) ids j)
     rw [this,R7,hm];rfl
mutual
theorem bT.fresh (m:MR w A E h nx) (m':MR w' A' E' (kg ext dL) nx') (hl:ext.length=ids.length) (hn:ids.Nodup) (lM:(kr d dL.length).any ids.contains=false) (kW:ids.length≤1000000) (φ:MV→MV):∀ {v:MV} {val:Value},bT w' A' E' nx' v val→bT w' A' (vG γ h (kr d dL.length) ids φ E E') (nx.add γ)
 (nn (kg ext dL) (fun i=>match mZ (kr d dL.length) ids i with | some j=>(kg ext dL j).map (qX γ h i j) | none=>h i) (qd (d.getD 0) ids) v) val
 | .p v,val,k=>by simp only [bT,nn] at k ⊢;exact k
 | .nil _,val,k=>by simp only [bT,nn] at k ⊢;exact k
 | .own id path off len g,val,k=>by
   simp only [bT] at k;obtain ⟨hg,a,cap,rfl,hc,hh⟩:=k;simp only [nn];split
   · rename_i kV;unfold uQ at kV;split at kV
     · rename_i g' z' l' iW;obtain ⟨C9,lA,nB,rfl,_⟩:=m'.vec iW;simp only [beq_iff_eq] at kV;subst kV;obtain ⟨y,h1,h2,h3,h4,h5,h6⟩:=Zm (γ:=γ) (d:=d) m m' hl hn lM kW (sS nB) φ;rw [h6];simp only [bT];refine ⟨h5,a,cap,rfl,hc,fun an z bZ _=>?_⟩
       rw [h1] at bZ;cases bZ;simp only at h2 h3 h4;have h0:=hh C9 z' (sS nB) rfl;simp only [aa] at h2;subst h2;exact Nq h3 h4 h0
     · cases kV
   · simp only [bT]
 | .ptr id np rp g o,val,k=>by
   simp only [bT] at k;obtain ⟨hg,a,rfl,hh⟩:=k;simp only [nn];split
   · rename_i kV;unfold xQ at kV;split at kV
     · rename_i t s o' hlk;obtain ⟨C9,tA,n7,rfl,_⟩:=m'.look hlk;simp only [ak,beq_iff_eq] at kV;obtain ⟨rfl,rfl⟩:=kV;obtain ⟨z0,iq⟩:=Gi n7;obtain ⟨y,h1,h2,h3,h4,h5,h6⟩:=Zm (γ:=γ) (d:=d) m m' hl hn lM kW iq φ;rw [h6];simp only [bT];refine ⟨h5,a,rfl,fun an z bZ _=>?_⟩
       rw [h1] at bZ;cases bZ;simp only at h3;obtain ⟨b,hb,rfl⟩:=hh C9 z0 iq rfl;exact ⟨b,by rw [h3,hb],rfl⟩
     · cases kV
   · simp only [bT]
 | .fE ..,val,k=>by simp only [bT] at k
 | .agg l,val,k=>by
   simp only [bT,nn] at k ⊢;obtain ⟨cs,rfl,k⟩:=k;exact ⟨cs,rfl,ee.fresh m m' hl hn lM kW φ k⟩
 | .fn f l,val,k=>by
   simp only [bT,nn] at k ⊢;obtain ⟨vs,rfl,k⟩:=k;exact ⟨vs,rfl,di.fresh m m' hl hn lM kW φ k⟩
 | .eO l,val,k=>by
   simp only [bT,nn] at k ⊢;obtain ⟨vs,rfl,k⟩:=k;exact ⟨vs,rfl,di.fresh m m' hl hn lM kW φ k⟩
 | .dead _,val,k=>by simp only [bT,nn]
theorem ee.fresh (m:MR w A E h nx) (m':MR w' A' E' (kg ext dL) nx') (hl:ext.length=ids.length) (hn:ids.Nodup) (lM:(kr d dL.length).any ids.contains=false) (kW:ids.length≤1000000) (φ:MV→MV):∀ {l:List MV} {cs:List Value},ee w' A' E' nx' l cs→ee w' A' (vG γ h (kr d dL.length) ids φ E E') (nx.add γ)
 (tR (kg ext dL) (fun i=>match mZ (kr d dL.length) ids i with | some j=>(kg ext dL j).map (qX γ h i j) | none=>h i) (qd (d.getD 0) ids) l) cs
 | [],cs,k=>by simp only [ee,tR] at k ⊢;exact k
 | x::r,cs,k=>by
   simp only [ee,tR] at k ⊢;obtain ⟨v,d',rfl,h1,h2,h3,h4⟩:=k;refine ⟨v,d',rfl,by rw [R9];exact h1,fun c hc=>?_,bT.fresh m m' hl hn lM kW φ h3,ee.fresh m m' hl hn lM kW φ h4⟩
   rw [Zj];rcases h2 c hc with h5 | ⟨n,rfl⟩
   · exact .inl h5
   · exact .inr ⟨n,rfl⟩
theorem di.fresh (m:MR w A E h nx) (m':MR w' A' E' (kg ext dL) nx') (hl:ext.length=ids.length) (hn:ids.Nodup) (lM:(kr d dL.length).any ids.contains=false) (kW:ids.length≤1000000) (φ:MV→MV):∀ {l:List MV} {vs:List Value},di w' A' E' nx' l vs→di w' A' (vG γ h (kr d dL.length) ids φ E E') (nx.add γ)
 (tR (kg ext dL) (fun i=>match mZ (kr d dL.length) ids i with | some j=>(kg ext dL j).map (qX γ h i j) | none=>h i) (qd (d.getD 0) ids) l) vs
 | [],vs,k=>by simp only [di,tR] at k ⊢;exact k
 | x::r,vs,k=>by
   simp only [di,tR] at k ⊢;obtain ⟨v,d',rfl,h1,h2⟩:=k;exact ⟨v,d',rfl,bT.fresh m m' hl hn lM kW φ h1,di.fresh m m' hl hn lM kW φ h2⟩
end
end
theorem Zn {v:MV} {h2:cq} {val:Value} (hγ:¬ nx γ) (m:MR w A E h nx) (en:Entry E Ec ids) (g:gJ w A Ec S0 w' A' E') (m':MR w' A' E' (kg ext dL) nx') (ht:yJ γ d h ids r ext dL=some (v,h2)) (hv:bT w' A' E' nx' r val) :
 ∃ E2,MR w' A' E2 h2 (nx.add γ)∧gJ w A E nx w' A' E2∧bT w' A' E2 (nx.add γ) v val:=by
 unfold yJ at ht
 dsimp only at ht
 split at ht
 · cases ht
 · rename_i ed;simp only [not_or,ne_eq,Decidable.not_not,Bool.not_eq_true,Nat.not_lt] at ed;obtain ⟨hl,_,lM,kW,_⟩:=ed;simp only [aa,ae] at ht;obtain ⟨rfl,rfl⟩:=ht;have hn:=en.nd
   let Ea:cq:=fun i=>match mZ (kr d dL.length) ids i with | some j=>(kg ext dL j).map (qX γ h i j) | none=>h i
   let φ:MV→MV:=nn (kg ext dL) Ea (qd (d.getD 0) ids)
   have vC:=C8Y hγ m en g hl kW m' (kr d dL.length) φ;have c:uu w' A' E' nx' (vG γ h (kr d dL.length) ids φ E E') (nx.add γ) φ:=⟨fun v val k=>bT.fresh m m' hl hn lM kW φ k,R9 _ _ _,Zj _ _ _⟩
   have Nu:∀ b,jJ Ec b→jJ E b:=fun b hb=>by obtain ⟨i,_,o,ho,l7⟩:=en.own b hb;exact ⟨i,o,ho,l7⟩
   have EK:∀ b,A b→w'.heap[b]?=w.heap[b]?:=fun b hb=>g.bn b (m.im b hb) fun ho=>(m.lt b (Nu b ho)).2 hb
   have f:Fr w w' A A' E (vG γ h (kr d dL.length) ids φ E E') nx (nx.add γ):=⟨g.sub,EK,vC,nx.eP γ⟩;have s7:∀ i o,mZ (kr d dL.length) ids i=none→E i=some o→∀ b∈o.blk,¬ jJ Ec b:=by
    intro i o hs ho b hb hc;obtain ⟨i',dP,o',oP,jx⟩:=en.own b hc;by_cases e:i=i'
    · subst e;exact (C64 hs).2 dP
    · exact m.dj i i' o o' e ho oP b hb jx
   have get:∀ {i o},vG γ h (kr d dL.length) ids φ E E' i=some o→(mZ (kr d dL.length) ids i=none∧E i=some o)∨∃ j o0,mZ (kr d dL.length) ids i=some j∧E' j=some o0∧o=kO φ (zA fun a=>a) (q9 (wK γ) (m7 γ) (if kP≤j then none else h i) o0):=by
    intro i o ho;unfold vG at ho;cases hs:mZ (kr d dL.length) ids i with
    | none=>simp only [hs] at ho;exact .inl ⟨rfl,ho⟩
    | some j =>
      simp only [hs] at ho;cases uv:E' j with
      | none=>rw [uv] at ho;cases ho
      | some o0=>rw [uv] at ho;simp only [ar,aa] at ho;exact .inr ⟨j,o0,rfl,uv,ho.symm⟩
   have uw:∀ t (o0:Obj An),(kO φ (zA fun a=>a) (q9 (wK γ) (m7 γ) t o0)).blk=o0.blk:=by
    intro t o0;rw [EG _ _ (by intro an;rfl),C62 _ _ (D6d γ) (by intro an;rfl)]
   have owned:∀ b,jJ (vG γ h (kr d dL.length) ids φ E E') b→(∃ i o,mZ (kr d dL.length) ids i=none∧E i=some o∧b∈o.blk)∨jJ E' b:=by
    rintro b ⟨i,o,ho,hb⟩;rcases get ho with ⟨hs,ho⟩ | ⟨j,o0,hs,hq,rfl⟩
    · exact .inl ⟨i,o,hs,ho,hb⟩
    · rw [uw] at hb;exact .inr ⟨j,o0,hq,hb⟩
   refine ⟨vG γ h (kr d dL.length) ids φ E E',?_,?_,c.val r val hv⟩
   · constructor
     · intro i;unfold vG;cases hs:mZ (kr d dL.length) ids i with
       | none=>simp only;exact m.er i
       | some j =>
         simp only [m'.er j,kH];cases E' j with
         | none=>rfl
         | some o =>
           simp only [ar,Function.comp,qX];congr 1;rw [Y2,Y8 An.g (wK γ) (m7 γ) (uS γ) (xR γ) (fun _ _=>rfl) (fun _=>rfl)]
           rfl
     · intro i o ho;rcases get ho with ⟨hs,ho⟩ | ⟨j,o0,hs,hq,rfl⟩
       · exact OAt.frame f (fun x hx=>g.bn x (m.kp ho hx).1 (s7 i o hs ho x hx)) (m.at_ i o ho)
       · exact (C8X (ck:=wK γ) (rs:=m7 γ) (fun _ _=>rfl) (fun _ _=>rfl) (fun _=>rfl) (fun _=>rfl) _ (m'.at_ j o0 hq)).ch (ζ:=zA fun a=>a) c (fun _=>rfl) (fun _=>rfl)
     · intro b hb;rcases owned b hb with ⟨i,o,hs,ho,l7⟩ | hb
       · have h1:=m.kp ho l7;refine ⟨br h1.1 g.size,fun hA=>?_⟩
         rcases g.AD b h1.1 hA with h2 | h2
         · exact h1.2 h2
         · exact s7 i o hs ho b l7 h2
       · exact m'.lt b hb
     · intro i o ho;rcases get ho with ⟨hs,ho⟩ | ⟨j,o0,hs,hq,rfl⟩
       · exact m.nd i o ho
       · rw [uw];exact m'.nd j o0 hq
     · intro i i' o o' ev ho oP b hb jx;rcases get ho with ⟨hs,ho⟩ | ⟨j,o0,hs,hq,rfl⟩<;>rcases get oP with ⟨Em,oP⟩ | ⟨j',Zo,Em,Zp,rfl⟩
       · exact m.dj i i' o o' ev ho oP b hb jx
       · rw [uw] at jx;exact s7 i o hs ho b hb (g.own b (m.kp ho hb).1 ⟨j',Zo,Zp,jx⟩)
       · rw [uw] at hb;exact s7 i' o' Em oP b jx (g.own b (m.kp oP jx).1 ⟨j,o0,hq,hb⟩)
       · rw [uw] at hb jx;by_cases e:j=j'
         · subst e;have hr:kg ext dL j=some (o0.mapA An.g):=by rw [m'.er j,hq];rfl
           rcases Nt hs with ⟨k,hk,rfl⟩ | ⟨_,k,hk,rfl⟩<;>rcases Nt Em with ⟨k',nu,e⟩ | ⟨_,k',nu,e⟩
           · have:k=k':=by omega
             subst this;rw [hk] at nu;exact ev (cm nu)
           · have:=(aL.1 nu).1
             simp only [kP,eD] at e;omega
           · have:=(aL.1 hk).1
             simp only [kP,eD] at e;omega
           · have:k=k':=by omega
             subst this;rw [hk] at nu;exact ev (cm nu)
         · exact m'.dj j j' o0 Zo e hq Zp b hb jx
     · exact m'.im
     · intro i o ho;refine C0d fun np y hy=>?_
       have:fu (vG γ h (kr d dL.length) ids φ E E' i) np=some y:=by rw [ho];exact hy
       rw [Sb] at this;exact Zl m this
   · refine ⟨g.os,g.tape,g.output,g.size,fun b hb ho=>g.bn b hb fun hc=>ho (Nu b hc),g.sub,fun b hb hA=>(g.AD b hb hA).imp (fun h=>h) (Nu b),?_,vC⟩
     intro b eE hb;rcases owned b hb with ⟨i,o,_,ho,l7⟩ | hb
     · exact ⟨i,o,ho,l7⟩
     · exact Nu b (g.own b eE hb)
end
end Go.Mid
namespace Go.Mid
open Go.RowKit
def Sd (P:Program) (o:Oper) (a:Act) (w:World) (A:Nat→Prop) (E:dW An) (nx:dv) (γ:Nat) (v:MV) (h':cq):Prop :=
 ∀ (next:Act→World→Prop) (Q:Exit→Act→World→Prop),(∀ val w' A' E',bT w' A' E' (nx.add γ) v val→MR w' A' E' h' (nx.add γ)→gJ w A E nx w' A' E'→next (a.put o.dst val) w')→o.wp P a w next Q
theorem cI.wp {P:Program} {o:Oper} {a:Act} {w:World} {A:Nat→Prop} {E:dW An} {nx:dv} {γ:Nat} {v:MV} {h':cq} (k:cI P o a w A E nx γ v h'):Sd P o a w A E nx γ v h':=by
 intro next Q qB
 obtain ⟨val,w',A',E',hr,h1,h2,h3⟩:=k;rcases hr with hr | ⟨hr,rfl⟩
 · exact QQ hr (qB val w' A' E' h1 h2 h3)
 · exact C6Q hr (qB undef w' A' E' h1 h2 h3)
def EL (P:Program) (f:Nat):Prop:=∃ fn,P.funcs[f]?=some fn∧(fn.name == "runtime.NumGoroutine")=false∧fn.body.isNone=false
def A0 (P:Program) (K:jE):Prop:=∀ f args ext r ext' dL,K f args ext=some (r,ext',dL)→EL P f ∧
 ∀ (w:World) (A:Nat→Prop) (E:dW An) (hJ:List Value),GL P w A→di w A E S0 args hJ→MR w A E (nq ext) S0 →
  Calls P f hJ.toArray w fun e w'=>∃ v,e=.returned v∧∃ A' E' nx',MR w' A' E' (kg ext' dL) nx'∧gJ w A E S0 w' A' E'∧bT w' A' E' nx' r v
section
variable {w:World} {A A':Nat→Prop} {E:dW An} {nx:dv}
mutual
theorem Se:∀ {v:PV} {cs:List Value},vn v=true→ec w A' v cs→ec w A v cs
 | .int ..,cs,_,h=>by simpa only [ec] using h
 | .bool _,cs,_,h=>by simpa only [ec] using h
 | .str _,cs,_,h=>by simpa only [ec] using h
 | .agg l,cs,hf,h=>by simp only [ec] at h ⊢;exact Zq (by simpa only [vn] using hf) h
 | .sl _,cs,hf,h=>by simp [vn] at hf
 | .ref _,cs,hf,h=>by simp [vn] at hf
 | .fn ..,cs,hf,h=>by simp [vn] at hf
 | .mp ..,cs,hf,h=>by simp [vn] at hf
 | .eY,cs,_,h=>by simpa only [ec] using h
 | .fg,cs,_,h=>by simpa only [ec] using h
theorem Zq:∀ {l:List PV} {cs:List Value},DY l=true→cR w A' l cs→cR w A l cs
 | [],cs,_,h=>by simpa only [cR] using h
 | x::r,cs,hf,h=>by
   simp only [cR] at h ⊢;simp only [DY,ak] at hf;obtain ⟨c,d,rfl,h1,h2⟩:=h;exact ⟨c,d,rfl,Se hf.1 h1,Zq hf.2 h2⟩
end
theorem D0O {v:PV} {val:Value} (hf:vn v=true) (h:pe w A' v val):pe w A v val:=by
 obtain ⟨c,h1,h2⟩:=h;exact ⟨c,Se hf h1,h2⟩
mutual
theorem Sf:∀ {v:MV} {val:Value},uU v=true→bT w A' E nx v val→bT w A E nx v val
 | .p v,val,hf,h=>by simp only [bT] at h ⊢;exact D0O (by simpa only [uU] using hf) h
 | .nil _,val,_,h=>by simpa only [bT] using h
 | .own ..,val,_,h=>by simpa only [bT] using h
 | .ptr ..,val,_,h=>by simpa only [bT] using h
 | .fE ..,val,_,h=>by simp only [bT] at h
 | .agg l,val,hf,h=>by
   simp only [bT] at h ⊢;obtain ⟨cs,rfl,h⟩:=h;exact ⟨cs,rfl,Zr (by simpa only [uU] using hf) h⟩
 | .fn f l,val,hf,h=>by
   simp only [bT] at h ⊢;obtain ⟨vs,rfl,h⟩:=h;exact ⟨vs,rfl,Sh (by simpa only [uU] using hf) h⟩
 | .eO l,val,hf,h=>by
   simp only [bT] at h ⊢;obtain ⟨vs,rfl,h⟩:=h;exact ⟨vs,rfl,Sh (by simpa only [uU] using hf) h⟩
 | .dead _,val,_,h=>by simp only [bT]
theorem Zr:∀ {l:List MV} {cs:List Value},Bq l=true→ee w A' E nx l cs→ee w A E nx l cs
 | [],cs,_,h=>by simpa only [ee] using h
 | x::r,cs,hf,h=>by
   simp only [ee] at h ⊢;simp only [Bq,ak] at hf;obtain ⟨v,d,rfl,h1,h2,h3,h4⟩:=h;exact ⟨v,d,rfl,h1,h2,Sf hf.1 h3,Zr hf.2 h4⟩
theorem Sh:∀ {l:List MV} {vs:List Value},Bq l=true→di w A' E nx l vs→di w A E nx l vs
 | [],vs,_,h=>by simpa only [di] using h
 | x::r,vs,hf,h=>by
   simp only [di] at h ⊢;simp only [Bq,ak] at hf;obtain ⟨v,d,rfl,h1,h2⟩:=h;exact ⟨v,d,rfl,Sf hf.1 h1,Sh hf.2 h2⟩
end
mutual
theorem Zs:∀ {t:T An} {b o:Nat},yH t=true→TAt w A' E nx t b o→TAt w A E nx t b o
 | .p v,b,o,hf,h=>by simp only [TAt] at h ⊢;obtain ⟨cs,h1,h2⟩:=h;exact ⟨cs,Se (by simpa only [yH] using hf) h1,h2⟩
 | .m v,b,o,hf,h=>by simp [yH] at hf
 | .agg l,b,o,hf,h=>by simp only [TAt] at h ⊢;exact Nv (by simpa only [yH] using hf) h
 | .vec an z l n,b,o,hf,h=>by
   simp only [TAt] at h ⊢;simp only [yH] at hf;obtain ⟨a,cap,h1,h2,h3,h4⟩:=h;refine ⟨a,cap,h1,h2,h3,?_⟩;cases hb:an.b with
   | none=>simpa only [hb] using h4
   | some b'=>simp only [hb] at h4 ⊢;exact ⟨h4.1,h4.2.1,h4.2.2.1,Nv hf h4.2.2.2⟩
 | .mp ..,b,o,hf,h=>by simp only [TAt] at h
 | .hole n,b,o,_,h=>by simpa only [TAt] using h
theorem Nv:∀ {l:List (T An)} {b o:Nat},uT l=true→cK w A' E nx l b o→cK w A E nx l b o
 | [],b,o,_,h=>by simp only [cK]
 | t::r,b,o,hf,h=>by
   simp only [cK] at h ⊢;simp only [uT,ak] at hf;exact ⟨Zs hf.1 h.1,Nv hf.2 h.2⟩
end
theorem D0P {o:Obj An} (hf:tT o=true) (h:OAt w A' E nx o):OAt w A E nx o:=by
 cases o with
 | cell an t=>simp only [OAt] at h ⊢;obtain ⟨b,h1,h2,h3⟩:=h;exact ⟨b,h1,h2,Zs (by simpa only [tT] using hf) h3⟩
 | vec an z l =>
   simp only [OAt,VB] at h ⊢;simp only [tT] at hf;cases hb:an.b with
   | none=>simpa only [hb] using h
   | some b'=>simp only [hb] at h ⊢;exact ⟨h.1,h.2.1,h.2.2.1,Nv hf h.2.2.2⟩
 | mp=>simp only [OAt] at h
 | gone=>trivial
end
section
variable {α β:Type} (f:α→β)
mutual
theorem Zt:∀ (t:T α),yH (t.mapA f)=yH t
 | .p _=>rfl
 | .m _=>rfl
 | .agg l=>Ja l
 | .vec _ _ l _=>Ja l
 | .mp _ _ l=>Ja l
 | .hole _=>rfl
theorem Ja:∀ (l:List (T α)),uT (T.cP f l)=uT l
 | []=>rfl
 | x::r=>by simp only [T.cP,uT,Zt x,Ja r]
end
theorem C65 (o:Obj α):tT (o.mapA f)=tT o:=by
 cases o<;>simp only [Obj.mapA,tT,Zt,Ja]
end
theorem Si {l:List Nat} {x:Nat}:x∈yG l↔x∈l:=by
 induction l with
 | nil=>rfl
 | cons y r ih =>
   simp only [yG];split
   · rename_i h
     have:y∈yG r:=by simpa using h
     simp only [aM,← ih];exact ⟨.inr,fun h=>h.elim (fun e=>e ▸ this) id⟩
   · simp only [aM,ih]
theorem Sj (l:List Nat):(yG l).Nodup:=by
 induction l with
 | nil=>exact hZ
 | cons y r ih =>
   simp only [yG];split
   · exact ih
   · rename_i h;exact List.nodup_cons.2 ⟨by simpa using h,ih⟩
theorem Jb {h:cq}:∀ {ids:List Nat} {ql:List (Obj Nat)},sy h ids=some ql→∀ k:Nat,ql[k]?=(ids[k]?).bind h
 | [],ql,hg,k=>by simp only [sy,aa] at hg;subst hg;simp
 | i::r,ql,hg,k=>by
   simp only [sy] at hg;split at hg
   · rename_i o os h1 h2;cases hg;cases k with
     | zero=>simp [h1]
     | succ k=>simpa using Jb h2 k
   · cases hg
section
variable {P:Program} {o:Oper} {a:Act} {w:World} {A:Nat→Prop} {E:dW An} {nx:dv} {γ:Nat} {v:MV} {h h':cq} {s:gI} {K:jE} {d:Option Nat}
theorem di.append:∀ {l m:List MV} {vs ws:List Value},di w A E nx l vs→di w A E nx m ws→di w A E nx (l++m) (vs++ws)
 | [],m,vs,ws,h1,h2=>by simp only [di] at h1;subst h1;exact h2
 | x::r,m,vs,ws,h1,h2=>by
   simp only [di,aS] at h1 ⊢;obtain ⟨u,d,rfl,h3,h4⟩:=h1;exact ⟨u,d++ws,rfl,h3,h4.append h2⟩
theorem Zu {c:Call} {fo:Operand} {f:Nat} {first ji:Array Value} (ho:o.op=.call c) (hc:c.callee=.value fo) (hv:a.eval fo=.func (.func f) first ji) (he:EL P f) :
 (execOp a.eval o).run P w=.ok (.enter f (first++c.args.map a.eval++ji)) w:=by
 obtain ⟨fn,h1,h2,h3⟩:=he;simp only [execOp,ho,resolve,hc,hv,Deferred.ofValue,bx,bN,aV,invoke,callFunc,run_program,h1,h2,h3,Bool.false_eq_true,if_false]
theorem C66 {m:MV} {val:Value} {f:Nat} {cs:List MV} (hc:callee m=some (f,cs)) (hv:bT w A E nx m val):∃ ji:List Value,val=vu f ji.toArray∧di w A E nx cs ji:=by
 unfold callee at hc;split at hc
 · cases hc;obtain ⟨vs,rfl,h1⟩:=MF.1 hv;exact ⟨vs,rfl,yU.2 h1⟩
 · cases hc;simp only [bT] at hv;obtain ⟨vs,rfl,h1⟩:=hv;exact ⟨vs,rfl,h1⟩
 · cases hc
theorem C5h {c:Call} {fo:Operand} {m:MV} {f:Nat} {args al:List MV} (ho:o.op=.call c) (Na:c.callee=.value fo) (hc:DZ m args=some (f,al)) (hv:bT w A E nx m (a.eval fo)) (ha:di w A E nx args (c.args.toList.map a.eval)) :
 ∃ hJ:List Value,di w A E nx al hJ∧(EL P f→(execOp a.eval o).run P w=.ok (.enter f hJ.toArray) w):=by
 unfold DZ at hc;split at hc
 · rename_i f0 cs hcal;obtain ⟨ji,EM,AH⟩:=C66 hcal hv;split at hc
   · rename_i eE;cases hc;rw [QO eE] at EM;refine ⟨c.args.toList.map a.eval++ji,ha.append AH,fun he=>?_⟩
     rw [Zu ho Na EM he];congr 2;apply gO;simp
   · rename_i wD;simp only [aa,ae] at hc;obtain ⟨rfl,rfl⟩:=hc;rw [XD (Nat.le_of_not_lt wD)] at EM;refine ⟨ji++c.args.toList.map a.eval,AH.append ha,fun he=>?_⟩
     rw [Zu ho Na EM he];congr 2;apply gO;simp
 · cases hc
theorem MR.none (hA:∀ b,A b→b<w.heap.size):MR w A (fun _=>js) (nq []) S0 where
 er:=fun i=>by simp [nq]
 at_:=fun i o ho=>by cases ho
 lt:=fun b ⟨i,o,ho,_⟩=>by cases ho
 nd:=fun i o ho=>by cases ho
 dj:=fun i j o o' _ ho=>by cases ho
 im:=hA
 st:=fun i o ho=>by cases ho
theorem GF {b:Nat}:¬ jJ (fun _=>js) b:=fun ⟨_,_,ho,_⟩=>by cases ho
theorem Zv (hK:A0 P K) (sd:GL P w A) (m:MR w A E h nx) {f:Nat} {args:List MV} {vs:List PV} {hJ:List Value} {r:MV} {dL:List (Obj Nat)} (hp:rI h args=some vs) (hk:K f (vs.map .p) []=some (r,[],dL))
 (hc:(pF args).isSome=true∨(uU r&&dL.all tT)=true) (hv:di w A E nx args hJ) :
 EL P f∧Calls P f hJ.toArray w fun e w'=>∃ v,e=.returned v∧∃ A' E' nx',MR w' A' E' (kg [] dL) nx'∧gJ w A (fun _=>js) S0 w' A' E'∧bT w' A' E' nx' r v:=by
 obtain ⟨k1,k2⟩:=hK _ _ _ _ _ _ hk;refine ⟨k1,?_⟩;rcases hc with hc | hc
 · obtain ⟨us,I0⟩:=Option.isSome_iff_exists.1 hc;have e:=CV I0;have fY:vs=us:=by
    have:∀ l:List PV,rI h (l.map .p)=some l:=by
     intro l
     induction l with
     | nil=>rfl
     | cons x r ih=>simp only [aG,rI,mC,ih]
    rw [e,this] at hp;exact (cm hp).symm
   subst fY;rw [e] at hv;exact k2 w A _ hJ sd (yU.2 (yU.1 hv)) (MR.none m.im)
 · simp only [ak] at hc;have xY:=Nh (A':=fun b=>A b∨jJ E b) m (fun b hb=>.inl hb) hp (fun i _ o ho b hb=>.inr ⟨i,o,ho,hb⟩) hv
   refine (k2 w _ _ hJ (sd.frame (fun b hb=>.inl hb) (fun _ _=>rfl)) (yU.2 xY) (MR.none fun b hb=>hb.elim (m.im b) fun ho=>(m.lt b ho).1)).mono ?_
   rintro e w' ⟨v,rfl,A',E',nx',m',g,h1⟩;refine ⟨v,rfl,A,E',nx',?_,?_,Sf hc.1 h1⟩
   · have hold:∀ b,jJ E' b→¬ A b:=by
      intro b hb hA;exact GF (g.own b (m.im b hA) hb)
     refine ⟨m'.er,fun i o ho=>?_,fun b hb=>⟨(m'.lt b hb).1,hold b hb⟩,m'.nd,m'.dj,fun b hb=>br (m.im b hb) g.size,m'.st⟩
     refine D0P ?_ (m'.at_ i o ho);have hr:kg [] dL i=some (o.mapA An.g):=by rw [m'.er i,ho];rfl
     have pf:o.mapA An.g∈dL:=by
      unfold kg at hr;split at hr
      · exact bI hr
      · split at hr
        · simp at hr
        · cases hr
     have:=bj.1 hc.2 _ pf
     rwa [C65] at this
   · exact ⟨g.os,g.tape,g.output,g.size,g.bn,fun _ h=>h,fun _ _ h=>.inl h,g.own,g.ns⟩
theorem C67 (dL:List (Obj Nat)):kg [] dL=D0 dL:=by
 funext i;unfold kg D0;split
 · rfl
 · split<;>simp
theorem Entry.none (E:dW An):Entry E (fun _=>js) [] where
 nd:=hZ
 node:=fun k i np y h=>by simp at h
 own:=fun b hb=>(GF hb).elim
theorem C68 (m:MR w A E h nx) {w':World} {A':Nat→Prop} {E':dW An} {nx':dv} {hh:cq} (m':MR w' A' E' hh nx') (g:gJ w A (fun _=>js) S0 w' A' E') (γ:Nat) :
 MR w' (fun b=>A' b∨jJ E' b) E h (nx.add γ)∧gJ w A E nx w' (fun b=>A' b∨jJ E' b) E:=by
 have hold:∀ b,b<w.heap.size→w'.heap[b]?=w.heap[b]?:=fun b hb=>g.bn b hb GF
 have f:Fr w w' A (fun b=>A' b∨jJ E' b) E E nx (nx.add γ):=⟨fun b hb=>.inl (g.sub b hb),fun b hb=>hold b (m.im b hb),oV.refl _ _,nx.eP γ⟩
 have Jc:∀ b,b<w.heap.size→(A' b∨jJ E' b)→A b:=by
  intro b hb h1;rcases h1 with h1 | h1
  · exact (g.AD b hb h1).resolve_right GF
  · exact (GF (g.own b hb h1)).elim
 refine ⟨⟨m.er,fun i o ho=>OAt.frame f (fun x hx=>hold x (m.kp ho hx).1) (m.at_ i o ho),fun b hb=>?_,m.nd,m.dj,fun b hb=>?_,fun i o ho=>Obj.kx (nx.eP γ) (m.st i o ho)⟩,?_⟩
 · have:=m.lt b hb
   exact ⟨br this.1 g.size,fun h1=>this.2 (Jc b this.1 h1)⟩
 · exact hb.elim (m'.im b) fun ho=>(m'.lt b ho).1
 · exact ⟨g.os,g.tape,g.output,g.size,fun b hb _=>hold b hb,fun b hb=>.inl (g.sub b hb),fun b hb h1=>.inl (Jc b hb h1),fun _ _ h=>h,oV.refl _ _⟩
theorem Sk {f:Nat} {args:Array Value} {R:Ending→World→Prop} {next:Act→World→Prop} {Q:Exit→Act→World→Prop} (hr:(execOp a.eval o).run P w=.ok (.enter f args) w) (hc:Calls P f args w R)
 (hn:∀ e w',R e w'→∃ v,e=.returned v∧next (a.put o.dst v) w'):o.wp P a w next Q:=by
 unfold Oper.wp;rw [hr];refine hc.mono ?_;intro e w' he;obtain ⟨v,rfl,h1⟩:=hn e w' he;exact h1
theorem D0Q (hs:qf P w A E nx s a) (hm:MR w A E h nx) (hγ:¬ nx γ) (hK:A0 P K) {c:Call} {fo:Operand} {f':dQ} {l:List dQ} {t0:TypeId} {ts:List TypeId} {md:Nat} (ho:o.op=.call c) (hc:c.callee=.value fo) (hf:fD P t0 fo=some f') (hl:qR P ts c.args.toList=some l)
 (he:cf K γ d s h (.call md f' l)=some (v,h')):Sd P o a w A E nx γ v h':=by
 have hvf:=j3 hs hf;have Db:=Gf hs hl;simp only [cf] at he;split at he
 · rename_i f al hcal;obtain ⟨hJ,zm,il⟩:=C5h (P:=P) ho hc hcal hvf Db;split at he
   · -- a Jd
     unfold yI at he;split at he
     · rename_i vs fY;split at he
       · rename_i u fr qA;split at he
         · rename_i ed;simp only [aa,ae] at he;obtain ⟨rfl,rfl⟩:=he;unfold xS at qA;split at qA
           · rename_i r dL hk;have EN:fr=(uU r&&dL.all tT):=by
              split at qA
              · split at qA<;>simp only [aa,ae,reduceCtorEq] at qA;exact qA.2.symm
              · split at qA<;>simp only [aa,ae,reduceCtorEq] at qA;exact qA.2.symm
             have nY:(pF al).isSome=true∨(uU r&&dL.all tT)=true:=by
              rw [EN] at ed;simp only [Bool.or_eq_true] at ed;exact ed.symm
             obtain ⟨k1,k2⟩:=Zv hK hs.gl hm fY hk nY zm;intro next Q qB
             refine Sk (il k1) k2 ?_;rintro e w' ⟨v,rfl,A',E',nx',m',g,h1⟩;refine ⟨v,rfl,?_⟩;obtain ⟨q1,q2⟩:=C68 hm m' g γ;refine qB v w' _ E ?_ q1 q2;rw [C67] at m';split at qA
             · rename_i ll;split at qA
               · rename_i ws hws;simp only [aa,ae] at qA;rw [← qA.1];simp only [bT] at h1 ⊢;obtain ⟨vs1,rfl,h1⟩:=h1;refine ⟨vs1,rfl,yU.2 ?_⟩;exact Nh m' (fun b hb=>.inl hb) hws (fun i _ o ho b hb=>.inr ⟨i,o,ho,hb⟩) h1
               · cases qA
             · split at qA
               · rename_i u1 Gv;simp only [aa,ae] at qA;rw [← qA.1];simp only [bT];exact C7 m' (fun b hb=>.inl hb) Gv (fun i _ o ho b hb=>.inr ⟨i,o,ho,hb⟩) h1
               · cases qA
           · cases qA
         · cases he
       · cases he
     · cases he
   · -- shared memory
     unfold Br at he
     dsimp only at he
     split at he
     · cases he
     · rename_i ql sF;split at he
       · cases he
       · rename_i r ext dL hk;obtain ⟨k1,k2⟩:=hK _ _ _ _ _ _ hk;generalize B3:jw h (jw h (mD al))=ids at he hk sF k2;have iq:ids.Nodup:=by rw [← B3];exact Sj _
         let bk:Nat→Option Nat:=fun j=>if eD≤j then ids[j-eD]? else none
         have hρ:∀ i j,tU ids i=some j→bk j=some i:=by
          intro i j hj;unfold tU at hj;cases hi:pc ids i with
          | none=>simp [hi] at hj
          | some k =>
            simp only [hi,ar,aa] at hj;subst hj;simp only [bk];rw [if_pos (gp _ _),dD];exact EJ hi
         have s0:∀ i j j',bk j=some i→bk j'=some i→j=j':=by
          intro i j j' h1 h2;simp only [bk] at h1 h2;split at h1
          · split at h2
            · have e1:=GC iq h1;have e2:=GC iq h2;rw [e1] at e2
              have:=cm e2
              omega
            · cases h2
          · cases h1
         have m1:MR w A (sa E h (tU ids) (fun _=>0) (fun _ _=>0) bk) (zi h (tU ids) (fun _=>0) (fun _ _=>0) bk) S0:=hm.clean hρ s0 (fun _ _=>rfl) (fun _ _ _=>rfl)
         have Nw:zi h (tU ids) (fun _=>0) (fun _ _=>0) bk=nq (ql.map (kO (j7 h (tU ids) (fun _=>0)) (fun _=>0))):=by
          funext j;simp only [zi,nq,bk];split
          · rw [aN,Jb sF];cases ids[j-eD]? <;> rfl
          · rfl
         rw [Nw] at m1;have EO:di w A (sa E h (tU ids) (fun _=>0) (fun _ _=>0) bk) S0 (sx h (tU ids) (fun _=>0) al) hJ:=di.clean (nx':=S0) (ζ:=fun _=>0) hm hρ (fun _ _=>rfl) zm
         have zn:=k2 w A _ _ hs.gl EO m1;intro next Q qB
         refine Sk (il k1) zn ?_;rintro e w' ⟨v1,rfl,A',E',nx',m',g,h1⟩;refine ⟨v1,rfl,?_⟩;have en:Entry E (sa E h (tU ids) (fun _=>0) (fun _ _=>0) bk) ids:=by
          refine ⟨iq,fun k i np y hk bZ=>?_,fun b hb=>?_⟩
          · have hb:bk (eD+k)=some i:=by
             simp only [bk];rw [if_pos (gp _ _),dD];exact hk
            rw [I6 hb] at bZ;cases hn:fu (E i) np with
            | none=>simp [hn] at bZ
            | some y0 =>
              simp only [hn,ar,aa] at bZ;subst bZ;exact ⟨y0,rfl,rfl,rfl,rfl⟩
          · obtain ⟨j,o1,nw,hb⟩:=hb;obtain ⟨i,o0,rQ,hE,rfl⟩:=EH nw;rw [EG _ (zA fun _=>0) (fun _=>rfl)] at hb
            simp only [bk] at rQ;split at rQ
            · exact ⟨i,bI rQ,o0,hE,hb⟩
            · cases rQ
         obtain ⟨E2,q1,q2,q3⟩:=Zn hγ hm en g m' he h1;exact qB v1 w' A' E2 q3 q1 q2
   · -- pure arguments,an owned result
     unfold As at he;split at he
     · rename_i vs fY;split at he
       · rename_i r dL hk;split at he
         · rename_i ed;have nY:(pF al).isSome=true∨(uU r&&dL.all tT)=true:=by simpa using ed
           obtain ⟨k1,k2⟩:=Zv hK hs.gl hm fY hk nY zm;intro next Q qB
           refine Sk (il k1) k2 ?_;rintro e w' ⟨v1,rfl,A',E',nx',m',g,h1⟩;refine ⟨v1,rfl,?_⟩;obtain ⟨E2,q1,q2,q3⟩:=Zn hγ hm (Entry.none E) g m' he h1;exact qB v1 w' A' E2 q3 q1 q2
         · cases he
       · cases he
     · cases he
 · cases he
end
end Go.Mid
namespace Go.Mid
open Go.RowKit
section
variable {P:Program} {o:Oper} {a:Act} {w:World} {A:Nat→Prop} {E:dW An} {nx:dv} {γ:Nat} {v:MV} {h h':cq} {s:gI} {K:jE} {d:Option Nat}
theorem Je {l:List TypeId} {xs:List Operand} {x:dQ} (h:qR P l xs=some [x]):∃ y t,xs=[y]∧fD P t y=some x:=by
 cases xs with
 | nil=>cases l<;>simp [qR] at h
 | cons y r =>
   cases l with
   | nil =>
     simp only [qR] at h;split at h
     · rename_i o os h1 h2;cases h;cases r with
       | nil=>exact ⟨y,0,rfl,h1⟩
       | cons z q=>simp only [qR] at h2;split at h2<;>cases h2
     · cases h
   | cons t ts =>
     simp only [qR] at h;split at h
     · rename_i o os h1 h2;cases h;cases r with
       | nil=>exact ⟨y,t,rfl,h1⟩
       | cons z q=>cases ts<;>(simp only [qR] at h2;split at h2<;>cases h2)
     · cases h
theorem Zw {l:List TypeId} {xs:List Operand} {x x':dQ} (h:qR P l xs=some [x,x']):∃ y y' t t',xs=[y,y']∧fD P t y=some x∧fD P t' y'=some x':=by
 cases xs with
 | nil=>cases l<;>simp [qR] at h
 | cons y r =>
   cases l with
   | nil =>
     simp only [qR] at h;split at h
     · rename_i o os h1 h2;cases h;obtain ⟨z,t,rfl,h3⟩:=Je h2;exact ⟨y,z,0,t,rfl,h1,h3⟩
     · cases h
   | cons t ts =>
     simp only [qR] at h;split at h
     · rename_i o os h1 h2;cases h;obtain ⟨z,t',rfl,h3⟩:=Je h2;exact ⟨y,z,t,t',rfl,h1,h3⟩
     · cases h
theorem u5 {α:Type} {a:Array α} {l:List α} (h:a.toList=l):a=l.toArray:=by
 apply gO;simpa using h
theorem Zx {P:Program} {x:Option Operand} (h:vt P x=some none):x=none:=by
 cases x with
 | none=>rfl
 | some x =>
   simp only [vt] at h;cases hc:fD P 0 x<;>simp [hc] at h
theorem Zy {P:Program} {x:Option Operand} {y:dQ} (h:vt P x=some (some y)):∃ z,x=some z∧fD P 0 z=some y:=by
 unfold vt at h;cases x with
 | none=>simp at h
 | some z =>
   simp only at h;split at h
   · rename_i o ho;cases h;exact ⟨z,rfl,ho⟩
   · cases h
variable (hs:qf P w A E nx s a) (hm:MR w A E h nx) (hγ:¬ nx γ) (hK:A0 P K)
include hs hm hγ hK
theorem D4f {m:su} {md:Nat} {mt pz:Bool} (hc:pJ P md mt pz o.type o.op=some m) (he:cf K γ d s h m=some (v,h')):Sd P o a w A E nx γ v h':=by
 cases fj:o.op with
 | move x =>
   rw [fj] at hc;simp only [pJ] at hc;split at hc
   · rename_i y hy;cases hc;exact (XT hs hm (.inl fj) hy he).wp
   · cases hc
 | assign x =>
   rw [fj] at hc;simp only [pJ] at hc;split at hc
   · rename_i e hu;cases hc;exact (D0G (e:=e) hm hγ fj he).wp
   · split at hc
     · rename_i y hy;cases hc;exact (XT hs hm (.inr fj) hy he).wp
     · cases hc
 | pick c x y =>
   rw [fj] at hc;simp only [pJ] at hc;split at hc
   · rename_i c' x' y' h1 h2 h3;cases hc;exact (D0w hs hm fj h1 h2 h3 he).wp
   · cases hc
 | alloc t =>
   rw [fj] at hc;simp only [pJ] at hc;split at hc
   · rename_i z hz;cases hc;exact (C8T hm hγ fj hz he).wp
   · cases hc
 | box t x =>
   rw [fj] at hc;simp only [pJ] at hc;split at hc
   · rename_i y hy;cases hc;exact (D2H hs hm hγ fj hy he).wp
   · cases hc
 | build t parts =>
   rw [fj] at hc;simp only [pJ] at hc;split at hc
   · rename_i zc fs hz hu;split at hc
     · rename_i ed;simp only [ak] at ed;split at hc
       · rename_i l hl;cases hc;exact (C6Z hs hm fj hz hu ed.1 ed.2 hl he).wp
       · cases hc
     · cases hc
   · rename_i zc n e hz hu;split at hc
     · rename_i ed;simp only [ak] at ed;split at hc
       · rename_i l hl;cases hc;exact (C60 hs hm fj hz hu ed.1 ed.2 hl he).wp
       · cases hc
     · cases hc
   · cases hc
 | buildSlice t n parts =>
   rw [fj] at hc;simp only [pJ] at hc;split at hc
   · rename_i e hu;split at hc
     · cases hc
     · rename_i ev;split at hc
       · rename_i zc hz;split at hc
         · rename_i ed;split at hc
           · rename_i l hl;cases hc;have h1:P.cellsOf e≠0:=fun h=>ev (.inl h)
             have h2:n*P.cellsOf e≤16777216:=by
              have:¬ (n*P.cellsOf e>16777216):=fun h=>ev (.inr h)
              omega
             split at he
             · exact (D0J hs hm hγ fj hu h1 h2 hz ed.1 ed.2 hl he).wp
             · exact (YB hs hm hγ fj hu h1 h2 hz ed.1 ed.2 hl (fun h0=>by simp [h0]) he).wp
           · cases hc
         · cases hc
       · cases hc
   · cases hc
 | load t x =>
   rw [fj] at hc;simp only [pJ] at hc;split at hc
   · rename_i y hy;split at hc
     · rename_i hU;cases hc;exact (D0z hs hm fj hy hU he).wp
     · cases hc
   · cases hc
 | store t x y =>
   rw [fj] at hc;simp only [pJ] at hc;split at hc
   · rename_i x' y' h1 h2;split at hc
     · rename_i hU;cases hc;exact (C8U hs hm hγ fj h1 h2 hU he).wp
     · cases hc
   · cases hc
 | nilCheck x =>
   rw [fj] at hc;simp only [pJ] at hc;split at hc
   · rename_i y hy;cases hc;exact (D0x hs hm fj hy he).wp
   · cases hc
 | binOp op t x y yt =>
   rw [fj] at hc;simp only [pJ] at hc;split at hc
   · rename_i x' y' h1 h2;split at hc
     · rename_i k hu;cases hc;exact (QU hs hm fj h1 h2 (.inr (.inl ⟨k,hu⟩)) (by intro h;cases h) he).wp
     · rename_i hu;cases hc;exact (QU hs hm fj h1 h2 (.inr (.inr hu)) (by intro h;cases h) he).wp
     · rename_i hu;cases hc;exact (QU hs hm fj h1 h2 (.inl hu) (fun _=>hu) he).wp
     · rename_i fs hu;have hagg:mV P t=true:=by simp only [mV,hu]
       split at hc
       · rename_i td xi;cases hc;exact (MG (neg:=false) hs hm fj rfl h1 h2 xi hagg he).wp
       · rename_i td xi;cases hc;exact (MG (neg:=true) hs hm fj rfl h1 h2 xi hagg he).wp
       · cases hc
     · rename_i n e hu;have hagg:mV P t=true:=by simp only [mV,hu]
       split at hc
       · rename_i td xi;cases hc;exact (MG (neg:=false) hs hm fj rfl h1 h2 xi hagg he).wp
       · rename_i td xi;cases hc;exact (MG (neg:=true) hs hm fj rfl h1 h2 xi hagg he).wp
       · cases hc
     · rename_i e hu;split at hc
       · cases hc;exact (XV (neg:=false) hs hm fj rfl h1 hu he).wp
       · cases hc;exact (XV (neg:=true) hs hm fj rfl h1 hu he).wp
       · cases hc
     · rename_i hu;split at hc
       · cases hc;exact (XW (neg:=false) hs hm fj rfl h1 hu he).wp
       · cases hc;exact (XW (neg:=true) hs hm fj rfl h1 hu he).wp
       · cases hc
     · cases hc
   · cases hc
 | unOp op t x =>
   rw [fj] at hc;simp only [pJ] at hc;split at hc
   · rename_i y hy;split at hc
     · cases hc;exact (D2x hs hm fj hy he).wp
     · cases hc;exact (D2y hs hm fj hy he).wp
     · cases hc;exact (D2z hs hm fj hy he).wp
     · cases hc
   · cases hc
 | convert src dst x =>
   rw [fj] at hc;simp only [pJ] at hc;split at hc
   · rename_i y hy;split at hc
     · rename_i k0 k h0 h1;cases hc;exact (C8I hs hm fj hy h0 h1 he).wp
     · rename_i h0 h1;cases hc;exact (C8J hs hm fj hy h0 h1 he).wp
     · rename_i k0 h0 h1;cases hc;exact (C8K hs hm fj hy h0 h1 he).wp
     · cases hc
   · cases hc
 | makeFunc fn first ji =>
   rw [fj] at hc;cases fn<;>simp only [pJ,reduceCtorEq] at hc;rename_i f;split at hc
   · cases hc
   rename_i hbf;split at hc
   · rename_i hsz;split at hc
     · rename_i l hl;cases hc
       have:first=#[]:=fc hsz
       exact (X5 hs hm fj (.inl ⟨rfl,Nat.lt_of_not_le hbf,this,rfl⟩) hl he).wp
     · cases hc
   · split at hc
     · rename_i hsz;split at hc
       · rename_i l hl;cases hc
         have:ji=#[]:=fc hsz
         exact (X5 hs hm fj (.inr ⟨rfl,this,rfl⟩) hl he).wp
       · cases hc
     · cases hc
 | makeSlice t l c =>
   rw [fj] at hc;simp only [pJ] at hc;split at hc
   · rename_i e hu;split at hc
     · cases hc
     · rename_i ev;split at hc
       · rename_i z l' c' hz h1 h2;cases hc;exact (D0H hs hm hγ fj hu (fun h=>ev (.inl h)) (fun h=>ev (.inr h)) hz h1 h2 he).wp
       · cases hc
   · cases hc
 | slice t x lo hi mx =>
   rw [fj] at hc;simp only [pJ] at hc;split at hc
   · rename_i Q1
     have:mx=none:=by simpa using Q1
     subst this;split at hc
     · rename_i x' km dP h1 h2 h3;split at hc
       · rename_i e hu;split at hc
         · cases hc
         · rename_i ev;split at hc
           · split at hc
             · rename_i l1 l2;cases hc;obtain ⟨y2,rfl,e2⟩:=Zy h2;obtain ⟨y3,rfl,e3⟩:=Zy h3;exact (C6V hs hm fj h1 e2 e3 hu ev he).wp
             · cases hc
           · cases hc;exact (C8N hs hm fj h1 h2 h3 hu ev he).wp
       · rename_i hu;cases hc;exact (C6T hs hm fj h1 h2 h3 hu he).wp
       · rename_i n e hu;split at hc
         · cases hc
         · rename_i ev;split at hc
           · rename_i l1 l2;cases hc;have e2:=Zx h2;have e3:=Zx h3;subst e2;subst e3;exact (D2C hs hm fj h1 hu ev he).wp
           · cases hc
       · cases hc
     · cases hc
   · split at hc
     · rename_i hz;have zero:∀ {x:Option Operand},Mx x=true→x=some (.const (.int .i64 0)):=by
        intro x hx;unfold Mx at hx;split at hx
        · simp only [ak,beq_iff_eq] at hx;rw [hx.1,hx.2]
        · cases hx
       simp only [ak,Option.isNone_iff_eq_none] at hz;obtain ⟨⟨rfl,Da⟩,GG⟩:=hz;rw [zero Da,zero GG] at fj;split at hc
       · rename_i x' e h1 hu;split at hc
         · cases hc
         · rename_i ev;cases hc;exact (D0C hs hm fj h1 hu ev he).wp
       · cases hc
     · split at hc
       · rename_i x' km dP Q0 h1 h2 h3 h4;obtain ⟨y2,rfl,h2⟩:=ka.1 h2;obtain ⟨y3,rfl,h3⟩:=ka.1 h3;obtain ⟨y4,rfl,h4⟩:=ka.1 h4;split at hc
         · rename_i e hu;split at hc
           · cases hc
           · rename_i ev;cases hc;exact (C6U hs hm fj h1 h2 h3 h4 hu ev he).wp
         · cases hc
       · cases hc
 | fieldAddr t x i =>
   rw [fj] at hc;simp only [pJ] at hc;split at hc
   · rename_i x' fs h1 hu;split at hc
     · rename_i fd hf;split at hc
       · cases hc
       · rename_i ev;cases hc;exact (C8O hs hm fj h1 hu hf ev he).wp
     · cases hc
   · cases hc
 | field t x i =>
   rw [fj] at hc;simp only [pJ] at hc;split at hc
   · rename_i x' fs h1 hu;split at hc
     · rename_i fd hf;split at hc
       · rename_i hU;cases hc;exact (D2D hs hm fj h1 hu hf hU he).wp
       · cases hc
     · cases hc
   · cases hc
 | indexAddr t x ix =>
   rw [fj] at hc;simp only [pJ] at hc;split at hc
   · rename_i x' i' e h1 h2 hu;split at hc
     · cases hc
     · rename_i ev;cases hc;exact (C8L hs hm fj h1 h2 hu ev he).wp
   · rename_i x' i' n e h1 h2 hu;split at hc
     · cases hc
     · rename_i ev;cases hc;exact (C6W hs hm fj h1 h2 hu ev he).wp
   · cases hc
 | index t x ix =>
   rw [fj] at hc;simp only [pJ] at hc;split at hc
   · rename_i x' i' n e h1 h2 hu;split at hc
     · rename_i hU;cases hc;exact (D2E hs hm fj h1 h2 hu hU he).wp
     · cases hc
   · rename_i x' i' h1 h2 hu;cases hc;exact (D0D hs hm fj h1 h2 hu he).wp
   · cases hc
 | extract x i =>
   rw [fj] at hc;simp only [pJ] at hc;split at hc
   · rename_i y hy;cases hc;exact (D2A hs hm fj hy he).wp
   · cases hc
 | call c =>
   rw [fj] at hc;simp only [pJ] at hc;split at hc
   · rename_i fo hcal;split at hc
     · rename_i f' l h1 h2;cases hc;exact D0Q hs hm hγ hK fj hcal h1 h2 he
     · cases hc
   · cases hc
   · rename_i b hcal;split at hc
     · cases hc
     · rename_i l hl;split at hc
       · rename_i x t lh;obtain ⟨y,t0,h1,h2⟩:=Je hl;split at hc
         · rename_i hu;cases hc;exact (D0B hs hm fj hcal (u5 h1) (u5 lh) h2 hu he).wp
         · rename_i e hu;cases hc;exact (D2B hs hm fj hcal (u5 h1) (u5 lh) h2 hu he).wp
         · cases hc
       · rename_i x t lh;obtain ⟨y,t0,h1,h2⟩:=Je hl;split at hc
         · rename_i e hu;cases hc;exact (D0A hs hm fj hcal (u5 h1) (u5 lh) h2 hu he).wp
         · cases hc
       · rename_i x y t ty lh;obtain ⟨x0,y0,t1,t2,h1,h2,h3⟩:=Zw hl;split at hc
         · rename_i e k hu hk;split at hc
           · cases hc
           · rename_i ev;split at hc
             · rename_i zz hz;cases hc;exact (D0I hs hm hγ fj hcal (u5 h1) (u5 lh) hu hk (fun h=>ev (.inl h)) (fun h=>ev (.inr h)) hz h2 h3 he).wp
             · cases hc
         · rename_i e hu mG;split at hc
           · split at hc
             · rename_i ed;obtain ⟨rfl,rP,wC⟩:=ed;cases hc;exact (D0L hs hm fj hcal (u5 h1) (u5 lh) h2 h3 hu rP he).wp
             · cases hc
           · split at hc
             · rename_i ed;obtain ⟨rfl,rP,wC,hz⟩:=ed;cases hc;exact (D2L hs hm hγ fj hcal (u5 h1) (u5 lh) h2 h3 hu rP wC hz he).wp
             · cases hc
         · cases hc
       · rename_i x y t ty lh;obtain ⟨x0,y0,t1,t2,h1,h2,h3⟩:=Zw hl;split at hc
         · rename_i e hu;split at hc
           · cases hc
           · rename_i ev;cases hc;exact (D2M hs hm fj hcal (u5 h1) (u5 lh) h2 h3 hu ev he).wp
         · cases hc
       · rename_i x t lh;obtain ⟨y,t0,h1,h2⟩:=Je hl;split at hc
         · rename_i e hu;split at hc
           · rename_i z hz;split at hc
             · cases hc
             · cases hc;exact (D2N hs hm fj hcal (u5 h1) (u5 lh) h2 hu hz he).wp
           · cases hc
         · cases hc
       · cases hc;exact (D4c hs hm fj hcal hl he).wp
       · cases hc;exact (D4b hs hm fj hcal hl he).wp
       · split at hc
         · cases hc;simp [cf] at he
         · cases hc
       · cases hc
 | makeMap t r=>rw [fj] at hc;simp only [pJ] at hc;split at hc<;>cases hc;simp [cf] at he
 | lookup t m k ok =>
   rw [fj] at hc;simp only [pJ] at hc;split at hc
   · split at hc<;>cases hc;simp [cf] at he
   · cases hc
 | mapUpdate t m k v =>
   rw [fj] at hc;simp only [pJ] at hc;split at hc
   · split at hc<;>cases hc;simp [cf] at he
   · cases hc
 | _=>rw [fj] at hc;simp [pJ] at hc
end
end Go.Mid
