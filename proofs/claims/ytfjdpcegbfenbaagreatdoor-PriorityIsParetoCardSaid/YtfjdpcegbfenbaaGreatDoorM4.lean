/- Copy and clear. -/
import Derived.Test.YtfjdpcegbfenbaaGreatDoorM3
set_option linter.unusedSimpArgs false
set_option linter.unusedVariables false
open Array renaming map → qx, ext' → gP, eq_empty_of_size_eq_zero → fa
open Bool renaming and_eq_true → ak
open Go renaming run_storeCells_cells → jl, run_underlying → a8
open Go.Builtin renaming copy_ → gf, lenOf → gR, clear_ → ic, zeroCells → a6
open Go.Result renaming andThen_ok → aV
open Go.Sem renaming run_bind → bx, run_pure → bM
open List renaming cons_append → aS, length_append → aQ, length_take → aY, length_map → aE, length_drop → cz, map_map → cu, mem_append → ay, mem_map → bj, mem_of_mem_take → c8, mem_of_mem_drop → gG, append_nil → bE, take_append_drop → bN, drop_drop → kG, nodup_append → aT, append_assoc → bh, getElem?_append_left → cY, getElem?_append_right → bG, getElem?_map → aN, all_eq_true → bg, take_of_length_le → aZ, replicate → az, take_zero → ft, mem_map_of_mem → eh, map_cons → aH, getElem?_eq_getElem → af, mem_of_getElem? → bH, getElem?_eq_some_iff → aL, nodup_iff_pairwise_ne → jn, mem_cons → aM, nodup_nil → hZ
open Nat renaming add_assoc → bX, succ_mul → dA, lt_of_lt_of_le → br, mul_le_mul_right → jm, add_mul → ir, le_refl → au, add_zero → du, zero_le → dq, zero_mul → dk, min_zero → p5, le_add_right → gq, add_sub_cancel_left → dD
open Option renaming map_some → ar, bind_some → ah, map_none → dM, map_map → kH, none → jo, bind_eq_some_iff → j9
open Option.some renaming injEq → aa, inj → cm
open Prod.mk renaming injEq → ae
namespace Go.Mid
open Go.RowKit
section
variable {w w':World}{A A':Nat→Prop}{E E':dV An}{nx nx':dv}{h:cq}
theorem T.pn {α:Type}(l m:List (T α)):T.dm (l++m)=T.dm l+T.dm m:=by
 induction l with
 | nil=>simp [T.dm]
 | cons t r ih=>simp only [aS,T.dm,ih,bX]
theorem RX {α:Type}{l:List (T α)}{off:Nat}{vs:List PV}(hle:off+vs.length≤l.length):(nW l off vs).length=l.length:=by
 simp only [nW,aQ,aY,aE,cz];omega
theorem YQ {α β:Type}(f:α→β)(l:List (T α))(off:Nat)(vs:List PV):(nW l off vs).map (T.mapA f)=nW (l.map (T.mapA f)) off vs:=by
 simp only [nW,List.map_append,List.map_take,List.map_drop,cu];rfl
theorem YR {α:Type}{l:List (T α)}{off z:Nat}{vs:List PV}(hz:∀ t∈l,t.cs=z)(hv:∀ v∈vs,v.cs=z):∀ t∈nW l off vs,t.cs=z:=by
 intro t ht;simp only [nW,ay,bj] at ht;rcases ht with (ht | ⟨v,hv',rfl⟩) | ht
 · exact hz t (c8 ht)
 · exact hv v hv'
 · exact hz t (gG ht)
theorem YS (l:List (T An))(off:Nat)(vs:List PV):T.b9 (nW l off vs)=T.b9 (l.take off)++T.b9 (l.drop (off+vs.length)):=by
 rw [nW,wo,wo,Ef,bE]
theorem Nn {l:List (T An)}{off:Nat}{vs:List PV}{b:Nat}(hb:b∈T.b9 (nW l off vs)):b∈T.b9 l:=by
 rw [YS] at hb;rcases ay.1 hb with hb | hb
 · rw [← bN off l,wo];simp [hb]
 · rw [← bN (off+vs.length) l,wo];simp [hb]
theorem YT {l:List (T An)}{off:Nat}{vs:List PV}(h:(T.b9 l).Nodup):(T.b9 (nW l off vs)).Nodup:=by
 have e:l=l.take off++((l.drop off).take vs.length++l.drop (off+vs.length)):=by
  rw [← kG,bN,bN]
 rw [e,wo,wo] at h;rw [YS];have h1:=aT.1 h;have h2:=aT.1 h1.2.1;exact aT.2 ⟨h1.1,h2.2.1,fun a ha b hb=>h1.2.2 a ha b (ay.2 (.inr hb))⟩
theorem YU {n:dv}{l:List (T An)}{off:Nat}{vs:List PV}(h:T.ku n l):T.ku n (nW l off vs):=by
 have app:∀ l m:List (T An),T.ku n l→T.ku n m→T.ku n (l++m):=by
  intro l m
  induction l with
  | nil=>intro _ h;exact h
  | cons x r ih=>intro h1 h2;simp only [T.ku,aS] at h1 ⊢;exact ⟨h1.1,ih h1.2 h2⟩
 exact app _ _ (app _ _ (RK (fun t ht=>c8 ht) h) (MY vs)) (RK (fun t ht=>gG ht) h)
theorem YV {l:List (T An)}{off:Nat}{vs:List PV}(hle:off+vs.length≤l.length){i:Nat}{q:List Nat}{y:An×Option Nat}(h:(((nW l off vs)[i]?).bind fun t=>fL t q)=some y):((l[i]?).bind fun t=>fL t q)=some y:=by
 simp only [nW] at h;by_cases h1:i<off
 · rw [bh,cY (by rw [aY];omega),List.getElem?_take_of_lt h1] at h
   exact h
 · by_cases h2:i<off+vs.length
   · rw [bh,bG (by rw [aY];omega),cY (by rw [aY,aE];omega),aN] at h
     cases hv:vs[i-(l.take off).length]? with
     | none=>rw [hv] at h;cases h
     | some v=>simp only [hv,ar,ah,Na] at h;cases h
   · rw [bG (by simp only [aQ,aY,aE];omega),List.getElem?_drop] at h
     have e:off+vs.length+(i-(l.take off++vs.map (T.p (α:=An))).length)=i:=by simp only [aQ,aY,aE];omega
     rwa [e] at h
theorem YW (f:Fr w w' A A' E E' nx nx'){l:List (T An)}{vs:List PV}{b z off:Nat}{cs:List Value}(k:cK w A E nx l b 0)(hz:∀ t∈l,t.cs=z)(hle:off+vs.length≤l.length)(hc:cU w A vs cs)(hv:∀ v∈vs,v.cs=z)
 (hw:w'=w.setCells b (off*z) cs) (AU:b∉T.b9 l) (hO:∀ j,j<cs.length→(w.cell? ⟨b,off*z+j,none⟩).isSome=true):cK w' A' E' nx' (nW l off vs) b 0:=by
 have nO:cs.length=vs.length*z:=by
  rw [hc.len];clear hc hO hw hle
  induction vs with
  | nil=>simp [PV.dm]
  | cons x r ih=>rw [PV.dm,hv x (by simp),ih (fun v h=>hv v (by simp [h])),List.length_cons,dA];omega
 have IY:∀ j,(j<off*z∨off*z+cs.length≤j)→w'.cell? ⟨b,j,none⟩=w.cell? ⟨b,j,none⟩:=by
  intro j hj;rw [hw];exact World.cell?_setCells_out b cs (off*z) w ⟨b,j,none⟩ (fun _ _=>by simp only;omega)
 have jb:∀ x∈T.b9 l,w'.heap[x]?=w.heap[x]?:=fun x hx=>by rw [hw];exact wq (fun e:x=b=>AU (e ▸ hx)) _ _ _
 have e:l=l.take off++((l.drop off).take vs.length++l.drop (off+vs.length)):=by
  rw [← kG,bN,bN]
 have kk:=k;rw [e] at kk;obtain ⟨k1,k2⟩:=cK.append.1 kk;obtain ⟨_,k3⟩:=cK.append.1 k2;have c1:T.dm (l.take off)=off*z:=AG hz (by omega)
 have c2:T.dm ((l.drop off).take vs.length)=vs.length*z:=AG (fun t ht=>hz t (gG ht)) (by rw [cz];omega)
 rw [c1,c2] at k3;simp only [nW];refine cK.append.2 ⟨cK.append.2 ⟨?_,?_⟩,?_⟩
 · refine k1.jh f (fun j _ hj=>IY j (.inl (by rw [c1] at hj;omega))) (fun x hx=>jb x ?_)
   rw [← bN off l,wo];simp [hx]
 · rw [c1];refine kq.at_ (uh.2 (cU.frame f.hA f.hw hc)) ?_;rw [Nat.zero_add,hw];exact Row.setCells hO
 · rw [T.pn,c1,CU]
   have:PV.dm vs=vs.length*z:=by rw [← hc.len,nO]
   rw [this];rw [bX] at k3;refine k3.jh f (fun j hj _=>IY j (.inr (by rw [nO];omega))) (fun x hx=>jb x ?_)
   rw [← bN (off+vs.length) l,wo];simp [hx]
theorem IZ {an:An}{h':cq}(m:MR w A E h nx){id:Nat}{C6:List Nat}{z off:Nat}{vs:List PV}{cs:List Value}(hn:fq (E id) (some C6)=some (an,some z))(jD:ql h id C6 an.g z off vs=some h')(hc:cU w A vs cs) :
 (an.b=none→cs=[])∧∃ E',(∀ b,an.b=some b→MR (w.setCells b (off*z) cs) A E' h' nx∧gK w A E nx (w.setCells b (off*z) cs) A E'∧(∀ j,j<cs.length→(w.cell? ⟨b,off*z+j,none⟩).isSome=true)∧∀ j,w.frozen? ⟨b,j,none⟩=false) ∧
   (an.b=none→MR w A E' h' nx∧gK w A E nx w A E'):=by
 unfold ql at jD;split at jD
 · rename_i ko;have wF:∀ v∈vs,v.cs=z:=fun v hv=>by simpa using bg.1 ko v hv
   split at jD
   · -- a root
     rename_i a z' l gx;split at jD
     · rename_i ee;obtain ⟨rfl,rfl,hle⟩:=ee;simp only [aa] at jD;subst jD;rw [m.er id] at gx;cases hE:E id with
       | none=>simp [hE] at gx
       | some ob =>
         cases ob<;>simp only [hE,ar,Obj.mapA,reduceCtorEq,aa,Obj.vec.injEq] at gx;rename_i qQ um l';obtain ⟨hg,rfl,rfl⟩:=gx;rw [hE] at hn;simp only [fq,aa,ae] at hn;obtain ⟨rfl,_⟩:=hn;rw [T.mapAs_eq,aE] at hle;have lh:=m.at_ id _ hE;have rm:=m.nd id _ hE;have EA:=m.st id _ hE;simp only [OAt,VB] at lh;simp only [Obj.blk] at rm;simp only [Obj.st] at EA;have uk:(Obj.vec qQ um (nW l' off vs)).mapA An.g=.vec qQ.g um (nW (T.cQ An.g l') off vs):=by
          simp only [Obj.mapA,T.mapAs_eq,YQ]
         have dP:∀ b∈(Obj.vec qQ um (nW l' off vs)).blk,b∈(Obj.vec qQ um l').blk:=by
          intro b hb;simp only [Obj.blk,ay] at hb ⊢;exact hb.imp (fun h=>h) Nn
         have rk:∀ w1:World,w.heap.size≤w1.heap.size→(∀ b,b<w.heap.size→qQ.b≠some b→w1.heap[b]?=w.heap[b]?)→y8 w w1 A E nx nx id (.vec qQ um (nW l' off vs)):=by
          intro w1 tx sW;refine ⟨dv.le_refl _,tx,fun b hb nX=>sW b hb (fun e=>?_),?_,fun b hb=>?_,?_,fun b hb j o hj ho=>m.dj id j _ o (Ne.symm hj) hE ho b (dP b hb),⟨EA.1,YU EA.2⟩⟩
          · have hbm:b∈(Obj.vec qQ um l').blk:=by simp [Obj.blk,e]
            rcases nX with hA | ⟨j,o,hj,ho,l6⟩
            · exact (m.kp hE hbm).2 hA
            · exact m.dj id j _ o (Ne.symm hj) hE ho b hbm l6
          · intro np y hy _;rw [hE];cases np with
            | none=>simp [fq] at hy
            | some q =>
              rw [sU] at hy ⊢;cases q with
              | nil=>exact hy
              | cons i r=>simp only [Obj.pO,BD] at hy ⊢;exact YV hle hy
          · have:=m.kp hE (dP b hb);exact ⟨br this.1 tx,this.2⟩
          · simp only [Obj.blk];refine aT.2 ⟨(aT.1 rm).1,YT (aT.1 rm).2.1,?_⟩;exact fun a ha b hb=>(aT.1 rm).2.2 a ha b (Nn hb)
         have BW:∀ w1:World,(w1.os=w.os∧w1.tape=w.tape∧w1.output=w.output)→w.heap.size≤w1.heap.size→(∀ b,b<w.heap.size→qQ.b≠some b→w1.heap[b]?=w.heap[b]?)→gK w A E nx w1 A (cD E id (some (.vec qQ um (nW l' off vs)))):=by
          intro w1 h3 tx sW;refine gK.of (E1:=E) h3 tx (fun b hb ho=>sW b hb (fun e=>ho ⟨id,_,hE,by simp [Obj.blk,e]⟩)) ?_ (oW.refl _ _) ((rk w1 tx sW).fr m).hE
          intro b _ ho;rcases AM ho with h1 | ⟨i,oi,_,r6,AO⟩
          · exact ⟨id,_,hE,dP b h1⟩
          · exact ⟨i,oi,r6,AO⟩
         refine ⟨fun hb=>?_,cD E id (some (.vec qQ um (nW l' off vs))),fun b hb=>?_,fun hb=>?_⟩
         · simp only [hb] at lh;have h0:=lh.1;subst h0
           have:vs=[]:=by simp [T.cQ] at hle;exact hle.2
           subst this;simpa only [cU] using hc
         · simp only [hb] at lh;obtain ⟨h1,h2,h3,h4⟩:=lh;have nO:cs.length=vs.length*um:=by
            rw [hc.len,← CU (α:=An)]
            have:=AG (α:=An) (l:=vs.map .p) (i:=vs.length) (z:=um) (fun t ht=>by obtain ⟨v,hv,rfl⟩:=bj.1 ht;exact wF v hv) (by simp)
            rwa [aZ (by simp)] at this
           have hO:∀ j,j<cs.length→(w.cell? ⟨b,off*um+j,none⟩).isSome=true:=by
            intro j hj;refine (h1.cell ?_).1
            have:(off+vs.length)*um≤qQ.cap*um:=jm _ (by omega)
            rw [ir] at this;omega
           have sW:∀ x,x<w.heap.size→qQ.b≠some x→(w.setCells b (off*um) cs).heap[x]?=w.heap[x]?:=fun x _ hx=>wq (fun e:x=b=>hx (e ▸ hb)) _ _ _
           obtain ⟨s1,s2,s3,s4⟩:=xi b cs (off*um) w;have hs:=rk (w.setCells b (off*um) cs) (by rw [s1];exact au _) sW
           have AU:b∉T.b9 l':=by
            rw [hb] at rm;exact fun hbm=>(aT.1 rm).2.2 b (by simp) b hbm rfl
           refine ⟨?_,BW _ ⟨s2,s3,s4⟩ (by rw [s1];exact au _) sW,hO,fun j=>h1.frozen⟩
           rw [← uk];refine m.Et hs ?_;simp only [OAt,VB,hb];exact ⟨h1.setCells _ _ _,by rw [RX hle];exact h2,YR h3 wF,YW (hs.fr m) h4 h3 hle hc wF rfl AU hO⟩
         · have hs:=rk w (au _) (fun _ _ _=>rfl)
           refine ⟨?_,BW w ⟨rfl,rfl,rfl⟩ (au _) (fun _ _ _=>rfl)⟩
           rw [← uk];refine m.Et hs ?_;simp only [hb] at lh;have h0:=lh.1;subst h0
           have:vs=[]:=by simp [T.cQ] at hle;exact hle.2
           subst this;simp only [OAt,VB,hb];exact ⟨by simp [nW],lh.2⟩
     · cases jD
   · -- a place
     rename_i C6 _ _ _;split at jD
     · rename_i a z' l n dP;split at jD
       · rename_i ee;obtain ⟨rfl,rfl,hle⟩:=ee;split at jD
         · rename_i oh eY;simp only [aa] at jD;subst jD;obtain ⟨tA,EB,he⟩:=m.sub dP;cases tA<;>simp only [T.mapA,reduceCtorEq,T.vec.injEq] at he;rename_i an um l' n;obtain ⟨hg,rfl,rfl,rfl⟩:=he;obtain ⟨ob,hE⟩:=m.lz EB;rw [hE] at EB hn;have AV:=M5 (r:=[]) EB;rw [bE] at AV;rw [AV] at hn;simp only [fL,c6,aa,ae] at hn;obtain ⟨rfl,_⟩:=hn;rw [T.mapAs_eq,aE] at hle;have hT:(T.vec an.g z' (nW (T.cQ An.g l') off vs) n:T Nat)=(T.vec an z' (nW l' off vs) n).mapA An.g:=by
            simp only [T.mapA,T.mapAs_eq,YQ]
           rw [m.er id,hE,hT,Gn] at eY;cases iK:put (some ob) C6 (T.vec an z' (nW l' off vs) n) with
           | none=>simp [iK] at eY
           | some o' =>
             simp only [iK,ar,aa] at eY;subst eY;obtain ⟨b1,o1,hl,lh,n8,jb,RY⟩:=AN EB (m.at_ id ob hE);have hst:(T.vec an z' l' n).st nx:=m.ud (by rw [hE];exact EB)
             obtain ⟨rest,p1,_⟩:=Ei EB iK;have iq:(T.vec an z' l' n).blk.Nodup:=(aT.1 (p1.nodup_iff.1 (m.nd id ob hE))).1;have zf:=RY (m.nd id ob hE);have aik:=lh;simp only [TAt] at lh;obtain ⟨ad,cap,hrow,BO,kN,l8⟩:=lh;simp only [T.blk] at iq zf;simp only [T.st] at hst;have zg:∀ b∈(T.vec an z' (nW l' off vs) n).blk,b∈(T.vec an z' l' n).blk:=by
              intro b hb;simp only [T.blk,ay] at hb ⊢;exact hb.imp (fun h=>h) Nn
             have vA:∀ w1:World,w.heap.size≤w1.heap.size→(∀ b,an.b≠some b→w1.heap[b]?=w.heap[b]?)→(∀ m b,l4 w b m→l4 w1 b m)→oY w w1 A E nx nx id ob C6 (.vec an z' l' n) (.vec an z' (nW l' off vs) n) b1 o1:=by
              intro w1 tx sW rP;refine ⟨dv.le_refl _,tx,hE,EB,hl,rfl,⟨fun x hx Gz hxu=>?_,fun k hk=>rP k _ hk,fun j hj=>?_⟩,?_,?_,?_,?_,⟨hst.1,YU hst.2⟩⟩
              · exact sW x (fun e=>hxu (by simp [T.blk,e]))
              · exact MF (sW b1 (fun e=>zf (by simp [e]))) j
              · intro r y hy _;cases r with
                | nil=>exact hy
                | cons i r=>simp only [BD] at hy ⊢;exact YV hle hy
              · intro b hb
                have:=m.kp hE (jb b (zg b hb));exact ⟨br this.1 tx,this.2⟩
              · simp only [T.blk];refine aT.2 ⟨(aT.1 iq).1,YT (aT.1 iq).2.1,?_⟩;exact fun a ha b hb=>(aT.1 iq).2.2 a ha b (Nn hb)
              · exact fun b hb=>.inl (zg b hb)
             have BW:∀ w1:World,(w1.os=w.os∧w1.tape=w.tape∧w1.output=w.output)→w.heap.size≤w1.heap.size→(∀ b,an.b≠some b→w1.heap[b]?=w.heap[b]?)→(∀ m b,l4 w b m→l4 w1 b m)→gK w A E nx w1 A (cD E id (some o')):=by
              intro w1 h3 tx sW rP;have hp:=vA w1 tx sW rP;refine gK.of (E1:=E) h3 tx (fun b _ ho=>sW b (fun e=>ho ⟨id,ob,hE,jb b (by simp [T.blk,e])⟩)) ?_ (oW.refl _ _) ((hp.ug m iK).fr m).hE
              intro b _ ho;rcases hp.owned m iK ho with k | k
              · exact ⟨id,ob,hE,jb b (zg b k)⟩
              · exact k.1
             refine ⟨fun hb=>?_,cD E id (some o'),fun b hb=>?_,fun hb=>?_⟩
             · simp only [hb] at l8;have h0:=l8.1;subst h0
               have:vs=[]:=by simp [T.cQ] at hle;exact hle.2
               subst this;simpa only [cU] using hc
             · simp only [hb] at l8;obtain ⟨h1,h2,h3,h4⟩:=l8;have nO:cs.length=vs.length*z':=by
                rw [hc.len,← CU (α:=An)]
                have:=AG (α:=An) (l:=vs.map .p) (i:=vs.length) (z:=z') (fun t ht=>by obtain ⟨v,hv,rfl⟩:=bj.1 ht;exact wF v hv) (by simp)
                rwa [aZ (by simp)] at this
               have hO:∀ j,j<cs.length→(w.cell? ⟨b,off*z'+j,none⟩).isSome=true:=by
                intro j hj;refine (h1.cell ?_).1
                have:(off+vs.length)*z'≤an.cap*z':=jm _ (by omega)
                rw [ir] at this;omega
               have sW:∀ x,an.b≠some x→(w.setCells b (off*z') cs).heap[x]?=w.heap[x]?:=fun x hx=>wq (fun e:x=b=>hx (e ▸ hb)) _ _ _
               obtain ⟨s1,s2,s3,s4⟩:=xi b cs (off*z') w;have rP:∀ m x,l4 w x m→l4 (w.setCells b (off*z') cs) x m:=fun m x hx=>hx.setCells _ _ _
               have hp:=vA (w.setCells b (off*z') cs) (by rw [s1];exact au _) sW rP
               have AU:b∉T.b9 l':=by
                rw [hb] at iq;exact fun hbm=>(aT.1 iq).2.2 b (by simp) b hbm rfl
               refine ⟨m.put hp iK (fun f=>?_),BW _ ⟨s2,s3,s4⟩ (by rw [s1];exact au _) sW rP,hO,fun j=>h1.frozen⟩
               simp only [TAt,hb];refine ⟨ad,cap,hrow.frame (sW b1 (fun e=>zf (by simp [e]))),by rw [RX hle];exact BO,kN,h1.setCells _ _ _,by rw [RX hle];exact h2,YR h3 wF,?_⟩
               exact YW f h4 h3 hle hc wF rfl AU hO
             · have hp:=vA w (au _) (fun _ _=>rfl) (fun _ _ h=>h)
               refine ⟨m.put hp iK (fun f=>?_),BW w ⟨rfl,rfl,rfl⟩ (au _) (fun _ _=>rfl) (fun _ _ h=>h)⟩
               simp only [hb] at l8;have h0:=l8.1;subst h0
               have:vs=[]:=by simp [T.cQ] at hle;exact hle.2
               subst this;simp only [TAt,hb];exact ⟨ad,cap,hrow,by simpa [nW] using BO,kN,by simp [nW],l8.2⟩
         · cases jD
       · cases jD
     · cases jD
 · cases jD
end
section
variable {P:Program}{o:Oper}{a:Act}{w:World}{A:Nat→Prop}{E:dV An}{nx:dv}{γ:Nat}{v:MV}{h h':cq}{s:gJ}{K:jC}{d:Option Nat}
theorem C84 {vs:List PV}{cs:List Value}{z n:Nat}(h:cU w A vs cs)(hz:∀ v∈vs,v.cs=z):cU w A (vs.take n) (cs.take (n*z)):=by
 induction vs generalizing cs n with
 | nil=>simp only [cU] at h;subst h;simp [cU]
 | cons x r ih =>
   cases n with
   | zero=>simp [cU]
   | succ n =>
     simp only [cU] at h;obtain ⟨c,d,rfl,h1,h2⟩:=h;have hl:c.length=z:=by rw [h1.len];exact hz x (by simp)
     simp only [List.take_succ_cons,cU];refine ⟨c,d.take (n*z),?_,h1,ih h2 (fun v hv=>hz v (by simp [hv]))⟩
     rw [List.take_append,hl,aZ (by rw [hl,dA];omega)]
     congr 2;rw [dA];omega
theorem C0l {v:PV}{c:List Value}(h:ed w A v c)(n:Nat):cU w A (az n v) (az n c).flatten:=by
 induction n with
 | zero=>simp [cU]
 | succ n ih=>simp only [List.replicate_succ,cU,List.flatten_cons];exact ⟨c,_,rfl,h,ih⟩
theorem Np {ob:Option (Obj Nat)}{p:List Nat}{g z n:Nat}{l:List (T Nat)}(mF:∀ g z l,ob=some (.vec g z l)→p=[]→False)(hs:ew ob p=some (.vec g z l n)):jG ob p=some (g,z,l):=by
 unfold jG;split
 · exact (mF _ _ _ rfl rfl).elim
 · rw [hs]
theorem YX {b off z:Nat}{cs:List Value}(hO:∀ j,j<cs.length→(w.cell? ⟨b,off*z+j,none⟩).isSome=true)(hf:∀ j,w.frozen? ⟨b,j,none⟩=false)(h1:∀ u∈cs,u.oneCell'=true) :
 (storeCells ⟨b,off*z,none⟩ cs).run P w=.ok () (w.setCells b (off*z) cs):=by
 have hst:=jl (P:=P) b (off*z) cs 0 w (by simpa using hO) (fun j _=>hf _) h1
 simpa only [du] using hst
variable (hs:qd P w A E nx s a)(hm:MR w A E h nx)
include hm
theorem RZ {id:Nat}{path:List Nat}{off len g z:Nat}{vs:List PV}{val:Value}(hv:bT w A E nx (.own id path off len g) val)(jD:ql h id path g z off vs=some h') :
 ∃ an ad cap,an.g=g∧val=.slice ad len cap∧len≤cap∧fq (E id) (some path)=some (an,some z)∧lg an z off len ad cap:=by
 simp only [bT] at hv;obtain ⟨_,ad,cap,rfl,nL,hh⟩:=hv;have iT:∃ l,jG (h id) path=some (g,z,l):=by
  unfold ql at jD;split at jD
  · split at jD
    · rename_i gx;split at jD
      · rename_i hc;obtain ⟨rfl,rfl,_⟩:=hc;exact ⟨_,by rw [gx];rfl⟩
      · cases jD
    · rename_i C6 _ _ mF;split at jD
      · rename_i dP;split at jD
        · rename_i hc;obtain ⟨rfl,rfl,_⟩:=hc;exact ⟨_,Np mF dP⟩
        · cases jD
      · cases jD
  · cases jD
 obtain ⟨l,iT⟩:=iT;obtain ⟨an,lA,nA,rfl,_⟩:=hm.vec iT;exact ⟨an,ad,cap,rfl,rfl,nL,sR nA,hh an z (sR nA) rfl⟩
theorem D0U {id:Nat}{path:List Nat}{off len k g z:Nat}{vs:List PV}{val:Value}(hv:bT w A E nx (.own id path off len g) val)(jD:ql h id path g z k vs=some h') :
 ∃ an ad cap,an.g=g∧val=.slice ad len cap∧len≤cap∧fq (E id) (some path)=some (an,some z)∧lg an z off len ad cap:=by
 simp only [bT] at hv;obtain ⟨q,ad,cap,rfl,nL,hh⟩:=hv;have h2:bT w A E nx (.own id path k 0 g) (.slice none 0 cap)∨True:=.inr trivial;have iT:∃ l,jG (h id) path=some (g,z,l):=by
  unfold ql at jD;split at jD
  · split at jD
    · rename_i gx;split at jD
      · rename_i hc;obtain ⟨rfl,rfl,_⟩:=hc;exact ⟨_,by rw [gx];rfl⟩
      · cases jD
    · rename_i C6 _ _ mF;split at jD
      · rename_i dP;split at jD
        · rename_i hc;obtain ⟨rfl,rfl,_⟩:=hc;exact ⟨_,Np mF dP⟩
        · cases jD
      · cases jD
  · cases jD
 obtain ⟨l,iT⟩:=iT;obtain ⟨an,lA,nA,rfl,_⟩:=hm.vec iT;exact ⟨an,ad,cap,rfl,rfl,nL,sR nA,hh an z (sR nA) rfl⟩
theorem C85 {id:Nat}{path:List Nat}{k z:Nat}{vs:List PV}{an:An}{z':Nat}(jD:ql h id path an.g z k vs=some h')(hn:fq (E id) (some path)=some (an,some z')) :
 match an.b with | none=>k+vs.length=0 | some _=>k+vs.length≤an.cap:=by
 have iT:∃ l,jG (h id) path=some (an.g,z,l)∧k+vs.length≤l.length:=by
  unfold ql at jD;split at jD
  · split at jD
    · rename_i gx;split at jD
      · rename_i hc;obtain ⟨rfl,rfl,hle⟩:=hc;exact ⟨_,by rw [gx];rfl,hle⟩
      · cases jD
    · rename_i C6 _ _ mF;split at jD
      · rename_i dP;split at jD
        · rename_i hc;obtain ⟨rfl,rfl,hle⟩:=hc;exact ⟨_,Np mF dP,hle⟩
        · cases jD
      · cases jD
  · cases jD
 obtain ⟨l,iT,hle⟩:=iT;obtain ⟨Nq,lA,nA,_,rfl⟩:=hm.vec iT;have AV:=sR nA;rw [AV] at hn;cases hn;have hB:=hm.uc nA;rw [aE] at hle;unfold VB at hB;cases hb:an.b with
 | none =>
   simp only [hb] at hB ⊢;obtain ⟨rfl,_⟩:=hB
   have:k+vs.length≤0:=hle
   omega
 | some b =>
   simp only [hb] at hB ⊢;omega
include hs
theorem D2V {c:Call}{t t' e:TypeId}{x y:Operand}{x' y':dO}{t1 t2:TypeId}(ho:o.op=.call c)(pK:c.callee=.builtin .copy)(oX:c.args=#[x,y])(sB:c.argTypes=#[t,t'])(hx:fB P t1 x=some x')(hy:fB P t2 y=some y')
 (ht:P.underlying t=some (.slice e)) (rO:P.cellsOf e≠0)
 (he:cf K γ d s h (.cpy (P.cellsOf e) x' y')=some (v,h')):cJ P o a w A E nx γ v h':=by
 have dL:=j0 hs hx;have uX:=j0 hs hy;obtain ⟨i,hi,qo⟩:=QR rO;simp only [cf,Gb] at he;split at he
 · cases he
 · rename_i ts iw;split at he
   · cases he
   · rename_i vs fX;split at he
     · rename_i fg;have rN:=Gm fX;subst rN;have qe:(vs.map (T.p (α:=Nat))).all tu=true:=by simp [tu]
       have BQ:rW h (cR s y')=some (vs.map .p,h):=by simp only [rW,iw,qe,if_true]
       have uo:∀ {src:Value} {w1:World},(gf #[t,t'] o.type #[a.eval x,a.eval y]).run P w=.ok src w1→(execOp a.eval o).run P w=.ok (.value src) w1:=by
        intro src w1 hr;rw [BA ho pK];simp only [builtin,oX,sB];have e:qx a.eval #[x,y]=#[a.eval x,a.eval y]:=by simp
        rw [e];simp only [bx,hr,aV,bM]
       obtain ⟨news,E1,lA,jT,kA⟩:=RL (P:=P) (γ:=γ) hm uX BQ fg;obtain ⟨xb,xc,AW⟩:=jT.val;rw [aE] at jT AW;rw [AW] at jT;split at he
       · rename_i zz xp;simp only [aa,ae,wg] at he;obtain ⟨rfl,rfl⟩:=he;rw [xp] at dL;simp only [bT] at dL;obtain ⟨ax,uZ⟩:=dL;have po:=jT.pre 0 (dq _);rw [← qo,dk,ft] at po;refine cJ.idle (val:=.int .i64 0) (uo ?_) (A19.2 rfl) hm;rw [uZ,AW];cases ax<;>simp [gf,a8 ht,sizeOf,typeInfo,hi,gR,po,goInt,storeCells]
       · rename_i id path off len g xp;split at he
         · rename_i h1 jD;simp only [aa,ae,wg] at he;obtain ⟨rfl,rfl⟩:=he;rw [xp] at dL;obtain ⟨an,ad,cap,rfl,uZ,nL,bY,kN⟩:=RZ hm dL jD;have wF:∀ v∈vs,v.cs=P.cellsOf e:=by
            intro v hv;simp only [pI,bg,beq_iff_eq] at fg;exact fg (.p v) (eh hv)
           have n5:lA=vs.map .p:=by
            have h2:=kA.er;rw [Ng] at h2;obtain ⟨us,I0⟩:=RJ (l:=lA) (by rw [h2];exact qe)
            subst I0;rw [cu] at h2;have h3:(us.map (T.p (α:=Nat)))=vs.map .p:=h2
            have:=congrArg mu h3
            rw [BB,BB] at this;rw [cm this]
           subst n5;have Nr:cU w A vs news:=uh.1 kA.tc;have hk:min vs.length len≤vs.length:=Nat.min_le_left _ _;have po:=jT.pre (min vs.length len) hk;have Ns:vs.take len=vs.take (min vs.length len):=by
            rcases Nat.le_total len vs.length with hle | hle
            · rw [Nat.min_eq_right hle]
            · rw [Nat.min_eq_left hle,aZ hle,List.take_length]
           rw [Ns] at jD;have I1:=C84 (n:=min vs.length len) Nr wF;obtain ⟨pR,E',oc,EC⟩:=IZ hm bY jD I1;have YY:len=0→vs.take (min vs.length len)=[]:=by intro h0;rw [h0,p5,ft]
           cases hb:an.b with
           | none =>
             obtain ⟨k1,k2⟩:=EC hb;simp only [lg,hb] at kN;obtain ⟨rfl,rfl⟩:=kN;rw [p5] at po ⊢;rw [← qo,dk,ft] at po;refine ⟨.int .i64 0,w,A,E',.inl (uo ?_),A19.2 rfl,k1.mono (nx.eP γ),k2⟩;rw [uZ,AW];cases ad<;>simp [gf,a8 ht,sizeOf,typeInfo,hi,gR,po,goInt,storeCells]
           | some b =>
             obtain ⟨k1,k2,k3,k4⟩:=oc b hb;simp only [lg,hb] at kN;refine ⟨.int .i64 (min vs.length len:Nat),_,A,E',.inl (uo ?_),A19.2 rfl,k1.mono (nx.eP γ),k2⟩;rw [uZ,AW];rcases kN.2 with ⟨rfl,rfl⟩ | hA
             · rw [p5] at po ⊢;rw [← qo,dk,ft] at po;have e0:w.setCells b (off*P.cellsOf e) (news.take (0*P.cellsOf e))=w:=by rw [dk,ft];rfl
               rw [e0];cases ad<;>simp [gf,a8 ht,sizeOf,typeInfo,hi,gR,po,goInt,storeCells]
             · have hst:=YX (P:=P) k3 k4 I1.kz;rw [hA];rw [← qo] at po;simp only [← qo] at hst;simp only [← qo];simp [gf,a8 ht,sizeOf,typeInfo,hi,gR,po,goInt,hst]
         · cases he
       · cases he
     · cases he
theorem D0V {c:Call}{t e:TypeId}{x y:Operand}{x' y':dO}{t1 t2:TypeId}(ho:o.op=.call c)(pK:c.callee=.builtin .append)(oX:c.args=#[x,y])(sB:c.argTypes=#[t,t])(hx:fB P t1 x=some x')(hy:fB P t2 y=some y')
 (ht:P.underlying t=some (.slice e)) (rO:P.cellsOf e≠0)
 (he:cf K γ d s h (.appk (P.cellsOf e) x' y')=some (v,h')):cJ P o a w A E nx γ v h':=by
 have dL:=j0 hs hx;have uX:=j0 hs hy;obtain ⟨i,hi,qo⟩:=QR rO;simp only [cf] at he;split at he
 · cases he
 · rename_i ts iw;split at he
   · cases he
   · rename_i vs fX;split at he
     · rename_i fg;have rN:=Gm fX;subst rN;have qe:(vs.map (T.p (α:=Nat))).all tu=true:=by simp [tu]
       have BQ:rW h (cR s y')=some (vs.map .p,h):=by simp only [rW,iw,qe,if_true]
       obtain ⟨news,E1,lA,jT,kA⟩:=RL (P:=P) (γ:=γ) hm uX BQ fg;obtain ⟨xb,xc,AW⟩:=jT.val;rw [aE] at jT AW;rw [AW] at jT;split at he
       · rename_i id path off len g xp;split at he
         · rename_i h1 jD;simp only [aa,ae] at he;obtain ⟨rfl,rfl⟩:=he;rw [xp] at dL;obtain ⟨an,ad,cap,rfl,uZ,nL,bY,kN⟩:=D0U hm dL jD;have YZ:nx an.g:=by simp only [bT] at dL;exact dL.1
           have wF:∀ v∈vs,v.cs=P.cellsOf e:=by
            intro v hv;simp only [pI,bg,beq_iff_eq] at fg;exact fg (.p v) (eh hv)
           have n5:lA=vs.map .p:=by
            have h2:=kA.er;rw [Ng] at h2;obtain ⟨us,I0⟩:=RJ (l:=lA) (by rw [h2];exact qe)
            subst I0;rw [cu] at h2;have h3:(us.map (T.p (α:=Nat)))=vs.map .p:=h2
            have:=congrArg mu h3
            rw [BB,BB] at this;rw [cm this]
           subst n5;have Nr:cU w A vs news:=uh.1 kA.tc;have fY:=C85 hm jD bY;obtain ⟨pR,E',oc,EC⟩:=IZ hm bY jD Nr;have nS:∀ {w':World},gK w A E nx w' A E'→len+vs.length≤cap→bT w' A E' (nx.add γ) (.own id path off (len+vs.length) an.g) (.slice ad (len+vs.length) cap):=by
            intro w' hg hle;simp only [bT];refine ⟨.inl YZ,ad,cap,rfl,hle,fun X3 z1 ED hg1=>?_⟩
            have AV:=hg.ns id (some path) X3 (some z1) ED (by rw [hg1];exact YZ)
            rw [bY] at AV;cases AV;unfold lg at kN ⊢;cases hb:an.b with
            | none =>
              simp only [hb] at kN ⊢;have yY:vs.length=0:=by
               have:=fY
               simp only [hb] at this;omega
              omega
            | some b =>
              simp only [hb] at kN ⊢;refine ⟨kN.1,?_⟩;rcases kN.2 with ⟨q1,q2⟩ | q
              · left;omega
              · right;exact q
           cases hb:an.b with
           | none =>
             obtain ⟨k1,k2⟩:=EC hb;have AP:=pR hb;simp only [lg,hb] at kN;obtain ⟨rfl,rfl⟩:=kN;have yY:vs.length=0:=by
              have:=fY
              simp only [hb] at this;omega
             have po:=jT.pre 0 (dq _);rw [dk,ft] at po;refine ⟨_,w,A,E',.inl ?_,nS k2 (by omega),k1.mono (nx.eP γ),k2⟩
             rw [RN ho pK oX sB,uZ,AW];rw [yY] at jT ⊢;rw [AP] at jT;rw [RF ht hi ad 0 0 (by first | exact jT | (rw [← qo];exact jT) | (rw [qo];exact jT)) (au _)]
           | some b =>
             obtain ⟨k1,k2,k3,k4⟩:=oc b hb;have hle:len+vs.length≤cap:=by
              have h5:=fY;simp only [hb] at h5;simp only [lg,hb] at kN;omega
             refine ⟨_,_,A,E',.inl ?_,nS k2 hle,k1.mono (nx.eP γ),k2⟩;rw [RN ho pK oX sB,uZ,AW];simp only [lg,hb] at kN;have wG:lB P w i.size (.slice xb vs.length xc) vs.length news:=by first | exact jT | (rw [qo];exact jT)
             rcases kN.2 with ⟨rfl,rfl⟩ | hA
             · have yY:vs.length=0:=by omega
               have BO:news=[]:=List.eq_nil_of_length_eq_zero (by rw [jT.len,yY,dk])
               rw [yY] at wG ⊢;rw [BO] at wG ⊢;rw [RF ht hi ad 0 0 wG (au _)];rfl
             · rw [hA];have hst:=jl (P:=P) b ((off+len)*i.size) news 0 w (by simp only [du];first | exact k3 | (rw [qo];exact k3)) (fun j _=>k4 _) Nr.kz
               simp only [du] at hst;have RG:=wG.rd w rfl;have EE:(⟨b,off*P.cellsOf e,none⟩:Addr).add (len*i.size)=⟨b,(off+len)*i.size,none⟩:=by
                rw [ue,qo,ir]
               simp [Builtin.append_,a8 ht,sizeOf,typeInfo,hi,gR,RG,hle,EE,hst];rw [qo]
         · cases he
       · cases he
     · cases he
theorem D2W {c:Call}{t e:TypeId}{x:Operand}{x':dO}{t1:TypeId}{zero:PV}(ho:o.op=.call c)(pK:c.callee=.builtin .clear)(oX:c.args=#[x])(sB:c.argTypes=#[t])(hx:fB P t1 x=some x')
 (ht:P.underlying t=some (.slice e)) (hz:Mx P e=some zero)
 (he:cf K γ d s h (.clr (P.cellsOf e) zero x')=some (v,h')):cJ P o a w A E nx γ v h':=by
 have dL:=j0 hs hx;obtain ⟨zc,r7,R0⟩:=C81 hz;obtain ⟨zv,En,mE,i,hi,C2⟩:=C1 r7 w;have I2:ed w A zero zc:=R0 w A;have uo:∀ {src:Value} {w1:World},(ic #[t] o.type #[a.eval x]).run P w=.ok src w1→(execOp a.eval o).run P w=.ok (.value src) w1:=by
  intro src w1 hr;rw [BA ho pK];simp only [builtin,oX,sB];have e:qx a.eval #[x]=#[a.eval x]:=by simp
  rw [e];simp only [bx,hr,aV,bM]
 have I3:bT w A E nx (.eO []) (.tuple #[]):=by simp only [bT];exact ⟨[],rfl,by simp only [dh]⟩
 simp only [cf] at he;split at he
 · rename_i xp;simp only [aa,ae] at he;obtain ⟨rfl,rfl⟩:=he;rw [xp] at dL;obtain ⟨p,cap,uZ,_⟩:=vu.1 dL;refine cJ.idle (uo ?_) I3 hm;rw [uZ];cases p<;>simp [ic,a8 ht]
 · rename_i zz xp;simp only [aa,ae] at he;obtain ⟨rfl,rfl⟩:=he;rw [xp] at dL;simp only [bT] at dL;obtain ⟨p,uZ⟩:=dL;refine cJ.idle (uo ?_) I3 hm;rw [uZ];cases p<;>simp [ic,a8 ht]
 · rename_i id path off len g xp;split at he
   · rename_i h1 jD;split at he
     · rename_i sV;simp only [aa,ae] at he;obtain ⟨rfl,rfl⟩:=he;rw [xp] at dL;obtain ⟨an,ad,cap,rfl,uZ,nL,bY,kN⟩:=RZ hm dL jD;have I1:=C0l I2 len;obtain ⟨pR,E',oc,EC⟩:=IZ hm bY jD I1;have I4:∀ w1 E1 n1,bT w1 A E1 n1 (.eO []) (.tuple #[]):=by intro w1 E1 n1;simp only [bT];exact ⟨[],rfl,by simp only [dh]⟩
       cases hb:an.b with
       | none =>
         obtain ⟨k1,k2⟩:=EC hb;simp only [lg,hb] at kN;obtain ⟨rfl,rfl⟩:=kN;refine ⟨_,w,A,E',.inl (uo ?_),I4 _ _ _,k1.mono (nx.eP γ),k2⟩;rw [uZ];cases ad<;>simp [ic,a8 ht]
       | some b =>
         obtain ⟨k1,k2,k3,k4⟩:=oc b hb;simp only [lg,hb] at kN;refine ⟨_,_,A,E',.inl (uo ?_),I4 _ _ _,k1.mono (nx.eP γ),k2⟩;rw [uZ];rcases kN.2 with ⟨rfl,rfl⟩ | hA
         · have e0:w.setCells b (off*P.cellsOf e) (az 0 zc).flatten=w:=rfl;rw [e0];cases ad<;>simp [ic,a8 ht]
         · have hst:=YX (P:=P) k3 k4 I1.kz;rw [hA];have y5:zc.length=zc.length:=rfl;have Iv:(a6 zv.cells len).toList=(az len zc).flatten:=by
            rw [mE];simp only [a6,Array.toList_map,Array.toList_range];exact Rr y5 len
           cases len with
           | zero =>
             have e0:w.setCells b (off*P.cellsOf e) (az 0 zc).flatten=w:=rfl;rw [e0];simp [ic,a8 ht]
           | succ len=>simp [ic,a8 ht,En,Iv,hst]
     · cases he
   · cases he
 · cases he
end
end Go.Mid
namespace Go.Mid
open Go.RowKit
def zA (ζ:Nat→Nat)(an:An):An:={ an with g:=ζ an.g }
section
variable {α:Type}(φ:MV→MV)
section
variable (ζ:α→α)
theorem BX (l:List (T α)):jO φ ζ l=l.map (jg φ ζ):=by
 induction l with
 | nil=>rfl
 | cons x r ih=>simp only [jO,aH,ih]
theorem GA:∀ (p:List Nat) (t:T α),c6 (jg φ ζ t) p=(c6 t p).map (jg φ ζ)
 | [],t=>rfl
 | i::r,.p v=>by
   cases v<;>simp only [jg,c6,dM];rename_i l;cases l[i]? with
   | none=>rfl
   | some x =>
     have:=GA r (.p x)
     simpa only [jg] using this
 | i::r,.m v=>rfl
 | i::r,.agg l=>by
   simp only [jg,c6,BX,aN];cases l[i]? with
   | none=>rfl
   | some x=>exact GA r x
 | i::r,.vec a z l n=>by
   simp only [jg,c6,BX,aN];cases l[i]? with
   | none=>rfl
   | some x=>exact GA r x
 | i::r,.mp a ks l=>by
   simp only [jg,c6,BX,aN];cases l[i]? with
   | none=>rfl
   | some x=>exact GA r x
 | i::r,.hole n=>rfl
theorem R1 (o:Obj α)(np:Option (List Nat)):fq (some (kO φ ζ o)) np=(fq (some o) np).map fun y=>(ζ y.1,y.2):=by
 cases np with
 | none=>cases o<;>rfl
 | some p =>
   rw [sU,sU];have e:(kO φ ζ o).pO=jg φ ζ o.pO:=by cases o<;>rfl
   rw [e];simp only [fL,GA];cases c6 o.pO p with
   | none=>rfl
   | some u=>cases u<;>rfl
mutual
theorem AX (hφ:∀ v,(φ v).cs=v.cs):∀ (t:T α),(jg φ ζ t).cs=t.cs
 | .p _=>rfl
 | .m v=>hφ v
 | .agg l=>R3 hφ l
 | .vec ..=>rfl
 | .mp ..=>rfl
 | .hole _=>rfl
theorem R3 (hφ:∀ v,(φ v).cs=v.cs):∀ (l:List (T α)),T.dm (jO φ ζ l)=T.dm l
 | []=>rfl
 | x::r=>by simp only [jO,T.dm,AX hφ x,R3 hφ r]
end
end
mutual
theorem Y0 (ζ:Nat→Nat):∀ (t:T An),(jg φ (zA ζ) t).mapA An.g=jg φ ζ (t.mapA An.g)
 | .p _=>rfl
 | .m _=>rfl
 | .agg l=>by simp only [jg,T.mapA,I5 ζ l]
 | .vec an _ l _=>by simp only [jg,T.mapA,I5 ζ l];rfl
 | .mp an _ l=>by simp only [jg,T.mapA,I5 ζ l];rfl
 | .hole _=>rfl
theorem I5 (ζ:Nat→Nat):∀ (l:List (T An)),T.cQ An.g (jO φ (zA ζ) l)=jO φ ζ (T.cQ An.g l)
 | []=>rfl
 | x::r=>by simp only [jO,T.cQ,Y0 ζ x,I5 ζ r]
end
theorem Y1 (ζ:Nat→Nat)(o:Obj An):(kO φ (zA ζ) o).mapA An.g=kO φ ζ (o.mapA An.g):=by
 cases o<;>simp only [kO,Obj.mapA,Y0,I5]<;>rfl
mutual
theorem yf (ζ:An→An)(hζ:∀ an,(ζ an).b=an.b):∀ (t:T An),(jg φ ζ t).blk=t.blk
 | .p _=>rfl
 | .m _=>rfl
 | .agg l=>BZ ζ hζ l
 | .vec an _ l _=>by simp only [jg,T.blk,BZ ζ hζ l,hζ]
 | .mp an _ l=>by simp only [jg,T.blk,BZ ζ hζ l,hζ]
 | .hole _=>rfl
theorem BZ (ζ:An→An)(hζ:∀ an,(ζ an).b=an.b):∀ (l:List (T An)),T.b9 (jO φ ζ l)=T.b9 l
 | []=>rfl
 | x::r=>by simp only [jO,T.b9,yf ζ hζ x,BZ ζ hζ r]
end
theorem EF (ζ:An→An)(hζ:∀ an,(ζ an).b=an.b)(o:Obj An):(kO φ ζ o).blk=o.blk:=by
 cases o<;>simp only [kO,Obj.blk,yf φ ζ hζ,BZ φ ζ hζ,hζ]
mutual
theorem Y2 {nx nx':dv}(ζ:An→An)(hζ:∀ an,nx an.g→nx' (ζ an).g):∀ (t:T An),t.st nx→(jg φ ζ t).st nx'
 | .p _,_=>trivial
 | .m _,_=>trivial
 | .agg l,h=>by simp only [jg,T.st] at h ⊢;exact GB ζ hζ l h
 | .vec an _ l _,h=>by simp only [jg,T.st] at h ⊢;exact ⟨hζ _ h.1,GB ζ hζ l h.2⟩
 | .mp an _ l,h=>by simp only [jg,T.st] at h ⊢;exact ⟨hζ _ h.1,GB ζ hζ l h.2⟩
 | .hole _,_=>trivial
theorem GB {nx nx':dv}(ζ:An→An)(hζ:∀ an,nx an.g→nx' (ζ an).g):∀ (l:List (T An)),T.ku nx l→T.ku nx' (jO φ ζ l)
 | [],_=>trivial
 | x::r,h=>by simp only [jO,T.ku] at h ⊢;exact ⟨Y2 ζ hζ x h.1,GB ζ hζ r h.2⟩
end
theorem D2X {nx nx':dv}(ζ:An→An)(hζ:∀ an,nx an.g→nx' (ζ an).g){o:Obj An}(h:o.st nx):(kO φ ζ o).st nx':=by
 cases o<;>simp only [kO,Obj.st] at h ⊢
 · exact ⟨hζ _ h.1,Y2 φ ζ hζ _ h.2⟩
 · exact ⟨hζ _ h.1,GB φ ζ hζ _ h.2⟩
 · exact ⟨hζ _ h.1,GB φ ζ hζ _ h.2⟩
end
theorem Nt {an qQ:An}(hb:qQ.b=an.b)(hc:qQ.cap=an.cap){z off len cap:Nat}{a:Option Addr}(h:lg an z off len a cap):lg qQ z off len a cap:=by
 simp only [lg,hb,hc] at h ⊢;exact h
section
variable {w:World}{A:Nat→Prop}{E E':dV An}{nx nx':dv}{h:cq}
structure uq (w:World)(A:Nat→Prop)(E:dV An)(nx:dv)(E':dV An)(nx':dv)(φ:MV→MV):Prop where
 val:∀ v val,bT w A E nx v val→bT w A E' nx' (φ v) val
 cs:∀ v,(φ v).cs=v.cs
 agg:∀ v,(φ v).isAgg=v.isAgg
mutual
theorem TAt.ch {φ:MV→MV}{ζ:An→An}(c:uq w A E nx E' nx' φ)(hb:∀ an,(ζ an).b=an.b)(hc:∀ an,(ζ an).cap=an.cap):∀ {t:T An} {b o:Nat},TAt w A E nx t b o→TAt w A E' nx' (jg φ ζ t) b o
 | .p v,b,o,k=>k
 | .m v,b,o,k=>by
   simp only [TAt,jg] at k ⊢;obtain ⟨h1,h2,val,h3,h4⟩:=k;exact ⟨by rw [c.cs];exact h1,by rw [c.agg];exact h2,val,c.val v val h3,h4⟩
 | .agg l,b,o,k=>by simp only [TAt,jg] at k ⊢;exact cK.ch c hb hc k
 | .vec an z l n,b,o,k=>by
   simp only [TAt,jg] at k ⊢;obtain ⟨a,cap,h1,h2,h3,h4⟩:=k;refine ⟨a,cap,h1,by rw [BX,aE];exact h2,Nt (hb an) (hc an) h3,?_⟩
   rw [hb,hc];cases kM:an.b with
   | none=>simp only [kM] at h4 ⊢;exact ⟨by rw [h4.1];rfl,h4.2⟩
   | some b' =>
     simp only [kM] at h4 ⊢;refine ⟨h4.1,by rw [BX,aE];exact h4.2.1,?_,cK.ch c hb hc h4.2.2.2⟩
     intro t ht;rw [BX] at ht;obtain ⟨u,hu,rfl⟩:=bj.1 ht;rw [AX φ ζ c.cs];exact h4.2.2.1 u hu
 | .mp ..,b,o,k=>by simp only [TAt] at k
 | .hole n,b,o,k=>k
theorem cK.ch {φ:MV→MV}{ζ:An→An}(c:uq w A E nx E' nx' φ)(hb:∀ an,(ζ an).b=an.b)(hc:∀ an,(ζ an).cap=an.cap):∀ {l:List (T An)} {b o:Nat},cK w A E nx l b o→cK w A E' nx' (jO φ ζ l) b o
 | [],b,o,k=>by simp only [cK,jO]
 | t::r,b,o,k=>by
   simp only [cK,jO] at k ⊢;rw [AX φ ζ c.cs];exact ⟨TAt.ch c hb hc k.1,cK.ch c hb hc k.2⟩
end
theorem OAt.ch {φ:MV→MV}{ζ:An→An}(c:uq w A E nx E' nx' φ)(hb:∀ an,(ζ an).b=an.b)(hc:∀ an,(ζ an).cap=an.cap){o:Obj An}(k:OAt w A E nx o):OAt w A E' nx' (kO φ ζ o):=by
 cases o with
 | cell an t =>
   simp only [OAt,kO] at k ⊢;obtain ⟨b,h1,h2,h3⟩:=k;exact ⟨b,by rw [hb];exact h1,by rw [AX φ ζ c.cs];exact h2,h3.ch c hb hc⟩
 | vec an z l =>
   simp only [OAt,VB,kO] at k ⊢;rw [hb,hc];cases kM:an.b with
   | none=>simp only [kM] at k ⊢;exact ⟨by rw [k.1];rfl,k.2⟩
   | some b' =>
     simp only [kM] at k ⊢;refine ⟨k.1,by rw [BX,aE];exact k.2.1,?_,cK.ch c hb hc k.2.2.2⟩
     intro t ht;rw [BX] at ht;obtain ⟨u,hu,rfl⟩:=bj.1 ht;rw [AX φ ζ c.cs];exact k.2.2.1 u hu
 | mp=>simp only [OAt] at k
 | gone=>trivial
section
variable (h:cq)(ρ:Nat→Option Nat)(ζ:Nat→Nat)
mutual
theorem R4:∀ (v:MV),(j6 h ρ ζ v).cs=v.cs
 | .p _=>rfl
 | .nil _=>rfl
 | .own id path off len g=>by simp only [j6];split<;>(try split)<;>rfl
 | .ptr id np rp g o=>by simp only [j6];split<;>(try split)<;>rfl
 | .fC id path g=>by simp only [j6];split<;>(try split)<;>rfl
 | .agg l=>Y3 l
 | .fn _ _=>rfl
 | .eO _=>rfl
 | .dead _=>rfl
theorem Y3:∀ (l:List MV),MV.dm (sw h ρ ζ l)=MV.dm l
 | []=>rfl
 | x::r=>by simp only [sw,MV.dm,R4 x,Y3 r]
end
theorem Y4 (v:MV):(j6 h ρ ζ v).isAgg=v.isAgg:=by
 cases v<;>simp only [j6]<;>(try split)<;>(try split)<;>rfl
end
def r8 (E:dV An)(h:cq)(ρ:Nat→Option Nat)(ζ:Nat→Nat)(ζn:Nat→Nat→Nat)(bk:Nat→Option Nat):dV An:=fun j=>(bk j).bind fun i=>(E i).map (kO (j6 h ρ ζ) (zA (ζn i)))
def zh (h:cq)(ρ:Nat→Option Nat)(ζ:Nat→Nat)(ζn:Nat→Nat→Nat)(bk:Nat→Option Nat):cq:=fun j=>(bk j).bind fun i=>(h i).map (kO (j6 h ρ ζ) (ζn i))
theorem I6 {h:cq}{ρ:Nat→Option Nat}{ζ:Nat→Nat}{ζn:Nat→Nat→Nat}{bk:Nat→Option Nat}{i j:Nat}(hb:bk j=some i)(np:Option (List Nat)):fq (r8 E h ρ ζ ζn bk j) np=(fq (E i) np).map fun y=>(zA (ζn i) y.1,y.2):=by
 simp only [r8,hb,ah];cases hE:E i with
 | none =>
   simp only [dM];cases np with
   | none=>rfl
   | some p=>cases p<;>rfl
 | some o=>exact R1 _ _ o np
section
variable {ρ:Nat→Option Nat}{ζ:Nat→Nat}{ζn:Nat→Nat→Nat}{bk:Nat→Option Nat}
mutual
theorem bT.clean (m:MR w A E h nx)(hρ:∀ i j,ρ i=some j→bk j=some i)(hn:∀ g,nx g→nx' (ζ g)):∀ {v:MV} {val:Value},bT w A E nx v val→bT w A (r8 E h ρ ζ ζn bk) nx' (j6 h ρ ζ v) val
 | .p v,val,k=>by simp only [bT,j6] at k ⊢;exact k
 | .nil _,val,k=>by simp only [bT,j6] at k ⊢;exact k
 | .own id path off len g,val,k=>by
   simp only [bT] at k;obtain ⟨hg,a,cap,rfl,hc,hh⟩:=k;simp only [j6];split
   · rename_i j hj;split
     · rename_i kV;simp only [bT];refine ⟨hn g hg,a,cap,rfl,hc,fun an z bY hgg=>?_⟩
       rw [I6 (hρ id j hj)] at bY;unfold uP at kV;split at kV
       · rename_i g' z' l' iT;obtain ⟨C7,lA,nA,rfl,_⟩:=m.vec iT;simp only [beq_iff_eq] at kV;subst kV;rw [sR nA] at bY;simp only [ar,aa,ae] at bY;obtain ⟨rfl,rfl⟩:=bY;exact Nt (an:=C7) rfl rfl (hh C7 z' (sR nA) rfl)
       · cases kV
     · simp only [bT]
   · simp only [bT]
 | .ptr id np rp g o,val,k=>by
   simp only [bT] at k;obtain ⟨hg,a,rfl,hh⟩:=k;simp only [j6];split
   · rename_i j hj;split
     · rename_i kV;simp only [bT];refine ⟨hn g hg,a,rfl,fun an z bY hgg=>?_⟩
       rw [I6 (hρ id j hj)] at bY;unfold xP at kV;split at kV
       · rename_i t s o' hl;obtain ⟨C7,tA,n5,rfl,_⟩:=m.look hl;simp only [ak,beq_iff_eq] at kV;obtain ⟨rfl,rfl⟩:=kV;obtain ⟨z0,iq⟩:=Gj n5;rw [iq] at bY;simp only [ar,aa,ae] at bY;obtain ⟨rfl,rfl⟩:=bY;exact hh C7 z0 iq rfl
       · cases kV
     · simp only [bT]
   · simp only [bT]
 | .fC ..,val,k=>by simp only [bT] at k
 | .agg l,val,k=>by
   simp only [bT,j6] at k ⊢;obtain ⟨cs,rfl,k⟩:=k;exact ⟨cs,rfl,ef.clean m hρ hn k⟩
 | .fn f l,val,k=>by
   simp only [bT,j6] at k ⊢;obtain ⟨vs,rfl,k⟩:=k;exact ⟨vs,rfl,dh.clean m hρ hn k⟩
 | .eO l,val,k=>by
   simp only [bT,j6] at k ⊢;obtain ⟨vs,rfl,k⟩:=k;exact ⟨vs,rfl,dh.clean m hρ hn k⟩
 | .dead _,val,k=>by simp only [bT,j6]
theorem ef.clean (m:MR w A E h nx)(hρ:∀ i j,ρ i=some j→bk j=some i)(hn:∀ g,nx g→nx' (ζ g)):∀ {l:List MV} {cs:List Value},ef w A E nx l cs→ef w A (r8 E h ρ ζ ζn bk) nx' (sw h ρ ζ l) cs
 | [],cs,k=>by simp only [ef,sw] at k ⊢;exact k
 | x::r,cs,k=>by
   simp only [ef,sw] at k ⊢;obtain ⟨v,d,rfl,h1,h2,h3,h4⟩:=k;refine ⟨v,d,rfl,by rw [R4];exact h1,fun c hc=>?_,bT.clean m hρ hn h3,ef.clean m hρ hn h4⟩
   rw [Y4];rcases h2 c hc with h5 | ⟨n,rfl⟩
   · exact .inl h5
   · exact .inr ⟨n,rfl⟩
theorem dh.clean (m:MR w A E h nx)(hρ:∀ i j,ρ i=some j→bk j=some i)(hn:∀ g,nx g→nx' (ζ g)):∀ {l:List MV} {vs:List Value},dh w A E nx l vs→dh w A (r8 E h ρ ζ ζn bk) nx' (sw h ρ ζ l) vs
 | [],vs,k=>by simp only [dh,sw] at k ⊢;exact k
 | x::r,vs,k=>by
   simp only [dh,sw] at k ⊢;obtain ⟨v,d,rfl,h1,h2⟩:=k;exact ⟨v,d,rfl,bT.clean m hρ hn h1,dh.clean m hρ hn h2⟩
end
theorem EG {j:Nat}{o:Obj An}(ho:r8 E h ρ ζ ζn bk j=some o):∃ i o0,bk j=some i∧E i=some o0∧o=kO (j6 h ρ ζ) (zA (ζn i)) o0:=by
 simp only [r8] at ho;cases hb:bk j with
 | none=>simp [hb] at ho
 | some i =>
   simp only [hb,ah] at ho;cases hE:E i with
   | none=>simp [hE] at ho
   | some o0 =>
     simp only [hE,ar,aa] at ho;exact ⟨i,o0,rfl,hE,ho.symm⟩
theorem Nu {b:Nat}(k:jH (r8 E h ρ ζ ζn bk) b):jH E b:=by
 obtain ⟨j,o,ho,hb⟩:=k;obtain ⟨i,o0,_,hE,rfl⟩:=EG ho;rw [EF _ (zA (ζn i)) (fun _=>rfl)] at hb
 exact ⟨i,o0,hE,hb⟩
theorem MR.clean (m:MR w A E h nx)(hρ:∀ i j,ρ i=some j→bk j=some i)(sZ:∀ i j j',bk j=some i→bk j'=some i→j=j')(hn:∀ g,nx g→nx' (ζ g))(EC:∀ i g,nx g→nx' (ζn i g)):MR w A (r8 E h ρ ζ ζn bk) (zh h ρ ζ ζn bk) nx':=by
 have c:uq w A E nx (r8 E h ρ ζ ζn bk) nx' (j6 h ρ ζ):=⟨fun v val k=>bT.clean m hρ hn k,R4 h ρ ζ,Y4 h ρ ζ⟩
 constructor
 · intro j;simp only [r8,zh];cases bk j with
   | none=>rfl
   | some i =>
     simp only [ah,m.er i,kH];cases E i with
     | none=>rfl
     | some o=>simp only [ar,Function.comp,Y1]
 · intro j o ho;obtain ⟨i,o0,_,hE,rfl⟩:=EG ho;exact (m.at_ i o0 hE).ch (ζ:=zA (ζn i)) c (fun _=>rfl) (fun _=>rfl)
 · intro b hb;exact m.lt b (Nu hb)
 · intro j o ho;obtain ⟨i,o0,_,hE,rfl⟩:=EG ho;rw [EF _ (zA (ζn i)) (fun _=>rfl)]
   exact m.nd i o0 hE
 · intro j j' o o' eD ho oQ b hb jt;obtain ⟨i,o0,hi,hE,rfl⟩:=EG ho;obtain ⟨i',o1,dN,ur,rfl⟩:=EG oQ;rw [EF _ (zA (ζn i)) (fun _=>rfl)] at hb
   rw [EF _ (zA (ζn i')) (fun _=>rfl)] at jt
   by_cases e:i=i'
   · subst e;exact eD (sZ i j j' hi dN)
   · exact m.dj i i' o0 o1 e hE ur b hb jt
 · exact m.im
 · intro j o ho;obtain ⟨i,o0,_,hE,rfl⟩:=EG ho;exact D2X _ (zA (ζn i)) (fun an hg=>EC _ _ hg) (m.st i o0 hE)
end
end
end Go.Mid
namespace Go.Mid
open Go.RowKit
def wH (γ g0:Nat)(an:An):An:={ an with g:=uR γ g0 an.g }
theorem D6m (γ g0:Nat)(an:An):(wH γ g0 an).b=an.b:=rfl
section
variable {α β:Type}
mutual
theorem Y5 (f:α→β)(ck:Nat→α→α)(rs:α→α)(yg:Nat→β→β)(nw:β→β)(h1:∀ g a,f (ck g a)=yg g (f a))(h2:∀ a,f (rs a)=nw (f a)) :
 ∀ (t:T Nat) (u:T α),(mX ck rs t u).mapA f=mX yg nw t (u.mapA f)
 | .agg l,.agg m=>by simp only [mX,T.mapA,Y6 f ck rs yg nw h1 h2 l m]
 | .vec g0 _ _ _,.vec a z l n=>by simp only [mX,T.mapA,h1,vD f rs nw h2]
 | .mp g0 _ _,.mp a ks l=>by simp only [mX,T.mapA,h1,vD f rs nw h2]
 | .p _,u=>by simp only [mX,GC f rs nw h2]
 | .m _,u=>by simp only [mX,GC f rs nw h2]
 | .hole _,u=>by simp only [mX,GC f rs nw h2]
 | .agg _,.p _=>rfl
 | .agg _,.m _=>rfl
 | .agg _,.vec ..=>by simp only [mX,T.mapA,jg,h2,vD f rs nw h2]
 | .agg _,.mp ..=>by simp only [mX,T.mapA,jg,h2,vD f rs nw h2]
 | .agg _,.hole _=>rfl
 | .vec ..,.p _=>rfl
 | .vec ..,.m _=>rfl
 | .vec ..,.agg _=>by simp only [mX,T.mapA,jg,vD f rs nw h2]
 | .vec ..,.mp ..=>by simp only [mX,T.mapA,jg,h2,vD f rs nw h2]
 | .vec ..,.hole _=>rfl
 | .mp ..,.p _=>rfl
 | .mp ..,.m _=>rfl
 | .mp ..,.agg _=>by simp only [mX,T.mapA,jg,vD f rs nw h2]
 | .mp ..,.vec ..=>by simp only [mX,T.mapA,jg,h2,vD f rs nw h2]
 | .mp ..,.hole _=>rfl
theorem Y6 (f:α→β)(ck:Nat→α→α)(rs:α→α)(yg:Nat→β→β)(nw:β→β)(h1:∀ g a,f (ck g a)=yg g (f a))(h2:∀ a,f (rs a)=nw (f a)) :
 ∀ (l:List (T Nat)) (m:List (T α)),T.cQ f (oD ck rs l m)=oD yg nw l (T.cQ f m)
 | x::r,y::q=>by simp only [oD,T.cQ,Y5 f ck rs yg nw h1 h2 x y,Y6 f ck rs yg nw h1 h2 r q]
 | [],q=>by simp only [oD,vD f rs nw h2]
 | x::r,[]=>by simp only [oD,T.cQ,jO]
theorem GC (f:α→β)(rs:α→α)(nw:β→β)(h2:∀ a,f (rs a)=nw (f a)):∀ (t:T α),(jg (fun v=>v) rs t).mapA f=jg (fun v=>v) nw (t.mapA f)
 | .p _=>rfl
 | .m _=>rfl
 | .agg l=>by simp only [jg,T.mapA,vD f rs nw h2 l]
 | .vec an _ l _=>by simp only [jg,T.mapA,vD f rs nw h2 l,h2]
 | .mp an _ l=>by simp only [jg,T.mapA,vD f rs nw h2 l,h2]
 | .hole _=>rfl
theorem vD (f:α→β)(rs:α→α)(nw:β→β)(h2:∀ a,f (rs a)=nw (f a)):∀ (l:List (T α)),T.cQ f (jO (fun v=>v) rs l)=jO (fun v=>v) nw (T.cQ f l)
 | []=>rfl
 | x::r=>by simp only [jO,T.cQ,GC f rs nw h2 x,vD f rs nw h2 r]
end
theorem Y7 (f:α→β)(ck:Nat→α→α)(rs:α→α)(yg:Nat→β→β)(nw:β→β)(h1:∀ g a,f (ck g a)=yg g (f a))(h2:∀ a,f (rs a)=nw (f a))(t:Option (Obj Nat))(o:Obj α) :
 (q8 ck rs t o).mapA f=q8 yg nw t (o.mapA f):=by
 have e:∀ o:Obj α,(kO (fun v=>v) rs o).mapA f=kO (fun v=>v) nw (o.mapA f):=by
  intro o;cases o<;>simp only [kO,Obj.mapA,h2,GC f rs nw h2,vD f rs nw h2]
 cases t with
 | none=>exact e o
 | some t =>
   cases t<;>cases o<;>simp only [q8,Obj.mapA,kO,h1,h2,Y5 f ck rs yg nw h1 h2,vD f rs nw h2,GC f rs nw h2]
end
section
variable (ck:Nat→An→An)(rs:An→An)
mutual
theorem Y8 (hc:∀ g a,(ck g a).b=a.b)(hr:∀ a,(rs a).b=a.b):∀ (t:T Nat) (u:T An),(mX ck rs t u).blk=u.blk
 | .agg l,.agg m=>Y9 hc hr l m
 | .vec g0 _ _ _,.vec a z l n=>by simp only [mX,T.blk,hc,BZ _ _ hr]
 | .mp g0 _ _,.mp a ks l=>by simp only [mX,T.blk,hc,BZ _ _ hr]
 | .p _,u=>by simp only [mX,yf _ _ hr]
 | .m _,u=>by simp only [mX,yf _ _ hr]
 | .hole _,u=>by simp only [mX,yf _ _ hr]
 | .agg _,.p _=>rfl
 | .agg _,.m _=>rfl
 | .agg _,.vec ..=>yf _ _ hr _
 | .agg _,.mp ..=>yf _ _ hr _
 | .agg _,.hole _=>rfl
 | .vec ..,.p _=>rfl
 | .vec ..,.m _=>rfl
 | .vec ..,.agg _=>yf _ _ hr _
 | .vec ..,.mp ..=>yf _ _ hr _
 | .vec ..,.hole _=>rfl
 | .mp ..,.p _=>rfl
 | .mp ..,.m _=>rfl
 | .mp ..,.agg _=>yf _ _ hr _
 | .mp ..,.vec ..=>yf _ _ hr _
 | .mp ..,.hole _=>rfl
theorem Y9 (hc:∀ g a,(ck g a).b=a.b)(hr:∀ a,(rs a).b=a.b):∀ (l:List (T Nat)) (m:List (T An)),T.b9 (oD ck rs l m)=T.b9 m
 | x::r,y::q=>by simp only [oD,T.b9,Y8 hc hr x y,Y9 hc hr r q]
 | [],q=>by simp only [oD,BZ _ _ hr]
 | x::r,[]=>by simp only [oD,T.b9,jO]
end
theorem C7b (hc:∀ g a,(ck g a).b=a.b)(hr:∀ a,(rs a).b=a.b)(t:Option (Obj Nat))(o:Obj An):(q8 ck rs t o).blk=o.blk:=by
 cases t with
 | none=>exact EF _ _ hr o
 | some t =>
   cases t<;>cases o<;>simp only [q8,kO,Obj.blk,hc,hr,Y8 ck rs hc hr,BZ _ _ hr,yf _ _ hr]
end
def I7 (ck:Nat→An→An)(rs:An→An)(t:Option (Nat×Option Nat))(y0 y:An×Option Nat):Prop :=
 y.2=y0.2∧(y.1=rs y0.1∨∃ g0 z0,t=some (g0,z0)∧y.1=ck g0 y0.1)
theorem Za (rs:An→An)(t:T An)(q:List Nat):fL (jg (fun v=>v) rs t) q=(fL t q).map fun y=>(rs y.1,y.2):=by
 simp only [fL,GA];cases c6 t q with
 | none=>rfl
 | some u=>cases u<;>rfl
theorem R5 (ck:Nat→An→An)(rs:An→An):∀ (q:List Nat) (t:T Nat) (u:T An),(∀ y0,fL u q=some y0→∃ y,fL (mX ck rs t u) q=some y∧I7 ck rs (fL t q) y0 y)∧(fL u q=none→fL (mX ck rs t u) q=none):=by
 have plain:∀ (q:List Nat) (t:T Nat) (u:T An),(∀ y0,fL u q=some y0→∃ y,fL (jg (fun v=>v) rs u) q=some y∧I7 ck rs (fL t q) y0 y)∧(fL u q=none→fL (jg (fun v=>v) rs u) q=none):=by
  intro q t u;rw [Za];refine ⟨fun y0 h=>⟨(rs y0.1,y0.2),by rw [h];rfl,rfl,.inl rfl⟩,fun h=>by rw [h];rfl⟩
 have EH:∀ (l:List (T An)) (i:Nat) (r:List Nat),((jO (fun v=>v) rs l)[i]?).bind (fun t=>fL t r)=((l[i]?).bind fun t=>fL t r).map fun y=>(rs y.1,y.2):=by
  intro l i r;rw [BX,aN];cases l[i]? with
  | none=>rfl
  | some x=>simp only [ar,ah,Za]
 intro q
 induction q with
 | nil =>
   intro t u;cases t<;>cases u<;>first
    | exact plain [] _ _
    | exact ⟨fun y0 h=>(by cases h),fun _=>rfl⟩
    | (refine ⟨fun y0 h=>?_,fun h=>(by cases h)⟩
       simp only [fL,c6,aa] at h;subst h;exact ⟨_,rfl,rfl,.inr ⟨_,_,rfl,rfl⟩⟩)
 | cons i r ih =>
   intro t u;cases t<;>cases u<;>try exact plain (i::r) _ _
   · -- agg,agg
     rename_i l m;simp only [mX,Iz];have key:∀ (l:List (T Nat)) (m:List (T An)) (i:Nat),(∀ y0,(m[i]?).bind (fun t=>fL t r)=some y0→∃ y,((oD ck rs l m)[i]?).bind (fun t=>fL t r)=some y∧I7 ck rs ((l[i]?).bind fun t=>fL t r) y0 y) ∧
      ((m[i]?).bind (fun t=>fL t r)=none→((oD ck rs l m)[i]?).bind (fun t=>fL t r)=none):=by
      intro l
      induction l with
      | nil =>
        intro m i;simp only [oD];rw [EH];refine ⟨fun y0 h=>⟨(rs y0.1,y0.2),by rw [h];rfl,rfl,.inl rfl⟩,fun h=>by rw [h];rfl⟩
      | cons x l' ihl =>
        intro m i;cases m with
        | nil=>exact ⟨fun y0 h=>by simp at h,fun _=>by simp [oD,jO]⟩
        | cons y m' =>
          cases i with
          | zero=>simp only [oD,List.getElem?_cons_zero,ah];exact ih x y
          | succ i=>simp only [oD,List.getElem?_cons_succ];exact ihl m' i
     exact key l m i
theorem R6 (ck:Nat→An→An)(rs:An→An)(t:Option (Obj Nat))(u:Obj An)(np:Option (List Nat)):(∀ y0,fq (some u) np=some y0→∃ y,fq (some (q8 ck rs t u)) np=some y∧I7 ck rs (fq t np) y0 y)∧(fq (some u) np=none→fq (some (q8 ck rs t u)) np=none):=by
 have plain:∀ (t:Option (Obj Nat)) (u:Obj An),(∀ y0,fq (some u) np=some y0→∃ y,fq (some (kO (fun v=>v) rs u)) np=some y∧I7 ck rs (fq t np) y0 y)∧(fq (some u) np=none→fq (some (kO (fun v=>v) rs u)) np=none):=by
  intro t u;rw [R1];refine ⟨fun y0 h=>⟨(rs y0.1,y0.2),by rw [h];rfl,rfl,.inl rfl⟩,fun h=>by rw [h];rfl⟩
 cases t with
 | none=>exact plain none u
 | some t =>
   cases np with
   | none =>
     cases t<;>cases u<;>first
      | exact plain _ _
      | exact ⟨fun y0 h=>(by cases h),fun _=>rfl⟩
      | (refine ⟨fun y0 h=>?_,fun h=>(by cases h)⟩
         simp only [fq,aa] at h;subst h;exact ⟨_,rfl,rfl,.inr ⟨_,_,rfl,rfl⟩⟩)
   | some p =>
     cases t<;>cases u<;>try exact plain _ _
     · rename_i g0 t a u;simp only [sU,q8,Obj.pO];exact R5 ck rs p t u
     · rename_i g0 z0 l0 a z l;simp only [sU,q8,Obj.pO];exact R5 ck rs p (.vec g0 z0 l0 0) (.vec a z l 0)
     · rename_i g0 ks0 l0 a ks l;simp only [sU,q8,Obj.pO];exact R5 ck rs p (.mp g0 ks0 l0) (.mp a ks l)
end Go.Mid
namespace Go.Mid
open Go.RowKit
theorem EI {l:List Nat}{x k:Nat}(h:pc l x=some k):l[k]?=some x:=by
 unfold pc at h;rw [List.findIdx?_eq_some_iff_getElem] at h;obtain ⟨h1,h2,_⟩:=h;simp only [beq_iff_eq] at h2;rw [af h1,h2]
theorem Nv {l:List Nat}{x:Nat}(h:pc l x=none):x∉l:=by
 unfold pc at h;rw [List.findIdx?_eq_none_iff] at h;intro hx
 have:=h x hx
 simp at this
theorem GD {l:List Nat}{x k:Nat}(hn:l.Nodup)(h:l[k]?=some x):pc l x=some k:=by
 cases hi:pc l x with
 | none=>exact (Nv hi (bH h)).elim
 | some k' =>
   have:=EI hi
   congr 1;obtain ⟨h1,h2⟩:=aL.1 this;obtain ⟨h3,h4⟩:=aL.1 h;have hp:=List.pairwise_iff_getElem.1 (jn.1 hn);rcases Nat.lt_trichotomy k' k with eC | rfl | eC
   · exact (hp k' k h1 h3 eC (h2.trans h4.symm)).elim
   · rfl
   · exact (hp k k' h3 h1 eC (h4.trans h2.symm)).elim
theorem Zb (d:Option Nat)(n k:Nat)(hk:k<n):(kr d n)[k]?=some (xS (d.getD 0) k):=by
 simp only [kr,aN,List.getElem?_range hk,ar]
theorem C7c (d:Option Nat)(n:Nat):(kr d n).Nodup:=by
 simp only [kr];rw [jn,List.pairwise_map];refine List.Pairwise.imp ?_ (jn.1 List.nodup_range);intro a b s0 h;simp only [xS] at h;omega
theorem Nw {es ids:List Nat}{i j:Nat}(h:mY es ids i=some j):(∃ k,es[k]?=some i∧j=kP+k)∨(i∉es∧∃ k,ids[k]?=some i∧j=eB+k):=by
 unfold mY at h;split at h
 · rename_i k hk;cases h;exact .inl ⟨k,EI hk,rfl⟩
 · rename_i hk;split at h
   · rename_i k' mV;cases h;exact .inr ⟨Nv hk,k',EI mV,rfl⟩
   · cases h
theorem C7d {es ids:List Nat}{i:Nat}(h:mY es ids i=none):i∉es∧i∉ids:=by
 unfold mY at h;split at h
 · cases h
 · rename_i hk;split at h
   · cases h
   · rename_i mV;exact ⟨Nv hk,Nv mV⟩
mutual
theorem Zc {n:dv}:∀ {t:T An},(∀ q y,fL t q=some y→n y.1.g)→t.st n
 | .p _,_=>trivial
 | .m _,_=>trivial
 | .agg l,h=>by
   simp only [T.st];exact GF fun i t ht q y hy=>h (i::q) y (by simp only [Iz,ht,ah];exact hy)
 | .vec an z l k,h=>by
   simp only [T.st];exact ⟨h [] (an,some z) rfl,GF fun i t ht q y hy=>h (i::q) y (by simp only [BD,ht,ah];exact hy)⟩
 | .mp an ks l,h=>by
   simp only [T.st];exact ⟨h [] (an,none) rfl,GF fun i t ht q y hy=>h (i::q) y (by simp only [Q7,ht,ah];exact hy)⟩
 | .hole _,_=>trivial
theorem GF {n:dv}:∀ {l:List (T An)},(∀ (i:Nat) (t:T An),l[i]?=some t→∀ q y,fL t q=some y→n y.1.g)→T.ku n l
 | [],_=>trivial
 | x::r,h=>by
   simp only [T.ku];exact ⟨Zc fun q y hy=>h 0 x rfl q y hy,GF fun i t ht q y hy=>h (i+1) t ht q y hy⟩
end
theorem C0n {n:dv}{o:Obj An}(h:∀ np y,fq (some o) np=some y→n y.1.g):o.st n:=by
 cases o with
 | cell an t =>
   refine ⟨h none (an,none) rfl,Zc fun q y hy=>h (some q) y ?_⟩
   rw [sU];exact hy
 | vec an z l =>
   refine ⟨h (some []) (an,some z) rfl,GF fun i t ht q y hy=>h (some (i::q)) y ?_⟩
   rw [sU];simp only [Obj.pO,BD,ht,ah];exact hy
 | mp an ks l =>
   refine ⟨h (some []) (an,none) rfl,GF fun i t ht q y hy=>h (some (i::q)) y ?_⟩
   rw [sU];simp only [Obj.pO,Q7,ht,ah];exact hy
 | gone=>trivial
theorem D4n {n:dv}:∀ (q:List Nat) (t:T An) (y:An×Option Nat),t.st n→fL t q=some y→n y.1.g:=by
 intro q t y hs h;simp only [fL] at h;split at h<;>rename_i heq
 · cases h
   have:=Bz q t _ heq hs
   exact this.1
 · cases h
   have:=Bz q t _ heq hs
   exact this.1
 · cases h
theorem Zd {n:dv}{o:Obj An}{np:Option (List Nat)}{y:An×Option Nat}(hs:o.st n)(h:fq (some o) np=some y):n y.1.g:=by
 cases np with
 | none =>
   cases o<;>simp only [fq,reduceCtorEq,aa] at h;subst h;exact hs.1
 | some q =>
   rw [sU] at h;refine D4n q o.pO y ?_ h;cases o<;>first
    | exact hs.2
    | exact hs
    | trivial
theorem R7 {α β:Type}(f:α→β)(ob:Option (Obj α))(np:Option (List Nat)):fq (ob.map (Obj.mapA f)) np=(fq ob np).map fun y=>(f y.1,y.2):=by
 cases ob with
 | none =>
   cases np with
   | none=>rfl
   | some p=>cases p<;>rfl
 | some o =>
   cases np with
   | none=>cases o<;>rfl
   | some p =>
     simp only [ar];rw [sU,sU];have e:(o.mapA f).pO=o.pO.mapA f:=by cases o<;>rfl
     rw [e,Yk]
section
variable {w:World}{A:Nat→Prop}{E:dV An}{nx:dv}
theorem uq.id (w:World)(A:Nat→Prop)(E:dV An)(nx:dv):uq w A E nx E nx (fun v=>v):=⟨fun _ _ h=>h,fun _=>rfl,fun _=>rfl⟩
mutual
theorem R8 (ck:Nat→An→An)(rs:An→An):∀ (t:T Nat) (u:T An),(mX ck rs t u).cs=u.cs
 | .agg l,.agg m=>Ze ck rs l m
 | .vec ..,.vec ..=>rfl
 | .mp ..,.mp ..=>rfl
 | .p _,u=>by simp only [mX];exact AX _ _ (fun _=>rfl) u
 | .m _,u=>by simp only [mX];exact AX _ _ (fun _=>rfl) u
 | .hole _,u=>by simp only [mX];exact AX _ _ (fun _=>rfl) u
 | .agg _,.p _=>rfl
 | .agg _,.m _=>rfl
 | .agg _,.vec ..=>rfl
 | .agg _,.mp ..=>rfl
 | .agg _,.hole _=>rfl
 | .vec ..,.p _=>rfl
 | .vec ..,.m _=>rfl
 | .vec ..,.agg _=>AX _ _ (fun _=>rfl) _
 | .vec ..,.mp ..=>rfl
 | .vec ..,.hole _=>rfl
 | .mp ..,.p _=>rfl
 | .mp ..,.m _=>rfl
 | .mp ..,.agg _=>AX _ _ (fun _=>rfl) _
 | .mp ..,.vec ..=>rfl
 | .mp ..,.hole _=>rfl
theorem Ze (ck:Nat→An→An)(rs:An→An):∀ (l:List (T Nat)) (m:List (T An)),T.dm (oD ck rs l m)=T.dm m
 | x::r,y::q=>by simp only [oD,T.dm,R8 ck rs x y,Ze ck rs r q]
 | [],q=>by simp only [oD];exact R3 _ _ (fun _=>rfl) q
 | x::r,[]=>by simp only [oD,jO]
end
theorem TAt.I8 {an qQ:An}{z n b o:Nat}{l:List (T An)}(hb:qQ.b=an.b)(hc:qQ.cap=an.cap)(h:TAt w A E nx (.vec an z l n) b o):TAt w A E nx (.vec qQ z l n) b o:=by
 simp only [TAt,hb,hc] at h ⊢;obtain ⟨a,cap,h1,h2,h3,h4⟩:=h;exact ⟨a,cap,h1,h2,Nt hb hc h3,h4⟩
mutual
theorem Zf {ck:Nat→An→An}{rs:An→An}(zi:∀ g a,(ck g a).b=a.b)(tC:∀ g a,(ck g a).cap=a.cap)(tD:∀ a,(rs a).b=a.b)(tE:∀ a,(rs a).cap=a.cap):∀ (t:T Nat) (u:T An) {b o:Nat},TAt w A E nx u b o→TAt w A E nx (mX ck rs t u) b o
 | .agg l,.agg m,b,o,h=>by simp only [TAt,mX] at h ⊢;exact Zg zi tC tD tE l m h
 | .vec g0 _ _ _,.vec a z l n,b,o,h=>by
   have:=h.ch (ζ:=rs) (uq.id w A E nx) tD tE
   simp only [jg] at this;exact this.I8 (by rw [zi,tD]) (by rw [tC,tE])
 | .mp g0 _ _,.mp a ks l,b,o,h=>by simp only [TAt] at h
 | .p _,u,b,o,h=>by simp only [mX];exact h.ch (uq.id w A E nx) tD tE
 | .m _,u,b,o,h=>by simp only [mX];exact h.ch (uq.id w A E nx) tD tE
 | .hole _,u,b,o,h=>by simp only [mX];exact h.ch (uq.id w A E nx) tD tE
 | .agg _,.p _,b,o,h=>h
 | .agg _,.m _,b,o,h=>h
 | .agg _,.vec ..,b,o,h=>h.ch (uq.id w A E nx) tD tE
 | .agg _,.mp ..,b,o,h=>by simp only [TAt] at h
 | .agg _,.hole _,b,o,h=>h
 | .vec ..,.p _,b,o,h=>h
 | .vec ..,.m _,b,o,h=>h
 | .vec ..,.agg _,b,o,h=>h.ch (uq.id w A E nx) tD tE
 | .vec ..,.mp ..,b,o,h=>by simp only [TAt] at h
 | .vec ..,.hole _,b,o,h=>h
 | .mp ..,.p _,b,o,h=>h
 | .mp ..,.m _,b,o,h=>h
 | .mp ..,.agg _,b,o,h=>h.ch (uq.id w A E nx) tD tE
 | .mp ..,.vec ..,b,o,h=>h.ch (uq.id w A E nx) tD tE
 | .mp ..,.hole _,b,o,h=>h
theorem Zg {ck:Nat→An→An}{rs:An→An}(zi:∀ g a,(ck g a).b=a.b)(tC:∀ g a,(ck g a).cap=a.cap)(tD:∀ a,(rs a).b=a.b)(tE:∀ a,(rs a).cap=a.cap):∀ (l:List (T Nat)) (m:List (T An)) {b o:Nat},cK w A E nx m b o→cK w A E nx (oD ck rs l m) b o
 | x::r,y::q,b,o,h=>by
   simp only [cK,oD] at h ⊢;rw [R8];exact ⟨Zf zi tC tD tE x y h.1,Zg zi tC tD tE r q h.2⟩
 | [],q,b,o,h=>by simp only [oD];exact h.ch (uq.id w A E nx) tD tE
 | x::r,[],b,o,h=>by simp only [oD,jO,cK]
end
theorem C86 {ck:Nat→An→An}{rs:An→An}(zi:∀ g a,(ck g a).b=a.b)(tC:∀ g a,(ck g a).cap=a.cap)(tD:∀ a,(rs a).b=a.b)(tE:∀ a,(rs a).cap=a.cap)(t:Option (Obj Nat)){o:Obj An}(h:OAt w A E nx o):OAt w A E nx (q8 ck rs t o):=by
 have plain:=h.ch (ζ:=rs) (uq.id w A E nx) tD tE;cases t with
 | none=>exact plain
 | some t =>
   cases t with
   | cell g0 t =>
     cases o with
     | cell an u =>
       simp only [OAt,q8] at h ⊢;obtain ⟨b,h1,h2,h3⟩:=h;exact ⟨b,by rw [zi];exact h1,by rw [R8];exact h2,Zf zi tC tD tE t u h3⟩
     | _=>exact plain
   | vec g0 z0 l0 =>
     cases o with
     | vec an z l =>
       simp only [kO,OAt,VB,tD,tE] at plain;simp only [q8,OAt,VB,zi,tC];exact plain
     | _=>exact plain
   | mp g0 ks l0 =>
     cases o with
     | mp an ks l=>simp only [OAt] at h
     | _=>exact plain
   | gone=>exact plain
end
end Go.Mid
namespace Go.Mid
open Go.RowKit
def S0:dv:=fun g=>g=0
section
variable (hr h:cq)(ρ:Nat→Nat)
mutual
theorem R9:∀ (v:MV),(nn hr h ρ v).cs=v.cs
 | .p _=>rfl
 | .nil _=>rfl
 | .own id path off len g=>by simp only [nn];split<;>(try split)<;>rfl
 | .ptr id np rp g o=>by simp only [nn];split<;>(try split)<;>rfl
 | .fC id path g=>by simp only [nn];split<;>(try split)<;>rfl
 | .agg l=>Zh l
 | .fn _ _=>rfl
 | .eO _=>rfl
 | .dead _=>rfl
theorem Zh:∀ (l:List MV),MV.dm (tO hr h ρ l)=MV.dm l
 | []=>rfl
 | x::r=>by simp only [tO,MV.dm,R9 x,Zh r]
end
theorem Zi (v:MV):(nn hr h ρ v).isAgg=v.isAgg:=by
 cases v<;>simp only [nn]<;>(try split)<;>(try split)<;>rfl
end
section
variable {w w':World}{A A':Nat→Prop}{E E' Ec:dV An}{nx nx':dv}{γ:Nat}{h:cq}{d:Option Nat}{ids:List Nat}{ext dK:List (Obj Nat)}{r:MV}
theorem C3n {j:Nat}{o:Obj Nat}(ho:kg ext dK j=some o):(∃ k,k<dK.length∧j=kP+k)∨(∃ k,k<ext.length∧j=eB+k):=by
 unfold kg at ho;split at ho
 · have:=(aL.1 ho).1
   exact .inl ⟨j-kP,this,by omega⟩
 · split at ho
   · have:=(aL.1 ho).1
     exact .inr ⟨j-eB,this,by omega⟩
   · cases ho
theorem Zj (hl:ext.length=ids.length)(hn:ids.Nodup)(lL:(kr d dK.length).any ids.contains=false)(kW:ids.length≤1000000){j:Nat}{o:Obj Nat}(ho:kg ext dK j=some o) :
 mY (kr d dK.length) ids (qb (d.getD 0) ids j)=some j:=by
 rcases C3n ho with ⟨k,hk,rfl⟩ | ⟨k,hk,rfl⟩
 · have e:qb (d.getD 0) ids (kP+k)=xS (d.getD 0) k:=by
    unfold qb;rw [if_pos (gq _ _),dD]
   rw [e];unfold mY;rw [GD (C7c d _) (Zb d _ k hk)]
 · rw [hl] at hk;have e:qb (d.getD 0) ids (eB+k)=ids[k]:=by
    unfold qb;rw [if_neg (by simp only [kP,eB];omega)]
    rw [dD];simp [List.getD,af hk]
   rw [e];have Sa:pc (kr d dK.length) ids[k]=none:=by
    cases hi:pc (kr d dK.length) ids[k] with
    | none=>rfl
    | some k' =>
      exfalso;have hm:=bH (EI hi)
      have:(kr d dK.length).any ids.contains=true:=List.any_eq_true.2 ⟨_,hm,by simp⟩
      rw [lL] at this;cases this
   unfold mY;rw [Sa,GD hn (af hk)]
def B0 (γ:Nat)(h:cq)(es ids:List Nat)(E E':dV An):dV An:=fun i=>match mY es ids i with
 | some j=>(E' j).map (q8 (wH γ) (m6 γ) (if kP≤j then none else h i))
 | none=>E i
def vE (γ:Nat)(h:cq)(es ids:List Nat)(φ:MV→MV)(E E':dV An):dV An:=fun i=>match mY es ids i with
 | some j=>(E' j).map (fun o=>kO φ (zA fun a=>a) (q8 (wH γ) (m6 γ) (if kP≤j then none else h i) o))
 | none=>E i
theorem Sb {es:List Nat}{φ:MV→MV}(i:Nat)(np:Option (List Nat)):fq (vE γ h es ids φ E E' i) np=fq (B0 γ h es ids E E' i) np:=by
 unfold vE B0;cases mY es ids i with
 | none=>rfl
 | some j =>
   simp only;cases E' j with
   | none=>rfl
   | some o =>
     simp only [ar];rw [R1];cases fq (some (q8 (wH γ) (m6 γ) (if kP≤j then none else h i) o)) np with
     | none=>rfl
     | some y=>rfl
theorem D0W (m:MR w A E h nx)(m':MR w' A' E' (kg ext dK) nx')(es:List Nat)(i:Nat) :
 (match mY es ids i with | some j=>(kg ext dK j).map (qV γ h i j) | none=>h i)=(B0 γ h es ids E E' i).map (Obj.mapA An.g):=by
 unfold B0;cases mY es ids i with
 | none=>exact m.er i
 | some j =>
   simp only [m'.er j,kH];cases E' j with
   | none=>rfl
   | some o =>
     simp only [ar,Function.comp,qV];congr 1;exact (Y7 An.g (wH γ) (m6 γ) (uR γ) (xQ γ) (fun _ _=>rfl) (fun _=>rfl) _ o).symm
structure Entry (E Ec:dV An)(ids:List Nat):Prop where
 nd:ids.Nodup
 node:∀ (k i:Nat) (np:Option (List Nat)) (y:An×Option Nat),ids[k]?=some i→fq (Ec (eB+k)) np=some y→∃ y0,fq (E i) np=some y0∧y.2=y0.2∧y.1.b=y0.1.b∧y.1.cap=y0.1.cap
 own:∀ b,jH Ec b→∃ i,i∈ids∧∃ o,E i=some o∧b∈o.blk
theorem C87 (hγ:¬ nx γ)(m:MR w A E h nx)(en:Entry E Ec ids)(g:gK w A Ec S0 w' A' E')(hl:ext.length=ids.length)(kW:ids.length≤1000000)(m':MR w' A' E' (kg ext dK) nx')(es:List Nat)(φ:MV→MV):oW nx E (vE γ h es ids φ E E'):=by
 intro i np an z bY hg;rw [Sb] at bY;unfold B0 at bY;cases hs:mY es ids i with
 | none=>simpa only [hs] using bY
 | some j =>
   simp only [hs] at bY;cases ur:E' j with
   | none =>
     rw [ur] at bY;exfalso;cases np with
     | none=>cases bY
     | some p=>cases p<;>cases bY
   | some o =>
     simp only [ur,ar] at bY;obtain ⟨h1,h2⟩:=R6 (wH γ) (m6 γ) (if kP≤j then none else h i) o np
     cases Ey:fq (some o) np with
     | none=>rw [h2 Ey] at bY;cases bY
     | some y0 =>
       obtain ⟨y,hy,hz,nX⟩:=h1 y0 Ey;rw [hy] at bY;cases bY;rcases nX with nX | ⟨g0,z0,hold,nX⟩
       · simp only at nX;rw [nX] at hg;exact (hγ hg).elim
       · simp only at nX hz;rcases Nw hs with ⟨k,_,rfl⟩ | ⟨_,k,hk,rfl⟩
         · rw [if_pos (by omega)] at hold
           exfalso;cases np with
           | none=>cases hold
           | some p=>cases p<;>cases hold
         · have mV:k<ids.length:=(aL.1 hk).1;rw [if_neg (by simp only [kP,eB];omega)] at hold
           by_cases yd:y0.1.g=0
           · have Sc:=g.ns (eB+k) np y0.1 y0.2 (by rw [ur];exact Ey) yd
             obtain ⟨y1,CQ,C8,n8,pK⟩:=en.node k i np _ hk Sc;have I9:fq (h i) np=some (y1.1.g,y1.2):=by rw [m.er i,R7,CQ];rfl
             rw [I9] at hold;simp only [aa,ae] at hold;obtain ⟨rfl,_⟩:=hold;rw [CQ];obtain ⟨⟨g1,b1,c1⟩,zz1⟩:=y1;obtain ⟨⟨gg,bb,cc⟩,zz0⟩:=y0;simp only at yd n8 pK C8 hz nX;subst yd n8 pK C8;rw [nX,hz];rfl
           · have:an.g=γ:=by rw [nX];simp only [wH,uR,if_neg yd]
             rw [this] at hg;exact (hγ hg).elim
theorem Zk (m:MR w A E h nx){es:List Nat}{i:Nat}{np:Option (List Nat)}{y:An×Option Nat}(bY:fq (B0 γ h es ids E E' i) np=some y):(nx.add γ) y.1.g:=by
 have old:∀ {g0 z0},fq (h i) np=some (g0,z0)→nx g0:=by
  intro g0 z0 h1;rw [m.er i,R7] at h1;cases hE:E i with
  | none =>
    rw [hE] at h1;cases np with
    | none=>cases h1
    | some p=>cases p<;>cases h1
  | some o =>
    rw [hE] at h1;cases hn:fq (some o) np with
    | none=>rw [hn] at h1;cases h1
    | some y1 =>
      rw [hn] at h1;simp only [ar,aa,ae] at h1;rw [← h1.1];exact Zd (m.st i o hE) hn
 unfold B0 at bY;cases hs:mY es ids i with
 | none =>
   simp only [hs] at bY;cases hE:E i with
   | none =>
     rw [hE] at bY;exfalso;cases np with
     | none=>cases bY
     | some p=>cases p<;>cases bY
   | some o=>rw [hE] at bY;exact .inl (Zd (m.st i o hE) bY)
 | some j =>
   simp only [hs] at bY;cases ur:E' j with
   | none =>
     rw [ur] at bY;exfalso;cases np with
     | none=>cases bY
     | some p=>cases p<;>cases bY
   | some o =>
     simp only [ur,ar] at bY;obtain ⟨h1,h2⟩:=R6 (wH γ) (m6 γ) (if kP≤j then none else h i) o np
     cases Ey:fq (some o) np with
     | none=>rw [h2 Ey] at bY;cases bY
     | some y0 =>
       obtain ⟨y',hy,hz,nX⟩:=h1 y0 Ey;rw [hy] at bY;cases bY;rcases nX with nX | ⟨g0,z0,hold,nX⟩
       · rw [nX];exact .inr rfl
       · rw [nX];simp only [wH,uR];split
         · split at hold
           · exfalso;cases np with
             | none=>cases hold
             | some p=>cases p<;>cases hold
           · exact .inl (old hold)
         · exact .inr rfl
section
theorem Zl (m:MR w A E h nx)(m':MR w' A' E' (kg ext dK) nx')(hl:ext.length=ids.length)(hn:ids.Nodup)(lL:(kr d dK.length).any ids.contains=false)(kW:ids.length≤1000000){j:Nat}{np:Option (List Nat)}{y0:An×Option Nat}(bY:fq (E' j) np=some y0)(φ:MV→MV) :
 ∃ y,fq (vE γ h (kr d dK.length) ids φ E E' (qb (d.getD 0) ids j)) np=some y∧y.2=y0.2∧y.1.b=y0.1.b∧y.1.cap=y0.1.cap∧(nx.add γ) y.1.g ∧
  fq (match mY (kr d dK.length) ids (qb (d.getD 0) ids j) with | some j'=>(kg ext dK j').map (qV γ h (qb (d.getD 0) ids j) j') | none=>h (qb (d.getD 0) ids j)) np=some (y.1.g,y.2):=by
 cases ur:E' j with
 | none =>
   rw [ur] at bY;exfalso;cases np with
   | none=>cases bY
   | some p=>cases p<;>cases bY
 | some o =>
   have zj:kg ext dK j=some (o.mapA An.g):=by rw [m'.er j,ur];rfl
   have jT:=Zj (d:=d) hl hn lL kW zj;rw [ur] at bY;obtain ⟨y,hy,hz,nX⟩:=(R6 (wH γ) (m6 γ) (if kP≤j then none else h (qb (d.getD 0) ids j)) o np).1 y0 bY
   have hm:fq (B0 γ h (kr d dK.length) ids E E' (qb (d.getD 0) ids j)) np=some y:=by
    unfold B0;simp only [jT,ur,ar];exact hy
   refine ⟨y,by rw [Sb];exact hm,hz,?_,?_,Zk m hm,?_⟩
   · rcases nX with nX | ⟨_,_,_,nX⟩<;>rw [nX]<;>rfl
   · rcases nX with nX | ⟨_,_,_,nX⟩<;>rw [nX]<;>rfl
   · have:=D0W (γ:=γ) (ids:=ids) m m' (kr d dK.length) (qb (d.getD 0) ids j)
     rw [this,R7,hm];rfl
mutual
theorem bT.fresh (m:MR w A E h nx)(m':MR w' A' E' (kg ext dK) nx')(hl:ext.length=ids.length)(hn:ids.Nodup)(lL:(kr d dK.length).any ids.contains=false)(kW:ids.length≤1000000)(φ:MV→MV):∀ {v:MV} {val:Value},bT w' A' E' nx' v val→bT w' A' (vE γ h (kr d dK.length) ids φ E E') (nx.add γ)
 (nn (kg ext dK) (fun i=>match mY (kr d dK.length) ids i with | some j=>(kg ext dK j).map (qV γ h i j) | none=>h i) (qb (d.getD 0) ids) v) val
 | .p v,val,k=>by simp only [bT,nn] at k ⊢;exact k
 | .nil _,val,k=>by simp only [bT,nn] at k ⊢;exact k
 | .own id path off len g,val,k=>by
   simp only [bT] at k;obtain ⟨hg,a,cap,rfl,hc,hh⟩:=k;simp only [nn];split
   · rename_i kV;unfold uP at kV;split at kV
     · rename_i g' z' l' iT;obtain ⟨C7,lA,nA,rfl,_⟩:=m'.vec iT;simp only [beq_iff_eq] at kV;subst kV;obtain ⟨y,h1,h2,h3,h4,h5,h6⟩:=Zl (γ:=γ) (d:=d) m m' hl hn lL kW (sR nA) φ;rw [h6];simp only [bT];refine ⟨h5,a,cap,rfl,hc,fun an z bY _=>?_⟩
       rw [h1] at bY;cases bY;simp only at h2 h3 h4;have h0:=hh C7 z' (sR nA) rfl;simp only [aa] at h2;subst h2;exact Nt h3 h4 h0
     · cases kV
   · simp only [bT]
 | .ptr id np rp g o,val,k=>by
   simp only [bT] at k;obtain ⟨hg,a,rfl,hh⟩:=k;simp only [nn];split
   · rename_i kV;unfold xP at kV;split at kV
     · rename_i t s o' hlk;obtain ⟨C7,tA,n5,rfl,_⟩:=m'.look hlk;simp only [ak,beq_iff_eq] at kV;obtain ⟨rfl,rfl⟩:=kV;obtain ⟨z0,iq⟩:=Gj n5;obtain ⟨y,h1,h2,h3,h4,h5,h6⟩:=Zl (γ:=γ) (d:=d) m m' hl hn lL kW iq φ;rw [h6];simp only [bT];refine ⟨h5,a,rfl,fun an z bY _=>?_⟩
       rw [h1] at bY;cases bY;simp only at h3;obtain ⟨b,hb,rfl⟩:=hh C7 z0 iq rfl;exact ⟨b,by rw [h3,hb],rfl⟩
     · cases kV
   · simp only [bT]
 | .fC ..,val,k=>by simp only [bT] at k
 | .agg l,val,k=>by
   simp only [bT,nn] at k ⊢;obtain ⟨cs,rfl,k⟩:=k;exact ⟨cs,rfl,ef.fresh m m' hl hn lL kW φ k⟩
 | .fn f l,val,k=>by
   simp only [bT,nn] at k ⊢;obtain ⟨vs,rfl,k⟩:=k;exact ⟨vs,rfl,dh.fresh m m' hl hn lL kW φ k⟩
 | .eO l,val,k=>by
   simp only [bT,nn] at k ⊢;obtain ⟨vs,rfl,k⟩:=k;exact ⟨vs,rfl,dh.fresh m m' hl hn lL kW φ k⟩
 | .dead _,val,k=>by simp only [bT,nn]
theorem ef.fresh (m:MR w A E h nx)(m':MR w' A' E' (kg ext dK) nx')(hl:ext.length=ids.length)(hn:ids.Nodup)(lL:(kr d dK.length).any ids.contains=false)(kW:ids.length≤1000000)(φ:MV→MV):∀ {l:List MV} {cs:List Value},ef w' A' E' nx' l cs→ef w' A' (vE γ h (kr d dK.length) ids φ E E') (nx.add γ)
 (tO (kg ext dK) (fun i=>match mY (kr d dK.length) ids i with | some j=>(kg ext dK j).map (qV γ h i j) | none=>h i) (qb (d.getD 0) ids) l) cs
 | [],cs,k=>by simp only [ef,tO] at k ⊢;exact k
 | x::r,cs,k=>by
   simp only [ef,tO] at k ⊢;obtain ⟨v,d',rfl,h1,h2,h3,h4⟩:=k;refine ⟨v,d',rfl,by rw [R9];exact h1,fun c hc=>?_,bT.fresh m m' hl hn lL kW φ h3,ef.fresh m m' hl hn lL kW φ h4⟩
   rw [Zi];rcases h2 c hc with h5 | ⟨n,rfl⟩
   · exact .inl h5
   · exact .inr ⟨n,rfl⟩
theorem dh.fresh (m:MR w A E h nx)(m':MR w' A' E' (kg ext dK) nx')(hl:ext.length=ids.length)(hn:ids.Nodup)(lL:(kr d dK.length).any ids.contains=false)(kW:ids.length≤1000000)(φ:MV→MV):∀ {l:List MV} {vs:List Value},dh w' A' E' nx' l vs→dh w' A' (vE γ h (kr d dK.length) ids φ E E') (nx.add γ)
 (tO (kg ext dK) (fun i=>match mY (kr d dK.length) ids i with | some j=>(kg ext dK j).map (qV γ h i j) | none=>h i) (qb (d.getD 0) ids) l) vs
 | [],vs,k=>by simp only [dh,tO] at k ⊢;exact k
 | x::r,vs,k=>by
   simp only [dh,tO] at k ⊢;obtain ⟨v,d',rfl,h1,h2⟩:=k;exact ⟨v,d',rfl,bT.fresh m m' hl hn lL kW φ h1,dh.fresh m m' hl hn lL kW φ h2⟩
end
end
theorem Zm {v:MV}{h2:cq}{val:Value}(hγ:¬ nx γ)(m:MR w A E h nx)(en:Entry E Ec ids)(g:gK w A Ec S0 w' A' E')(m':MR w' A' E' (kg ext dK) nx')(ht:yI γ d h ids r ext dK=some (v,h2))(hv:bT w' A' E' nx' r val) :
 ∃ E2,MR w' A' E2 h2 (nx.add γ)∧gK w A E nx w' A' E2∧bT w' A' E2 (nx.add γ) v val:=by
 unfold yI at ht
 dsimp only at ht
 split at ht
 · cases ht
 · rename_i ee;simp only [not_or,ne_eq,Decidable.not_not,Bool.not_eq_true,Nat.not_lt] at ee;obtain ⟨hl,_,lL,kW,_⟩:=ee;simp only [aa,ae] at ht;obtain ⟨rfl,rfl⟩:=ht;have hn:=en.nd
   let D9:cq:=fun i=>match mY (kr d dK.length) ids i with | some j=>(kg ext dK j).map (qV γ h i j) | none=>h i
   let φ:MV→MV:=nn (kg ext dK) D9 (qb (d.getD 0) ids)
   have vB:=C87 hγ m en g hl kW m' (kr d dK.length) φ;have c:uq w' A' E' nx' (vE γ h (kr d dK.length) ids φ E E') (nx.add γ) φ:=⟨fun v val k=>bT.fresh m m' hl hn lL kW φ k,R9 _ _ _,Zi _ _ _⟩
   have Nx:∀ b,jH Ec b→jH E b:=fun b hb=>by obtain ⟨i,_,o,ho,l6⟩:=en.own b hb;exact ⟨i,o,ho,l6⟩
   have EJ:∀ b,A b→w'.heap[b]?=w.heap[b]?:=fun b hb=>g.bn b (m.im b hb) fun ho=>(m.lt b (Nx b ho)).2 hb
   have f:Fr w w' A A' E (vE γ h (kr d dK.length) ids φ E E') nx (nx.add γ):=⟨g.sub,EJ,vB,nx.eP γ⟩;have s5:∀ i o,mY (kr d dK.length) ids i=none→E i=some o→∀ b∈o.blk,¬ jH Ec b:=by
    intro i o hs ho b hb hc;obtain ⟨i',dN,o',oQ,jt⟩:=en.own b hc;by_cases e:i=i'
    · subst e;exact (C7d hs).2 dN
    · exact m.dj i i' o o' e ho oQ b hb jt
   have get:∀ {i o},vE γ h (kr d dK.length) ids φ E E' i=some o→(mY (kr d dK.length) ids i=none∧E i=some o)∨∃ j o0,mY (kr d dK.length) ids i=some j∧E' j=some o0∧o=kO φ (zA fun a=>a) (q8 (wH γ) (m6 γ) (if kP≤j then none else h i) o0):=by
    intro i o ho;unfold vE at ho;cases hs:mY (kr d dK.length) ids i with
    | none=>simp only [hs] at ho;exact .inl ⟨rfl,ho⟩
    | some j =>
      simp only [hs] at ho;cases ur:E' j with
      | none=>rw [ur] at ho;cases ho
      | some o0=>rw [ur] at ho;simp only [ar,aa] at ho;exact .inr ⟨j,o0,rfl,ur,ho.symm⟩
   have uu:∀ t (o0:Obj An),(kO φ (zA fun a=>a) (q8 (wH γ) (m6 γ) t o0)).blk=o0.blk:=by
    intro t o0;rw [EF _ _ (by intro an;rfl),C7b _ _ (D6m γ) (by intro an;rfl)]
   have owned:∀ b,jH (vE γ h (kr d dK.length) ids φ E E') b→(∃ i o,mY (kr d dK.length) ids i=none∧E i=some o∧b∈o.blk)∨jH E' b:=by
    rintro b ⟨i,o,ho,hb⟩;rcases get ho with ⟨hs,ho⟩ | ⟨j,o0,hs,hq,rfl⟩
    · exact .inl ⟨i,o,hs,ho,hb⟩
    · rw [uu] at hb;exact .inr ⟨j,o0,hq,hb⟩
   refine ⟨vE γ h (kr d dK.length) ids φ E E',?_,?_,c.val r val hv⟩
   · constructor
     · intro i;unfold vE;cases hs:mY (kr d dK.length) ids i with
       | none=>simp only;exact m.er i
       | some j =>
         simp only [m'.er j,kH];cases E' j with
         | none=>rfl
         | some o =>
           simp only [ar,Function.comp,qV];congr 1;rw [Y1,Y7 An.g (wH γ) (m6 γ) (uR γ) (xQ γ) (fun _ _=>rfl) (fun _=>rfl)]
           rfl
     · intro i o ho;rcases get ho with ⟨hs,ho⟩ | ⟨j,o0,hs,hq,rfl⟩
       · exact OAt.frame f (fun x hx=>g.bn x (m.kp ho hx).1 (s5 i o hs ho x hx)) (m.at_ i o ho)
       · exact (C86 (ck:=wH γ) (rs:=m6 γ) (fun _ _=>rfl) (fun _ _=>rfl) (fun _=>rfl) (fun _=>rfl) _ (m'.at_ j o0 hq)).ch (ζ:=zA fun a=>a) c (fun _=>rfl) (fun _=>rfl)
     · intro b hb;rcases owned b hb with ⟨i,o,hs,ho,l6⟩ | hb
       · have h1:=m.kp ho l6;refine ⟨br h1.1 g.size,fun hA=>?_⟩
         rcases g.Az b h1.1 hA with h2 | h2
         · exact h1.2 h2
         · exact s5 i o hs ho b l6 h2
       · exact m'.lt b hb
     · intro i o ho;rcases get ho with ⟨hs,ho⟩ | ⟨j,o0,hs,hq,rfl⟩
       · exact m.nd i o ho
       · rw [uu];exact m'.nd j o0 hq
     · intro i i' o o' eD ho oQ b hb jt;rcases get ho with ⟨hs,ho⟩ | ⟨j,o0,hs,hq,rfl⟩<;>rcases get oQ with ⟨Ek,oQ⟩ | ⟨j',Zn,Ek,Zo,rfl⟩
       · exact m.dj i i' o o' eD ho oQ b hb jt
       · rw [uu] at jt;exact s5 i o hs ho b hb (g.own b (m.kp ho hb).1 ⟨j',Zn,Zo,jt⟩)
       · rw [uu] at hb;exact s5 i' o' Ek oQ b jt (g.own b (m.kp oQ jt).1 ⟨j,o0,hq,hb⟩)
       · rw [uu] at hb jt;by_cases e:j=j'
         · subst e;have hr:kg ext dK j=some (o0.mapA An.g):=by rw [m'.er j,hq];rfl
           rcases Nw hs with ⟨k,hk,rfl⟩ | ⟨_,k,hk,rfl⟩<;>rcases Nw Ek with ⟨k',mV,e⟩ | ⟨_,k',mV,e⟩
           · have:k=k':=by omega
             subst this;rw [hk] at mV;exact eD (cm mV)
           · have:=(aL.1 mV).1
             simp only [kP,eB] at e;omega
           · have:=(aL.1 hk).1
             simp only [kP,eB] at e;omega
           · have:k=k':=by omega
             subst this;rw [hk] at mV;exact eD (cm mV)
         · exact m'.dj j j' o0 Zn e hq Zo b hb jt
     · exact m'.im
     · intro i o ho;refine C0n fun np y hy=>?_
       have:fq (vE γ h (kr d dK.length) ids φ E E' i) np=some y:=by rw [ho];exact hy
       rw [Sb] at this;exact Zk m this
   · refine ⟨g.os,g.tape,g.output,g.size,fun b hb ho=>g.bn b hb fun hc=>ho (Nx b hc),g.sub,fun b hb hA=>(g.Az b hb hA).imp (fun h=>h) (Nx b),?_,vB⟩
     intro b eC hb;rcases owned b hb with ⟨i,o,_,ho,l6⟩ | hb
     · exact ⟨i,o,ho,l6⟩
     · exact Nx b (g.own b eC hb)
end
end Go.Mid
namespace Go.Mid
open Go.RowKit
def Sd (P:Program)(o:Oper)(a:Act)(w:World)(A:Nat→Prop)(E:dV An)(nx:dv)(γ:Nat)(v:MV)(h':cq):Prop :=
 ∀ (next:Act→World→Prop) (Q:Exit→Act→World→Prop),(∀ val w' A' E',bT w' A' E' (nx.add γ) v val→MR w' A' E' h' (nx.add γ)→gK w A E nx w' A' E'→next (a.put o.dst val) w')→o.wp P a w next Q
theorem cJ.wp {P:Program}{o:Oper}{a:Act}{w:World}{A:Nat→Prop}{E:dV An}{nx:dv}{γ:Nat}{v:MV}{h':cq}(k:cJ P o a w A E nx γ v h'):Sd P o a w A E nx γ v h':=by
 intro next Q qA
 obtain ⟨val,w',A',E',hr,h1,h2,h3⟩:=k;rcases hr with hr | ⟨hr,rfl⟩
 · exact QQ hr (qA val w' A' E' h1 h2 h3)
 · exact C6Z hr (qA undef w' A' E' h1 h2 h3)
def EK (P:Program)(f:Nat):Prop:=∃ fn,P.funcs[f]?=some fn∧(fn.name == "runtime.NumGoroutine")=false∧fn.body.isNone=false
def AY (P:Program)(K:jC):Prop:=∀ f args ext r ext' dK,K f args ext=some (r,ext',dK)→EK P f ∧
 ∀ (w:World) (A:Nat→Prop) (E:dV An) (hJ:List Value),GL P w A→dh w A E S0 args hJ→MR w A E (nq ext) S0 →
  Calls P f hJ.toArray w fun e w'=>∃ v,e=.returned v∧∃ A' E' nx',MR w' A' E' (kg ext' dK) nx'∧gK w A E S0 w' A' E'∧bT w' A' E' nx' r v
section
variable {w:World}{A A':Nat→Prop}{E:dV An}{nx:dv}
mutual
theorem Se:∀ {v:PV} {cs:List Value},vm v=true→ed w A' v cs→ed w A v cs
 | .int ..,cs,_,h=>by simpa only [ed] using h
 | .bool _,cs,_,h=>by simpa only [ed] using h
 | .str _,cs,_,h=>by simpa only [ed] using h
 | .agg l,cs,hf,h=>by simp only [ed] at h ⊢;exact Zp (by simpa only [vm] using hf) h
 | .sl _,cs,hf,h=>by simp [vm] at hf
 | .ref _,cs,hf,h=>by simp [vm] at hf
 | .fn ..,cs,hf,h=>by simp [vm] at hf
 | .mp ..,cs,hf,h=>by simp [vm] at hf
 | .eX,cs,_,h=>by simpa only [ed] using h
 | .ff,cs,_,h=>by simpa only [ed] using h
theorem Zp:∀ {l:List PV} {cs:List Value},DX l=true→cU w A' l cs→cU w A l cs
 | [],cs,_,h=>by simpa only [cU] using h
 | x::r,cs,hf,h=>by
   simp only [cU] at h ⊢;simp only [DX,ak] at hf;obtain ⟨c,d,rfl,h1,h2⟩:=h;exact ⟨c,d,rfl,Se hf.1 h1,Zp hf.2 h2⟩
end
theorem D0Y {v:PV}{val:Value}(hf:vm v=true)(h:pe w A' v val):pe w A v val:=by
 obtain ⟨c,h1,h2⟩:=h;exact ⟨c,Se hf h1,h2⟩
mutual
theorem Sf:∀ {v:MV} {val:Value},uT v=true→bT w A' E nx v val→bT w A E nx v val
 | .p v,val,hf,h=>by simp only [bT] at h ⊢;exact D0Y (by simpa only [uT] using hf) h
 | .nil _,val,_,h=>by simpa only [bT] using h
 | .own ..,val,_,h=>by simpa only [bT] using h
 | .ptr ..,val,_,h=>by simpa only [bT] using h
 | .fC ..,val,_,h=>by simp only [bT] at h
 | .agg l,val,hf,h=>by
   simp only [bT] at h ⊢;obtain ⟨cs,rfl,h⟩:=h;exact ⟨cs,rfl,Zq (by simpa only [uT] using hf) h⟩
 | .fn f l,val,hf,h=>by
   simp only [bT] at h ⊢;obtain ⟨vs,rfl,h⟩:=h;exact ⟨vs,rfl,Sh (by simpa only [uT] using hf) h⟩
 | .eO l,val,hf,h=>by
   simp only [bT] at h ⊢;obtain ⟨vs,rfl,h⟩:=h;exact ⟨vs,rfl,Sh (by simpa only [uT] using hf) h⟩
 | .dead _,val,_,h=>by simp only [bT]
theorem Zq:∀ {l:List MV} {cs:List Value},Bo l=true→ef w A' E nx l cs→ef w A E nx l cs
 | [],cs,_,h=>by simpa only [ef] using h
 | x::r,cs,hf,h=>by
   simp only [ef] at h ⊢;simp only [Bo,ak] at hf;obtain ⟨v,d,rfl,h1,h2,h3,h4⟩:=h;exact ⟨v,d,rfl,h1,h2,Sf hf.1 h3,Zq hf.2 h4⟩
theorem Sh:∀ {l:List MV} {vs:List Value},Bo l=true→dh w A' E nx l vs→dh w A E nx l vs
 | [],vs,_,h=>by simpa only [dh] using h
 | x::r,vs,hf,h=>by
   simp only [dh] at h ⊢;simp only [Bo,ak] at hf;obtain ⟨v,d,rfl,h1,h2⟩:=h;exact ⟨v,d,rfl,Sf hf.1 h1,Sh hf.2 h2⟩
end
mutual
theorem Zr:∀ {t:T An} {b o:Nat},yG t=true→TAt w A' E nx t b o→TAt w A E nx t b o
 | .p v,b,o,hf,h=>by simp only [TAt] at h ⊢;obtain ⟨cs,h1,h2⟩:=h;exact ⟨cs,Se (by simpa only [yG] using hf) h1,h2⟩
 | .m v,b,o,hf,h=>by simp [yG] at hf
 | .agg l,b,o,hf,h=>by simp only [TAt] at h ⊢;exact Ny (by simpa only [yG] using hf) h
 | .vec an z l n,b,o,hf,h=>by
   simp only [TAt] at h ⊢;simp only [yG] at hf;obtain ⟨a,cap,h1,h2,h3,h4⟩:=h;refine ⟨a,cap,h1,h2,h3,?_⟩;cases hb:an.b with
   | none=>simpa only [hb] using h4
   | some b'=>simp only [hb] at h4 ⊢;exact ⟨h4.1,h4.2.1,h4.2.2.1,Ny hf h4.2.2.2⟩
 | .mp ..,b,o,hf,h=>by simp only [TAt] at h
 | .hole n,b,o,_,h=>by simpa only [TAt] using h
theorem Ny:∀ {l:List (T An)} {b o:Nat},uS l=true→cK w A' E nx l b o→cK w A E nx l b o
 | [],b,o,_,h=>by simp only [cK]
 | t::r,b,o,hf,h=>by
   simp only [cK] at h ⊢;simp only [uS,ak] at hf;exact ⟨Zr hf.1 h.1,Ny hf.2 h.2⟩
end
theorem D0Z {o:Obj An}(hf:tQ o=true)(h:OAt w A' E nx o):OAt w A E nx o:=by
 cases o with
 | cell an t=>simp only [OAt] at h ⊢;obtain ⟨b,h1,h2,h3⟩:=h;exact ⟨b,h1,h2,Zr (by simpa only [tQ] using hf) h3⟩
 | vec an z l =>
   simp only [OAt,VB] at h ⊢;simp only [tQ] at hf;cases hb:an.b with
   | none=>simpa only [hb] using h
   | some b'=>simp only [hb] at h ⊢;exact ⟨h.1,h.2.1,h.2.2.1,Ny hf h.2.2.2⟩
 | mp=>simp only [OAt] at h
 | gone=>trivial
end
section
variable {α β:Type}(f:α→β)
mutual
theorem Zs:∀ (t:T α),yG (t.mapA f)=yG t
 | .p _=>rfl
 | .m _=>rfl
 | .agg l=>Ja l
 | .vec _ _ l _=>Ja l
 | .mp _ _ l=>Ja l
 | .hole _=>rfl
theorem Ja:∀ (l:List (T α)),uS (T.cQ f l)=uS l
 | []=>rfl
 | x::r=>by simp only [T.cQ,uS,Zs x,Ja r]
end
theorem C7e (o:Obj α):tQ (o.mapA f)=tQ o:=by
 cases o<;>simp only [Obj.mapA,tQ,Zs,Ja]
end
theorem Si {l:List Nat}{x:Nat}:x∈yF l↔x∈l:=by
 induction l with
 | nil=>rfl
 | cons y r ih =>
   simp only [yF];split
   · rename_i h
     have:y∈yF r:=by simpa using h
     simp only [aM,← ih];exact ⟨.inr,fun h=>h.elim (fun e=>e ▸ this) id⟩
   · simp only [aM,ih]
theorem Sj (l:List Nat):(yF l).Nodup:=by
 induction l with
 | nil=>exact hZ
 | cons y r ih =>
   simp only [yF];split
   · exact ih
   · rename_i h;exact List.nodup_cons.2 ⟨by simpa using h,ih⟩
theorem Jb {h:cq}:∀ {ids:List Nat} {qk:List (Obj Nat)},sx h ids=some qk→∀ k:Nat,qk[k]?=(ids[k]?).bind h
 | [],qk,hg,k=>by simp only [sx,aa] at hg;subst hg;simp
 | i::r,qk,hg,k=>by
   simp only [sx] at hg;split at hg
   · rename_i o os h1 h2;cases hg;cases k with
     | zero=>simp [h1]
     | succ k=>simpa using Jb h2 k
   · cases hg
section
variable {P:Program}{o:Oper}{a:Act}{w:World}{A:Nat→Prop}{E:dV An}{nx:dv}{γ:Nat}{v:MV}{h h':cq}{s:gJ}{K:jC}{d:Option Nat}
theorem dh.append:∀ {l m:List MV} {vs ws:List Value},dh w A E nx l vs→dh w A E nx m ws→dh w A E nx (l++m) (vs++ws)
 | [],m,vs,ws,h1,h2=>by simp only [dh] at h1;subst h1;exact h2
 | x::r,m,vs,ws,h1,h2=>by
   simp only [dh,aS] at h1 ⊢;obtain ⟨u,d,rfl,h3,h4⟩:=h1;exact ⟨u,d++ws,rfl,h3,h4.append h2⟩
theorem Zt {c:Call}{fo:Operand}{f:Nat}{first jf:Array Value}(ho:o.op=.call c)(hc:c.callee=.value fo)(hv:a.eval fo=.func (.func f) first jf)(he:EK P f) :
 (execOp a.eval o).run P w=.ok (.enter f (first++c.args.map a.eval++jf)) w:=by
 obtain ⟨fn,h1,h2,h3⟩:=he;simp only [execOp,ho,resolve,hc,hv,Deferred.ofValue,bx,bM,aV,invoke,callFunc,run_program,h1,h2,h3,Bool.false_eq_true,if_false]
theorem C7f {m:MV}{val:Value}{f:Nat}{cs:List MV}(hc:callee m=some (f,cs))(hv:bT w A E nx m val):∃ jf:List Value,val=vt f jf.toArray∧dh w A E nx cs jf:=by
 unfold callee at hc;split at hc
 · cases hc;obtain ⟨vs,rfl,h1⟩:=MH.1 hv;exact ⟨vs,rfl,yT.2 h1⟩
 · cases hc;simp only [bT] at hv;obtain ⟨vs,rfl,h1⟩:=hv;exact ⟨vs,rfl,h1⟩
 · cases hc
theorem C5q {c:Call}{fo:Operand}{m:MV}{f:Nat}{args al:List MV}(ho:o.op=.call c)(Nd:c.callee=.value fo)(hc:DY m args=some (f,al))(hv:bT w A E nx m (a.eval fo))(ha:dh w A E nx args (c.args.toList.map a.eval)) :
 ∃ hJ:List Value,dh w A E nx al hJ∧(EK P f→(execOp a.eval o).run P w=.ok (.enter f hJ.toArray) w):=by
 unfold DY at hc;split at hc
 · rename_i f0 cs hcal;obtain ⟨jf,EL,AF⟩:=C7f hcal hv;split at hc
   · rename_i eC;cases hc;rw [QO eC] at EL;refine ⟨c.args.toList.map a.eval++jf,ha.append AF,fun he=>?_⟩
     rw [Zt ho Nd EL he];congr 2;apply gP;simp
   · rename_i wA;simp only [aa,ae] at hc;obtain ⟨rfl,rfl⟩:=hc;rw [XC (Nat.le_of_not_lt wA)] at EL;refine ⟨jf++c.args.toList.map a.eval,AF.append ha,fun he=>?_⟩
     rw [Zt ho Nd EL he];congr 2;apply gP;simp
 · cases hc
theorem MR.none (hA:∀ b,A b→b<w.heap.size):MR w A (fun _=>jo) (nq []) S0 where
 er:=fun i=>by simp [nq]
 at_:=fun i o ho=>by cases ho
 lt:=fun b ⟨i,o,ho,_⟩=>by cases ho
 nd:=fun i o ho=>by cases ho
 dj:=fun i j o o' _ ho=>by cases ho
 im:=hA
 st:=fun i o ho=>by cases ho
theorem GG {b:Nat}:¬ jH (fun _=>jo) b:=fun ⟨_,_,ho,_⟩=>by cases ho
theorem Zu (hK:AY P K)(r9:GL P w A)(m:MR w A E h nx){f:Nat}{args:List MV}{vs:List PV}{hJ:List Value}{r:MV}{dK:List (Obj Nat)}(hp:rH h args=some vs)(hk:K f (vs.map .p) []=some (r,[],dK))
 (hc:(pF args).isSome=true∨(uT r&&dK.all tQ)=true) (hv:dh w A E nx args hJ) :
 EK P f∧Calls P f hJ.toArray w fun e w'=>∃ v,e=.returned v∧∃ A' E' nx',MR w' A' E' (kg [] dK) nx'∧gK w A (fun _=>jo) S0 w' A' E'∧bT w' A' E' nx' r v:=by
 obtain ⟨k1,k2⟩:=hK _ _ _ _ _ _ hk;refine ⟨k1,?_⟩;rcases hc with hc | hc
 · obtain ⟨us,I0⟩:=Option.isSome_iff_exists.1 hc;have e:=CT I0;have fX:vs=us:=by
    have:∀ l:List PV,rH h (l.map .p)=some l:=by
     intro l
     induction l with
     | nil=>rfl
     | cons x r ih=>simp only [aH,rH,mB,ih]
    rw [e,this] at hp;exact (cm hp).symm
   subst fX;rw [e] at hv;exact k2 w A _ hJ r9 (yT.2 (yT.1 hv)) (MR.none m.im)
 · simp only [ak] at hc;have xX:=Nk (A':=fun b=>A b∨jH E b) m (fun b hb=>.inl hb) hp (fun i _ o ho b hb=>.inr ⟨i,o,ho,hb⟩) hv
   refine (k2 w _ _ hJ (r9.frame (fun b hb=>.inl hb) (fun _ _=>rfl)) (yT.2 xX) (MR.none fun b hb=>hb.elim (m.im b) fun ho=>(m.lt b ho).1)).mono ?_
   rintro e w' ⟨v,rfl,A',E',nx',m',g,h1⟩;refine ⟨v,rfl,A,E',nx',?_,?_,Sf hc.1 h1⟩
   · have hold:∀ b,jH E' b→¬ A b:=by
      intro b hb hA;exact GG (g.own b (m.im b hA) hb)
     refine ⟨m'.er,fun i o ho=>?_,fun b hb=>⟨(m'.lt b hb).1,hold b hb⟩,m'.nd,m'.dj,fun b hb=>br (m.im b hb) g.size,m'.st⟩
     refine D0Z ?_ (m'.at_ i o ho);have hr:kg [] dK i=some (o.mapA An.g):=by rw [m'.er i,ho];rfl
     have pf:o.mapA An.g∈dK:=by
      unfold kg at hr;split at hr
      · exact bH hr
      · split at hr
        · simp at hr
        · cases hr
     have:=bg.1 hc.2 _ pf
     rwa [C7e] at this
   · exact ⟨g.os,g.tape,g.output,g.size,g.bn,fun _ h=>h,fun _ _ h=>.inl h,g.own,g.ns⟩
theorem C7g (dK:List (Obj Nat)):kg [] dK=DZ dK:=by
 funext i;unfold kg DZ;split
 · rfl
 · split<;>simp
theorem Entry.none (E:dV An):Entry E (fun _=>jo) [] where
 nd:=hZ
 node:=fun k i np y h=>by simp at h
 own:=fun b hb=>(GG hb).elim
theorem C7h (m:MR w A E h nx){w':World}{A':Nat→Prop}{E':dV An}{nx':dv}{hh:cq}(m':MR w' A' E' hh nx')(g:gK w A (fun _=>jo) S0 w' A' E')(γ:Nat) :
 MR w' (fun b=>A' b∨jH E' b) E h (nx.add γ)∧gK w A E nx w' (fun b=>A' b∨jH E' b) E:=by
 have hold:∀ b,b<w.heap.size→w'.heap[b]?=w.heap[b]?:=fun b hb=>g.bn b hb GG
 have f:Fr w w' A (fun b=>A' b∨jH E' b) E E nx (nx.add γ):=⟨fun b hb=>.inl (g.sub b hb),fun b hb=>hold b (m.im b hb),oW.refl _ _,nx.eP γ⟩
 have Jc:∀ b,b<w.heap.size→(A' b∨jH E' b)→A b:=by
  intro b hb h1;rcases h1 with h1 | h1
  · exact (g.Az b hb h1).resolve_right GG
  · exact (GG (g.own b hb h1)).elim
 refine ⟨⟨m.er,fun i o ho=>OAt.frame f (fun x hx=>hold x (m.kp ho hx).1) (m.at_ i o ho),fun b hb=>?_,m.nd,m.dj,fun b hb=>?_,fun i o ho=>Obj.kx (nx.eP γ) (m.st i o ho)⟩,?_⟩
 · have:=m.lt b hb
   exact ⟨br this.1 g.size,fun h1=>this.2 (Jc b this.1 h1)⟩
 · exact hb.elim (m'.im b) fun ho=>(m'.lt b ho).1
 · exact ⟨g.os,g.tape,g.output,g.size,fun b hb _=>hold b hb,fun b hb=>.inl (g.sub b hb),fun b hb h1=>.inl (Jc b hb h1),fun _ _ h=>h,oW.refl _ _⟩
theorem Sk {f:Nat}{args:Array Value}{R:Ending→World→Prop}{next:Act→World→Prop}{Q:Exit→Act→World→Prop}(hr:(execOp a.eval o).run P w=.ok (.enter f args) w)(hc:Calls P f args w R)
 (hn:∀ e w',R e w'→∃ v,e=.returned v∧next (a.put o.dst v) w'):o.wp P a w next Q:=by
 unfold Oper.wp;rw [hr];refine hc.mono ?_;intro e w' he;obtain ⟨v,rfl,h1⟩:=hn e w' he;exact h1
theorem D00 (hs:qd P w A E nx s a)(hm:MR w A E h nx)(hγ:¬ nx γ)(hK:AY P K){c:Call}{fo:Operand}{f':dO}{l:List dO}{t0:TypeId}{ts:List TypeId}{md:Nat}(ho:o.op=.call c)(hc:c.callee=.value fo)(hf:fB P t0 fo=some f')(hl:qP P ts c.args.toList=some l)
 (he:cf K γ d s h (.call md f' l)=some (v,h')):Sd P o a w A E nx γ v h':=by
 have hvf:=j0 hs hf;have C9:=Gg hs hl;simp only [cf] at he;split at he
 · rename_i f al hcal;obtain ⟨hJ,zk,il⟩:=C5q (P:=P) ho hc hcal hvf C9;split at he
   · -- a Jd
     unfold yH at he;split at he
     · rename_i vs fX;split at he
       · rename_i u fr qz;split at he
         · rename_i ee;simp only [aa,ae] at he;obtain ⟨rfl,rfl⟩:=he;unfold xR at qz;split at qz
           · rename_i r dK hk;have EM:fr=(uT r&&dK.all tQ):=by
              split at qz
              · split at qz<;>simp only [aa,ae,reduceCtorEq] at qz;exact qz.2.symm
              · split at qz<;>simp only [aa,ae,reduceCtorEq] at qz;exact qz.2.symm
             have nX:(pF al).isSome=true∨(uT r&&dK.all tQ)=true:=by
              rw [EM] at ee;simp only [Bool.or_eq_true] at ee;exact ee.symm
             obtain ⟨k1,k2⟩:=Zu hK hs.gl hm fX hk nX zk;intro next Q qA
             refine Sk (il k1) k2 ?_;rintro e w' ⟨v,rfl,A',E',nx',m',g,h1⟩;refine ⟨v,rfl,?_⟩;obtain ⟨q1,q2⟩:=C7h hm m' g γ;refine qA v w' _ E ?_ q1 q2;rw [C7g] at m';split at qz
             · rename_i ll;split at qz
               · rename_i ws hws;simp only [aa,ae] at qz;rw [← qz.1];simp only [bT] at h1 ⊢;obtain ⟨vs1,rfl,h1⟩:=h1;refine ⟨vs1,rfl,yT.2 ?_⟩;exact Nk m' (fun b hb=>.inl hb) hws (fun i _ o ho b hb=>.inr ⟨i,o,ho,hb⟩) h1
               · cases qz
             · split at qz
               · rename_i u1 Gw;simp only [aa,ae] at qz;rw [← qz.1];simp only [bT];exact C5 m' (fun b hb=>.inl hb) Gw (fun i _ o ho b hb=>.inr ⟨i,o,ho,hb⟩) h1
               · cases qz
           · cases qz
         · cases he
       · cases he
     · cases he
   · -- shared memory
     unfold Bp at he
     dsimp only at he
     split at he
     · cases he
     · rename_i qk sE;split at he
       · cases he
       · rename_i r ext dK hk;obtain ⟨k1,k2⟩:=hK _ _ _ _ _ _ hk;generalize B1:js h (js h (mC al))=ids at he hk sE k2;have iq:ids.Nodup:=by rw [← B1];exact Sj _
         let bk:Nat→Option Nat:=fun j=>if eB≤j then ids[j-eB]? else none
         have hρ:∀ i j,tR ids i=some j→bk j=some i:=by
          intro i j hj;unfold tR at hj;cases hi:pc ids i with
          | none=>simp [hi] at hj
          | some k =>
            simp only [hi,ar,aa] at hj;subst hj;simp only [bk];rw [if_pos (gq _ _),dD];exact EI hi
         have sZ:∀ i j j',bk j=some i→bk j'=some i→j=j':=by
          intro i j j' h1 h2;simp only [bk] at h1 h2;split at h1
          · split at h2
            · have e1:=GD iq h1;have e2:=GD iq h2;rw [e1] at e2
              have:=cm e2
              omega
            · cases h2
          · cases h1
         have m1:MR w A (r8 E h (tR ids) (fun _=>0) (fun _ _=>0) bk) (zh h (tR ids) (fun _=>0) (fun _ _=>0) bk) S0:=hm.clean hρ sZ (fun _ _=>rfl) (fun _ _ _=>rfl)
         have Nz:zh h (tR ids) (fun _=>0) (fun _ _=>0) bk=nq (qk.map (kO (j6 h (tR ids) (fun _=>0)) (fun _=>0))):=by
          funext j;simp only [zh,nq,bk];split
          · rw [aN,Jb sE];cases ids[j-eB]? <;> rfl
          · rfl
         rw [Nz] at m1;have EN:dh w A (r8 E h (tR ids) (fun _=>0) (fun _ _=>0) bk) S0 (sw h (tR ids) (fun _=>0) al) hJ:=dh.clean (nx':=S0) (ζ:=fun _=>0) hm hρ (fun _ _=>rfl) zk
         have zm:=k2 w A _ _ hs.gl EN m1;intro next Q qA
         refine Sk (il k1) zm ?_;rintro e w' ⟨v1,rfl,A',E',nx',m',g,h1⟩;refine ⟨v1,rfl,?_⟩;have en:Entry E (r8 E h (tR ids) (fun _=>0) (fun _ _=>0) bk) ids:=by
          refine ⟨iq,fun k i np y hk bY=>?_,fun b hb=>?_⟩
          · have hb:bk (eB+k)=some i:=by
             simp only [bk];rw [if_pos (gq _ _),dD];exact hk
            rw [I6 hb] at bY;cases hn:fq (E i) np with
            | none=>simp [hn] at bY
            | some y0 =>
              simp only [hn,ar,aa] at bY;subst bY;exact ⟨y0,rfl,rfl,rfl,rfl⟩
          · obtain ⟨j,o1,nu,hb⟩:=hb;obtain ⟨i,o0,rP,hE,rfl⟩:=EG nu;rw [EF _ (zA fun _=>0) (fun _=>rfl)] at hb
            simp only [bk] at rP;split at rP
            · exact ⟨i,bH rP,o0,hE,hb⟩
            · cases rP
         obtain ⟨E2,q1,q2,q3⟩:=Zm hγ hm en g m' he h1;exact qA v1 w' A' E2 q3 q1 q2
   · -- pure arguments,an owned result
     unfold Aq at he;split at he
     · rename_i vs fX;split at he
       · rename_i r dK hk;split at he
         · rename_i ee;have nX:(pF al).isSome=true∨(uT r&&dK.all tQ)=true:=by simpa using ee
           obtain ⟨k1,k2⟩:=Zu hK hs.gl hm fX hk nX zk;intro next Q qA
           refine Sk (il k1) k2 ?_;rintro e w' ⟨v1,rfl,A',E',nx',m',g,h1⟩;refine ⟨v1,rfl,?_⟩;obtain ⟨E2,q1,q2,q3⟩:=Zm hγ hm (Entry.none E) g m' he h1;exact qA v1 w' A' E2 q3 q1 q2
         · cases he
       · cases he
     · cases he
 · cases he
end
end Go.Mid
namespace Go.Mid
open Go.RowKit
section
variable {P:Program}{o:Oper}{a:Act}{w:World}{A:Nat→Prop}{E:dV An}{nx:dv}{γ:Nat}{v:MV}{h h':cq}{s:gJ}{K:jC}{d:Option Nat}
theorem Je {l:List TypeId}{xs:List Operand}{x:dO}(h:qP P l xs=some [x]):∃ y t,xs=[y]∧fB P t y=some x:=by
 cases xs with
 | nil=>cases l<;>simp [qP] at h
 | cons y r =>
   cases l with
   | nil =>
     simp only [qP] at h;split at h
     · rename_i o os h1 h2;cases h;cases r with
       | nil=>exact ⟨y,0,rfl,h1⟩
       | cons z q=>simp only [qP] at h2;split at h2<;>cases h2
     · cases h
   | cons t ts =>
     simp only [qP] at h;split at h
     · rename_i o os h1 h2;cases h;cases r with
       | nil=>exact ⟨y,t,rfl,h1⟩
       | cons z q=>cases ts<;>(simp only [qP] at h2;split at h2<;>cases h2)
     · cases h
theorem Zv {l:List TypeId}{xs:List Operand}{x x':dO}(h:qP P l xs=some [x,x']):∃ y y' t t',xs=[y,y']∧fB P t y=some x∧fB P t' y'=some x':=by
 cases xs with
 | nil=>cases l<;>simp [qP] at h
 | cons y r =>
   cases l with
   | nil =>
     simp only [qP] at h;split at h
     · rename_i o os h1 h2;cases h;obtain ⟨z,t,rfl,h3⟩:=Je h2;exact ⟨y,z,0,t,rfl,h1,h3⟩
     · cases h
   | cons t ts =>
     simp only [qP] at h;split at h
     · rename_i o os h1 h2;cases h;obtain ⟨z,t',rfl,h3⟩:=Je h2;exact ⟨y,z,t,t',rfl,h1,h3⟩
     · cases h
theorem u0 {α:Type}{a:Array α}{l:List α}(h:a.toList=l):a=l.toArray:=by
 apply gP;simpa using h
theorem Zw {P:Program}{x:Option Operand}(h:vq P x=some none):x=none:=by
 cases x with
 | none=>rfl
 | some x =>
   simp only [vq] at h;cases hc:fB P 0 x<;>simp [hc] at h
theorem Zx {P:Program}{x:Option Operand}{y:dO}(h:vq P x=some (some y)):∃ z,x=some z∧fB P 0 z=some y:=by
 unfold vq at h;cases x with
 | none=>simp at h
 | some z =>
   simp only at h;split at h
   · rename_i o ho;cases h;exact ⟨z,rfl,ho⟩
   · cases h
variable (hs:qd P w A E nx s a)(hm:MR w A E h nx)(hγ:¬ nx γ)(hK:AY P K)
include hs hm hγ hK
theorem D4o {m:sr}{md:Nat}{mt pz:Bool}(hc:pJ P md mt pz o.type o.op=some m)(he:cf K γ d s h m=some (v,h')):Sd P o a w A E nx γ v h':=by
 cases fh:o.op with
 | move x =>
   rw [fh] at hc;simp only [pJ] at hc;split at hc
   · rename_i y hy;cases hc;exact (XS hs hm (.inl fh) hy he).wp
   · cases hc
 | assign x =>
   rw [fh] at hc;simp only [pJ] at hc;split at hc
   · rename_i e hu;cases hc;exact (D0Q (e:=e) hm hγ fh he).wp
   · split at hc
     · rename_i y hy;cases hc;exact (XS hs hm (.inr fh) hy he).wp
     · cases hc
 | pick c x y =>
   rw [fh] at hc;simp only [pJ] at hc;split at hc
   · rename_i c' x' y' h1 h2 h3;cases hc;exact (D0G hs hm fh h1 h2 h3 he).wp
   · cases hc
 | alloc t =>
   rw [fh] at hc;simp only [pJ] at hc;split at hc
   · rename_i z hz;cases hc;exact (C82 hm hγ fh hz he).wp
   · cases hc
 | box t x =>
   rw [fh] at hc;simp only [pJ] at hc;split at hc
   · rename_i y hy;cases hc;exact (D2Q hs hm hγ fh hy he).wp
   · cases hc
 | build t parts =>
   rw [fh] at hc;simp only [pJ] at hc;split at hc
   · rename_i zc fs hz hu;split at hc
     · rename_i ee;simp only [ak] at ee;split at hc
       · rename_i l hl;cases hc;exact (C68 hs hm fh hz hu ee.1 ee.2 hl he).wp
       · cases hc
     · cases hc
   · rename_i zc n e hz hu;split at hc
     · rename_i ee;simp only [ak] at ee;split at hc
       · rename_i l hl;cases hc;exact (C69 hs hm fh hz hu ee.1 ee.2 hl he).wp
       · cases hc
     · cases hc
   · cases hc
 | buildSlice t n parts =>
   rw [fh] at hc;simp only [pJ] at hc;split at hc
   · rename_i e hu;split at hc
     · cases hc
     · rename_i eD;split at hc
       · rename_i zc hz;split at hc
         · rename_i ee;split at hc
           · rename_i l hl;cases hc;have h1:P.cellsOf e≠0:=fun h=>eD (.inl h)
             have h2:n*P.cellsOf e≤16777216:=by
              have:¬ (n*P.cellsOf e>16777216):=fun h=>eD (.inr h)
              omega
             split at he
             · exact (D0T hs hm hγ fh hu h1 h2 hz ee.1 ee.2 hl he).wp
             · exact (YA hs hm hγ fh hu h1 h2 hz ee.1 ee.2 hl (fun h0=>by simp [h0]) he).wp
           · cases hc
         · cases hc
       · cases hc
   · cases hc
 | load t x =>
   rw [fh] at hc;simp only [pJ] at hc;split at hc
   · rename_i y hy;split at hc
     · rename_i hU;cases hc;exact (D0J hs hm fh hy hU he).wp
     · cases hc
   · cases hc
 | store t x y =>
   rw [fh] at hc;simp only [pJ] at hc;split at hc
   · rename_i x' y' h1 h2;split at hc
     · rename_i hU;cases hc;exact (C83 hs hm hγ fh h1 h2 hU he).wp
     · cases hc
   · cases hc
 | nilCheck x =>
   rw [fh] at hc;simp only [pJ] at hc;split at hc
   · rename_i y hy;cases hc;exact (D0H hs hm fh hy he).wp
   · cases hc
 | binOp op t x y yt =>
   rw [fh] at hc;simp only [pJ] at hc;split at hc
   · rename_i x' y' h1 h2;split at hc
     · rename_i k hu;cases hc;exact (QU hs hm fh h1 h2 (.inr (.inl ⟨k,hu⟩)) (by intro h;cases h) he).wp
     · rename_i hu;cases hc;exact (QU hs hm fh h1 h2 (.inr (.inr hu)) (by intro h;cases h) he).wp
     · rename_i hu;cases hc;exact (QU hs hm fh h1 h2 (.inl hu) (fun _=>hu) he).wp
     · rename_i fs hu;have hagg:mU P t=true:=by simp only [mU,hu]
       split at hc
       · rename_i td xh;cases hc;exact (MI (neg:=false) hs hm fh rfl h1 h2 xh hagg he).wp
       · rename_i td xh;cases hc;exact (MI (neg:=true) hs hm fh rfl h1 h2 xh hagg he).wp
       · cases hc
     · rename_i n e hu;have hagg:mU P t=true:=by simp only [mU,hu]
       split at hc
       · rename_i td xh;cases hc;exact (MI (neg:=false) hs hm fh rfl h1 h2 xh hagg he).wp
       · rename_i td xh;cases hc;exact (MI (neg:=true) hs hm fh rfl h1 h2 xh hagg he).wp
       · cases hc
     · rename_i e hu;split at hc
       · cases hc;exact (XU (neg:=false) hs hm fh rfl h1 hu he).wp
       · cases hc;exact (XU (neg:=true) hs hm fh rfl h1 hu he).wp
       · cases hc
     · rename_i hu;split at hc
       · cases hc;exact (XV (neg:=false) hs hm fh rfl h1 hu he).wp
       · cases hc;exact (XV (neg:=true) hs hm fh rfl h1 hu he).wp
       · cases hc
     · cases hc
   · cases hc
 | unOp op t x =>
   rw [fh] at hc;simp only [pJ] at hc;split at hc
   · rename_i y hy;split at hc
     · cases hc;exact (D2G hs hm fh hy he).wp
     · cases hc;exact (D2H hs hm fh hy he).wp
     · cases hc;exact (D2I hs hm fh hy he).wp
     · cases hc
   · cases hc
 | convert src dst x =>
   rw [fh] at hc;simp only [pJ] at hc;split at hc
   · rename_i y hy;split at hc
     · rename_i k0 k h0 h1;cases hc;exact (C8R hs hm fh hy h0 h1 he).wp
     · rename_i h0 h1;cases hc;exact (C8S hs hm fh hy h0 h1 he).wp
     · rename_i k0 h0 h1;cases hc;exact (C8T hs hm fh hy h0 h1 he).wp
     · cases hc
   · cases hc
 | makeFunc fn first jf =>
   rw [fh] at hc;cases fn<;>simp only [pJ,reduceCtorEq] at hc;rename_i f;split at hc
   · cases hc
   rename_i hbf;split at hc
   · rename_i hsz;split at hc
     · rename_i l hl;cases hc
       have:first=#[]:=fa hsz
       exact (X4 hs hm fh (.inl ⟨rfl,Nat.lt_of_not_le hbf,this,rfl⟩) hl he).wp
     · cases hc
   · split at hc
     · rename_i hsz;split at hc
       · rename_i l hl;cases hc
         have:jf=#[]:=fa hsz
         exact (X4 hs hm fh (.inr ⟨rfl,this,rfl⟩) hl he).wp
       · cases hc
     · cases hc
 | makeSlice t l c =>
   rw [fh] at hc;simp only [pJ] at hc;split at hc
   · rename_i e hu;split at hc
     · cases hc
     · rename_i eD;split at hc
       · rename_i z l' c' hz h1 h2;cases hc;exact (D0R hs hm hγ fh hu (fun h=>eD (.inl h)) (fun h=>eD (.inr h)) hz h1 h2 he).wp
       · cases hc
   · cases hc
 | slice t x lo hi mx =>
   rw [fh] at hc;simp only [pJ] at hc;split at hc
   · rename_i Q1
     have:mx=none:=by simpa using Q1
     subst this;split at hc
     · rename_i x' km dN h1 h2 h3;split at hc
       · rename_i e hu;split at hc
         · cases hc
         · rename_i eD;split at hc
           · split at hc
             · rename_i l1 l2;cases hc;obtain ⟨y2,rfl,e2⟩:=Zx h2;obtain ⟨y3,rfl,e3⟩:=Zx h3;exact (C64 hs hm fh h1 e2 e3 hu eD he).wp
             · cases hc
           · cases hc;exact (C8W hs hm fh h1 h2 h3 hu eD he).wp
       · rename_i hu;cases hc;exact (C62 hs hm fh h1 h2 h3 hu he).wp
       · rename_i n e hu;split at hc
         · cases hc
         · rename_i eD;split at hc
           · rename_i l1 l2;cases hc;have e2:=Zw h2;have e3:=Zw h3;subst e2;subst e3;exact (D2L hs hm fh h1 hu eD he).wp
           · cases hc
       · cases hc
     · cases hc
   · split at hc
     · rename_i hz;have zero:∀ {x:Option Operand},Mz x=true→x=some (.const (.int .i64 0)):=by
        intro x hx;unfold Mz at hx;split at hx
        · simp only [ak,beq_iff_eq] at hx;rw [hx.1,hx.2]
        · cases hx
       simp only [ak,Option.isNone_iff_eq_none] at hz;obtain ⟨⟨rfl,C8⟩,GH⟩:=hz;rw [zero C8,zero GH] at fh;split at hc
       · rename_i x' e h1 hu;split at hc
         · cases hc
         · rename_i eD;cases hc;exact (D0M hs hm fh h1 hu eD he).wp
       · cases hc
     · split at hc
       · rename_i x' km dN Q0 h1 h2 h3 h4;obtain ⟨y2,rfl,h2⟩:=j9.1 h2;obtain ⟨y3,rfl,h3⟩:=j9.1 h3;obtain ⟨y4,rfl,h4⟩:=j9.1 h4;split at hc
         · rename_i e hu;split at hc
           · cases hc
           · rename_i eD;cases hc;exact (C63 hs hm fh h1 h2 h3 h4 hu eD he).wp
         · cases hc
       · cases hc
 | fieldAddr t x i =>
   rw [fh] at hc;simp only [pJ] at hc;split at hc
   · rename_i x' fs h1 hu;split at hc
     · rename_i fd hf;split at hc
       · cases hc
       · rename_i eD;cases hc;exact (C8X hs hm fh h1 hu hf eD he).wp
     · cases hc
   · cases hc
 | field t x i =>
   rw [fh] at hc;simp only [pJ] at hc;split at hc
   · rename_i x' fs h1 hu;split at hc
     · rename_i fd hf;split at hc
       · rename_i hU;cases hc;exact (D2M hs hm fh h1 hu hf hU he).wp
       · cases hc
     · cases hc
   · cases hc
 | indexAddr t x ix =>
   rw [fh] at hc;simp only [pJ] at hc;split at hc
   · rename_i x' i' e h1 h2 hu;split at hc
     · cases hc
     · rename_i eD;cases hc;exact (C8U hs hm fh h1 h2 hu eD he).wp
   · rename_i x' i' n e h1 h2 hu;split at hc
     · cases hc
     · rename_i eD;cases hc;exact (C65 hs hm fh h1 h2 hu eD he).wp
   · cases hc
 | index t x ix =>
   rw [fh] at hc;simp only [pJ] at hc;split at hc
   · rename_i x' i' n e h1 h2 hu;split at hc
     · rename_i hU;cases hc;exact (D2N hs hm fh h1 h2 hu hU he).wp
     · cases hc
   · rename_i x' i' h1 h2 hu;cases hc;exact (D0N hs hm fh h1 h2 hu he).wp
   · cases hc
 | extract x i =>
   rw [fh] at hc;simp only [pJ] at hc;split at hc
   · rename_i y hy;cases hc;exact (D2J hs hm fh hy he).wp
   · cases hc
 | call c =>
   rw [fh] at hc;simp only [pJ] at hc;split at hc
   · rename_i fo hcal;split at hc
     · rename_i f' l h1 h2;cases hc;exact D00 hs hm hγ hK fh hcal h1 h2 he
     · cases hc
   · cases hc
   · rename_i b hcal;split at hc
     · cases hc
     · rename_i l hl;split at hc
       · rename_i x t lh;obtain ⟨y,t0,h1,h2⟩:=Je hl;split at hc
         · rename_i hu;cases hc;exact (D0L hs hm fh hcal (u0 h1) (u0 lh) h2 hu he).wp
         · rename_i e hu;cases hc;exact (D2K hs hm fh hcal (u0 h1) (u0 lh) h2 hu he).wp
         · cases hc
       · rename_i x t lh;obtain ⟨y,t0,h1,h2⟩:=Je hl;split at hc
         · rename_i e hu;cases hc;exact (D0K hs hm fh hcal (u0 h1) (u0 lh) h2 hu he).wp
         · cases hc
       · rename_i x y t ty lh;obtain ⟨x0,y0,t1,t2,h1,h2,h3⟩:=Zv hl;split at hc
         · rename_i e k hu hk;split at hc
           · cases hc
           · rename_i eD;split at hc
             · rename_i zz hz;cases hc;exact (D0S hs hm hγ fh hcal (u0 h1) (u0 lh) hu hk (fun h=>eD (.inl h)) (fun h=>eD (.inr h)) hz h2 h3 he).wp
             · cases hc
         · rename_i e hu mF;split at hc
           · split at hc
             · rename_i ee;obtain ⟨rfl,rO,wz⟩:=ee;cases hc;exact (D0V hs hm fh hcal (u0 h1) (u0 lh) h2 h3 hu rO he).wp
             · cases hc
           · split at hc
             · rename_i ee;obtain ⟨rfl,rO,wz,hz⟩:=ee;cases hc;exact (D2U hs hm hγ fh hcal (u0 h1) (u0 lh) h2 h3 hu rO wz hz he).wp
             · cases hc
         · cases hc
       · rename_i x y t ty lh;obtain ⟨x0,y0,t1,t2,h1,h2,h3⟩:=Zv hl;split at hc
         · rename_i e hu;split at hc
           · cases hc
           · rename_i eD;cases hc;exact (D2V hs hm fh hcal (u0 h1) (u0 lh) h2 h3 hu eD he).wp
         · cases hc
       · rename_i x t lh;obtain ⟨y,t0,h1,h2⟩:=Je hl;split at hc
         · rename_i e hu;split at hc
           · rename_i z hz;split at hc
             · cases hc
             · cases hc;exact (D2W hs hm fh hcal (u0 h1) (u0 lh) h2 hu hz he).wp
           · cases hc
         · cases hc
       · cases hc;exact (D4l hs hm fh hcal hl he).wp
       · cases hc;exact (D4k hs hm fh hcal hl he).wp
       · split at hc
         · cases hc;simp [cf] at he
         · cases hc
       · cases hc
 | makeMap t r=>rw [fh] at hc;simp only [pJ] at hc;split at hc<;>cases hc;simp [cf] at he
 | lookup t m k ok =>
   rw [fh] at hc;simp only [pJ] at hc;split at hc
   · split at hc<;>cases hc;simp [cf] at he
   · cases hc
 | mapUpdate t m k v =>
   rw [fh] at hc;simp only [pJ] at hc;split at hc
   · split at hc<;>cases hc;simp [cf] at he
   · cases hc
 | _=>rw [fh] at hc;simp [pJ] at hc
end
end Go.Mid
