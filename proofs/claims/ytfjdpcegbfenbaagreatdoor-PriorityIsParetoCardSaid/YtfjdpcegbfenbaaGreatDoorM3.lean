/- New memory: variables, literals of slices, make. -/
import Derived.Test.YtfjdpcegbfenbaaGreatDoorM2
import Derived.Laws.MakeOwn
set_option linter.unusedSimpArgs false
set_option linter.unusedVariables false
open Array renaming ext' → gP, map → qx, length_toList → eg
open Bool renaming and_eq_true → ak
open Go renaming heap_alloc_old → ou, run_newObj → pC, run_underlying → a8, growslice_fits → mi, run_firstCells_none → jL, run_firstCells_some → gY, grownCap_le_maxLen → j4, run_storeCells_cells → jl
open Go.Builtin renaming append_ → db, zeroCells → a6, firstCells → iA, lenOf → gR
open Go.Program renaming bytesOf → nP, cellsOf → jY
open Go.Result renaming andThen_ok → aV
open Go.Sem renaming run_bind → bx, run_pure → bM
open List renaming getElem?_append_right → bG, getElem?_append_left → cY, getElem?_eq_some_iff → aL, cons_append → aS, nil_append → a7, nodup_cons → b5, replicate → az, replicate_succ → cG, mem_cons → aM, map_append → b8, map_map → cu, flatten_cons → ek, append_nil → bE, getElem?_map → aN, size_toArray → fD, getElem?_eq_none → bJ, length_append → aQ, mem_append → ay, getElem?_replicate → j8, map_replicate → j3, length_cons → bf, mem_map_of_mem → eh, length_map → aE, all_eq_true → bg, nodup_nil → hZ, eq_of_mem_replicate → fm, length_replicate → gv, take_succ_cons → bV, take_zero → ft, map_take → bO, nodup_append → aT, length_take → aY, take_nil → gQ, mem_of_mem_take → c8, getElem?_take_of_lt → dQ, eq_nil_of_length_eq_zero → bA, mem_singleton → aW, map_cons → aH, all_cons → dw, take_append_drop → bN, length → cF, drop_zero → fu, mem_map → bj
open Nat renaming succ_mul → dA, le_refl → au, min_eq_left → da, le_trans → dI, le_mul_of_pos_right → ia, pos_of_ne_zero → eH, add_mul → ir, add_zero → du, lt_of_lt_of_le → br, mul_le_mul_right → jm, zero_mul → dk, zero_add → bS
open Ne renaming symm → dB
open Option renaming bind_some → ah, toList → cp, map_some → ar, getD_some → bF
open Option.some renaming injEq → aa, inj → cm
open Prod.mk renaming injEq → ae
namespace Go.Mid
open Go.RowKit
structure Grown (w w':World)(cs:Array Value):Prop where
 size:w'.heap.size=w.heap.size+1
 old:∀ b,b<w.heap.size→w'.heap[b]?=w.heap[b]?
 new:∃ ty,w'.heap[w.heap.size]?=some (.cells cs ty (0,0))
 rest:w'.os=w.os∧w'.tape=w.tape∧w'.output=w.output
theorem Grown.alloc (w:World)(cs:Array Value)(ty:TypeId):Grown w (w.alloc (.cells cs ty)) cs :=
 ⟨World.size_alloc _ _,fun b hb=>ou w _ b hb,⟨ty,heap_alloc_new w _⟩,⟨rfl,rfl,rfl⟩⟩
theorem Grown.drew (w:World)(cs:Array Value)(ty:TypeId):Grown w (w.drew.alloc (.cells cs ty)) cs :=
 ⟨World.size_alloc _ _,fun b hb=>ou w.drew _ b hb,⟨ty,heap_alloc_new w.drew _⟩,⟨rfl,rfl,rfl⟩⟩
theorem Grown.blk {w w':World}{cs:Array Value}(g:Grown w w' cs):l4 w' w.heap.size cs.size:=by
 obtain ⟨ty,h⟩:=g.new;exact ⟨cs,ty,h,rfl⟩
theorem Grown.row {w w':World}{cs:Array Value}(g:Grown w w' cs){p c q:List Value}(h:cs.toList=p++c++q):Row w' w.heap.size p.length c:=by
 obtain ⟨ty,hn⟩:=g.new;intro j v hj;have hc:cs=(p++c++q).toArray:=by rw [← h]
 simp only [World.cell?,hn,hc,Option.isSome_none,Bool.false_eq_true,if_false,List.getElem?_toArray];rw [List.append_assoc,bG (by omega),cY (by have:=(aL.1 hj).1;omega)]
 rw [← hj];congr 1;omega
theorem Grown.IE {w w':World}{cs:Array Value}(g:Grown w w' cs):Row w' w.heap.size 0 cs.toList:=g.row (p:=[]) (q:=[]) (by simp)
section
variable {w w':World}{A:Nat→Prop}{E E1:dV An}{nx:dv}{γ:Nat}{h h1:cq}
theorem MR.fresh (m:MR w A E1 h1 nx)(hγ:¬ nx γ){cs:Array Value}(g:Grown w w' cs){o':Obj An}(d:Nat)(hg:∀ np y,fq (some o') np=some y→y.1.g=γ)
 (hb:∀ b∈o'.blk,b=w.heap.size∨(b<w.heap.size∧¬ A b∧¬ jH E1 b)) (iq:o'.blk.Nodup) (hst:o'.st (nx.add γ)):nN w w' A E1 nx (nx.add γ) d o' where
 hn:=nx.eP γ
 sz:=by rw [g.size];omega
 ch:=fun b hb _=>g.old b hb
 ns:=fun np y hy eC=>by rw [hg np y hy] at eC;exact (hγ eC).elim
 lt:=fun b hbm=>by
  rw [g.size];rcases hb b hbm with rfl | h
  · exact ⟨by omega,fun hA=>absurd (m.im _ hA) (by omega)⟩
  · exact ⟨by omega,h.2.1⟩
 nd:=iq
 dj:=fun b hbm j o _ ho l6=>by
  rcases hb b hbm with rfl | h
  · have:=(m.kp ho l6).1;omega
  · exact h.2.2 ⟨j,o,ho,l6⟩
 st:=hst
theorem gK.fresh (m:MR w A E h nx)(hγ:¬ nx γ){cs:Array Value}(g:Grown w w' cs){o':Obj An}{d:Nat}(hg:∀ np y,fq (some o') np=some y→y.1.g=γ)
 (hb:∀ b∈o'.blk,b=w.heap.size∨jH E b) (dP:∀ b,jH E1 b→jH E b) (vB:jI E E1):gK w A E nx w' A (cD E1 d (some o')):=by
 refine gK.of (E1:=E1) ⟨g.rest.1,g.rest.2.1,g.rest.2.2⟩ (by rw [g.size];omega) (fun b hb _=>g.old b hb) ?_ (vB.Ej nx) ?_
 · intro b eC ho;rcases AM ho with h1 | ⟨i,oi,hi,r6,AO⟩
   · rcases hb b h1 with rfl | h2
     · omega
     · exact h2
   · exact dP b ⟨i,oi,r6,AO⟩
 · intro i np an z bY eC;by_cases e:i=d
   · subst e;rw [nM] at bY
     have:=hg np _ bY
     simp only at this;rw [this] at eC;exact (hγ eC).elim
   · rwa [nT E1 _ e] at bY
theorem C5o {α:Type}{a:α}{t:T α}{np:Option (List Nat)}{y:α×Option Nat}(h:fq (some (.cell a t)) np=some y):y=(a,none)∨∃ q,fL t q=some y:=by
 cases np with
 | none=>simp only [fq,aa] at h;exact .inl h.symm
 | some q=>rw [sU] at h;exact .inr ⟨q,h⟩
theorem Yx {α:Type}{a:α}{z:Nat}{l:List (T α)}{np:Option (List Nat)}{y:α×Option Nat}(h:fq (some (.vec a z l)) np=some y):y=(a,some z)∨∃ (i:Nat) (t:T α) (q:List Nat),l[i]?=some t∧fL t q=some y:=by
 cases np with
 | none=>simp [fq] at h
 | some q =>
   rw [sU] at h;cases q with
   | nil=>exact .inl (by simp only [Obj.pO,fL,c6,aa] at h;exact h.symm)
   | cons i r =>
     simp only [Obj.pO,BD] at h;cases hl:l[i]? with
     | none=>simp [hl] at h
     | some t=>simp only [hl,ah] at h;exact .inr ⟨i,t,r,hl,h⟩
theorem D0P (m:MR w A E h nx)(hγ:¬ nx γ){cs:List Value}{t:T Nat}{tA:T An}(k:pg w A E nx γ cs t h1 E1 tA)(g:Grown w w' cs.toArray)(d:Nat) :
 ∃ E2,MR w' A E2 (cD h1 d (some (.cell γ t))) (nx.add γ)∧gK w A E nx w' A E2∧bT w' A E2 (nx.add γ) (.ptr d none [] γ 0) (.pointer (some ⟨w.heap.size,0,none⟩)):=by
 have pP:∀ np y,fq (some (.cell ⟨γ,some w.heap.size,0⟩ tA)) np=some y→y.1.g=γ:=by
  intro np y hy;rcases C5o hy with rfl | ⟨q,hq⟩
  · rfl
  · exact k.new q y hq
 have jb:∀ b∈(Obj.cell ⟨γ,some w.heap.size,0⟩ tA).blk,b=w.heap.size∨b∈tA.blk:=by
  intro b hb;simpa [Obj.blk] using hb
 have eC:∀ b∈tA.blk,b<w.heap.size∧¬ A b:=fun b hb=>m.lt b (k.own b hb).1
 have s:=k.mr.fresh hγ g (o':=.cell ⟨γ,some w.heap.size,0⟩ tA) d pP (fun b hb=>(jb b hb).imp id fun hb=>⟨(eC b hb).1,(eC b hb).2,(k.own b hb).2⟩) (by
  simp only [Obj.blk,cp,aS,a7];exact b5.2 ⟨fun hb=>by have:=(eC _ hb).1;omega,k.nd⟩) ⟨nx.iW γ,k.st⟩
 have f:=s.fr k.mr;have htc:=k.tc.frame f (fun x hx=>g.old x (eC x hx).1)
 have hrow:=g.IE;simp only at hrow;refine ⟨cD E1 d (some (.cell ⟨γ,some w.heap.size,0⟩ tA)),?_,gK.fresh m hγ g pP (fun b hb=>(jb b hb).imp id fun hb=>(k.own b hb).1) k.sub k.ns,?_⟩
 · have:=k.mr.set s (by
    simp only [OAt];refine ⟨w.heap.size,rfl,?_,htc.at_ hrow⟩
    have:=g.blk
    have e:cs.toArray.size=tA.cs:=k.tc.len
    rwa [e] at this)
   simpa only [Obj.mapA,k.er] using this
 · simp only [bT];refine ⟨nx.iW γ,_,rfl,fun an z hn _=>?_⟩
   rw [nM] at hn;simp only [fq,aa,ae] at hn;exact ⟨w.heap.size,by rw [← hn.1],rfl⟩
theorem Rp (m:MR w A E h nx)(hγ:¬ nx γ){cs cells:List Value}{ts:List (T Nat)}{lA:List (T An)}{z cap:Nat}(k:l7 w A E nx γ cs ts h1 E1 lA)(g:Grown w w' cells.toArray)(d:Nat){q:List Value}(hc:cells=cs++q)
 (hz:∀ t∈lA,t.cs=z) (n7:cells.length=cap*z) (hle:lA.length≤cap) (Eo:cap≤9223372036854775807) :
 ∃ E2,MR w' A E2 (cD h1 d (some (.vec γ z ts))) (nx.add γ)∧gK w A E nx w' A E2∧bT w' A E2 (nx.add γ) (.own d [] 0 lA.length γ) (.slice (some ⟨w.heap.size,0,none⟩) lA.length cap):=by
 have pP:∀ np y,fq (some (.vec ⟨γ,some w.heap.size,cap⟩ z lA)) np=some y→y.1.g=γ:=by
  intro np y hy;rcases Yx hy with rfl | ⟨i,t,q,hl,hq⟩
  · rfl
  · exact k.new i t hl q y hq
 have jb:∀ b∈(Obj.vec ⟨γ,some w.heap.size,cap⟩ z lA).blk,b=w.heap.size∨b∈T.b9 lA:=by
  intro b hb;simpa [Obj.blk] using hb
 have eC:∀ b∈T.b9 lA,b<w.heap.size∧¬ A b:=fun b hb=>m.lt b (k.own b hb).1
 have s:=k.mr.fresh hγ g (o':=.vec ⟨γ,some w.heap.size,cap⟩ z lA) d pP (fun b hb=>(jb b hb).imp id fun hb=>⟨(eC b hb).1,(eC b hb).2,(k.own b hb).2⟩) (by
  simp only [Obj.blk,cp,aS,a7];exact b5.2 ⟨fun hb=>by have:=(eC _ hb).1;omega,k.nd⟩) ⟨nx.iW γ,k.st⟩
 have f:=s.fr k.mr;have htc:=k.tc.frame f (fun x hx=>g.old x (eC x hx).1)
 have hrow:=g.row (p:=[]) (c:=cs) (q:=q) (by simp [hc])
 refine ⟨cD E1 d (some (.vec ⟨γ,some w.heap.size,cap⟩ z lA)),?_,gK.fresh m hγ g pP (fun b hb=>(jb b hb).imp id fun hb=>(k.own b hb).1) k.sub k.ns,?_⟩
 · have:=k.mr.set s (by
    simp only [OAt,VB];refine ⟨?_,hle,hz,htc.at_ hrow⟩
    have:=g.blk
    have e:cells.toArray.size=cap*z:=n7
    rwa [e] at this)
   simpa only [Obj.mapA,T.mapAs_eq,k.er] using this
 · simp only [bT];refine ⟨nx.iW γ,_,_,rfl,hle,fun an z' hn _=>?_⟩
   rw [nM] at hn;simp only [fq,aa,ae] at hn;obtain ⟨rfl,rfl⟩:=hn;exact ⟨⟨rfl,Eo⟩,.inr (by simp)⟩
end
end Go.Mid
namespace Go.Mid
open Go.RowKit
section
variable {w w':World}{A:Nat→Prop}{E:dV An}{nx:dv}{γ:Nat}{h:cq}
theorem MR.Az {A':Nat→Prop}(m:MR w A E h nx)(hA:∀ b,A b→A' b)(h1:∀ b,A' b→b<w.heap.size∧¬ jH E b):MR w A' E h nx where
 er:=m.er
 at_:=fun i o ho=>OAt.frame ⟨hA,fun _ _=>rfl,oW.refl _ _,dv.le_refl _⟩ (fun _ _=>rfl) (m.at_ i o ho)
 lt:=fun b hb=>⟨(m.lt b hb).1,fun h=>(h1 b h).2 hb⟩
 nd:=m.nd
 dj:=m.dj
 im:=fun b hb=>(h1 b hb).1
 st:=m.st
theorem MR.grow (m:MR w A E h nx){cs:Array Value}(g:Grown w w' cs){A':Nat→Prop}(M9:∀ b,A' b↔A b∨b=w.heap.size):MR w' A' E h (nx.add γ)∧gK w A E nx w' A' E:=by
 have f:Fr w w' A A' E E nx (nx.add γ):=⟨fun b hb=>(M9 b).2 (.inl hb),fun b hb=>g.old b (m.im b hb),oW.refl _ _,nx.eP γ⟩
 refine ⟨⟨m.er,fun i o ho=>OAt.frame f (fun x hx=>g.old x (m.kp ho hx).1) (m.at_ i o ho),fun b hb=>?_,m.nd,m.dj,fun b hb=>?_,fun i o ho=>Obj.kx (nx.eP γ) (m.st i o ho)⟩,?_⟩
 · have:=m.lt b hb
   refine ⟨by rw [g.size];omega,fun h=>?_⟩
   rcases (M9 b).1 h with h | h
   · exact this.2 h
   · omega
 · rw [g.size];rcases (M9 b).1 hb with h | h
   · have:=m.im b h;omega
   · omega
 · refine ⟨g.rest.1,g.rest.2.1,g.rest.2.2,by rw [g.size];omega,fun b hb _=>g.old b hb,f.hA,fun b hb h=>?_,fun _ _ h=>h,oW.refl _ _⟩
   rcases (M9 b).1 h with h | h
   · exact .inl h
   · omega
theorem D2P {l:List PV}{cs:List Value}{z:Nat}(hz:∀ v∈l,v.cs=z)(h:cU w A l cs){b o:Nat}(hr:Row w b o cs):fH w A l b o z:=by
 induction l generalizing cs o with
 | nil=>simp only [fH]
 | cons x r ih =>
   simp only [cU] at h;obtain ⟨c,d,rfl,h1,h2⟩:=h;have hr:=Row.append.1 hr;have hx:=hz x (by simp)
   have hlen:=h1.len;simp only [fH];refine ⟨⟨c,h1,by rw [hlen,hx],hr.1⟩,?_⟩
   refine ih (fun v hv=>hz v (by simp [hv])) h2 ?_
   rw [← hx,← hlen];exact hr.2
theorem Rq:∀ {n z:Nat} {l:List MV},okB (az n z) l=true→l.length=n∧∀ v∈l,v.cs=z∧rX v=true
 | 0,z,[],_=>⟨rfl,by simp⟩
 | 0,z,x::r,h=>by simp [okB] at h
 | n+1,z,[],h=>by simp [cG,okB] at h
 | n+1,z,x::r,h=>by
   rw [cG] at h;obtain ⟨h1,h2,h3⟩:=Yr h;obtain ⟨h4,h5⟩:=Rq h3;exact ⟨by simp [h4],fun v hv=>by
    rcases aM.1 hv with rfl | hv
    · exact ⟨h1,h2⟩
    · exact h5 v hv⟩
theorem Rr {zc:List Value}{z:Nat}(hz:zc.length=z):∀ n,((List.range (n*z)).map fun i=>zc.toArray[i%zc.toArray.size]!)=(az n zc).flatten
 | 0=>by simp
 | n+1=>by
   rw [dA,List.range_add,b8,Rr hz n,List.replicate_succ',List.flatten_append];congr 1;simp only [cu,ek,List.flatten_nil,bE];apply List.ext_getElem?;intro i;by_cases hi:i<z
   · have h2:(n*z+i)%z=i:=by rw [Nat.add_comm,Nat.add_mul_mod_self_right,Nat.mod_eq_of_lt hi]
     have h3:zc[i]?=some zc[i]:=by simp
     rw [h3];simp only [aN,List.getElem?_range hi,ar,Function.comp,fD,hz,h2];simp [List.getElem!_toArray,List.getElem!_eq_getElem?_getD,h3]
   · rw [bJ (by simp;omega),bJ (by omega)]
theorem Rs {zc:List Value}{z:Nat}(hz:zc.length=z)(n:Nat):madeCells zc.toArray (n*z)=(az n zc).flatten.toArray:=by
 apply gP;rw [madeCells];simp only [Array.toList_map,Array.toList_range,Rr hz n]
theorem Rt {zc:List Value}(n:Nat):(az n zc).flatten.length=n*zc.length:=by
 induction n with
 | zero=>simp
 | succ n ih=>rw [cG,ek,aQ,ih,dA];omega
structure yZ (w:World)(A:Nat→Prop)(E:dV An)(nx:dv)(γ:Nat)(cs:List Value)(t:T Nat)(tA:T An):Prop where
 er:tA.mapA An.g=t
 tc:TC w A E nx tA cs
 blk:tA.blk=[]
 st:tA.st (nx.add γ)
 new:∀ q y,fL tA q=some y→y.1.g=γ
 one:∀ c∈cs,c.oneCell'=true
theorem Na {α:Type}:∀ (q:List Nat) (v:PV),fL (.p v:T α) q=none
 | [],v=>rfl
 | i::r,v=>by
   cases v<;>try rfl
   rename_i l;simp only [fL,c6];cases hl:l[i]? with
   | none=>rfl
   | some x=>simp only;have:=Na (α:=α) r x;simpa only [fL] using this
mutual
theorem Ru:∀ {v:MV} {cs r:List Value} {t:T Nat},sy v cs=some r→zT γ v=some t→∃ c tA,cs=c++r∧yZ w A E nx γ c t tA
 | .p v,cs,r,t,h,k=>by
   simp only [zT,aa] at k;subst k;simp only [sy] at h;obtain ⟨c,h1,h2⟩:=M7 (w:=w) (A:=A) h;exact ⟨c,.p v,h1,rfl,by simp only [TC];exact h2,rfl,trivial,(fun q y hy=>by rw [Na] at hy;cases hy),h2.kz⟩
 | .nil z,cs,r,t,h,k=>by
   simp only [zT,aa] at k;subst k;simp only [sy] at h;split at h
   · rename_i a r';cases h;refine ⟨[.slice a 0 0],.vec ⟨γ,none,0⟩ z [] 0,rfl,rfl,?_,rfl,⟨nx.iW γ,trivial⟩,?_,by intro c hc;simp at hc;subst hc;rfl⟩
     · simp only [TC,VB];exact ⟨a,0,rfl,au _,⟨rfl,rfl⟩,trivial,trivial⟩
     · intro q y hy;cases q with
       | nil=>simp [fL,c6] at hy;rw [← hy]
       | cons i r=>simp [fL,c6] at hy
   · cases h
 | .agg l,cs,r,t,h,k=>by
   simp only [zT] at k;split at k
   · rename_i ts rN;cases k;simp only [sy] at h;obtain ⟨c,lA,h1,h2,h3,h4,h5,h6,h7⟩:=Yy h rN;refine ⟨c,ke lA,h1,by rw [MT,h2],Yf.2 h3,by rw [MU,h4],Q5 h5,?_,h7⟩
     intro q y hy;cases q with
     | nil=>rw [Q8] at hy;cases hy
     | cons i r =>
       rw [Q6] at hy;cases hl:lA[i]? with
       | none=>simp [hl] at hy
       | some t=>simp only [hl,ah] at hy;exact h6 t (List.mem_of_getElem? hl) r y hy
   · cases k
 | .own ..,cs,r,t,h,k=>by simp [zT] at k
 | .ptr ..,cs,r,t,h,k=>by simp [zT] at k
 | .fC ..,cs,r,t,h,k=>by simp [zT] at k
 | .fn ..,cs,r,t,h,k=>by simp [zT] at k
 | .eO _,cs,r,t,h,k=>by simp [zT] at k
 | .dead _,cs,r,t,h,k=>by simp [zT] at k
theorem Yy:∀ {l:List MV} {cs r:List Value} {ts:List (T Nat)},CN l cs=some r→zT.CI γ l=some ts→∃ c lA,cs=c++r∧lA.map (T.mapA An.g)=ts∧kq w A E nx lA c∧T.b9 lA=[]∧T.ku (nx.add γ) lA∧(∀ t∈lA,∀ q y,fL t q=some y→y.1.g=γ)∧∀ c'∈c,c'.oneCell'=true
 | [],cs,r,ts,h,k=>by
   simp only [zT.CI,aa] at k;subst k;simp only [CN,aa] at h;subst h;exact ⟨[],[],rfl,rfl,by simp only [kq],rfl,trivial,by simp,by simp⟩
 | x::q,cs,r,ts,h,k=>by
   simp only [zT.CI] at k;split at k
   · rename_i t Rk ht rN;cases k;simp only [CN] at h;split at h
     · rename_i d hd;obtain ⟨c,tA,rfl,z⟩:=Ru hd ht;obtain ⟨c',lA,rfl,h2,h3,h4,h5,h6,h7⟩:=Yy h rN;refine ⟨c++c',tA::lA,by simp,by simp [z.er,h2],by simp only [kq];exact ⟨c,c',rfl,z.tc,h3⟩,by simp [T.b9,z.blk,h4],⟨z.st,h5⟩,?_,fun x hx=>(ay.1 hx).elim (z.one x) (h7 x)⟩
       intro t ht;rcases aM.1 ht with rfl | ht
       · exact z.new
       · exact h6 t ht
     · cases h
   · cases k
end
theorem IF {P:Program}{t:TypeId}{v:MV}(h:Bt P t=some v):∃ zc,vp P t=some zc∧sy v zc=some []:=by
 unfold Bt at h;split at h
 · rename_i v' zc hv r7;split at h
   · rename_i hc;cases h;exact ⟨zc,r7,hc⟩
   · cases h
 · cases h
end
theorem C81 {P:Program}{t:TypeId}{v:PV}(h:Mx P t=some v):∃ zc,vp P t=some zc∧∀ (w:World) (A:Nat→Prop),ed w A v zc:=by
 unfold Mx at h;split at h
 · rename_i v' hz;cases h;obtain ⟨zc,r7,wy⟩:=IF hz;refine ⟨zc,r7,fun w A=>?_⟩
   simp only [sy] at wy;obtain ⟨c,h1,h2⟩:=M7 (w:=w) (A:=A) wy;rw [bE] at h1;rw [h1];exact h2
 · rename_i z hz;cases h;obtain ⟨zc,r7,wy⟩:=IF hz;refine ⟨zc,r7,fun w A=>?_⟩
   simp only [sy] at wy;split at wy
   · rename_i q r;simp only [aa] at wy;subst wy;simp only [ed];exact ⟨_,0,rfl,au _,.inl trivial⟩
   · cases wy
 · cases h
section
variable {P:Program}{o:Oper}{a:Act}{w:World}{A:Nat→Prop}{E:dV An}{nx:dv}{γ:Nat}{v:MV}{h h':cq}{s:gJ}{K:jC}{d:Option Nat}
 (hs:qd P w A E nx s a) (hm:MR w A E h nx) (hγ:¬ nx γ)
theorem cJ.of {val:Value}{w':World}{E':dV An}(hr:(execOp a.eval o).run P w=.ok (.value val) w')(hm:MR w' A E' h' (nx.add γ))(hg:gK w A E nx w' A E')(hv:bT w' A E' (nx.add γ) v val):cJ P o a w A E nx γ v h' :=
 ⟨val,w',A,E',.inl hr,hv,hm,hg⟩
include hm hγ
theorem Yz {x:MV}{val:Value}{cs:List Value}(hc:val.cells.toList=cs)(hv:bT w A E nx x val){ty:TypeId}(hr:(execOp a.eval o).run P w=.ok (.value (.pointer (some ⟨w.heap.size,0,none⟩))) (w.alloc (.cells cs.toArray ty)))
 (he:(match o9 γ h x with
   | some (t,h1)=>match mZ d h1 (.cell γ t) with | some h'=>some (MV.ptr (d.getD 0) none [] γ 0,h') | none=>none
   | none=>none)=some (v,h')):cJ P o a w A E nx γ v h':=by
 split at he
 · rename_i t h1 hi;cases d with
   | none=>simp [mZ] at he
   | some d =>
     simp only [mZ,bF,aa,ae] at he;obtain ⟨rfl,rfl⟩:=he;obtain ⟨E1,tA,k⟩:=Ri x hi hm hv;rw [hc] at k;obtain ⟨E2,k1,k2,k3⟩:=D0P hm hγ k (Grown.alloc w cs.toArray ty) d;exact cJ.of hr k1 k2 k3
 · cases he
theorem C82 {t:TypeId}{z:MV}(ho:o.op=.alloc t)(hz:Bt P t=some z)(he:cf K γ d s h (.box (.c z))=some (v,h')):cJ P o a w A E nx γ v h':=by
 obtain ⟨zc,h1,h2⟩:=IF hz;obtain ⟨zv,h3,h4,_⟩:=C1 h1 w;obtain ⟨c,h5,val,h6,_,_,h7⟩:=Rl (w:=w) (A:=A) (E:=E) (nx:=nx) h2;rw [bE] at h5;subst h5;simp only [cf,cR] at he;refine Yz (ty:=t) hm hγ h6 h7 ?_ he;simp only [execOp,ho,Instr.alloc,bx,h3,aV,newVar,newRow,h4,pC,bM];rfl
include hs
theorem D2Q {t t0:TypeId}{x:Operand}{x':dO}(ho:o.op=.box t x)(hx:fB P t0 x=some x')(he:cf K γ d s h (.box x')=some (v,h')):cJ P o a w A E nx γ v h':=by
 have hv:=j0 hs hx;simp only [cf] at he;refine Yz (ty:=t) hm hγ rfl hv ?_ he;simp only [execOp,ho,Instr.box,bx,aV,newVar,newRow,pC,bM];rw [Array.toArray_toList];rfl
end
end Go.Mid
namespace Go.Mid
open Go.RowKit
section
variable {P:Program}{o:Oper}{a:Act}{w:World}{A:Nat→Prop}{E:dV An}{nx:dv}{γ:Nat}{v:MV}{h h':cq}{s:gJ}{K:jC}{d:Option Nat}
 (hs:qd P w A E nx s a) (hm:MR w A E h nx) (hγ:¬ nx γ)
include hs hm hγ
omit hs in
theorem D0Q {z:Nat}{e:TypeId}(ho:o.op=.assign (.const (.slice none 0 0)))(he:cf K γ d s h (.nilv z)=some (v,h')):cJ P o a w A E nx γ v h':=by
 simp only [cf] at he;cases d with
 | none=>simp [mZ] at he
 | some d =>
   simp only [mZ,bF,aa,ae] at he;obtain ⟨rfl,rfl⟩:=he;have pP:∀ np y,fq (some (Obj.vec (⟨γ,none,0⟩:An) z [])) np=some y→y.1.g=γ:=by
    intro np y hy;rcases Yx hy with rfl | ⟨i,t,q,hl,_⟩
    · rfl
    · simp at hl
   have jb:(Obj.vec (⟨γ,none,0⟩:An) z []).blk=[]:=rfl;have s:nN w w A E nx (nx.add γ) d (.vec ⟨γ,none,0⟩ z []) :=
    ⟨nx.eP γ,au _,fun _ _ _=>rfl,fun np y hy eC=>by rw [pP np y hy] at eC;exact (hγ eC).elim,by simp [jb],by simp [jb],by simp [jb],⟨nx.iW γ,trivial⟩⟩
   have xZ:=hm.set s (by simp only [OAt,VB];exact ⟨trivial,trivial⟩)
   refine ⟨.slice none 0 0,w,A,_,.inl ?_,?_,xZ,?_⟩
   · simp [execOp,ho,D7]
   · simp only [bT];refine ⟨nx.iW γ,none,0,rfl,au _,fun an z' hn _=>?_⟩
     rw [nM] at hn;simp only [fq,aa,ae] at hn;obtain ⟨rfl,rfl⟩:=hn;exact ⟨rfl,rfl⟩
   · refine gK.of (E1:=E) ⟨rfl,rfl,rfl⟩ (au _) (fun _ _ _=>rfl) ?_ (oW.refl _ _) (s.fr hm).hE
     intro b _ hb;rcases AM hb with hb | ⟨i,oi,_,r6,AO⟩
     · simp [jb] at hb
     · exact ⟨i,oi,r6,AO⟩
theorem YA {t e:TypeId}{n:Nat}{mt:Bool}{parts:Array (Nat×Operand)}{zc:List Value}{l:List dO}(ho:o.op=.buildSlice t n parts)(hu:P.underlying t=some (.slice e))(rO:P.cellsOf e≠0)(kW:n*P.cellsOf e≤16777216)
 (hz:vp P e=some zc) (y5:zc.length=P.cellsOf e) (kV:Ay n parts.toList=true) (hl:xW P parts.toList (az n e) 0 (az n zc).flatten=some l) (Rv:n=0→mt=true)
 (he:cf K γ d s h (.bsl mt (P.cellsOf e) l)=some (v,h')):cJ P o a w A E nx γ v h':=by
 simp only [cf] at he;split at he
 · rename_i hb;have BL:l.length=n:=by
    obtain ⟨qn,_,_,h3,_⟩:=Rm hs hl;simpa using h3
   rw [BL] at hb;obtain ⟨zv,En,r7,_⟩:=C1 hz w;obtain ⟨cs,h1,h2⟩:=Rn hs hl (by simpa using kV) (by simpa using hb) (fun i=>some (i*P.cellsOf e,P.cellsOf e)) (by
    intro i t ht;rw [j8] at ht;split at ht
    · rename_i hi;cases ht;rw [List.take_replicate,j3,Yw,da (by omega)]
    · cases ht)
   have nO:cs.length=n*P.cellsOf e:=by
    rw [M8 h1];obtain ⟨h3,h4⟩:=Rq hb
    have:∀ {l:List MV} {z:Nat},(∀ v∈l,v.cs=z)→MV.dm l=l.length*z:=by
     intro l z
     induction l with
     | nil=>intro _;simp [MV.dm]
     | cons x r ih=>intro hx;rw [MV.dm,hx x (by simp),ih (fun v hv=>hx v (by simp [hv])),bf,dA];omega
    rw [this (fun v hv=>(h4 v hv).1),h3]
   have il:(execOp a.eval o).run P w=.ok (.value (.slice (some ⟨w.heap.size,0,none⟩) n n)) (w.alloc (.cells cs.toArray e)):=by
    have Ep:n*P.cellsOf e=0→(Array.range (n*P.cellsOf e)).map (fun i=>(#[]:Array Value)[i%(#[]:Array Value).size]!)=(az n zc).flatten.toArray:=by
     intro h0
     have:n=0:=by
      rcases Nat.mul_eq_zero.1 h0 with h | h
      · exact h
      · exact absurd h rO
     subst this;simp
    have Er:(Array.range (n*P.cellsOf e)).map (fun i=>zc.toArray[i%zc.toArray.size]!)=(az n zc).flatten.toArray:=by
     have:=Rs y5 n
     rw [← this];rfl
    simp only [execOp,ho,Instr.buildSlice,bx,a8 hu,aV,Bx w rO];rw [if_neg (by omega)]
    by_cases h0:n*P.cellsOf e=0
    · rw [if_pos h0];simp only [bx,bM,aV,Ep h0];rw [h2];simp only [bx,newRow,pC,aV,bM];rfl
    · rw [if_neg h0];simp only [bx,bM,En,aV,r7,Er];rw [h2];simp only [bx,newRow,pC,aV,bM];rfl
   have hg:=Grown.alloc w cs.toArray e;split at he
   · rename_i vs fX;simp only [aa,ae] at he;obtain ⟨rfl,rfl⟩:=he;have ko:pF (l.map (cR s))=some vs∧mt=false:=by
      cases mt
      · exact ⟨by simpa using fX,rfl⟩
      · simp at fX
     have hp:=CT ko.1;rw [hp] at h1 hb;obtain ⟨h3,h4⟩:=Rq hb;obtain ⟨k1,k2⟩:=hm.grow (γ:=γ) hg (A':=fun b=>A b∨b=w.heap.size) (fun _=>Iff.rfl)
     refine ⟨_,_,_,E,.inl il,?_,k1,k2⟩;have BM:vs.length=n:=by simpa using h3
     refine vu.2 ⟨_,n,by rw [BM],by omega,?_⟩
     right;refine ⟨_,0,P.cellsOf e,rfl,.inr rfl,?_⟩;refine D2P (cs:=cs) ?_ ?_ hg.IE
     · intro v hv
       have:=(h4 (.p v) (eh hv)).1
       simpa [MV.cs] using this
     · exact (QX h1).frame k2.sub (fun b hb=>hg.old b (hm.im b hb))
   · split at he
     · rename_i ts uf rN;split at he
       · rename_i fg;cases d with
         | none=>simp [mZ] at he
         | some d =>
           simp only [mZ,bF,aa,ae] at he;obtain ⟨rfl,rfl⟩:=he;obtain ⟨vs,fX,rfl⟩:=h1.vs;obtain ⟨E1,lA,k⟩:=Rj _ rN hm fX;have n5:lA.length=ts.length:=by rw [← k.er];simp
           have Nb:ts.length=n:=by
            have:∀ (l:List MV) (h:cq) (ts:List (T Nat)) (h1:cq),tN γ h l=some (ts,h1)→ts.length=l.length:=by
             intro l
             induction l with
             | nil=>intro h ts h1 hi;simp only [tN,aa,ae] at hi;rw [← hi.1];rfl
             | cons x r ih =>
               intro h ts h1 hi;simp only [tN] at hi;split at hi
               · split at hi
                 · rename_i h3;simp only [aa,ae] at hi;rw [← hi.1,bf,ih _ _ _ h3,bf]
                 · cases hi
               · cases hi
            rw [this _ _ _ _ rN,aE,BL]
           have AE:∀ t∈lA,t.cs=P.cellsOf e:=by
            intro t ht;have h3:T.mapA An.g t∈ts:=by rw [← k.er];exact eh ht
            simp only [pI,bg,beq_iff_eq] at fg
            have:=fg _ h3
            rwa [T.ky] at this
           obtain ⟨E2,k1,k2,k3⟩:=Rp hm hγ k hg d (q:=[]) (by simp) AE (cap:=n) nO (by omega) (by simp only [Ay,ak,decide_eq_true_eq] at kV;exact kV.2.2)
           rw [n5,Nb] at k3;rw [Nb];exact cJ.of il k1 k2 k3
       · cases he
     · cases he
 · cases he
end
end Go.Mid
namespace Go.Mid
open Go.RowKit
section
variable {w w':World}{A:Nat→Prop}{E:dV An}{nx:dv}{γ:Nat}{h:cq}
theorem yZ.replicate {cs:List Value}{t:T Nat}{tA:T An}(z:yZ w A E nx γ cs t tA)(m:MR w A E h nx)(n:Nat):l7 w A E nx γ (az n cs).flatten (az n t) h E (az n tA) where
 er:=by rw [j3,z.er]
 mr:=m
 tc:=by
  induction n with
  | zero=>simp [kq]
  | succ n ih=>rw [cG,cG,ek];simp only [kq];exact ⟨_,_,rfl,z.tc,ih⟩
 nd:=by
  have:T.b9 (az n tA)=[]:=by
   induction n with
   | zero=>rfl
   | succ n ih=>rw [cG,T.b9,z.blk,ih];rfl
  rw [this];exact hZ
 own:=by
  have:T.b9 (az n tA)=[]:=by
   induction n with
   | zero=>rfl
   | succ n ih=>rw [cG,T.b9,z.blk,ih];rfl
  rw [this];intro b hb;simp at hb
 sub:=fun _ h=>h
 st:=by
  induction n with
  | zero=>trivial
  | succ n ih=>rw [cG];exact ⟨z.st,ih⟩
 ns:=jI.refl E
 new:=by
  intro i t ht;rw [j8] at ht;split at ht
  · cases ht;exact z.new
  · cases ht
 one:=by
  intro c hc;obtain ⟨l,hl,nO⟩:=List.mem_flatten.1 hc;rw [fm hl] at nO;exact z.one c nO
 ls:=mQ.refl E
end
theorem C3f {P:Program}{w:World}{t ti ty e:TypeId}{i:TypeInfo}{z:Value}{k:IntKind}{kd:IntKind}(ht:P.underlying t=some (.slice e))(Es:P.underlying ti=some (.int k))(hi:P.info? e=some i)(hz:i.zero=some z)(hsz:0<i.size){a:Option Addr}{n:Nat}(hn:0<n)
 (ra:n*i.bytes≤140737488355328) (ahV:n≤140737488355328) :
 (db #[t,ti] ty #[.slice a 0 0,.int kd n]).run P w=.ok (.slice (some ⟨w.heap.size,0,none⟩) n (grownCap w n 0 e))
   (w.drew.alloc (.cells ((a6 z.cells n).toList++(a6 z.cells (grownCap w n 0 e-n)).toList).toArray e)):=by
 have hw:IntKind.i64.wrap (n:Int)=(n:Int):=by
  simp only [IntKind.wrap,IntKind.bits,IntKind.signed];simp;omega
 have h0:¬ ((n:Int)<0):=by omega
 have h1:¬ (281474976710656<(n:Int)*(i.bytes:Int)):=by
  have:((n*i.bytes:Nat):Int)≤140737488355328:=by omega
  rw [Int.natCast_mul] at this;omega
 have h2:¬ (n≤0):=by omega
 have h3:¬ (9223372036854775807<(n:Int)):=by omega
 have hc:=mi (need:=n) (old:=0) (bytes:=i.bytes) hn ra;have h4:¬ (281474976710656<Builtin.nextslicecap n 0*i.bytes):=by omega
 have h5:¬ (n*i.size=0):=by
  have:=Nat.mul_pos hn hsz;omega
 have h6:¬ (n=0):=by omega
 have h7:¬ (i.size=0):=by omega
 have hf:∀ w':World,(iA i.size 0 (.slice a 0 0)).run P w'=.ok #[] w':=by
  intro w';cases a with
  | none=>exact jL w' _ _ _ _
  | some a=>exact gY w' i.size 0 a 0 0 [] (by simp) (fun j v h=>by simp at h)
 simp [db,a8 ht,a8 Es,sizeOf,typeInfo,zeroValue,hi,hz,asInt,asIntOf,hw,h0,h1,h3,h4,h5,h6,Question.forced,newRow,grownCap,hf];congr 2;apply gP;simp
theorem YB {z:Array Value}{k:Nat}(n:Nat)(hz:z.size=k):(a6 z n).toList=(az n z.toList).flatten:=by
 have h:=Rs (zc:=z.toList) (z:=k) (by simpa using hz) n
 have e:a6 z n=madeCells z.toList.toArray (n*k):=by
  unfold a6 madeCells;rw [hz]
 rw [e,h]
section
variable {P:Program}{o:Oper}{a:Act}{w:World}{A:Nat→Prop}{E:dV An}{nx:dv}{γ:Nat}{v:MV}{h h':cq}{s:gJ}{K:jC}{d:Option Nat}
 (hs:qd P w A E nx s a) (hm:MR w A E h nx) (hγ:¬ nx γ)
include hs hm hγ
theorem D0R {t e t1 t2:TypeId}{zero:MV}{lx cx:Operand}{l' c':dO}(ho:o.op=.makeSlice t lx cx)(hu:P.underlying t=some (.slice e))(rO:P.cellsOf e≠0)(wz:P.bytesOf e≠0)(hz:Bt P e=some zero)
 (hl:fB P t1 lx=some l') (hc:fB P t2 cx=some c') (he:cf K γ d s h (.mksl (P.cellsOf e) (P.bytesOf e) zero l' c')=some (v,h')):cJ P o a w A E nx γ v h':=by
 simp only [cf] at he;split at he
 · rename_i l c Rw Gl;obtain ⟨kl,BN⟩:=Ir Rw (j0 hs hl);obtain ⟨kc,AF⟩:=Ir Gl (j0 hs hc);split at he
   · rename_i tz Rx;split at he
     · rename_i ee;obtain ⟨h0,nL,fY,xm⟩:=ee;cases d with
       | none=>simp [mZ] at he
       | some d =>
         simp only [mZ,bF,aa,ae] at he;obtain ⟨rfl,rfl⟩:=he;obtain ⟨zc,r7,wy⟩:=IF hz;obtain ⟨zv,_,mE,i,hi,C2⟩:=C1 r7 w;obtain ⟨zc',tA,h1,zt⟩:=Ru (w:=w) (A:=A) (E:=E) (nx:=nx) wy Rx;rw [bE] at h1;subst h1;have rl:P.bytesOf e=i.bytes:=by simp [nP,hi]
         have oa:P.cellsOf e=i.size:=by simp [jY,hi]
         have y6:tA.cs=P.cellsOf e:=by rw [← xm,← zt.er,T.ky]
         have y5:zc.length=P.cellsOf e:=by rw [zt.tc.len,y6]
         have Ry:0≤c:=by omega
         have IG:c.toNat≤room:=dI (ia _ (eH wz)) fY;have Rz:((c.toNat * P.bytesOf e:Nat):Int)≤140737488355328:=by
          have:c.toNat * P.bytesOf e≤140737488355328:=fY
          omega
         have hcI:(c.toNat:Int)=c:=Int.toNat_of_nonneg Ry;have il:=run_make (P:=P) w t e i zv hu hi C2 kl kc l c h0 nL (by
          rw [Int.natCast_mul,hcI,rl] at Rz;rw [Int.mul_comm];omega) (by
          have:c.toNat≤140737488355328:=IG
          omega)
         have n7:(az c.toNat zc).flatten.length=c.toNat * P.cellsOf e:=by rw [Rt,y5]
         have II:madeCells zv.cells (c.toNat * i.size)=(az c.toNat zc).flatten.toArray:=by
          rw [mE,← oa];exact Rs y5 _
         rw [II] at il;have k:=zt.replicate hm l.toNat;obtain ⟨E2,k1,k2,k3⟩:=Rp hm hγ k (Grown.alloc w _ e) d (q:=(az (c.toNat-l.toNat) zc).flatten) (by
          rw [← List.flatten_append,List.replicate_append_replicate];congr 2;omega) (fun t ht=>by rw [fm ht,y6]) n7 (by simp;omega) (by have:c.toNat≤140737488355328:=IG;omega)
         rw [gv] at k3;refine cJ.of (w':=_) ?_ k1 k2 k3;simp only [execOp,ho,BN,AF,bx,il,aV,bM]
     · cases he
   · cases he
 · cases he
theorem D0S {t ti e t1 t2:TypeId}{c:Call}{zero:MV}{x y:Operand}{x' y':dO}{k:IntKind}(ho:o.op=.call c)(pK:c.callee=.builtin .append)(oX:c.args=#[x,y])(sB:c.argTypes=#[t,ti])
 (hu:P.underlying t=some (.slice e)) (Es:P.underlying ti=some (.int k)) (rO:P.cellsOf e≠0) (wz:P.bytesOf e≠0) (hz:Bt P e=some zero)
 (hx:fB P t1 x=some x') (hy:fB P t2 y=some y') (he:cf K γ d s h (.appn (P.cellsOf e) (P.bytesOf e) zero x' y')=some (v,h')):cJ P o a w A E nx γ v h':=by
 have dL:=j0 hs hx;simp only [cf] at he;split at he
 · rename_i zz l xp Rw;obtain ⟨kl,BN⟩:=Ir Rw (j0 hs hy);split at he
   · rename_i tz Rx;split at he
     · rename_i ee;obtain ⟨h0,fY,xm⟩:=ee;cases d with
       | none=>simp [mZ] at he
       | some d =>
         simp only [mZ,bF,aa,ae] at he;obtain ⟨rfl,rfl⟩:=he;rw [xp] at dL;simp only [bT] at dL;obtain ⟨ax,RA⟩:=dL;obtain ⟨zc,r7,wy⟩:=IF hz;obtain ⟨zv,_,mE,i,hi,C2⟩:=C1 r7 w;obtain ⟨zc',tA,h1,zt⟩:=Ru (w:=w) (A:=A) (E:=E) (nx:=nx) wy Rx;rw [bE] at h1;subst h1;have rl:P.bytesOf e=i.bytes:=by simp [nP,hi]
         have oa:P.cellsOf e=i.size:=by simp [jY,hi]
         have y6:tA.cs=P.cellsOf e:=by rw [← xm,← zt.er,T.ky]
         have y5:zc.length=P.cellsOf e:=by rw [zt.tc.len,y6]
         have IG:l.toNat≤room:=dI (ia _ (eH wz)) fY;have hlI:(l.toNat:Int)=l:=Int.toNat_of_nonneg (by omega)
         have AP:0<l.toNat:=by omega
         have RB:0<i.size:=by rw [← oa];exact eH rO
         rw [rl] at fY;have il:=C3f (P:=P) (w:=w) (ty:=o.type) (kd:=kl) (a:=ax) hu Es hi C2 RB AP fY IG;have wA:=grownCap_ge w l.toNat 0 e;have sV:zv.cells.size=P.cellsOf e:=by rw [mE];simpa using y5
         have hzt:zv.cells.toList=zc:=by rw [mE]
         rw [YB l.toNat sV,YB (grownCap w l.toNat 0 e-l.toNat) sV,hzt] at il;have kk:=zt.replicate hm l.toNat;obtain ⟨E2,k1,k2,k3⟩:=Rp hm hγ kk (Grown.drew w _ e) d (cap:=grownCap w l.toNat 0 e) (q:=(az (grownCap w l.toNat 0 e-l.toNat) zc).flatten) rfl
          (fun t ht=>by rw [fm ht,y6]) (by
            rw [aQ,Rt,Rt,y5,← ir];congr 1;omega) (by simp;omega) (j4 w l.toNat 0 e (by have:l.toNat≤140737488355328:=IG;unfold maxLen;omega))
         rw [gv] at k3;refine cJ.of (w':=_) ?_ k1 k2 k3;rw [BA ho pK];simp only [builtin,oX,sB];have e1:qx a.eval #[x,y]=#[.slice ax 0 0,.int kl l.toNat]:=by simp [RA,BN,hlI]
         rw [e1];simp only [bx,il,aV,bM]
     · cases he
   · cases he
 · cases he
end
end Go.Mid
namespace Go.Mid
open Go.RowKit
section
variable {w w':World}{A:Nat→Prop}{E:dV An}{nx:dv}{h:cq}
mutual
theorem TAt.cells:∀ {t:T An} {b o:Nat},TAt w A E nx t b o→∀ j,j<t.cs→(w.cell? ⟨b,o+j,none⟩).isSome=true
 | .p v,b,o,h,j,hj=>by
   simp only [TAt] at h;obtain ⟨cs,h1,h2⟩:=h
   have:j<cs.length:=by rw [h1.len];exact hj
   rw [h2 j cs[j] (by simp [this])];rfl
 | .m v,b,o,h,j,hj=>by
   simp only [TAt] at h;obtain ⟨h0,_,val,_,h2⟩:=h;simp only [T.cs,h0] at hj
   have:j=0:=by omega
   subst this;rw [h2 0 val rfl];rfl
 | .agg l,b,o,h,j,hj=>by simp only [TAt] at h;exact cK.cells h j hj
 | .vec ..,b,o,h,j,hj=>by
   simp only [TAt] at h;obtain ⟨a,cap,h2,_⟩:=h;simp only [T.cs] at hj
   have:j=0:=by omega
   subst this;rw [h2 0 _ rfl];rfl
 | .mp ..,b,o,h,j,hj=>by simp only [TAt] at h
 | .hole n,b,o,h,j,hj=>by
   simp only [TAt] at h;obtain ⟨v,hv⟩:=h j hj;rw [hv];rfl
theorem cK.cells:∀ {l:List (T An)} {b o:Nat},cK w A E nx l b o→∀ j,j<T.dm l→(w.cell? ⟨b,o+j,none⟩).isSome=true
 | [],b,o,_,j,hj=>by simp [T.dm] at hj
 | t::r,b,o,h,j,hj=>by
   simp only [cK] at h;simp only [T.dm] at hj;by_cases eC:j<t.cs
   · exact TAt.cells h.1 j eC
   · have:=cK.cells h.2 (j-t.cs) (by omega)
     rwa [show o+t.cs+(j-t.cs)=o+j by omega] at this
end
mutual
theorem TAt.pQ:∀ {t:T An} {b o:Nat},TAt w A E nx t b o→∀ x∈t.blk,∃ m,l4 w x m
 | .p _,b,o,_,x,hx=>by simp [T.blk] at hx
 | .m _,b,o,_,x,hx=>by simp [T.blk] at hx
 | .agg l,b,o,h,x,hx=>by simp only [TAt] at h;exact cK.pQ h x hx
 | .vec an z l n,b,o,h,x,hx=>by
   simp only [TAt] at h;obtain ⟨a,cap,_,_,_,h⟩:=h;cases hb:an.b with
   | none=>simp only [hb] at h;simp [T.blk,hb,h.1,T.b9] at hx
   | some b' =>
     simp only [hb] at h;simp only [T.blk,hb,cp,aS,a7,aM] at hx;rcases hx with rfl | hx
     · exact ⟨_,h.1⟩
     · exact cK.pQ h.2.2.2 x hx
 | .mp ..,b,o,h,_,_=>by simp only [TAt] at h
 | .hole _,b,o,_,x,hx=>by simp [T.blk] at hx
theorem cK.pQ:∀ {l:List (T An)} {b o:Nat},cK w A E nx l b o→∀ x∈T.b9 l,∃ m,l4 w x m
 | [],b,o,_,x,hx=>by simp [T.b9] at hx
 | t::r,b,o,h,x,hx=>by
   simp only [cK] at h;simp only [T.b9,ay] at hx;rcases hx with hx | hx
   · exact TAt.pQ h.1 x hx
   · exact cK.pQ h.2 x hx
end
theorem OAt.pQ {o:Obj An}(h:OAt w A E nx o):∀ x∈o.blk,∃ m,l4 w x m:=by
 intro x hx;cases o with
 | cell an t =>
   simp only [OAt] at h;obtain ⟨b,hb,h1,h2⟩:=h;simp only [Obj.blk,hb,cp,aS,a7,aM] at hx;rcases hx with rfl | hx
   · exact ⟨_,h1⟩
   · exact h2.pQ x hx
 | vec an z l =>
   simp only [OAt,VB] at h;cases hb:an.b with
   | none=>simp only [hb] at h;simp [Obj.blk,hb,h.1,T.b9] at hx
   | some b' =>
     simp only [hb] at h;simp only [Obj.blk,hb,cp,aS,a7,aM] at hx;rcases hx with rfl | hx
     · exact ⟨_,h.1⟩
     · exact h.2.2.2.pQ x hx
 | mp=>simp only [OAt] at h
 | gone=>simp [Obj.blk] at hx
theorem l4.frozen {b m j:Nat}(h:l4 w b m):w.frozen? ⟨b,j,none⟩=false:=by
 obtain ⟨c,ty,h1,_⟩:=h;simp [World.frozen?,h1]
theorem Wr.setCells {b o:Nat}(cs:List Value)(X:List Nat):Wr w (w.setCells b o cs) b o cs.length X where
 other:=fun b' _ eD _=>wq eD cs o w
 blk:=fun m hm=>hm.setCells cs o w
 cell:=fun j hj=>World.cell?_setCells_out b cs o w ⟨b,j,none⟩ (fun _ _=>hj)
theorem Row.setCells {b o:Nat}{cs:List Value}(h:∀ j,j<cs.length→(w.cell? ⟨b,o+j,none⟩).isSome=true):Row (w.setCells b o cs) b o cs:=by
 intro j v hj;obtain ⟨eC,hv⟩:=aL.1 hj;rw [World.cell?_setCells_in b cs o w h j eC,hv]
end
end Go.Mid
namespace Go.Mid
open Go.RowKit
section
variable {w:World}{A:Nat→Prop}{E:dV An}{nx:dv}{γ:Nat}{h:cq}
theorem YC (m:MR w A E h nx){id:Nat}{o o':Obj An}{p:List Nat}{u tA:T An}{b o1:Nat}{cs:List Value}(hE:E id=some o)(hs:ew (some o) p=some u)(hl:qS (some o) p=some (b,o1))
 (tc:TC w A E nx tA cs) (fg:tA.cs=u.cs) (eY:put (some o) p tA=some o') (iq:tA.blk.Nodup) (ja:∀ x∈tA.blk,(x<w.heap.size∧¬ A x)∧(x∈u.blk∨¬ jH E x)) (hst:tA.st (nx.add γ))
 (pP:∀ q y,fL tA q=some y→nx y.1.g→fL u q=some y) :
 MR (w.setCells b o1 cs) A (cD E id (some o')) (cD h id (some (o'.mapA An.g))) (nx.add γ)∧jH E b∧(∀ x,jH (cD E id (some o')) x→x∈tA.blk∨jH E x)∧oW nx E (cD E id (some o')) ∧
  (∀ j,j<cs.length→(w.cell? ⟨b,o1+j,none⟩).isSome=true)∧∀ j,w.frozen? ⟨b,j,none⟩=false:=by
 obtain ⟨b',BH,h1,h2,h3,h4,h5⟩:=AN hs (m.at_ id o hE);rw [hl] at h1;cases h1;have hlen:cs.length=u.cs:=by rw [tc.len,fg]
 have l6:jH E b:=⟨id,o,hE,h3⟩;have Nc:b∉tA.blk:=fun hb=>(ja b hb).2.elim (h5 (m.nd id o hE)) (fun k=>k l6)
 have hO:∀ j,j<cs.length→(w.cell? ⟨b,o1+j,none⟩).isSome=true:=fun j hj=>h2.cells j (by omega)
 have W:Wr w (w.setCells b o1 cs) b o1 u.cs u.blk:=by rw [← hlen];exact Wr.setCells cs u.blk
 have hp:oY w (w.setCells b o1 cs) A E nx (nx.add γ) id o p u tA b o1 :=
  ⟨nx.eP γ,by rw [(xi b cs o1 w).1];exact au _,hE,hs,hl,fg,W,pP,fun x hx=>by rw [(xi b cs o1 w).1];exact (ja x hx).1,iq,fun x hx=>(ja x hx).2,hst⟩
 have hm:=m.put hp eY (fun f=>(tc.frame f (fun x hx=>wq (fun e:x=b=>Nc (e ▸ hx)) cs o1 w)).at_ (Row.setCells hO))
 refine ⟨hm,l6,fun x hx=>(hp.owned m eY hx).imp (fun h=>h) (·.1),((hp.ug m eY).fr m).hE,hO,fun j=>?_⟩
 obtain ⟨mm,QV⟩:=(m.at_ id o hE).pQ b h3;exact QV.frozen
end
section
variable {P:Program}{o:Oper}{a:Act}{w:World}{A:Nat→Prop}{E:dV An}{nx:dv}{γ:Nat}{v:MV}{h h':cq}{s:gJ}{K:jC}{d:Option Nat}
theorem YD {t:TypeId}{x y:Operand}{b o1:Nat}(ho:o.op=.store t x y)(hU:qO P t=true)(hx:a.eval x=.pointer (some ⟨b,o1,none⟩))(hn:(a.eval y).cells.size=P.cellsOf t)
 (hc:∀ j,j<(a.eval y).cells.toList.length→(w.cell? ⟨b,o1+j,none⟩).isSome=true) (hf:∀ j,w.frozen? ⟨b,j,none⟩=false) (h1:∀ c∈(a.eval y).cells.toList,c.oneCell'=true) :
 (execOp a.eval o).run P w=.ok .skip (w.setCells b o1 (a.eval y).cells.toList):=by
 have hst:=jl (P:=P) b o1 (a.eval y).cells.toList 0 w (by simpa using hc) (fun j _=>hf _) h1
 simp only [du] at hst;simp only [execOp,ho,hx,Instr.storeAt,Instr.sureAddr,bx,bM,aV,storeVar,D5 w hU];rw [if_neg (by simp [hn])]
 simp only [bx,hst,aV,bM]
end
end Go.Mid
namespace Go.Mid
open Go.RowKit
section
variable {P:Program}{o:Oper}{a:Act}{w:World}{A:Nat→Prop}{E:dV An}{nx:dv}{γ:Nat}{v:MV}{h h':cq}{s:gJ}{K:jC}{d:Option Nat}
theorem MR.lz (m:MR w A E h nx){id:Nat}{p:List Nat}{u:T An}(hs:ew (E id) p=some u):∃ ob,E id=some ob:=by
 cases hE:E id with
 | none=>rw [hE] at hs;cases p<;>simp [ew] at hs
 | some ob=>exact ⟨ob,rfl⟩
theorem D2R (m:MR w A E h nx){id:Nat}{np:Option (List Nat)}{rp:List Nat}{g o0:Nat}{val:Value}{old:T Nat}(hv:bT w A E nx (.ptr id np rp g o0) val)(hl:look (h id) np rp=some (old,g,o0)) :
 ∃ b ob u,val=.pointer (some ⟨b,o0,none⟩)∧E id=some ob∧qS (some ob) (rG np rp)=some (b,o0)∧ew (some ob) (rG np rp)=some u∧old=u.mapA An.g:=by
 obtain ⟨an,tA,n5,hg,rfl⟩:=m.look hl;obtain ⟨b,hb,_⟩:=m.sS n5;simp only [bT] at hv;obtain ⟨_,ad,rfl,re⟩:=hv;obtain ⟨z,hn⟩:=Gj n5;obtain ⟨b',jt,rfl⟩:=re an z hn hg;rw [hb] at jt;cases jt;have dP:=ML n5;obtain ⟨ob,hE⟩:=m.lz dP;rw [hE] at n5 dP;exact ⟨b,ob,tA,rfl,hE,m.wu hE n5 hb,dP,rfl⟩
theorem YE (hm:MR w A E h nx)(hγ:¬ nx γ){t:TypeId}{x y:Operand}{id:Nat}{path:List Nat}{b o1:Nat}{ob:Obj An}{yv:MV}(ho:o.op=.store t x y)(hU:qO P t=true)(hx:a.eval x=.pointer (some ⟨b,o1,none⟩))
 (hE:E id=some ob) (hl:qS (some ob) path=some (b,o1)) {u:T An} (hu:ew (some ob) path=some u) (RC:u.cs=P.cellsOf t) (hy:bT w A E nx yv (a.eval y))
 (he:yJ γ h (P.cellsOf t) id path yv=some (v,h')):cJ P o a w A E nx γ v h':=by
 unfold yJ at he;split at he
 · rename_i t1 h1 hi;split at he
   · rename_i fg;split at he
     · rename_i on eY;simp only [aa,ae] at he;obtain ⟨rfl,rfl⟩:=he;obtain ⟨E1,tA,k⟩:=Ri yv hi hm hy;have xm:tA.cs=P.cellsOf t:=by rw [← fg,← k.er,T.ky]
       rw [k.mr.er id,← k.er,Gn] at eY;cases iK:put (E1 id) path tA with
       | none=>simp [iK] at eY
       | some o' =>
         simp only [iK,ar,aa] at eY;subst eY;have oc:∃ u1,ew (E1 id) path=some u1:=by
          have key:∀ (p:List Nat) (t v t':T An),dg t p v=some t'→∃ u,c6 t p=some u:=by
           intro p
           induction p with
           | nil=>intro t v t' _;exact ⟨t,by simp [c6]⟩
           | cons i r ih =>
             intro t v t' hk;cases t with
             | p pv =>
               cases pv<;>simp only [dg,reduceCtorEq] at hk;rename_i l;simp only [c6];split at hk
               · rename_i x0 y7
                 try simp only [y7]
                 split at hk
                 · rename_i w0 xq;exact ih _ _ _ xq
                 · cases hk
               · cases hk
             | m=>simp [dg] at hk
             | agg l =>
               simp only [dg] at hk;simp only [c6];split at hk
               · rename_i x0 y7
                 try simp only [y7]
                 split at hk
                 · rename_i w0 xq;exact ih _ _ _ xq
                 · cases hk
               · cases hk
             | vec a0 z l n =>
               simp only [dg] at hk;simp only [c6];split at hk
               · rename_i x0 y7
                 try simp only [y7]
                 split at hk
                 · rename_i w0 xq;exact ih _ _ _ xq
                 · cases hk
               · cases hk
             | mp a0 ks l =>
               simp only [dg] at hk;simp only [c6];split at hk
               · rename_i x0 y7
                 try simp only [y7]
                 split at hk
                 · rename_i w0 xq;exact ih _ _ _ xq
                 · cases hk
               · cases hk
             | hole=>simp [dg] at hk
          cases qy:E1 id with
          | none=>rw [qy] at iK;cases path<;>simp [put] at iK
          | some YF =>
            rw [qy] at iK;cases YF with
            | cell a0 t0 =>
              simp only [put] at iK;split at iK
              · rename_i w0 xq;rw [BG];exact key _ _ _ _ xq
              · cases iK
            | vec a0 z l =>
              cases path with
              | nil=>simp [put] at iK
              | cons i r =>
                simp only [put] at iK;simp only [ew];split at iK
                · rename_i x0 y7
                  try simp only [y7]
                  split at iK
                  · rename_i w0 xq;exact key _ _ _ _ xq
                  · cases iK
                · cases iK
            | mp a0 ks l =>
              cases path with
              | nil=>simp [put] at iK
              | cons i r =>
                simp only [put] at iK;simp only [ew];split at iK
                · rename_i x0 y7
                  try simp only [y7]
                  split at iK
                  · rename_i w0 xq;exact key _ _ _ _ xq
                  · cases iK
                · cases iK
            | gone=>cases path<;>simp [put] at iK
         obtain ⟨u1,Gw⟩:=oc;obtain ⟨YF,qy⟩:=k.mr.lz Gw;obtain ⟨u',e1,e2,e3⟩:=k.ls id path u1 Gw;rw [hE,hu] at e1;cases e1;rw [hE,qy] at e3;rw [qy] at Gw iK;obtain ⟨k1,k2,k3,k4,k5,k6⟩:=YC k.mr qy Gw (by rw [e3];exact hl) k.tc (by rw [xm,← RC,e2]) iK k.nd
          (fun x hx=>⟨hm.lt x (k.own x hx).1,.inr (k.own x hx).2⟩) k.st (fun q y hy eC=>by rw [k.new q y hy] at eC;exact (hγ eC).elim)
         have hsz:(a.eval y).cells.size=P.cellsOf t:=by rw [← eg,k.tc.len,xm]
         have il:=YD ho hU hx hsz k5 k6 k.one;refine ⟨undef,_,A,_,.inr ⟨il,rfl⟩,by simp only [bT],k1,?_⟩
         obtain ⟨s1,s2,s3,s4⟩:=xi b (a.eval y).cells.toList o1 w;refine gK.of (E1:=E1) ⟨s2,s3,s4⟩ (by rw [s1];exact au _) (fun x _ hx=>wq (fun e:x=b=>hx (e ▸ k.sub b k2)) _ _ _) ?_ (k.ns.Ej nx) k4
         intro x _ hx;rcases k3 x hx with hx | hx
         · exact (k.own x hx).1
         · exact k.sub x hx
     · cases he
   · cases he
 · cases he
end
end Go.Mid
namespace Go.Mid
open Go.RowKit
theorem RD:∀ (l:List (T An)) (n:Nat),(T.b9 (l.take n)).Sublist (T.b9 l)
 | [],n=>by simp [T.b9]
 | t::r,0=>by simp [T.b9]
 | t::r,n+1=>by
   simp only [bV,T.b9];exact (List.Sublist.refl _).append (RD r n)
theorem YG {nx:dv}:∀ {l:List (T An)} {n:Nat},T.ku nx l→T.ku nx (l.take n)
 | [],n,h=>by simpa using h
 | t::r,0,h=>by simp only [ft,T.ku]
 | t::r,n+1,h=>by
   simp only [bV,T.ku] at h ⊢;exact ⟨h.1,YG h.2⟩
theorem YH {w:World}{A:Nat→Prop}{E:dV An}{nx:dv}:∀ {l:List (T An)} {n b o:Nat},cK w A E nx l b o→cK w A E nx (l.take n) b o
 | [],n,b,o,h=>by simpa using h
 | t::r,0,b,o,h=>by simp only [ft,cK]
 | t::r,n+1,b,o,h=>by
   simp only [bV,cK] at h ⊢;exact ⟨h.1,YH h.2⟩
section
variable {P:Program}{o:Oper}{a:Act}{w:World}{A:Nat→Prop}{E:dV An}{nx:dv}{γ:Nat}{v:MV}{h h':cq}{s:gJ}{K:jC}{d:Option Nat}
 (hs:qd P w A E nx s a) (hm:MR w A E h nx) (hγ:¬ nx γ)
include hs hm hγ
theorem C83 {t t1 t2:TypeId}{x y:Operand}{x' y':dO}(ho:o.op=.store t x y)(hx:fB P t1 x=some x')(hy:fB P t2 y=some y')(hU:qO P t=true)
 (he:cf K γ d s h (.store (P.cellsOf t) x' y')=some (v,h')):cJ P o a w A E nx γ v h':=by
 have dL:=j0 hs hx;have uX:=j0 hs hy;simp only [cf,Gc] at he;split at he
 · rename_i id np rp g0 o0 hp;rw [hp] at dL;split at he
   · rename_i old s' oo hl;split at he
     · rename_i hc;obtain ⟨rfl,rfl,fg⟩:=hc;obtain ⟨b,ob,u,cL,hE,jS,hu,rfl⟩:=D2R hm dL hl;rw [T.ky] at fg;split at he
       · rename_i uU q9 off len g' ag z l n' hyv hold;split at he
         · rename_i oX;obtain ⟨rfl,rfl,rfl,rfl,hlen⟩:=oX;split at he
           · rename_i on eY;simp only [aa,ae] at he;obtain ⟨rfl,rfl⟩:=he;cases u<;>simp only [T.mapA,reduceCtorEq,T.vec.injEq] at hold;rename_i an z0 lA n0;obtain ⟨rfl,rfl,rfl,rfl⟩:=hold;rw [hyv] at uX;simp only [bT] at uX;obtain ⟨_,ad,cap,C3,nL,hh⟩:=uX;have bY:fq (E uU) (some (rG np rp))=some (an,some z0):=by
              rw [hE]
              have:=M5 (r:=[]) hu
              rw [bE] at this;exact this
             have kN:=hh an z0 bY rfl;have hT:(T.vec an.g z0 ((T.cQ An.g lA).take len) len:T Nat)=(T.vec an z0 (lA.take len) len).mapA An.g:=by
              simp only [T.mapA,T.mapAs_eq,bO]
             rw [hm.er uU,hT,Gn,hE] at eY;cases iK:put (some ob) (rG np rp) (T.vec an z0 (lA.take len) len) with
             | none=>simp [iK] at eY
             | some o' =>
               simp only [iK,ar,aa] at eY;subst eY;obtain ⟨b',BH,e1,lh,_,jb,_⟩:=AN hu (hm.at_ uU ob hE);simp only [TAt] at lh;obtain ⟨_,_,_,BO,_,l8⟩:=lh;have hst:(T.vec an z0 lA n0).st nx:=hm.ud (by rw [hE];exact hu)
               have iq:(T.vec an z0 lA n0).blk.Nodup:=by
                obtain ⟨rest,p1,_⟩:=Ei hu iK;exact (aT.1 (p1.nodup_iff.1 (hm.nd uU ob hE))).1
               have wC:∀ x,x∈(T.vec an z0 (lA.take len) len).blk→x∈(T.vec an z0 lA n0).blk:=by
                intro x hx;simp only [T.blk,ay] at hx ⊢;exact hx.imp (fun h=>h) (fun h=>(RD lA len).subset h)
               have tc:TC w A E nx (T.vec an z0 (lA.take len) len) [.slice ad len cap]:=by
                simp only [TC,VB];refine ⟨ad,cap,rfl,by rw [aY];omega,kN,?_⟩
                cases hb:an.b with
                | none =>
                  simp only [hb] at l8;exact ⟨by rw [l8.1,gQ],l8.2⟩
                | some b2 =>
                  simp only [hb] at l8;exact ⟨l8.1,dI (by rw [aY];exact Nat.min_le_right _ _) l8.2.1,fun t ht=>l8.2.2.1 t (c8 ht),YH l8.2.2.2⟩
               have r0:(T.vec an z0 (lA.take len) len).blk.Nodup:=by
                simp only [T.blk] at iq ⊢;exact iq.sublist ((List.Sublist.refl _).append (RD lA len))
               have RE:(T.vec an z0 (lA.take len) len).st nx:=by
                simp only [T.st] at hst ⊢;exact ⟨hst.1,YG hst.2⟩
               obtain ⟨k1,k2,k3,k4,k5,k6⟩:=YC hm hE hu jS tc rfl iK r0 (fun x hx=>⟨hm.kp hE (jb x (wC x hx)),.inl (wC x hx)⟩) (T.kx (nx.eP γ) RE)
                (fun q y hy _=>by
                  cases q with
                  | nil=>exact hy
                  | cons i r =>
                    simp only [BD] at hy ⊢;cases ht:(lA.take len)[i]? with
                    | none=>rw [ht] at hy;cases hy
                    | some t =>
                      have h1:lA[i]?=some t:=by
                       have eC:=(aL.1 ht).1;rw [dQ (by rw [aY] at eC;omega)] at ht
                       exact ht
                      rw [ht] at hy;rw [h1];exact hy)
               have xk:(a.eval y).cells.toList=[.slice ad len cap]:=by rw [C3];rfl
               have il:=YD ho hU cL (by rw [C3,← fg];rfl) (by rw [xk];exact k5) k6 (by rw [xk];intro c hc;simp at hc;subst hc;rfl)
               rw [xk] at il;obtain ⟨s1,s2,s3,s4⟩:=xi b [Value.slice ad len cap] oo w;refine ⟨undef,_,A,_,.inr ⟨il,rfl⟩,by simp only [bT],k1,?_⟩
               refine gK.of (E1:=E) ⟨s2,s3,s4⟩ (by rw [s1];exact au _) (fun x _ hx=>wq (fun e:x=b=>hx (e ▸ k2)) _ _ _) ?_ (oW.refl _ _) k4
               intro x _ hx;rcases k3 x hx with hx | hx
               · exact ⟨uU,ob,hE,jb x (wC x hx)⟩
               · exact hx
           · cases he
         · exact YE hm hγ ho hU cL hE jS hu fg uX he
       · exact YE hm hγ ho hU cL hE jS hu fg uX he
     · cases he
   · cases he
 · cases he
end
end Go.Mid
namespace Go.Mid
open Go.RowKit
section
variable {w w':World}{A:Nat→Prop}{E:dV An}{nx nx':dv}{h:cq}
mutual
theorem TAt.tc:∀ {t:T An} {b o:Nat},TAt w A E nx t b o→∃ cs,TC w A E nx t cs∧Row w b o cs
 | .p v,b,o,k=>by simp only [TAt] at k;obtain ⟨cs,h1,h2⟩:=k;exact ⟨cs,by simpa only [TC] using h1,h2⟩
 | .m v,b,o,k=>by simp only [TAt] at k;obtain ⟨h0,Bw,val,h1,h2⟩:=k;exact ⟨[val],by simp only [TC];exact ⟨h0,Bw,val,h1,rfl⟩,h2⟩
 | .agg l,b,o,k=>by simp only [TAt] at k;obtain ⟨cs,h1,h2⟩:=cK.tc k;exact ⟨cs,by simpa only [TC] using h1,h2⟩
 | .vec an z l n,b,o,k=>by
   simp only [TAt] at k;obtain ⟨a,cap,h1,h2,h3,h4⟩:=k;exact ⟨[.slice a n cap],by simp only [TC,VB];exact ⟨a,cap,rfl,h2,h3,h4⟩,h1⟩
 | .mp ..,b,o,k=>by simp only [TAt] at k
 | .hole n,b,o,k=>by
   simp only [TAt] at k;obtain ⟨cs,h1,h2⟩:=QW n k;exact ⟨cs,by simpa only [TC] using h1,h2⟩
theorem cK.tc:∀ {l:List (T An)} {b o:Nat},cK w A E nx l b o→∃ cs,kq w A E nx l cs∧Row w b o cs
 | [],b,o,_=>⟨[],by simp only [kq],Row.nil⟩
 | t::r,b,o,k=>by
   simp only [cK] at k;obtain ⟨c,h1,h2⟩:=TAt.tc k.1;obtain ⟨d,h3,h4⟩:=cK.tc k.2;refine ⟨c++d,by simp only [kq];exact ⟨c,d,rfl,h1,h3⟩,Row.append.2 ⟨h2,?_⟩⟩
   rw [h1.len];exact h4
end
theorem kq.append {l m:List (T An)}{cs ds:List Value}(h:kq w A E nx l cs)(k:kq w A E nx m ds):kq w A E nx (l++m) (cs++ds):=by
 induction l generalizing cs with
 | nil=>simp only [kq] at h;subst h;exact k
 | cons t r ih =>
   simp only [kq,aS] at h ⊢;obtain ⟨c,d,rfl,h1,h2⟩:=h;exact ⟨c,d++ds,by simp,h1,ih h2⟩
theorem cK.append {l m:List (T An)}{b o:Nat}:cK w A E nx (l++m) b o↔cK w A E nx l b o∧cK w A E nx m b (o+T.dm l):=by
 induction l generalizing o with
 | nil=>simp only [a7,cK,T.dm,du,true_and]
 | cons t r ih=>simp only [aS,cK,ih,T.dm,Nat.add_assoc,and_assoc]
structure y8 (w w':World)(A:Nat→Prop)(E:dV An)(nx nx':dv)(id:Nat)(o':Obj An):Prop where
 hn:nx.le nx'
 sz:w.heap.size≤w'.heap.size
 ch:∀ b,b<w.heap.size→(A b∨∃ j o,j≠id∧E j=some o∧b∈o.blk)→w'.heap[b]?=w.heap[b]?
 ns:∀ np y,fq (some o') np=some y→nx y.1.g→fq (E id) np=some y
 lt:∀ b∈o'.blk,b<w'.heap.size∧¬ A b
 nd:o'.blk.Nodup
 dj:∀ b∈o'.blk,∀ j o,j≠id→E j=some o→b∉o.blk
 st:o'.st nx'
theorem y8.fr {id:Nat}{o':Obj An}(m:MR w A E h nx)(s:y8 w w' A E nx nx' id o'):Fr w w' A A E (cD E id (some o')) nx nx' :=
 ⟨fun _ h=>h,fun b hb=>s.ch b (m.im b hb) (.inl hb),fun i np an z bY hg=>by
   by_cases e:i=id
   · subst e;rw [nM] at bY;exact s.ns np _ bY hg
   · rw [nT E _ e] at bY;exact bY,s.hn⟩
theorem MR.Et (m:MR w A E h nx){id:Nat}{o':Obj An}(s:y8 w w' A E nx nx' id o')(lh:OAt w' A (cD E id (some o')) nx' o') :
 MR w' A (cD E id (some o')) (cD h id (some (o'.mapA An.g))) nx':=by
 have f:=s.fr m;constructor
 · intro i;by_cases e:i=id
   · subst e;simp [cD]
   · simp [cD,e,m.er i]
 · intro i o ho;by_cases e:i=id
   · subst e;rw [nM] at ho;cases ho;exact lh
   · rw [nT E _ e] at ho;exact OAt.frame f (fun x hx=>s.ch x (m.kp ho hx).1 (.inr ⟨i,o,e,ho,hx⟩)) (m.at_ i o ho)
 · rintro b ⟨i,o,ho,hb⟩;by_cases e:i=id
   · subst e;rw [nM] at ho;cases ho;exact s.lt b hb
   · rw [nT E _ e] at ho
     have:=m.kp ho hb
     exact ⟨br this.1 s.sz,this.2⟩
 · intro i o ho;by_cases e:i=id
   · subst e;rw [nM] at ho;cases ho;exact s.nd
   · rw [nT E _ e] at ho;exact m.nd i o ho
 · intro i j o o1 gU ho nu b hb n8;by_cases e:i=id
   · subst e;rw [nM] at ho;cases ho;rw [nT E _ (dB gU)] at nu;exact s.dj b hb j o1 (dB gU) nu n8
   · rw [nT E _ e] at ho;by_cases e':j=id
     · subst e';rw [nM] at nu;cases nu;exact s.dj b n8 i o e ho hb
     · rw [nT E _ e'] at nu;exact m.dj i j o o1 gU ho nu b hb n8
 · intro b hb;exact br (m.im b hb) s.sz
 · intro i o ho;by_cases e:i=id
   · subst e;rw [nM] at ho;cases ho;exact s.st
   · rw [nT E _ e] at ho;exact Obj.kx s.hn (m.st i o ho)
end
section
variable {P:Program}{w:World}
structure lB (P:Program)(w:World)(size:Nat)(x:Value)(n:Nat)(news:List Value):Prop where
 val:∃ xb cap,x=.slice xb n cap
 len:news.length=n*size
 rd:∀ w',w'.heap=w.heap→(iA size n x).run P w'=.ok news.toArray w'
 pre:∀ k,k≤n→(iA size k x).run P w=.ok (news.take (k*size)).toArray w
theorem lB.ph {size n cap:Nat}{news:List Value}{a:Option Addr}(hl:news.length=n*size)(h:n=0∨∃ b o,a=some ⟨b,o,none⟩∧Row w b o news):lB P w size (.slice a n cap) n news where
 val:=⟨a,cap,rfl⟩
 len:=hl
 rd:=by
  intro w' hw';cases a with
  | none =>
    rcases h with rfl | ⟨_,_,h,_⟩
    · have:news=[]:=bA (by simpa using hl)
      subst this;exact jL w' _ _ _ _
    · cases h
  | some a =>
    refine gY w' size n a n cap news hl ?_;intro j v hj;rcases h with rfl | ⟨b,o,h,hr⟩
    · have:news=[]:=bA (by simpa using hl)
      subst this;simp at hj
    · simp only [aa] at h;subst h;rw [ue,show w'.cell? ⟨b,o+j,none⟩=w.cell? ⟨b,o+j,none⟩ by simp [World.cell?,hw']]
      exact hr j v hj
 pre:=by
  intro k hk;have xr:(news.take (k*size)).length=k*size:=by rw [aY,hl];exact da (jm _ hk)
  cases a with
  | none =>
    rcases h with rfl | ⟨_,_,h,_⟩
    · have:news=[]:=bA (by simpa using hl)
      subst this;rw [gQ];exact jL w _ _ _ _
    · cases h
  | some a =>
    refine gY w size k a n cap _ xr ?_;intro j v hj;rcases h with rfl | ⟨b,o,h,hr⟩
    · have:news=[]:=bA (by simpa using hl)
      subst this;simp at hj
    · simp only [aa] at h;subst h;rw [ue];refine hr j v ?_;have eC:=(aL.1 hj).1;rw [aY] at eC
      rwa [dQ (by omega)] at hj
section
variable {t ty e:TypeId}{i:TypeInfo}{z:Value}(ht:P.underlying t=some (.slice e))(hi:P.info? e=some i)
include ht hi
theorem RF {x:Value}(a:Option Addr)(len cap:Nat)(hx:lB P w i.size x 0 [])(hc:len≤cap) :
 (db #[t,t] ty #[.slice a len cap,x]).run P w=.ok (.slice a len cap) w:=by
 obtain ⟨xb,xc,rfl⟩:=hx.val;have hf:=hx.rd w rfl;cases a<;>simp [db,a8 ht,sizeOf,typeInfo,hi,gR,hf,hc,storeCells]
theorem C5p {x:Value}{b len n cap:Nat}{news:List Value}(hx:lB P w i.size x n news)(hc:len+n≤cap)(h1:∀ u∈news,u.oneCell'=true)
 (hO:∀ j,j<news.length→(w.cell? ⟨b,len*i.size+j,none⟩).isSome=true) (hf:∀ j,w.frozen? ⟨b,j,none⟩=false) :
 (db #[t,t] ty #[.slice (some ⟨b,0,none⟩) len cap,x]).run P w=.ok (.slice (some ⟨b,0,none⟩) (len+n) cap) (w.setCells b (len*i.size) news):=by
 obtain ⟨xb,xc,rfl⟩:=hx.val;have RG:=hx.rd w rfl;have hst:=jl (P:=P) b (len*i.size) news 0 w (by simpa using hO) (fun j _=>hf _) h1
 simp only [du] at hst;simp [db,a8 ht,sizeOf,typeInfo,hi,gR,RG,hc,ue,hst]
theorem C3g (hz:i.zero=some z){x:Value}{a:Option Addr}{len n cap:Nat}{olds news:List Value}(hs:lB P w i.size (.slice a len cap) len olds)(hx:lB P w i.size x n news)(hc:cap<len+n)
 (Eo:((len+n:Nat):Int)≤9223372036854775807) (ra:(len+n)*i.bytes≤140737488355328) :
 (db #[t,t] ty #[.slice a len cap,x]).run P w=.ok (.slice (some ⟨w.heap.size,0,none⟩) (len+n) (grownCap w (len+n) cap e))
   (w.drew.alloc (.cells (olds++news++(a6 z.cells (grownCap w (len+n) cap e-(len+n))).toList).toArray e)):=by
 obtain ⟨xb,xc,rfl⟩:=hx.val;have hn:¬ (len+n≤cap):=by omega
 have IJ:¬ (9223372036854775807<((len:Int)+(n:Int))):=by omega
 have h48:=mi hc ra;have RH:¬ (281474976710656<Builtin.nextslicecap (len+n) cap*i.bytes):=by omega
 have hf:=hx.rd w.drew rfl;have Nd:=hs.rd w.drew rfl;simp [db,a8 ht,sizeOf,typeInfo,zeroValue,hi,hz,gR,hn,IJ,RH,Question.forced,hf,Nd,newRow,grownCap];congr 2;apply gP;simp
end
structure Eu (w w':World)(an:An)(γ z len n:Nat)(a':Option Addr)(pj:Nat)(bo:Option Nat)(capn:Nat)(cs:List Value):Prop where
 os:w'.os=w.os
 tape:w'.tape=w.tape
 output:w'.output=w.output
 size:w.heap.size≤w'.heap.size
 bn:∀ b,b<w.heap.size→an.b≠some b→w'.heap[b]?=w.heap[b]?
 le:len+n≤pj
 kN:lg ⟨γ,bo,capn⟩ z 0 (len+n) a' pj
 non:bo=none→len+n=0∧capn=0
 YI:∀ b,bo=some b→(an.b=some b∨b=w.heap.size∧b<w'.heap.size)∧l4 w' b (capn*z)∧len+n≤capn∧Row w' b 0 cs
theorem RI {t ty e:TypeId}{i:TypeInfo}{zv:Value}(ht:P.underlying t=some (.slice e))(hi:P.info? e=some i)(hz:i.zero=some zv)(sV:zv.cells.size=i.size)(γ:Nat){x:Value}{a:Option Addr}{len n cap:Nat}{an:An}{olds news:List Value}
 (hh:lg an i.size 0 len a cap) (nL:len≤cap) (pR:an.b=none→an.cap=0) (IK:olds.length=len*i.size) (hb:∀ b,an.b=some b→l4 w b (an.cap*i.size)∧len≤an.cap∧Row w b 0 olds)
 (hx:lB P w i.size x n news) (h1:∀ u∈news,u.oneCell'=true) (Eo:len+n≤room) (ra:(len+n)*i.bytes≤room) :
 ∃ a' pj w' bo capn,(db #[t,t] ty #[.slice a len cap,x]).run P w=.ok (.slice a' (len+n) pj) w'∧Eu w w' an γ i.size len n a' pj bo capn (olds++news):=by
 have IJ:len+n≤140737488355328:=Eo;have IL:(len+n)*i.bytes≤140737488355328:=ra;by_cases hn:n=0
 · subst hn
   have:news=[]:=bA (by simpa using hx.len)
   subst this;refine ⟨a,cap,w,an.b,an.cap,RF ht hi a len cap hx nL,rfl,rfl,rfl,au _,fun _ _ _=>rfl,nL,?_,?_,?_⟩
   · simp only [lg] at hh ⊢;exact hh
   · intro AQ;simp only [lg,AQ] at hh;exact ⟨hh.1,pR AQ⟩
   · intro b wC;obtain ⟨h2,h3,h4⟩:=hb b wC;exact ⟨.inl wC,h2,h3,by rw [bE];exact h4⟩
 · by_cases hc:len+n≤cap
   · cases kM:an.b with
     | none=>simp only [lg,kM] at hh;omega
     | some b =>
       obtain ⟨h2,h3,h4⟩:=hb b kM;simp only [lg,kM] at hh;obtain ⟨n7,hh⟩:=hh;rcases hh with ⟨h5,h6⟩ | h5
       · omega
       · have ha:a=some ⟨b,0,none⟩:=by rw [h5,dk]
         subst ha;have hle:len*i.size+news.length≤an.cap*i.size:=by
          rw [hx.len,← ir];exact jm _ (by omega)
         have hO:∀ j,j<news.length→(w.cell? ⟨b,len*i.size+j,none⟩).isSome=true:=fun j hj=>(h2.cell (by omega)).1
         have hr:=C5p (ty:=ty) ht hi hx hc h1 hO (fun j=>h2.frozen)
         obtain ⟨s1,s2,s3,s4⟩:=xi b news (len*i.size) w;refine ⟨_,_,_,some b,an.cap,hr,s2,s3,s4,by rw [s1];exact au _,fun x _ hx=>wq (fun e:x=b=>hx (e ▸ kM)) _ _ _,by omega,?_,by simp,?_⟩
         · simp only [lg];exact ⟨n7,.inr (by rw [dk])⟩
         · intro b' jt;cases jt;refine ⟨.inl kM,h2.setCells _ _ _,by omega,Row.append.2 ⟨?_,?_⟩⟩
           · refine h4.jh (fun j hj1 hj2=>?_)
             exact World.cell?_setCells_out b news (len*i.size) w ⟨b,j,none⟩ (fun _ _=>.inl (by simp only;omega))
           · rw [bS,IK];exact Row.setCells hO
   · have hso:lB P w i.size (.slice a len cap) len olds:=by
      refine lB.ph IK ?_;by_cases hl0:len=0
      · exact .inl hl0
      · cases kM:an.b with
        | none=>simp only [lg,kM] at hh;omega
        | some b =>
          obtain ⟨h2,h3,h4⟩:=hb b kM;simp only [lg,kM] at hh;obtain ⟨n7,hh⟩:=hh;rcases hh with ⟨h5,h6⟩ | h5
          · omega
          · exact .inr ⟨b,0,by rw [h5,dk],h4⟩
     have hr:=C3g (ty:=ty) ht hi hz hso hx (by omega) (by omega) IL
     have wA:=grownCap_ge w (len+n) cap e;have aia:grownCap w (len+n) cap e≤9223372036854775807:=j4 w (len+n) cap e (by unfold maxLen;omega)
     refine ⟨_,_,_,some w.heap.size,grownCap w (len+n) cap e,hr,rfl,rfl,rfl,by simp,fun b hb _=>ou w.drew _ b hb,wA,?_,by simp,?_⟩
     · simp only [lg];exact ⟨by omega,.inr (by rw [dk])⟩
     · intro b' jt;cases jt;have g:=Grown.drew w (olds++news++(a6 zv.cells (grownCap w (len+n) cap e-(len+n))).toList).toArray e;have hsz:(olds++news++(a6 zv.cells (grownCap w (len+n) cap e-(len+n))).toList).toArray.size=grownCap w (len+n) cap e*i.size:=by
        simp only [fD,aQ,IK,hx.len,eg,size_zeroCells,sV,← ir];congr 1;omega
       refine ⟨.inr ⟨rfl,by rw [g.size];omega⟩,?_,wA,g.row (p:=[]) (c:=olds++news) (q:=(a6 zv.cells (grownCap w (len+n) cap e-(len+n))).toList) (by simp)⟩
       have:=g.blk
       rwa [hsz] at this
end
end Go.Mid
namespace Go.Mid
open Go.RowKit
section
variable {w w':World}{A:Nat→Prop}{E:dV An}{nx nx':dv}{h:cq}
mutual
theorem C7a (g:Nat):∀ {t:T An} {cs:List Value},TC w A E nx t cs→TC w A E nx (t.mapA (m6 g)) cs
 | .p v,cs,h=>h
 | .m v,cs,h=>h
 | .agg l,cs,h=>by simp only [TC,T.mapA] at h ⊢;exact Nf g h
 | .vec an z l n,cs,h=>by
   simp only [TC,T.mapA] at h ⊢;obtain ⟨a,cap,h1,h2,h3,h4⟩:=h;exact ⟨a,cap,h1,by rw [T.mapAs_eq,aE];exact h2,h3,Yg g h4⟩
 | .mp ..,cs,h=>by simp only [TC] at h
 | .hole n,cs,h=>h
theorem Nf (g:Nat):∀ {l:List (T An)} {cs:List Value},kq w A E nx l cs→kq w A E nx (T.cQ (m6 g) l) cs
 | [],cs,h=>by simpa only [kq,T.cQ] using h
 | t::r,cs,h=>by
   simp only [kq,T.cQ] at h ⊢;obtain ⟨c,d,h1,h2,h3⟩:=h;exact ⟨c,d,h1,C7a g h2,Nf g h3⟩
end
mutual
theorem TC.one:∀ {t:T An} {cs:List Value},CG (t.mapA An.g)=true→TC w A E nx t cs→∀ c∈cs,c.oneCell'=true
 | .p v,cs,_,h=>by simp only [TC] at h;exact h.kz
 | .m v,cs,hs,h=>by
   simp only [TC] at h;obtain ⟨_,_,val,h1,rfl⟩:=h;intro c hc;simp only [aW] at hc;subst hc;cases v<;>simp only [T.mapA,CG,reduceCtorEq] at hs<;>simp only [bT] at h1
   · obtain ⟨_,_,_,rfl,_⟩:=h1;rfl
   · obtain ⟨_,_,rfl,_⟩:=h1;rfl
   · obtain ⟨_,rfl,_⟩:=h1;unfold vt;split<;>rfl
 | .agg l,cs,hs,h=>by simp only [TC] at h;simp only [T.mapA,CG] at hs;exact kq.one hs h
 | .vec ..,cs,_,h=>by
   simp only [TC] at h;obtain ⟨_,_,rfl,_⟩:=h;intro c hc;simp only [aW] at hc;subst hc;rfl
 | .mp ..,cs,_,h=>by simp only [TC] at h
 | .hole n,cs,hs,_=>by simp [T.mapA,CG] at hs
theorem kq.one:∀ {l:List (T An)} {cs:List Value},As (T.cQ An.g l)=true→kq w A E nx l cs→∀ c∈cs,c.oneCell'=true
 | [],cs,_,h=>by simp only [kq] at h;subst h;intro c hc;cases hc
 | t::r,cs,hs,h=>by
   simp only [kq] at h;simp only [T.cQ,As,ak] at hs;obtain ⟨c,d,rfl,h1,h2⟩:=h;intro x hx;rcases ay.1 hx with hx | hx
   · exact TC.one hs.1 h1 x hx
   · exact kq.one hs.2 h2 x hx
end
theorem RJ {l:List (T An)}(h:(l.map (T.mapA An.g)).all tu=true):∃ vs:List PV,l=vs.map .p:=by
 induction l with
 | nil=>exact ⟨[],rfl⟩
 | cons t r ih =>
   simp only [aH,dw,ak] at h;obtain ⟨vs,fX⟩:=ih h.2;cases t<;>simp only [T.mapA,tu,reduceCtorEq] at h
   · exact ⟨_::vs,by rw [fX];rfl⟩
   all_goals exact absurd h.1 (by simp)
theorem D2S {ts:List (T Nat)}(h:ts.all tu=true):∃ vs:List PV,ts=vs.map .p:=by
 induction ts with
 | nil=>exact ⟨[],rfl⟩
 | cons t r ih =>
   simp only [dw,ak] at h;obtain ⟨vs,fX⟩:=ih h.2;cases t<;>simp only [tu,reduceCtorEq] at h
   · exact ⟨_::vs,by rw [fX];rfl⟩
   all_goals exact absurd h.1 (by simp)
theorem Ng (g:Nat)(vs:List PV):nR g (vs.map .p)=vs.map .p:=by
 induction vs with
 | nil=>rfl
 | cons x r ih=>simp only [aH,nR,jO,jg] at ih ⊢;rw [ih]
theorem YJ {z:Nat}{l:List (T Nat)}(h:pI z l=true):T.dm l=l.length*z:=by
 induction l with
 | nil=>simp [T.dm]
 | cons t r ih =>
   simp only [pI,dw,ak,beq_iff_eq] at h;simp only [T.dm,bf,ih h.2,h.1,dA];omega
theorem l7.plain {γ:Nat}(hm:MR w A E h nx){vs:List PV}{cs:List Value}(hc:cU w A vs cs):l7 w A E nx γ cs (vs.map .p) h E (vs.map .p) where
 er:=by rw [cu];rfl
 mr:=hm
 tc:=uh.2 hc
 nd:=by rw [Ef];exact hZ
 own:=by rw [Ef];intro b hb;cases hb
 sub:=fun _ h=>h
 st:=MY vs
 ns:=jI.refl E
 new:=by
  intro i t ht q y hy;rw [aN] at ht;cases hv:vs[i]? with
  | none=>simp [hv] at ht
  | some v =>
    simp only [hv,ar,aa] at ht;subst ht;rw [Na] at hy;cases hy
 one:=hc.kz
 ls:=mQ.refl E
theorem fH.row:∀ {l:List PV} {b o z:Nat},fH w A l b o z→∃ cs,cU w A l cs∧Row w b o cs
 | [],b,o,z,_=>⟨[],by simp only [cU],Row.nil⟩
 | x::r,b,o,z,k=>by
   simp only [fH] at k;obtain ⟨⟨c,h1,h2,h3⟩,h4⟩:=k;obtain ⟨d,h5,h6⟩:=fH.row h4;exact ⟨c++d,by simp only [cU];exact ⟨c,d,rfl,h1,h5⟩,Row.append.2 ⟨h3,by rw [h2];exact h6⟩⟩
theorem YK {l:List (T An)}{b z:Nat}(k:cK w A E nx l b 0)(hz:∀ t∈l,t.cs=z){off len:Nat}(hl:off+len≤l.length):cK w A E nx ((l.drop off).take len) b (off*z):=by
 have e:l=l.take off++((l.drop off).take len++(l.drop off).drop len):=by rw [bN,bN]
 rw [e] at k;have h1:=(cK.append.1 k).2;rw [AG hz (by omega),bS] at h1
 exact (cK.append.1 h1).1
theorem RK {n:dv}:∀ {l m:List (T An)},(∀ t∈m,t∈l)→T.ku n l→T.ku n m:=by
 have get:∀ {l:List (T An)} {t:T An},t∈l→T.ku n l→t.st n:=by
  intro l
  induction l with
  | nil=>intro t ht;cases ht
  | cons x r ih =>
    intro t ht k;simp only [T.ku] at k;rcases aM.1 ht with rfl | ht
    · exact k.1
    · exact ih ht k.2
 intro l m
 induction m with
 | nil=>intro _ _;trivial
 | cons x r ih =>
   intro h k;simp only [T.ku];exact ⟨get (h x (by simp)) k,ih (fun t ht=>h t (by simp [ht])) k⟩
theorem RL {P:Program}{γ:Nat}(hm:MR w A E h nx){y:MV}{val:Value}{ts:List (T Nat)}{h1:cq}{z:Nat}(hv:bT w A E nx y val)(ht:rW h y=some (ts,h1))(hz:pI z ts=true) :
 ∃ news E1 lA,lB P w z val ts.length news∧l7 w A E nx γ news (nR γ ts) h1 E1 lA:=by
 unfold rW at ht;split at ht
 · cases ht
 · rename_i Rk iw;split at ht
   · rename_i qe;simp only [aa,ae] at ht;obtain ⟨rfl,rfl⟩:=ht;obtain ⟨vs,rfl⟩:=D2S qe;have hlen:∀ {cs:List Value},cU w A vs cs→cs.length=(vs.map (T.p (α:=Nat))).length*z:=by
      intro cs hc;rw [hc.len,← CU (α:=Nat),YJ hz]
     rw [Ng];cases y with
     | p v =>
       cases v<;>simp only [elems,reduceCtorEq] at iw;rename_i l;simp only [aa] at iw;have hl:l=vs:=by
        have:=congrArg mu iw
        rw [BB,BB] at this;exact cm this
       subst hl;obtain ⟨p,cap,rfl,nL,nX⟩:=vu.1 hv;rcases nX with rfl | ⟨b,o,z',rfl,hb,iw⟩
       · refine ⟨[],E,[],?_,l7.plain hm (vs:=[]) (by simp only [cU])⟩
         exact lB.ph (by simp) (.inl rfl)
       · obtain ⟨cs,h2,h3⟩:=iw.row;refine ⟨cs,E,_,?_,l7.plain hm h2⟩;rw [aE];exact lB.ph (by have:=hlen h2;rwa [aE] at this) (.inr ⟨b,o,rfl,h3⟩)
     | nil zz =>
       simp only [elems,aa] at iw;simp only [bT] at hv;obtain ⟨a,rfl⟩:=hv
       have:vs=[]:=by
        cases vs with
        | nil=>rfl
        | cons x r=>simp at iw
       subst this;exact ⟨[],E,[],lB.ph (by simp) (.inl rfl),l7.plain hm (vs:=[]) (by simp only [cU])⟩
     | own id path off len g =>
       simp only [elems] at iw;split at iw
       · rename_i g' z0 l iT;split at iw
         · rename_i hc;obtain ⟨rfl,hle⟩:=hc;simp only [aa] at iw;obtain ⟨an,lA,nA,rfl,rfl⟩:=hm.vec iT;have hB:=hm.uc nA;have bY:=sR nA;simp only [bT] at hv;obtain ⟨_,a,cap,rfl,nL,hh⟩:=hv;have kN:=hh an z0 bY rfl;rw [aE] at hle;have Ev:((lA.drop off).take len).map (T.mapA An.g)=vs.map .p:=by rw [← iw];simp
           obtain ⟨yc,Ew⟩:=RJ (l:=(lA.drop off).take len) (by rw [Ev];exact qe)
           have Gx:yc=vs:=by
            rw [Ew,cu] at Ev
            have:(yc.map (T.p (α:=Nat)))=vs.map .p:=Ev
            have:=congrArg mu this
            rw [BB,BB] at this;exact cm this
           subst Gx;have y9:yc.length=len:=by
            have:=congrArg cF Ew
            simp at this;omega
           simp only [VB] at hB;cases hb:an.b with
           | none =>
             simp only [hb] at hB
             have:len=0:=by have:=hB.1;subst this;simp at hle;omega
             subst this
             have:yc=[]:=bA y9
             subst this;exact ⟨[],E,[],lB.ph (by simp) (.inl rfl),l7.plain hm (vs:=[]) (by simp only [cU])⟩
           | some b =>
             simp only [hb] at hB;obtain ⟨_,_,Iv,lh⟩:=hB;have dP:=YK lh Iv hle;rw [Ew] at dP;obtain ⟨cs,h2,h3⟩:=(rf.1 dP).tc;simp only [TC,ed] at h2;refine ⟨cs,E,_,?_,l7.plain hm h2⟩;rw [aE,y9];refine lB.ph (by have:=hlen h2;rwa [aE,y9] at this) ?_
             simp only [lg,hb] at kN;rcases kN.2 with ⟨h5,_⟩ | h5
             · exact .inl h5
             · exact .inr ⟨b,off*z0,h5,h3⟩
         · cases iw
       · cases iw
     | ptr=>simp only [elems,reduceCtorEq] at iw
     | fC=>simp only [elems,reduceCtorEq] at iw
     | agg=>simp only [elems,reduceCtorEq] at iw
     | fn=>simp only [elems,reduceCtorEq] at iw
     | eO=>simp only [elems,reduceCtorEq] at iw
     | dead=>simp only [elems,reduceCtorEq] at iw
   · split at ht
     · rename_i id len g;split at ht
       · rename_i g1 z1 l gx;split at ht
         · rename_i hc;obtain ⟨rfl,RM⟩:=hc;simp only [aa,ae] at ht;obtain ⟨rfl,rfl⟩:=ht;simp only [elems] at iw;split at iw
           · rename_i g' z0 l2 iT;split at iw
             · rename_i hc;obtain ⟨rfl,hle⟩:=hc;simp only [aa] at iw;obtain ⟨an,lA,IM,rfl,BP,xZ,l8,iq,ja,dP⟩:=hm.ui gx;have IP:jG (h id) []=some (an.g,z1,l):=by rw [gx];rfl
               rw [IP] at iT;simp only [aa,ae] at iT;obtain ⟨rfl,rfl,rfl⟩:=iT;rw [fu,List.take_length] at iw;subst iw;have bY:fq (E id) (some [])=some (an,some z1):=by rw [IM];rfl
               simp only [bT] at hv;obtain ⟨_,a,cap,rfl,nL,hh⟩:=hv;have kN:=hh an z1 bY rfl;have hst:=hm.st id _ IM;simp only [Obj.st] at hst;have za:VB w A (cD E id (some .gone)) nx an z1 lA:=l8.frame (jI.fr (jI.gone E id) (dv.le_refl nx)) (fun _ _=>rfl)
               have IQ:(T.cQ An.g lA)=lA.map (T.mapA An.g):=T.mapAs_eq _ _;have fg:∃ news,kq w A (cD E id (some .gone)) nx lA news∧(l.length=0∨∃ b o,a=some ⟨b,o,none⟩∧Row w b o news):=by
                simp only [VB] at za;cases hb:an.b with
                | none =>
                  simp only [hb] at za;have h0:=za.1;subst h0;refine ⟨[],by simp only [kq],.inl (by rw [BP];rfl)⟩
                | some b =>
                  simp only [hb] at za;obtain ⟨cs,h2,h3⟩:=za.2.2.2.tc;refine ⟨cs,h2,?_⟩;simp only [lg,hb] at kN;rcases kN.2 with ⟨h5,_⟩ | h5
                  · exact .inl h5
                  · exact .inr ⟨b,0,by rw [h5,dk],h3⟩
               obtain ⟨news,zb,hrow⟩:=fg;refine ⟨news,cD E id (some .gone),T.cQ (m6 γ) lA,lB.ph (by rw [zb.len,← T.qX An.g,IQ,← BP,YJ hz]) hrow,?_⟩
               constructor
               · rw [← T.mapAs_eq,CY,IQ,← BP]
               · exact xZ
               · exact Nf γ zb
               · rw [yX];exact (aT.1 iq).2.1
               · rw [yX];exact fun b hb=>ja b (by simp [hb])
               · exact dP
               · exact CX nx γ lA
               · exact jI.gone E id
               · intro i t ht q y hy;rw [T.mapAs_eq,aN] at ht;cases hl:lA[i]? with
                 | none=>simp [hl] at ht
                 | some u =>
                   simp only [hl,ar,aa] at ht;subst ht;exact ID hy
               · exact kq.one (by rw [IQ,← BP];exact RM) zb
               · exact mQ.gone E id
             · cases iw
           · cases iw
         · cases ht
       · cases ht
     · cases ht
end
end Go.Mid
namespace Go.Mid
open Go.RowKit
section
variable {w w':World}{A:Nat→Prop}{E Eb:dV An}{nx:dv}{γ:Nat}{h hb:cq}
theorem Nh (hγ:¬ nx γ)(m:MR w A E h nx)(mb:MR w A Eb hb nx)(dP:∀ b,jH Eb b→jH E b)(hnE:oW nx E Eb){an:An}{z len n capn pj d:Nat}{a':Option Addr}{bo:Option Nat}{cs:List Value}{l:List (T An)}
 (k:Eu w w' an γ z len n a' pj bo capn cs) (hlen:l.length=len+n) (hz:∀ t∈l,t.cs=z) (htc:kq w A Eb nx l cs)
 (iq:(T.b9 l).Nodup) (ja:∀ b∈T.b9 l,jH E b∧(∀ j o,j≠d→Eb j=some o→b∉o.blk)∧an.b≠some b)
 (Gy:∀ b,an.b=some b→jH E b∧∀ j o,j≠d→Eb j=some o→b∉o.blk) (hst:T.ku (nx.add γ) l)
 (pP:∀ (i:Nat) (t:T An),l[i]?=some t→∀ q y,fL t q=some y→nx y.1.g→fq (Eb d) (some (i::q))=some y) :
 ∃ E2,MR w' A E2 (cD hb d (some (.vec γ z (l.map (T.mapA An.g))))) (nx.add γ)∧gK w A E nx w' A E2∧bT w' A E2 (nx.add γ) (.own d [] 0 (len+n) γ) (.slice a' (len+n) pj):=by
 have AQ:∀ b,bo=some b→(an.b=some b∨b=w.heap.size∧b<w'.heap.size):=fun b hb=>(k.YI b hb).1
 have vB:∀ np y,fq (some (.vec ⟨γ,bo,capn⟩ z l)) np=some y→nx y.1.g→fq (Eb d) np=some y:=by
  intro np y hy hg;cases np with
  | none=>simp [fq] at hy
  | some q =>
    have Ey:=hy;rw [sU] at hy;cases q with
    | nil =>
      simp only [Obj.pO,fL,c6,aa] at hy;subst hy;exact (hγ hg).elim
    | cons i r =>
      simp only [Obj.pO,BD] at hy;cases hl:l[i]? with
      | none=>simp [hl] at hy
      | some t=>simp only [hl,ah] at hy;exact pP i t hl r y hy hg
 have jb:∀ b∈(Obj.vec ⟨γ,bo,capn⟩ z l).blk,bo=some b∨b∈T.b9 l:=by
  intro b hb;simp only [Obj.blk,ay,Option.mem_toList] at hb;exact hb
 have zd:∀ b,jH E b→b<w.heap.size∧¬ A b:=m.lt;have s:y8 w w' A Eb nx (nx.add γ) d (.vec ⟨γ,bo,capn⟩ z l):=by
  refine ⟨nx.eP γ,k.size,?_,vB,?_,?_,?_,⟨nx.iW γ,hst⟩⟩
  · intro b hb nX;refine k.bn b hb (fun e=>?_)
    rcases nX with hA | ⟨j,o,hj,ho,l6⟩
    · exact (zd b (Gy b e).1).2 hA
    · exact (Gy b e).2 j o hj ho l6
  · intro b hb;rcases jb b hb with hb | hb
    · rcases AQ b hb with e | ⟨rfl,h2⟩
      · have:=zd b (Gy b e).1;exact ⟨br this.1 k.size,this.2⟩
      · exact ⟨h2,fun hA=>absurd (m.im _ hA) (by omega)⟩
    · have:=zd b (ja b hb).1;exact ⟨br this.1 k.size,this.2⟩
  · simp only [Obj.blk];cases l6:bo with
    | none=>simpa using iq
    | some b =>
      simp only [cp,aS,a7];refine b5.2 ⟨fun hb=>?_,iq⟩
      rcases AQ b l6 with e | ⟨rfl,_⟩
      · exact (ja b hb).2.2 e
      · have:=(zd _ (ja _ hb).1).1;omega
  · intro b hb j o hj ho l6;rcases jb b hb with hb | hb
    · rcases AQ b hb with e | ⟨rfl,_⟩
      · exact (Gy b e).2 j o hj ho l6
      · have:=(mb.kp ho l6).1;omega
    · exact (ja b hb).2.1 j o hj ho l6
 have f:=s.fr mb;have sW:∀ x∈T.b9 l,w'.heap[x]?=w.heap[x]?:=fun x hx=>k.bn x (zd x (ja x hx).1).1 (ja x hx).2.2
 have IU:=htc.frame f sW;have lh:OAt w' A (cD Eb d (some (.vec ⟨γ,bo,capn⟩ z l))) (nx.add γ) (.vec ⟨γ,bo,capn⟩ z l):=by
  simp only [OAt,VB];cases l6:bo with
  | none =>
    have:=k.non l6
    refine ⟨bA (by omega),this.2⟩
  | some b =>
    obtain ⟨_,h2,h3,h4⟩:=k.YI b l6;rw [l6] at IU;exact ⟨h2,by omega,hz,IU.at_ h4⟩
 refine ⟨cD Eb d (some (.vec ⟨γ,bo,capn⟩ z l)),?_,?_,?_⟩
 · have:=mb.Et s lh
   simpa only [Obj.mapA,T.mapAs_eq] using this
 · refine gK.of (E1:=Eb) ⟨k.os,k.tape,k.output⟩ k.size (fun b hb ho=>k.bn b hb (fun e=>ho (Gy b e).1)) ?_ hnE f.hE
   intro b eC ho;rcases AM ho with h1 | ⟨i,oi,hi,r6,AO⟩
   · rcases jb b h1 with h2 | h2
     · rcases AQ b h2 with e | ⟨rfl,_⟩
       · exact (Gy b e).1
       · omega
     · exact (ja b h2).1
   · exact dP b ⟨i,oi,r6,AO⟩
 · simp only [bT];refine ⟨nx.iW γ,_,_,rfl,k.le,fun qQ z' hn _=>?_⟩
   rw [nM] at hn;simp only [fq,aa,ae] at hn;obtain ⟨rfl,rfl⟩:=hn;exact k.kN
end
section
variable {P:Program}{o:Oper}{a:Act}{w:World}{A:Nat→Prop}{E:dV An}{nx:dv}{γ:Nat}{v:MV}{h h':cq}{s:gJ}{K:jC}{d:Option Nat}
theorem RN {c:Call}{t:TypeId}{x y:Operand}(ho:o.op=.call c)(pK:c.callee=.builtin .append)(oX:c.args=#[x,y])(sB:c.argTypes=#[t,t]) :
 (execOp a.eval o).run P w=match (db #[t,t] o.type #[a.eval x,a.eval y]).run P w with | .ok v w'=>.ok (.value v) w' | .halt e w'=>.halt e w':=by
 rw [BA ho pK];simp only [builtin,oX,sB];simp only [bx,bM];have e:qx a.eval #[x,y]=#[a.eval x,a.eval y]:=by simp
 rw [e];cases (db #[t,t] o.type #[a.eval x,a.eval y]).run P w<;>rfl
theorem YL {an:An}{z len:Nat}{l:List (T An)}(k:VB w A E nx an z l)(hl:len≤l.length):∃ olds,kq w A E nx (l.take len) olds∧olds.length=len*z∧(∀ t∈l.take len,t.cs=z) ∧
 (an.b=none→an.cap=0)∧∀ b,an.b=some b→l4 w b (an.cap*z)∧len≤an.cap∧Row w b 0 olds:=by
 simp only [VB] at k;cases hb:an.b with
 | none =>
   simp only [hb] at k;obtain ⟨rfl,k2⟩:=k;simp only [List.length_nil,Nat.le_zero] at hl;subst hl;exact ⟨[],by simp only [gQ,kq],by simp,by simp,fun _=>k2,by simp⟩
 | some b =>
   simp only [hb] at k;obtain ⟨k1,k2,k3,k4⟩:=k;have h1:=YK k4 k3 (off:=0) (len:=len) (by omega)
   rw [fu,dk] at h1;obtain ⟨olds,h2,h3⟩:=h1.tc;have hz:∀ t∈l.take len,t.cs=z:=fun t ht=>k3 t (c8 ht)
   refine ⟨olds,h2,?_,hz,by simp,fun b' jt=>?_⟩
   · rw [h2.len]
     have:=AG (l:=l) (i:=len) k3 hl
     exact this
   · cases jt;exact ⟨k1,by omega,h3⟩
theorem YM {l:List (T An)}{n:Nat}:∃ rest,T.b9 l=T.b9 (l.take n)++rest:=⟨T.b9 (l.drop n),by rw [← wo,bN]⟩
theorem D2T (hm:MR w A E h nx)(hγ:¬ nx γ){t e:TypeId}{xv yv:MV}{vx vy:Value}(ht:P.underlying t=some (.slice e))(rO:P.cellsOf e≠0)(wz:P.bytesOf e≠0)(hz:(vp P e).map cF=some (P.cellsOf e))
 (hx:bT w A E nx xv vx) (hy:bT w A E nx yv vy) (he:rJ γ d h (P.cellsOf e) (P.bytesOf e) xv yv=some (v,h')) (ty:TypeId) :
 ∃ val w' E2,(db #[t,t] ty #[vx,vy]).run P w=.ok val w'∧MR w' A E2 h' (nx.add γ)∧gK w A E nx w' A E2∧bT w' A E2 (nx.add γ) v val:=by
 cases r7:vp P e with
 | none=>simp [r7] at hz
 | some zc =>
   simp only [r7,ar,aa] at hz;obtain ⟨zv,_,mE,i,hi,C2⟩:=C1 r7 w;have rl:P.bytesOf e=i.bytes:=by simp [nP,hi]
   have oa:P.cellsOf e=i.size:=by simp [jY,hi]
   have sV:zv.cells.size=i.size:=by rw [mE,← oa];simpa using hz
   rw [oa] at he rO;rw [rl] at he wz;unfold rJ at he;split at he
   · cases he
   · rename_i ts h1 BQ;split at he
     · cases he
     · rename_i fg;have IV:pI i.size ts=true:=by simpa using fg
       obtain ⟨news,E1,lA,jT,kA⟩:=RL (P:=P) (γ:=γ) hm hy BQ IV;have n5:lA.length=ts.length:=by
        have:=congrArg cF kA.er
        simp only [aE,nR] at this;rw [this]
        have:∀ l:List (T Nat),(jO (fun v=>v) (fun _=>γ) l).length=l.length:=by
         intro l;induction l with
         | nil=>rfl
         | cons x r ih=>simp only [jO,bf,ih]
        exact this ts
       have RO:∀ t∈lA,t.cs=i.size:=by
        have h2:pI i.size (lA.map (T.mapA An.g))=true:=by
         rw [kA.er]
         have:∀ l:List (T Nat),pI i.size l=true→pI i.size (nR γ l)=true:=by
          intro l;have RP:∀ t:T Nat,(jg (fun v=>v) (fun _=>γ) t).cs=t.cs:=by
           have key:(∀ t:T Nat,(jg (fun v=>v) (fun _=>γ) t).cs=t.cs):=by
            intro t;refine T.rec (motive_1:=fun t=>(jg (fun v=>v) (fun _=>γ) t).cs=t.cs) (motive_2:=fun l=>T.dm (jO (fun v=>v) (fun _=>γ) l)=T.dm l) ?_ ?_ ?_ ?_ ?_ ?_ ?_ ?_ t
            · intro v;rfl
            · intro v;rfl
            · intro l ih;simp only [jg,T.cs];exact ih
            · intro a z l n ih;rfl
            · intro a ks vs ih;rfl
            · intro n;rfl
            · rfl
            · intro hd tl h1 h2;simp only [jO,T.dm,h1,h2]
           exact key
          induction l with
          | nil=>intro _;rfl
          | cons x r ih =>
            intro hl;simp only [pI,dw,ak,beq_iff_eq,nR,jO] at hl ih ⊢;exact ⟨by rw [RP];exact hl.1,ih hl.2⟩
         exact this ts IV
        intro t ht;simp only [pI,bg,beq_iff_eq] at h2
        have:=h2 _ (eh ht)
        rwa [T.ky] at this
       have wD:∀ b∈T.b9 lA,∀ (j:Nat) (o:Obj An),E1 j=some o→b∉o.blk:=fun b hb j o ho l6=>(kA.own b hb).2 ⟨j,o,ho,l6⟩
       have BR:1≤i.bytes:=eH wz;have vC:∀ k,k*i.bytes≤room→k≤room:=fun k hk=>dI (ia k BR) hk
       split at he
       · -- nil
         split at he
         · rename_i fY;cases d with
           | none=>simp [mZ] at he
           | some d =>
             simp only [mZ,bF,aa,ae] at he;obtain ⟨rfl,rfl⟩:=he;simp only [bT] at hx;obtain ⟨ax,rfl⟩:=hx;obtain ⟨a',pj,w',bo,capn,il,k⟩:=RI (ty:=ty) ht hi C2 sV γ (an:=⟨γ,none,0⟩) (a:=ax) (len:=0) (cap:=0) (olds:=[]) ⟨rfl,rfl⟩ (au _) (fun _=>rfl) (by simp) (by simp) jT kA.one (by rw [bS];exact vC _ fY) (by rw [bS];exact fY)
             rw [a7] at k;obtain ⟨E2,k1,k2,k3⟩:=Nh (d:=d) hγ hm kA.mr kA.sub (kA.ns.Ej nx) k (by rw [n5,bS]) RO kA.tc kA.nd (fun b hb=>⟨(kA.own b hb).1,fun j o _ ho=>wD b hb j o ho,by simp⟩) (by simp) kA.st
              (fun j t hj q y hy hg=>by rw [kA.new j t hj q y hy] at hg;exact (hγ hg).elim)
             rw [kA.er] at k1;rw [bS] at il k3;exact ⟨_,w',E2,il,k1,k2,k3⟩
         · cases he
       · rename_i id path off len g0;split at he
         · rename_i lK;subst lK;have uW:=hx.frame (jI.fr (w:=w) (A:=A) kA.ns (dv.le_refl nx));simp only [bT] at uW;obtain ⟨yd,ax,cap,rfl,nL,hh⟩:=uW;split at he
           · -- a root
             rename_i g1 z1 l gx;unfold D0 at he;split at he
             · rename_i hc;obtain ⟨rfl,rfl,hle,fY⟩:=hc;simp only [aa,ae] at he;obtain ⟨rfl,rfl⟩:=he;rw [kA.mr.er id] at gx;cases qy:E1 id with
               | none=>simp [qy] at gx
               | some ob =>
                 cases ob<;>simp only [qy,ar,Obj.mapA,reduceCtorEq,aa,Obj.vec.injEq] at gx;rename_i an z' l';obtain ⟨rfl,rfl,rfl⟩:=gx;rw [T.mapAs_eq,aE] at hle;have kN:=hh an i.size (by rw [qy];rfl) rfl
                 have l8:VB w A E1 nx an i.size l':=by have:=kA.mr.at_ id _ qy;simpa only [OAt] using this
                 obtain ⟨olds,h2,h3,h4,h5,h6⟩:=YL l8 hle;obtain ⟨a',pj,w',bo,capn,il,k⟩:=RI (ty:=ty) ht hi C2 sV γ kN nL h5 h3 h6 jT kA.one (vC _ fY) fY;obtain ⟨rest,n9⟩:=YM (l:=l') (n:=len);have rm:=kA.mr.nd id _ qy;simp only [Obj.blk] at rm;have ze:=(aT.1 rm).2.1;rw [n9] at ze;have rn:∀ b∈T.b9 (l'.take len),b∈(Obj.vec an i.size l').blk:=fun b hb=>by simp only [Obj.blk,ay];exact .inr (by rw [n9];simp [hb])
                 obtain ⟨E2,k1,k2,k3⟩:=Nh (d:=id) hγ hm kA.mr kA.sub (kA.ns.Ej nx) k (l:=l'.take len++lA) (by rw [aQ,aY,n5,da hle])
                  (fun t ht=>(ay.1 ht).elim (h4 t) (RO t)) (h2.append kA.tc)
                  (by
                    rw [wo];refine aT.2 ⟨(aT.1 ze).1,kA.nd,?_⟩;rintro b hb _ jt rfl;exact wD b jt id _ qy (rn b hb))
                  (fun b hb=>by
                    rw [wo] at hb;rcases ay.1 hb with hb | hb
                    · refine ⟨kA.sub b ⟨id,_,qy,rn b hb⟩,fun j o hj ho=>kA.mr.dj id j _ o (dB hj) qy ho b (rn b hb),fun e=>?_⟩
                      rw [e] at rm;exact (aT.1 rm).2.2 b (by simp) b (by rw [n9];simp [hb]) rfl
                    · refine ⟨(kA.own b hb).1,fun j o _ ho=>wD b hb j o ho,fun e=>?_⟩
                      exact wD b hb id _ qy (by simp [Obj.blk,e]))
                  (fun b e=>by
                    have hbm:b∈(Obj.vec an i.size l').blk:=by simp [Obj.blk,e]
                    exact ⟨kA.sub b ⟨id,_,qy,hbm⟩,fun j o hj ho=>kA.mr.dj id j _ o (dB hj) qy ho b hbm⟩)
                  (by
                    have hst:=kA.mr.st id _ qy;simp only [Obj.st] at hst;have h8:T.ku (nx.add γ) (l'.take len):=T.l5 (nx.eP γ) (RK (fun t ht=>c8 ht) hst.2)
                    have:∀ l m:List (T An),T.ku (nx.add γ) l→T.ku (nx.add γ) m→T.ku (nx.add γ) (l++m):=by
                     intro l m
                     induction l with
                     | nil=>intro _ h;exact h
                     | cons x r ih=>intro h1 h2;simp only [T.ku,aS] at h1 ⊢;exact ⟨h1.1,ih h1.2 h2⟩
                    exact this _ _ h8 kA.st)
                  (fun j t hj q y hy hg=>by
                    by_cases AR:j<(l'.take len).length
                    · rw [cY AR] at hj;have BS:l'[j]?=some t:=by
                       rw [aY] at AR;rw [dQ (by omega)] at hj;exact hj
                      rw [qy,sU];simp only [Obj.pO,BD,BS,ah];exact hy
                    · rw [bG (by omega)] at hj
                      rw [kA.new _ t hj q y hy] at hg;exact (hγ hg).elim)
                 rw [b8,kA.er,bO,← T.mapAs_eq] at k1;exact ⟨_,w',E2,il,k1,k2,k3⟩
             · cases he
           · -- a place
             unfold Au at he;split at he
             · rename_i g1 z1 l n dP;split at he
               · rename_i hc;obtain ⟨rfl,rfl,rfl,hle,fY⟩:=hc;split at he
                 · rename_i oh eY;cases d with
                   | none=>simp [mZ] at he
                   | some d =>
                     simp only [mZ,bF,aa,ae] at he;obtain ⟨rfl,rfl⟩:=he;obtain ⟨RQ,an,l',YN,bY,rfl,rfl,xZ,l8,iq,ja,C4,vB,Gv⟩:=kA.mr.wv dP eY;rw [aE] at hle;have kN:=hh an i.size bY rfl;have RR:VB w A RQ nx an i.size l':=l8.frame (jI.fr vB (dv.le_refl nx)) (fun _ _=>rfl)
                     have RS:=kA.tc.frame (jI.fr (w:=w) (A:=A) vB (dv.le_refl nx)) (fun _ _=>rfl)
                     obtain ⟨olds,h2,h3,h4,h5,h6⟩:=YL RR hle;obtain ⟨a',pj,w',bo,capn,il,k⟩:=RI (ty:=ty) ht hi C2 sV γ kN nL h5 h3 h6 jT kA.one (vC _ fY) fY;obtain ⟨rest,n9⟩:=YM (l:=l') (n:=len);have ze:=(aT.1 iq).2.1;rw [n9] at ze;have rn:∀ b∈T.b9 (l'.take len),b∈an.b.toList++T.b9 l':=fun b hb=>ay.2 (.inr (by rw [n9];simp [hb]))
                     have mF:∀ b,¬ jH RQ b→∀ (j:Nat) (o:Obj An),RQ j=some o→b∉o.blk:=fun b hb j o ho l6=>hb ⟨j,o,ho,l6⟩
                     obtain ⟨E2,k1,k2,k3⟩:=Nh (d:=d) hγ hm xZ (fun b hb=>kA.sub b (C4 b hb)) ((kA.ns.trans vB).Ej nx) k (l:=T.cQ (m6 γ) (l'.take len)++lA)
                      (by rw [aQ,T.mapAs_eq,aE,aY,n5,da hle])
                      (fun t ht=>(ay.1 ht).elim (fun ht=>by
                        rw [T.mapAs_eq] at ht;obtain ⟨u,hu,rfl⟩:=bj.1 ht;rw [T.ky];exact h4 u hu) (RO t)) ((Nf γ h2).append RS)
                      (by
                        rw [wo,yX];refine aT.2 ⟨(aT.1 ze).1,kA.nd,?_⟩;rintro b hb _ jt rfl;exact (kA.own b jt).2 (ja b (rn b hb)).1)
                      (fun b hb=>by
                        rw [wo,yX] at hb;rcases ay.1 hb with hb | hb
                        · refine ⟨kA.sub b (ja b (rn b hb)).1,fun j o _ ho=>mF b (ja b (rn b hb)).2 j o ho,fun e=>?_⟩
                          rw [e] at iq;exact (aT.1 iq).2.2 b (by simp) b (by rw [n9];simp [hb]) rfl
                        · refine ⟨(kA.own b hb).1,fun j o _ ho=>mF b (fun hc=>(kA.own b hb).2 (C4 b hc)) j o ho,fun e=>?_⟩
                          exact (kA.own b hb).2 (ja b (by simp [e])).1)
                      (fun b e=>by
                        have hbm:=ja b (show b∈an.b.toList++T.b9 l' by simp [e])
                        exact ⟨kA.sub b hbm.1,fun j o _ ho=>mF b hbm.2 j o ho⟩)
                      (by
                        have:∀ l m:List (T An),T.ku (nx.add γ) l→T.ku (nx.add γ) m→T.ku (nx.add γ) (l++m):=by
                         intro l m
                         induction l with
                         | nil=>intro _ h;exact h
                         | cons x r ih=>intro h1 h2;simp only [T.ku,aS] at h1 ⊢;exact ⟨h1.1,ih h1.2 h2⟩
                        exact this _ _ (CX nx γ _) kA.st)
                      (fun j t hj q y hy hg=>by
                        by_cases AR:j<(T.cQ (m6 γ) (l'.take len)).length
                        · rw [cY AR] at hj;rw [T.mapAs_eq,aN] at hj;cases hu:(l'.take len)[j]? with
                          | none=>simp [hu] at hj
                          | some u =>
                            simp only [hu,ar,aa] at hj;subst hj;rw [ID hy] at hg;exact (hγ hg).elim
                        · rw [bG (by omega)] at hj
                          rw [kA.new _ t hj q y hy] at hg;exact (hγ hg).elim)
                     have e:(T.cQ (m6 γ) (l'.take len)++lA).map (T.mapA An.g)=nR γ ((l'.map (T.mapA An.g)).take len++ts):=by
                      rw [b8,kA.er,← T.mapAs_eq,CY,T.mapAs_eq,bO]
                      have:∀ l m:List (T Nat),nR γ l++nR γ m=nR γ (l++m):=by
                       intro l m
                       induction l with
                       | nil=>rfl
                       | cons x r ih=>simp only [nR,jO,aS] at ih ⊢;rw [ih]
                      exact this _ _
                     rw [e] at k1;exact ⟨_,w',E2,il,k1,k2,k3⟩
                 · cases he
               · cases he
             · cases he
         · cases he
       · cases he
end
end Go.Mid
namespace Go.Mid
open Go.RowKit
theorem Ni:∀ {l:List (T Nat)} {vs:List PV},lv l=some vs→vs.length=l.length
 | [],vs,h=>by simp only [lv,aa] at h;subst h;rfl
 | t::r,vs,h=>by
   simp only [lv] at h;split at h
   · rename_i h1 h2;cases h;rw [bf,bf,Ni h2]
   · cases h
section
variable {w:World}{A A':Nat→Prop}{E:dV An}{nx:dv}{h:cq}
theorem cU.append {l m:List PV}{cs ds:List Value}(h:cU w A l cs)(k:cU w A m ds):cU w A (l++m) (cs++ds):=by
 induction l generalizing cs with
 | nil=>simp only [cU] at h;subst h;exact k
 | cons t r ih =>
   simp only [cU,aS] at h ⊢;obtain ⟨c,d,rfl,h1,h2⟩:=h;exact ⟨c,d++ds,by simp,h1,ih h2⟩
mutual
theorem Nj (hA:∀ b,A b→A' b):∀ {t:T An} {v:PV} {b o:Nat},sO (t.mapA An.g)=some v→(∀ x∈t.blk,A' x)→TAt w A E nx t b o→∃ cs,ed w A' v cs∧cs.length=t.cs∧Row w b o cs
 | .p u,v,b,o,h,_,k=>by
   simp only [T.mapA,sO,aa] at h;subst h;simp only [TAt] at k;obtain ⟨cs,h1,h2⟩:=k;exact ⟨cs,h1.frame hA (fun _ _=>rfl),h1.len,h2⟩
 | .m u,v,b,o,h,_,k=>by simp [T.mapA,sO] at h
 | .agg l,v,b,o,h,hb,k=>by
   simp only [T.mapA,sO] at h;split at h
   · rename_i vs fX;cases h;simp only [TAt] at k;obtain ⟨cs,h1,h2,h3⟩:=RT hA fX (by simpa only [T.blk] using hb) k
     exact ⟨cs,by simpa only [ed] using h1,h2,h3⟩
   · cases h
 | .vec an z l n,v,b,o,h,hb,k=>by
   simp only [T.mapA,sO] at h;split at h
   · rename_i vs fX;cases h;simp only [TAt] at k;obtain ⟨a,cap,h1,h2,h3,h4⟩:=k;have hlen:vs.length=l.length:=by rw [Ni fX,T.mapAs_eq,aE]
     have BL:(vs.take n).length=n:=by rw [aY];omega
     refine ⟨[.slice a n cap],?_,rfl,h1⟩;simp only [ed,BL];cases kM:an.b with
     | none =>
       simp only [lg,kM] at h3;obtain ⟨rfl,rfl⟩:=h3;exact ⟨a,0,rfl,au _,.inl (by simp)⟩
     | some b' =>
       simp only [kM] at h4;simp only [lg,kM] at h3;refine ⟨a,cap,rfl,by omega,?_⟩
       rcases h3.2 with ⟨rfl,_⟩ | h5
       · exact .inl (by simp)
       · refine .inr ⟨b',0,z,by rw [h5,dk],hb b' (by simp [T.blk,kM]),?_⟩
         exact fH.take n (RU hA fX (fun x hx=>hb x (by simp [T.blk,hx])) h4.2.2.1 h4.2.2.2)
   · cases h
 | .mp ..,v,b,o,h,_,k=>by simp only [TAt] at k
 | .hole n,v,b,o,h,_,k=>by simp [T.mapA,sO] at h
theorem RT (hA:∀ b,A b→A' b):∀ {l:List (T An)} {vs:List PV} {b o:Nat},lv (T.cQ An.g l)=some vs→(∀ x∈T.b9 l,A' x)→cK w A E nx l b o→∃ cs,cU w A' vs cs∧cs.length=T.dm l∧Row w b o cs
 | [],vs,b,o,h,_,k=>by
   simp only [T.cQ,lv,aa] at h;subst h;exact ⟨[],by simp only [cU],rfl,Row.nil⟩
 | t::r,vs,b,o,h,hb,k=>by
   simp only [T.cQ,lv] at h;split at h
   · rename_i v yc h1 h2;cases h;simp only [cK] at k;simp only [T.b9,ay] at hb;obtain ⟨c,h3,h4,h5⟩:=Nj hA h1 (fun x hx=>hb x (.inl hx)) k.1
     obtain ⟨d,h6,h7,h8⟩:=RT hA h2 (fun x hx=>hb x (.inr hx)) k.2
     exact ⟨c++d,by simp only [cU];exact ⟨c,d,rfl,h3,h6⟩,by rw [aQ,h4,h7,T.dm],Row.append.2 ⟨h5,by rw [h4];exact h8⟩⟩
   · cases h
theorem RU (hA:∀ b,A b→A' b):∀ {l:List (T An)} {vs:List PV} {b o z:Nat},lv (T.cQ An.g l)=some vs→(∀ x∈T.b9 l,A' x)→(∀ t∈l,t.cs=z)→cK w A E nx l b o→fH w A' vs b o z
 | [],vs,b,o,z,h,_,_,k=>by
   simp only [T.cQ,lv,aa] at h;subst h;simp only [fH]
 | t::r,vs,b,o,z,h,hb,hz,k=>by
   simp only [T.cQ,lv] at h;split at h
   · rename_i v yc h1 h2;cases h;simp only [cK] at k;simp only [T.b9,ay] at hb;have ht:=hz t (by simp)
     obtain ⟨c,h3,h4,h5⟩:=Nj hA h1 (fun x hx=>hb x (.inl hx)) k.1
     have:=RU hA h2 (fun x hx=>hb x (.inr hx)) (fun t ht=>hz t (by simp [ht])) k.2
     simp only [fH];rw [ht] at this;exact ⟨⟨c,h3,by rw [h4,ht],h5⟩,this⟩
   · cases h
end
theorem RW (m:MR w A E h nx){id:Nat}{path:List Nat}{an:An}{z:Nat}{l:List (T An)}(hv:jG (E id) path=some (an,z,l)):∃ o,E id=some o∧∀ b∈an.b.toList++T.b9 l,b∈o.blk:=by
 rcases MM hv with ⟨rfl,he⟩ | ⟨n,hs⟩
 · exact ⟨_,he,fun b hb=>by simpa [Obj.blk] using hb⟩
 · obtain ⟨ob,hE⟩:=m.lz hs;refine ⟨ob,hE,?_⟩;rw [hE] at hs;obtain ⟨_,_,_,_,_,h5,_⟩:=AN hs (m.at_ id ob hE);exact fun b hb=>h5 b (by simpa [T.blk] using hb)
mutual
theorem C5 (m:MR w A E h nx)(hA:∀ b,A b→A' b):∀ {x:MV} {v:PV} {val:Value},mB h x=some v→(∀ i∈kf x,∀ o,E i=some o→∀ b∈o.blk,A' b)→bT w A E nx x val→pe w A' v val
 | .p u,v,val,hp,_,hv=>by
   simp only [mB,aa] at hp;subst hp;simp only [bT] at hv;exact hv.frame hA (fun _ _=>rfl)
 | .nil _,v,val,hp,_,hv=>by
   simp only [mB,aa] at hp;subst hp;simp only [bT] at hv;obtain ⟨a,rfl⟩:=hv;exact ⟨[.slice a 0 0],by simp only [ed];exact ⟨a,0,rfl,au _,.inl trivial⟩,rfl⟩
 | .own id path off len g,v,val,hp,hr,hv=>by
   simp only [mB] at hp;split at hp
   · rename_i g' z l iT;split at hp
     · rename_i hc;obtain ⟨rfl,hle⟩:=hc;split at hp
       · rename_i vs fX;cases hp;obtain ⟨an,lA,nA,rfl,rfl⟩:=m.vec iT;have hB:=m.uc nA;obtain ⟨ob,hE,jb⟩:=RW m nA;simp only [bT] at hv;obtain ⟨_,a,cap,rfl,nL,hh⟩:=hv;have kN:=hh an z (sR nA) rfl;rw [← T.mapAs_eq] at fX;have hlen:vs.length=lA.length:=by rw [Ni fX,T.mapAs_eq,aE]
         rw [aE] at hle;have BL:((vs.drop off).take len).length=len:=by rw [aY,List.length_drop];omega
         refine ⟨[.slice a len cap],?_,rfl⟩;simp only [ed,BL];simp only [VB] at hB;cases hb:an.b with
         | none =>
           simp only [lg,hb] at kN;obtain ⟨rfl,rfl⟩:=kN;exact ⟨a,0,rfl,au _,.inl (by simp)⟩
         | some b =>
           simp only [hb] at hB;simp only [lg,hb] at kN;refine ⟨a,cap,rfl,nL,?_⟩;rcases kN.2 with ⟨rfl,_⟩ | h5
           · exact .inl (by simp)
           · refine .inr ⟨b,off*z,z,h5,hr id (by simp [kf]) ob hE b (jb b (by simp [hb])),?_⟩
             have:=RU hA fX (fun x hx=>hr id (by simp [kf]) ob hE x (jb x (by simp [hx]))) hB.2.2.1 hB.2.2.2
             have:=(this.drop off).take len
             rwa [bS] at this
       · cases hp
     · cases hp
   · cases hp
 | .ptr id np rp g o,v,val,hp,hr,hv=>by
   simp only [mB] at hp;split at hp
   · rename_i t s' o' hl;split at hp
     · rename_i hc;obtain ⟨rfl,rfl⟩:=hc;split at hp
       · rename_i u hu;cases hp;obtain ⟨an,tA,n5,rfl,rfl⟩:=m.look hl;obtain ⟨b,hb,lh⟩:=m.sS n5;simp only [bT] at hv;obtain ⟨_,ad,rfl,re⟩:=hv;obtain ⟨z,hn⟩:=Gj n5;obtain ⟨b',jt,rfl⟩:=re an z hn rfl;rw [hb] at jt;cases jt;have dP:=ML n5;obtain ⟨ob,hE⟩:=m.lz dP;rw [hE] at n5 dP;have jS:=m.wu hE n5 hb;obtain ⟨b2,o2,h1,h2,h3,h4,_⟩:=AN dP (m.at_ id ob hE);rw [jS] at h1;cases h1;have pf:=hr id (by simp [kf]) ob hE
         obtain ⟨cs,h5,_,h6⟩:=Nj hA hu (fun x hx=>pf x (h4 x hx)) lh
         exact ⟨_,by simp only [ed];exact ⟨b,o',rfl,pf b h3,cs,h5,h6⟩,rfl⟩
       · cases hp
     · cases hp
   · cases hp
 | .fC ..,v,val,hp,hr,hv=>by simp only [bT] at hv
 | .agg l,v,val,hp,hr,hv=>by
   simp only [mB] at hp;split at hp
   · rename_i vs fX;cases hp;simp only [bT] at hv;obtain ⟨cs,rfl,hv⟩:=hv;exact ⟨cs,by simp only [ed];exact YO m hA fX (by simpa only [kf] using hr) hv,rfl⟩
   · cases hp
 | .fn f l,v,val,hp,hr,hv=>by
   simp only [mB] at hp;split at hp
   · rename_i vs fX;cases hp;simp only [bT] at hv;obtain ⟨ws,rfl,hv⟩:=hv;exact ⟨_,by simp only [ed];exact ⟨ws,rfl,Nk m hA fX (by simpa only [kf] using hr) hv⟩,rfl⟩
   · cases hp
 | .eO _,v,val,hp,_,hv=>by simp only [mB,reduceCtorEq] at hp
 | .dead _,v,val,hp,_,hv=>by simp only [mB,reduceCtorEq] at hp
theorem YO (m:MR w A E h nx)(hA:∀ b,A b→A' b):∀ {l:List MV} {vs:List PV} {cs:List Value},rH h l=some vs→(∀ i∈mC l,∀ o,E i=some o→∀ b∈o.blk,A' b)→ef w A E nx l cs→cU w A' vs cs
 | [],vs,cs,hp,_,hv=>by
   simp only [rH,aa] at hp;subst hp;simpa only [ef,cU] using hv
 | x::r,vs,cs,hp,hr,hv=>by
   simp only [rH] at hp;split at hp
   · rename_i v yc h1 h2;cases hp;simp only [ef] at hv;obtain ⟨u,d,rfl,_,_,h5,h6⟩:=hv;simp only [mC,ay] at hr;obtain ⟨c,h7,rfl⟩:=C5 m hA h1 (fun i hi=>hr i (.inl hi)) h5
     have h8:=YO m hA h2 (fun i hi=>hr i (.inr hi)) h6
     simp only [cU];exact ⟨c,d,by rw [h7.m5],h7,h8⟩
   · cases hp
theorem Nk (m:MR w A E h nx)(hA:∀ b,A b→A' b):∀ {l:List MV} {vs:List PV} {ws:List Value},rH h l=some vs→(∀ i∈mC l,∀ o,E i=some o→∀ b∈o.blk,A' b)→dh w A E nx l ws→kU w A' vs ws
 | [],vs,cs,hp,_,hv=>by
   simp only [rH,aa] at hp;subst hp;simpa only [dh,kU] using hv
 | x::r,vs,cs,hp,hr,hv=>by
   simp only [rH] at hp;split at hp
   · rename_i v yc h1 h2;cases hp;simp only [dh] at hv;obtain ⟨u,d,rfl,h5,h6⟩:=hv;simp only [mC,ay] at hr;obtain ⟨c,h7,rfl⟩:=C5 m hA h1 (fun i hi=>hr i (.inl hi)) h5
     have h8:=Nk m hA h2 (fun i hi=>hr i (.inr hi)) h6
     simp only [kU];exact ⟨c,d,rfl,h7,h8⟩
   · cases hp
end
theorem MR.wE (m:MR w A E h nx){id:Nat}{o:Obj An}(hE:E id=some o) :
 MR w (fun b=>A b∨b∈o.blk) (cD E id (some .gone)) (cD h id (some .gone)) nx∧gK w A E nx w (fun b=>A b∨b∈o.blk) (cD E id (some .gone)):=by
 have own:∀ b,jH (cD E id (some .gone)) b→b∉o.blk∧jH E b:=by
  intro b hb;rcases AM hb with h1 | ⟨i,oi,hi,r6,AO⟩
  · simp [Obj.blk] at h1
  · exact ⟨fun l6=>m.dj id i o oi (dB hi) hE r6 b l6 AO,i,oi,r6,AO⟩
 refine ⟨(m.gone id).Az (fun b hb=>.inl hb) ?_,?_⟩
 · rintro b (hb | hb)
   · exact ⟨m.im b hb,fun ho=>(m.lt b (own b ho).2).2 hb⟩
   · exact ⟨(m.kp hE hb).1,fun ho=>(own b ho).1 hb⟩
 · exact ⟨rfl,rfl,rfl,au _,fun _ _ _=>rfl,fun b hb=>.inl hb,fun b _ hb=>hb.imp (fun h=>h) (fun hb=>⟨id,o,hE,hb⟩),fun b _ hb=>(own b hb).2,(jI.gone E id).Ej nx⟩
theorem MR.eZ {w':World}{nx':dv}(m:MR w A E h nx){A':Nat→Prop}{id:Nat}{o':Obj An}(s:nN w w' A E nx nx' id o')(hA:∀ b,A b→A' b)(lh:Fr w w' A A' E (cD E id (some o')) nx nx'→OAt w' A' (cD E id (some o')) nx' o')
 (mF:∀ b,jH (cD E id (some o')) b→¬ A' b) (Nl:∀ b,A' b→b<w'.heap.size):MR w' A' (cD E id (some o')) (cD h id (some (o'.mapA An.g))) nx':=by
 have f0:=s.fr m;have f:Fr w w' A A' E (cD E id (some o')) nx nx':=⟨hA,f0.hw,f0.hE,f0.hn⟩;constructor
 · intro i;by_cases e:i=id
   · subst e;simp [cD]
   · simp [cD,e,m.er i]
 · intro i o ho;by_cases e:i=id
   · subst e;rw [nM] at ho;cases ho;exact lh f
   · rw [nT E _ e] at ho;exact OAt.frame f (fun x hx=>s.ch x (m.kp ho hx).1 (fun o1 nu uW=>m.dj i id o o1 e ho nu x hx uW)) (m.at_ i o ho)
 · intro b hb;refine ⟨?_,mF b hb⟩;rcases AM hb with h1 | ⟨i,oi,_,r6,h1⟩
   · exact (s.lt b h1).1
   · exact br (m.kp r6 h1).1 s.sz
 · intro i o ho;by_cases e:i=id
   · subst e;rw [nM] at ho;cases ho;exact s.nd
   · rw [nT E _ e] at ho;exact m.nd i o ho
 · intro i j o o1 gU ho nu b hb n8;by_cases e:i=id
   · subst e;rw [nM] at ho;cases ho;rw [nT E _ (dB gU)] at nu;exact s.dj b hb j o1 (dB gU) nu n8
   · rw [nT E _ e] at ho;by_cases e':j=id
     · subst e';rw [nM] at nu;cases nu;exact s.dj b n8 i o e ho hb
     · rw [nT E _ e'] at nu;exact m.dj i j o o1 gU ho nu b hb n8
 · exact Nl
 · intro i o ho;by_cases e:i=id
   · subst e;rw [nM] at ho;cases ho;exact s.st
   · rw [nT E _ e] at ho;exact Obj.kx s.hn (m.st i o ho)
theorem YP {z:Nat}(hA:∀ b,A b→A' b):∀ {l:List (T An)} {vs:List PV} {b o:Nat},lv (T.cQ An.g l)=some vs→(∀ x∈T.b9 l,A' x)→(∀ t∈l,t.cs=z)→cK w A E nx l b o→∀ v∈vs,v.cs=z
 | [],vs,b,o,h,_,_,k=>by
   simp only [T.cQ,lv,aa] at h;subst h;intro v hv;cases hv
 | t::r,vs,b,o,h,hb,hz,k=>by
   simp only [T.cQ,lv] at h;split at h
   · rename_i v yc h1 h2;cases h;simp only [cK] at k;simp only [T.b9,ay] at hb;obtain ⟨c,h3,h4,_⟩:=Nj hA h1 (fun x hx=>hb x (.inl hx)) k.1
     intro u hu;rcases aM.1 hu with e | e
     · subst e;rw [← h3.len,h4];exact hz t (by simp)
     · exact YP hA h2 (fun x hx=>hb x (.inr hx)) (fun t ht=>hz t (by simp [ht])) k.2 u e
   · cases h
theorem MR.Ez (m:MR w A E h nx){id γ z:Nat}(hγ:¬ nx γ)(hs:h id=none) :
 ∃ E',MR w A E' (cD h id (some (.vec γ z []))) (nx.add γ)∧gK w A E nx w A E'∧fq (E' id) (some [])=some (⟨γ,none,0⟩,some z):=by
 have s:nN w w A E nx (nx.add γ) id (.vec ⟨γ,none,0⟩ z []):=by
  refine ⟨dv.eP _ _,au _,fun _ _ _=>rfl,?_,by simp [Obj.blk,T.b9],by simp [Obj.blk,T.b9],by simp [Obj.blk,T.b9],⟨nx.iW γ,trivial⟩⟩
  intro np y hy hg;cases np with
  | none=>simp [fq] at hy
  | some p =>
    cases p with
    | nil =>
      simp only [fq,aa] at hy;subst hy;exact (hγ hg).elim
    | cons i r=>simp [fq,ew] at hy
 have f:=s.fr m;have hm:=m.set s (by simp only [OAt,VB];exact ⟨trivial,trivial⟩)
 refine ⟨_,hm,⟨rfl,rfl,rfl,au _,fun _ _ _=>rfl,fun _ h=>h,fun _ _ h=>.inl h,fun b _ hb=>?_,f.hE⟩,by rw [nM];rfl⟩
 rcases AM hb with h1 | ⟨i,oi,_,r6,h1⟩
 · simp [Obj.blk,T.b9] at h1
 · exact ⟨i,oi,r6,h1⟩
theorem MR.sD (m:MR w A E h nx){id γ:Nat}(hγ:¬ nx γ){a:Nat}{t:T Nat}(hs:h id=some (.cell a t)) :
 ∃ E',MR w A E' (cD h id (some (.cell a (Ap γ t)))) (nx.add γ)∧gK w A E nx w A E':=by
 rw [m.er id] at hs;cases hE:E id with
 | none=>simp [hE] at hs
 | some o =>
   cases o<;>simp only [hE,ar,Obj.mapA,reduceCtorEq,aa,Obj.cell.injEq] at hs;rename_i an t';obtain ⟨rfl,rfl⟩:=hs;have jb:(Obj.cell an (t'.mapA (m6 γ))).blk=(Obj.cell an t').blk:=by simp only [Obj.blk,Yh]
   have s:nN w w A E nx (nx.add γ) id (.cell an (t'.mapA (m6 γ))):=by
    refine ⟨dv.eP _ _,au _,fun _ _ _=>rfl,?_,?_,?_,?_,?_⟩
    · intro np y hy hg;rw [hE];cases np with
      | none=>simpa [fq] using hy
      | some p =>
        rw [sU] at hy
        have:=ID (t:=t') hy
        rw [this] at hg;exact (hγ hg).elim
    · rw [jb];exact fun b hb=>m.kp hE hb
    · rw [jb];exact m.nd id _ hE
    · rw [jb];exact fun b hb j oj hj BI=>m.dj id j _ oj (dB hj) hE BI b hb
    · exact ⟨.inl (m.st id _ hE).1,Yi nx γ t'⟩
   have f:=s.fr m;have k:=OAt.frame f (fun _ _=>rfl) (m.at_ id _ hE)
   have hm:=m.set s (by
    simp only [OAt] at k ⊢;obtain ⟨b,hb,k1,k2⟩:=k;exact ⟨b,hb,by rw [T.ky];exact k1,Rh γ k2⟩)
   refine ⟨_,?_,rfl,rfl,rfl,au _,fun _ _ _=>rfl,fun _ h=>h,fun _ _ h=>.inl h,fun b _ hb=>?_,f.hE⟩
   · have e:(Obj.cell an (t'.mapA (m6 γ))).mapA An.g=.cell an.g (Ap γ (t'.mapA An.g)):=by simp only [Obj.mapA,Yj]
     rw [e] at hm;exact hm
   · rcases AM hb with h1 | ⟨i,oi,_,r6,h1⟩
     · rw [jb] at h1;exact ⟨id,_,hE,h1⟩
     · exact ⟨i,oi,r6,h1⟩
theorem MR.BT (m:MR w A E h nx){id γ:Nat}(hγ:¬ nx γ){path:List Nat}{g z n:Nat}{l:List (T Nat)}{oh:Obj Nat}(hs:ew (h id) path=some (.vec g z l n))(hp:Mid.put (h id) path (.vec g z (nR γ l) n)=some oh) :
 ∃ E',MR w A E' (cD h id (some oh)) (nx.add γ)∧gK w A E nx w A E':=by
 obtain ⟨t',ht,he⟩:=m.sub hs;cases t'<;>simp only [T.mapA,reduceCtorEq,T.vec.injEq] at he;rename_i an z' l' n';obtain ⟨rfl,rfl,rfl,rfl⟩:=he;cases hE:E id with
 | none=>rw [hE] at ht;cases path<;>simp [ew] at ht
 | some o =>
   rw [hE] at ht;have uk:(T.vec an.g z (nR γ (T.cQ An.g l')) n:T Nat)=(T.vec an z (T.cQ (m6 γ) l') n:T An).mapA An.g:=by
    simp only [T.mapA,CY]
   rw [m.er id,hE,uk,Gn] at hp;cases iK:Mid.put (some o) path (T.vec an z (T.cQ (m6 γ) l') n:T An) with
   | none=>simp [iK] at hp
   | some o' =>
     simp only [iK,ar,aa] at hp;obtain ⟨b1,o1,h1,h2,h3,h4,h5⟩:=AN ht (m.at_ id o hE);obtain ⟨rest,p1,_⟩:=Ei ht iK;have BU:(an.b.toList++T.b9 l').Nodup:=(aT.1 (p1.nodup_iff.1 (m.nd id o hE))).1;have l8:(T.vec an z (T.cQ (m6 γ) l') n:T An).blk=(T.vec an z l' n:T An).blk:=by simp only [T.blk,yX]
     have vA:oY w w A E nx (nx.add γ) id o path (.vec an z l' n) (.vec an z (T.cQ (m6 γ) l') n) b1 o1:=by
      refine ⟨dv.eP _ _,au _,hE,ht,h1,rfl,Wr.refl _ _ _ _ _,?_,?_,?_,?_,?_⟩
      · intro r y hy hg;cases r with
        | nil=>simpa [fL,c6] using hy
        | cons i r =>
          have e:∀ (L:List (T An)),fL (T.vec an z L n) (i::r)=match L[i]? with | some t=>fL t r | none=>none:=fun L=>by
           simp only [fL,c6];cases L[i]? <;> rfl
          rw [e,T.mapAs_eq,aN] at hy;cases hi:l'[i]? with
          | none=>simp [hi] at hy
          | some u =>
            simp only [hi,ar] at hy
            have:=ID hy
            rw [this] at hg;exact (hγ hg).elim
      · intro b hb;rw [l8] at hb;exact m.kp hE (h4 b hb)
      · rw [l8];exact BU
      · intro b hb;rw [l8] at hb;exact .inl hb
      · have hst:(T.vec an z l' n:T An).st nx:=m.ud (id:=id) (p:=path) (by rw [hE];exact ht)
        exact ⟨.inl hst.1,CX nx γ l'⟩
     have s:=vA.ug m iK;refine ⟨cD E id (some o'),?_,rfl,rfl,rfl,au _,fun _ _ _=>rfl,fun _ h=>h,fun _ _ h=>.inl h,fun b _ hb=>?_,(s.fr m).hE⟩
     · rw [← hp];refine m.put vA iK fun f=>?_
       have k:=TAt.frame f rfl (fun _ _=>rfl) h2
       have k2:=Rh γ k;simp only [T.mapA] at k2;simp only [TAt] at k k2 ⊢;obtain ⟨a,cap,q1,q2,q3,q4⟩:=k;obtain ⟨_,_,_,r2,_,r4⟩:=k2;exact ⟨a,cap,q1,r2,q3,r4⟩
     · rcases vA.owned m iK hb with k | k
       · rw [l8] at k;exact ⟨id,o,hE,h4 b k⟩
       · exact k.1
theorem MR.IW (m:MR w A E h nx){id:Nat}{path:List Nat}{g z n:Nat}{l:List (T Nat)}{vs:List PV}{oh:Obj Nat}(hs:ew (h id) path=some (.vec g z l n))(fX:lv l=some vs)(hp:Mid.put (h id) path (.vec g z (vs.map .p) n)=some oh) :
 ∃ A' E',MR w A' E' (cD h id (some oh)) nx∧gK w A E nx w A' E':=by
 obtain ⟨t',ht,he⟩:=m.sub hs;cases t'<;>simp only [T.mapA,reduceCtorEq,T.vec.injEq] at he;rename_i an z' l' n';obtain ⟨rfl,rfl,rfl,rfl⟩:=he;cases hE:E id with
 | none=>rw [hE] at ht;cases path<;>simp [ew] at ht
 | some o =>
   rw [hE] at ht;have uk:(T.vec an.g z (vs.map .p) n:T Nat)=(T.vec an z (vs.map .p) n:T An).mapA An.g:=by
    have:∀ us:List PV,T.cQ An.g (us.map .p:List (T An))=(us.map .p:List (T Nat)):=fun us=>by
     induction us with
     | nil=>rfl
     | cons u r ih=>simp only [aH,T.cQ,T.mapA,ih]
    simp only [T.mapA,this]
   rw [m.er id,hE,uk,Gn] at hp;cases iK:Mid.put (some o) path (T.vec an z (vs.map .p) n:T An) with
   | none=>simp [iK] at hp
   | some o' =>
     simp only [iK,ar,aa] at hp;obtain ⟨b1,o1,h1,h2,h3,h4,h5⟩:=AN ht (m.at_ id o hE);have iq:=m.nd id o hE;obtain ⟨rest,p1,_⟩:=Ei ht iK;have BU:(an.b.toList++T.b9 l').Nodup:=(aT.1 (p1.nodup_iff.1 iq)).1;have l8:(T.vec an z (vs.map .p) n:T An).blk=an.b.toList:=by simp only [T.blk,Ef,bE]
     have vA:oY w w A E nx nx id o path (.vec an z l' n) (.vec an z (vs.map .p) n) b1 o1:=by
      refine ⟨dv.le_refl _,au _,hE,ht,h1,rfl,Wr.refl _ _ _ _ _,?_,?_,?_,?_,?_⟩
      · intro r y hy _;cases r with
        | nil=>simpa [fL,c6] using hy
        | cons i r =>
          simp only [fL,c6,aN] at hy;cases hi:vs[i]? with
          | none=>simp [hi] at hy
          | some v =>
            simp only [hi,ar] at hy
            have:∀ (r:List Nat) (v:PV),fL (T.p v:T An) r=none:=by
             intro r
             induction r with
             | nil=>intro v;rfl
             | cons j r ih =>
               intro v;cases v with
               | agg l =>
                 simp only [fL,c6];cases l[j]? with
                 | none=>rfl
                 | some u=>exact ih u
               | _=>rfl
            have h0:=this r v;simp only [fL] at h0;rw [h0] at hy;cases hy
      · intro b hb;rw [l8] at hb;exact m.kp hE (h4 b (by simp [T.blk,hb]))
      · rw [l8];exact (aT.1 BU).1
      · intro b hb;rw [l8] at hb;exact .inl (by simp [T.blk,hb])
      · have hst:(T.vec an z l' n:T An).st nx:=m.ud (id:=id) (p:=path) (by rw [hE];exact ht)
        exact ⟨hst.1,MY vs⟩
     have s:=vA.ug m iK;have hA:∀ b,A b→(A b∨b∈T.b9 l'):=fun b hb=>.inl hb
     have tw:∀ b∈T.b9 l',b∈o.blk:=fun b hb=>h4 b (by simp [T.blk,hb])
     refine ⟨fun b=>A b∨b∈T.b9 l',cD E id (some o'),?_,rfl,rfl,rfl,au _,fun _ _ _=>rfl,hA,fun b _ hb=>hb.imp (fun h=>h) fun hb=>⟨id,o,hE,tw b hb⟩,fun b _ hb=>?_,(s.fr m).hE⟩
     · rw [← hp];refine m.eZ s hA (fun f=>OAt.put f ht iK h1 rfl (Wr.refl _ _ _ _ _) iq (fun y hy=>(m.kp hE hy).1) (m.at_ id o hE) ?_) ?_ ?_
       · simp only [TAt] at h2 ⊢;obtain ⟨a,cap,k1,k2,k3,k4⟩:=h2;have hlen:vs.length=l'.length:=by rw [Ni fX,T.mapAs_eq,aE]
         refine ⟨a,cap,k1,by rw [aE,hlen];exact k2,k3,?_⟩
         cases hb:an.b with
         | none =>
           simp only [hb] at k4
           have:vs=[]:=by
            rw [k4.1] at hlen;exact List.length_eq_zero_iff.1 hlen
           exact ⟨by rw [this];rfl,k4.2⟩
         | some b' =>
           simp only [hb] at k4;obtain ⟨k5,k6,k7,k8⟩:=k4;obtain ⟨cs,k9,_,k10⟩:=RT hA fX (fun x hx=>.inr hx) k8
           refine ⟨k5,by rw [aE,hlen];exact k6,fun t ht=>?_,rf.2 ⟨cs,by simpa only [ed] using k9,k10⟩⟩
           obtain ⟨v,hv,rfl⟩:=bj.1 ht;exact YP hA fX (fun x hx=>.inr hx) k7 k8 v hv
       · intro b hb;rcases vA.owned m iK hb with k | k
         · rw [l8] at k;rintro (e | e)
           · exact (m.kp hE (h4 b (by simp [T.blk,k]))).2 e
           · exact (aT.1 BU).2.2 b k b e rfl
         · rintro (e | e)
           · exact (m.lt b k.1).2 e
           · exact k.2 (by simp [T.blk,e])
       · rintro b (e | e)
         · exact m.im b e
         · exact (m.kp hE (tw b e)).1
     · rcases vA.owned m iK hb with k | k
       · rw [l8] at k;exact ⟨id,o,hE,h4 b (by simp [T.blk,k])⟩
       · exact k.1
end
section
variable {P:Program}{o:Oper}{a:Act}{w:World}{A:Nat→Prop}{E:dV An}{nx:dv}{γ:Nat}{v:MV}{h h':cq}{s:gJ}{K:jC}{d:Option Nat}
 (hs:qd P w A E nx s a) (hm:MR w A E h nx) (hγ:¬ nx γ)
include hs hm hγ
theorem D2U {c:Call}{t e:TypeId}{x y:Operand}{x' y':dO}{t1 t2:TypeId}{pz:Bool}(ho:o.op=.call c)(pK:c.callee=.builtin .append)(oX:c.args=#[x,y])(sB:c.argTypes=#[t,t])(hx:fB P t1 x=some x')(hy:fB P t2 y=some y')
 (ht:P.underlying t=some (.slice e)) (rO:P.cellsOf e≠0) (wz:P.bytesOf e≠0) (hz:(vp P e).map cF=some (P.cellsOf e))
 (he:cf K γ d s h (.app pz (P.cellsOf e) (P.bytesOf e) x' y')=some (v,h')):cJ P o a w A E nx γ v h':=by
 simp only [cf] at he;split at he
 · rename_i id IX len g1 h1 ye;obtain ⟨val,w',E2,h2,h3,h4,h5⟩:=D2T hm hγ ht rO wz hz (j0 hs hx) (j0 hs hy) ye o.type;have hr:(execOp a.eval o).run P w=.ok (.value val) w':=by rw [RN ho pK oX sB,h2]
   split at he
   · split at he
     · rename_i u hu;simp only [aa,ae] at he;obtain ⟨rfl,rfl⟩:=he;have hex:∃ o',E2 id=some o':=by
        simp only [mB] at hu;split at hu
        · rename_i iT;obtain ⟨an,l',nA,_⟩:=h3.vec iT;obtain ⟨o',oQ,_⟩:=RW h3 nA;exact ⟨o',oQ⟩
        · cases hu
       obtain ⟨o',BV⟩:=hex;obtain ⟨k1,k2⟩:=h3.wE BV;refine ⟨val,w',_,_,.inl hr,?_,k1,h4.trans k2 (nx.eP γ)⟩;simp only [bT];refine C5 h3 (fun b hb=>.inl hb) hu ?_ h5
       intro i hi o1 nu b hb;simp only [kf,aW] at hi;subst hi;rw [BV] at nu;cases nu;exact .inr hb
     · cases he
   · simp only [aa,ae] at he;obtain ⟨rfl,rfl⟩:=he;exact ⟨val,w',A,E2,.inl hr,h5,h3,h4⟩
 · cases he
theorem D0T {t e:TypeId}{n:Nat}{parts:Array (Nat×Operand)}{zc:List Value}{l:List dO}(ho:o.op=.buildSlice t n parts)(hu:P.underlying t=some (.slice e))(rO:P.cellsOf e≠0)(kW:n*P.cellsOf e≤16777216)
 (hz:vp P e=some zc) (y5:zc.length=P.cellsOf e) (kV:Ay n parts.toList=true) (hl:xW P parts.toList (az n e) 0 (az n zc).flatten=some l)
 (he:cf K γ d s h (.bslp (P.cellsOf e) l)=some (v,h')):cJ P o a w A E nx γ v h':=by
 simp only [cf] at he;split at he
 · rename_i hb;split at he
   · rename_i ts h1 hi;split at he
     · rename_i fg;split at he
       · rename_i h2 xt;split at he
         · rename_i u qz;simp only [aa,ae] at he;obtain ⟨rfl,rfl⟩:=he;have jt:cf K γ d s h (.bsl true (P.cellsOf e) l)=some (.own (d.getD 0) [] 0 ts.length γ,h2):=by
            simp only [cf,if_pos hb,if_true,hi,if_pos fg,xt]
           obtain ⟨val,w',A1,E2,hr,h5,h3,h4⟩:=YA hs hm hγ ho hu rO kW hz y5 kV hl (fun _=>rfl) jt
           have hex:∃ o',E2 (d.getD 0)=some o':=by
            simp only [mB] at qz;split at qz
            · rename_i iT;obtain ⟨an,l',nA,_⟩:=h3.vec iT;obtain ⟨o',oQ,_⟩:=RW h3 nA;exact ⟨o',oQ⟩
            · cases qz
           obtain ⟨o',BV⟩:=hex;obtain ⟨k1,k2⟩:=h3.wE BV;refine ⟨val,w',_,_,hr,?_,k1,h4.trans k2 (nx.eP γ)⟩;simp only [bT];refine C5 h3 (fun b hb=>.inl hb) qz ?_ h5
           intro i hi o1 nu b hb;simp only [kf,aW] at hi;subst hi;rw [BV] at nu;cases nu;exact .inr hb
         · cases he
       · cases he
     · cases he
   · cases he
 · cases he
end
end Go.Mid
