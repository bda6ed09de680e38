/- New memory: variables, literals of slices, make. -/
import Derived.Test.YtfjdpcegbfenbaaGreatDoorM2
import Derived.Laws.MakeOwn
set_option linter.unusedSimpArgs false
set_option linter.unusedVariables false
open Array renaming ext' → gO, map → qy, length_toList → ef
open Bool renaming and_eq_true → ak
open Go renaming heap_alloc_old → ou, run_newObj → pC, run_underlying → a8, growslice_fits → mj, run_firstCells_none → jN, run_firstCells_some → gY, grownCap_le_maxLen → j6, run_storeCells_cells → jo
open Go.Builtin renaming append_ → de, zeroCells → a6, firstCells → iB, lenOf → gQ
open Go.Program renaming bytesOf → nQ, cellsOf → j0
open Go.Result renaming andThen_ok → aV
open Go.Sem renaming run_bind → bx, run_pure → bN
open List renaming getElem?_append_right → bH, getElem?_append_left → cY, getElem?_eq_some_iff → aL, cons_append → aS, nil_append → a7, nodup_cons → b5, replicate → az, replicate_succ → cF, mem_cons → aM, map_append → b8, map_map → cu, flatten_cons → ej, append_nil → bF, getElem?_map → aN, size_toArray → fF, getElem?_eq_none → bK, length_append → aQ, mem_append → ay, getElem?_replicate → j9, map_replicate → j5, length_cons → ba, mem_map_of_mem → eg, length_map → aD, all_eq_true → bj, nodup_nil → hZ, eq_of_mem_replicate → fp, length_replicate → gv, take_succ_cons → bW, take_zero → fv, map_take → bP, nodup_append → aT, length_take → aX, take_nil → gP, mem_of_mem_take → c8, getElem?_take_of_lt → dR, eq_nil_of_length_eq_zero → bB, mem_singleton → aW, map_cons → aG, all_cons → dF, take_append_drop → bO, length → cE, drop_zero → fx, mem_map → bh
open Nat renaming succ_mul → dA, le_refl → au, min_eq_left → da, le_trans → dJ, le_mul_of_pos_right → ia, pos_of_ne_zero → eI, add_mul → ir, add_zero → du, lt_of_lt_of_le → br, mul_le_mul_right → jq, zero_mul → dk, zero_add → bS
open Ne renaming symm → dB
open Option renaming bind_some → ah, toList → cp, map_some → ar, getD_some → bG
open Option.some renaming injEq → aa, inj → cm
open Prod.mk renaming injEq → ae
namespace Go.Mid
open Go.RowKit
structure Grown (w w':World) (cs:Array Value):Prop where
 size:w'.heap.size=w.heap.size+1
 old:∀ b,b<w.heap.size→w'.heap[b]?=w.heap[b]?
 new:∃ ty,w'.heap[w.heap.size]?=some (.cells cs ty (0,0))
 rest:w'.os=w.os∧w'.tape=w.tape∧w'.output=w.output
theorem Grown.alloc (w:World) (cs:Array Value) (ty:TypeId):Grown w (w.alloc (.cells cs ty)) cs :=
 ⟨World.size_alloc _ _,fun b hb=>ou w _ b hb,⟨ty,heap_alloc_new w _⟩,⟨rfl,rfl,rfl⟩⟩
theorem Grown.drew (w:World) (cs:Array Value) (ty:TypeId):Grown w (w.drew.alloc (.cells cs ty)) cs :=
 ⟨World.size_alloc _ _,fun b hb=>ou w.drew _ b hb,⟨ty,heap_alloc_new w.drew _⟩,⟨rfl,rfl,rfl⟩⟩
theorem Grown.blk {w w':World} {cs:Array Value} (g:Grown w w' cs):l5 w' w.heap.size cs.size:=by
 obtain ⟨ty,h⟩:=g.new;exact ⟨cs,ty,h,rfl⟩
theorem Grown.row {w w':World} {cs:Array Value} (g:Grown w w' cs) {p c q:List Value} (h:cs.toList=p++c++q):Row w' w.heap.size p.length c:=by
 obtain ⟨ty,hn⟩:=g.new;intro j v hj;have hc:cs=(p++c++q).toArray:=by rw [← h]
 simp only [World.cell?,hn,hc,Option.isSome_none,Bool.false_eq_true,if_false,List.getElem?_toArray];rw [List.append_assoc,bH (by omega),cY (by have:=(aL.1 hj).1;omega)]
 rw [← hj];congr 1;omega
theorem Grown.IE {w w':World} {cs:Array Value} (g:Grown w w' cs):Row w' w.heap.size 0 cs.toList:=g.row (p:=[]) (q:=[]) (by simp)
section
variable {w w':World} {A:Nat→Prop} {E E1:dW An} {nx:dv} {γ:Nat} {h h1:cq}
theorem MR.fresh (m:MR w A E1 h1 nx) (hγ:¬ nx γ) {cs:Array Value} (g:Grown w w' cs) {o':Obj An} (d:Nat) (hg:∀ np y,fu (some o') np=some y→y.1.g=γ)
 (hb:∀ b∈o'.blk,b=w.heap.size∨(b<w.heap.size∧¬ A b∧¬ jJ E1 b)) (iq:o'.blk.Nodup) (hst:o'.st (nx.add γ)):nO w w' A E1 nx (nx.add γ) d o' where
 hn:=nx.eP γ
 sz:=by rw [g.size];omega
 ch:=fun b hb _=>g.old b hb
 ns:=fun np y hy eE=>by rw [hg np y hy] at eE;exact (hγ eE).elim
 lt:=fun b hbm=>by
  rw [g.size];rcases hb b hbm with rfl | h
  · exact ⟨by omega,fun hA=>absurd (m.im _ hA) (by omega)⟩
  · exact ⟨by omega,h.2.1⟩
 nd:=iq
 dj:=fun b hbm j o _ ho l7=>by
  rcases hb b hbm with rfl | h
  · have:=(m.kp ho l7).1;omega
  · exact h.2.2 ⟨j,o,ho,l7⟩
 st:=hst
theorem gJ.fresh (m:MR w A E h nx) (hγ:¬ nx γ) {cs:Array Value} (g:Grown w w' cs) {o':Obj An} {d:Nat} (hg:∀ np y,fu (some o') np=some y→y.1.g=γ)
 (hb:∀ b∈o'.blk,b=w.heap.size∨jJ E b) (dM:∀ b,jJ E1 b→jJ E b) (vC:jK E E1):gJ w A E nx w' A (cD E1 d (some o')):=by
 refine gJ.of (E1:=E1) ⟨g.rest.1,g.rest.2.1,g.rest.2.2⟩ (by rw [g.size];omega) (fun b hb _=>g.old b hb) ?_ (vC.Ek nx) ?_
 · intro b eE ho;rcases AO ho with h1 | ⟨i,oi,hi,r8,AQ⟩
   · rcases hb b h1 with rfl | h2
     · omega
     · exact h2
   · exact dM b ⟨i,oi,r8,AQ⟩
 · intro i np an z bZ eE;by_cases e:i=d
   · subst e;rw [nN] at bZ
     have:=hg np _ bZ
     simp only at this;rw [this] at eE;exact (hγ eE).elim
   · rwa [nU E1 _ e] at bZ
theorem C5f {α:Type} {a:α} {t:T α} {np:Option (List Nat)} {y:α×Option Nat} (h:fu (some (.cell a t)) np=some y):y=(a,none)∨∃ q,fM t q=some y:=by
 cases np with
 | none=>simp only [fu,aa] at h;exact .inl h.symm
 | some q=>rw [sV] at h;exact .inr ⟨q,h⟩
theorem Yy {α:Type} {a:α} {z:Nat} {l:List (T α)} {np:Option (List Nat)} {y:α×Option Nat} (h:fu (some (.vec a z l)) np=some y):y=(a,some z)∨∃ (i:Nat) (t:T α) (q:List Nat),l[i]?=some t∧fM t q=some y:=by
 cases np with
 | none=>simp [fu] at h
 | some q =>
   rw [sV] at h;cases q with
   | nil=>exact .inl (by simp only [Obj.pO,fM,c6,aa] at h;exact h.symm)
   | cons i r =>
     simp only [Obj.pO,BF] at h;cases hl:l[i]? with
     | none=>simp [hl] at h
     | some t=>simp only [hl,ah] at h;exact .inr ⟨i,t,r,hl,h⟩
theorem D0F (m:MR w A E h nx) (hγ:¬ nx γ) {cs:List Value} {t:T Nat} {tA:T An} (k:pg w A E nx γ cs t h1 E1 tA) (g:Grown w w' cs.toArray) (d:Nat) :
 ∃ E2,MR w' A E2 (cD h1 d (some (.cell γ t))) (nx.add γ)∧gJ w A E nx w' A E2∧bT w' A E2 (nx.add γ) (.ptr d none [] γ 0) (.pointer (some ⟨w.heap.size,0,none⟩)):=by
 have pP:∀ np y,fu (some (.cell ⟨γ,some w.heap.size,0⟩ tA)) np=some y→y.1.g=γ:=by
  intro np y hy;rcases C5f hy with rfl | ⟨q,hq⟩
  · rfl
  · exact k.new q y hq
 have je:∀ b∈(Obj.cell ⟨γ,some w.heap.size,0⟩ tA).blk,b=w.heap.size∨b∈tA.blk:=by
  intro b hb;simpa [Obj.blk] using hb
 have eE:∀ b∈tA.blk,b<w.heap.size∧¬ A b:=fun b hb=>m.lt b (k.own b hb).1
 have s:=k.mr.fresh hγ g (o':=.cell ⟨γ,some w.heap.size,0⟩ tA) d pP (fun b hb=>(je b hb).imp id fun hb=>⟨(eE b hb).1,(eE b hb).2,(k.own b hb).2⟩) (by
  simp only [Obj.blk,cp,aS,a7];exact b5.2 ⟨fun hb=>by have:=(eE _ hb).1;omega,k.nd⟩) ⟨nx.iZ γ,k.st⟩
 have f:=s.fr k.mr;have htc:=k.tc.frame f (fun x hx=>g.old x (eE x hx).1)
 have hrow:=g.IE;simp only at hrow;refine ⟨cD E1 d (some (.cell ⟨γ,some w.heap.size,0⟩ tA)),?_,gJ.fresh m hγ g pP (fun b hb=>(je b hb).imp id fun hb=>(k.own b hb).1) k.sub k.ns,?_⟩
 · have:=k.mr.set s (by
    simp only [OAt];refine ⟨w.heap.size,rfl,?_,htc.at_ hrow⟩
    have:=g.blk
    have e:cs.toArray.size=tA.cs:=k.tc.len
    rwa [e] at this)
   simpa only [Obj.mapA,k.er] using this
 · simp only [bT];refine ⟨nx.iZ γ,_,rfl,fun an z hn _=>?_⟩
   rw [nN] at hn;simp only [fu,aa,ae] at hn;exact ⟨w.heap.size,by rw [← hn.1],rfl⟩
theorem Rp (m:MR w A E h nx) (hγ:¬ nx γ) {cs cells:List Value} {ts:List (T Nat)} {lA:List (T An)} {z cap:Nat} (k:l8 w A E nx γ cs ts h1 E1 lA) (g:Grown w w' cells.toArray) (d:Nat) {q:List Value} (hc:cells=cs++q)
 (hz:∀ t∈lA,t.cs=z) (n8:cells.length=cap*z) (hle:lA.length≤cap) (Ep:cap≤9223372036854775807) :
 ∃ E2,MR w' A E2 (cD h1 d (some (.vec γ z ts))) (nx.add γ)∧gJ w A E nx w' A E2∧bT w' A E2 (nx.add γ) (.own d [] 0 lA.length γ) (.slice (some ⟨w.heap.size,0,none⟩) lA.length cap):=by
 have pP:∀ np y,fu (some (.vec ⟨γ,some w.heap.size,cap⟩ z lA)) np=some y→y.1.g=γ:=by
  intro np y hy;rcases Yy hy with rfl | ⟨i,t,q,hl,hq⟩
  · rfl
  · exact k.new i t hl q y hq
 have je:∀ b∈(Obj.vec ⟨γ,some w.heap.size,cap⟩ z lA).blk,b=w.heap.size∨b∈T.b9 lA:=by
  intro b hb;simpa [Obj.blk] using hb
 have eE:∀ b∈T.b9 lA,b<w.heap.size∧¬ A b:=fun b hb=>m.lt b (k.own b hb).1
 have s:=k.mr.fresh hγ g (o':=.vec ⟨γ,some w.heap.size,cap⟩ z lA) d pP (fun b hb=>(je b hb).imp id fun hb=>⟨(eE b hb).1,(eE b hb).2,(k.own b hb).2⟩) (by
  simp only [Obj.blk,cp,aS,a7];exact b5.2 ⟨fun hb=>by have:=(eE _ hb).1;omega,k.nd⟩) ⟨nx.iZ γ,k.st⟩
 have f:=s.fr k.mr;have htc:=k.tc.frame f (fun x hx=>g.old x (eE x hx).1)
 have hrow:=g.row (p:=[]) (c:=cs) (q:=q) (by simp [hc])
 refine ⟨cD E1 d (some (.vec ⟨γ,some w.heap.size,cap⟩ z lA)),?_,gJ.fresh m hγ g pP (fun b hb=>(je b hb).imp id fun hb=>(k.own b hb).1) k.sub k.ns,?_⟩
 · have:=k.mr.set s (by
    simp only [OAt,VB];refine ⟨?_,hle,hz,htc.at_ hrow⟩
    have:=g.blk
    have e:cells.toArray.size=cap*z:=n8
    rwa [e] at this)
   simpa only [Obj.mapA,T.mapAs_eq,k.er] using this
 · simp only [bT];refine ⟨nx.iZ γ,_,_,rfl,hle,fun an z' hn _=>?_⟩
   rw [nN] at hn;simp only [fu,aa,ae] at hn;obtain ⟨rfl,rfl⟩:=hn;exact ⟨⟨rfl,Ep⟩,.inr (by simp)⟩
end
end Go.Mid
namespace Go.Mid
open Go.RowKit
section
variable {w w':World} {A:Nat→Prop} {E:dW An} {nx:dv} {γ:Nat} {h:cq}
theorem MR.AD {A':Nat→Prop} (m:MR w A E h nx) (hA:∀ b,A b→A' b) (h1:∀ b,A' b→b<w.heap.size∧¬ jJ E b):MR w A' E h nx where
 er:=m.er
 at_:=fun i o ho=>OAt.frame ⟨hA,fun _ _=>rfl,oV.refl _ _,dv.le_refl _⟩ (fun _ _=>rfl) (m.at_ i o ho)
 lt:=fun b hb=>⟨(m.lt b hb).1,fun h=>(h1 b h).2 hb⟩
 nd:=m.nd
 dj:=m.dj
 im:=fun b hb=>(h1 b hb).1
 st:=m.st
theorem MR.grow (m:MR w A E h nx) {cs:Array Value} (g:Grown w w' cs) {A':Nat→Prop} (M7:∀ b,A' b↔A b∨b=w.heap.size):MR w' A' E h (nx.add γ)∧gJ w A E nx w' A' E:=by
 have f:Fr w w' A A' E E nx (nx.add γ):=⟨fun b hb=>(M7 b).2 (.inl hb),fun b hb=>g.old b (m.im b hb),oV.refl _ _,nx.eP γ⟩
 refine ⟨⟨m.er,fun i o ho=>OAt.frame f (fun x hx=>g.old x (m.kp ho hx).1) (m.at_ i o ho),fun b hb=>?_,m.nd,m.dj,fun b hb=>?_,fun i o ho=>Obj.kx (nx.eP γ) (m.st i o ho)⟩,?_⟩
 · have:=m.lt b hb
   refine ⟨by rw [g.size];omega,fun h=>?_⟩
   rcases (M7 b).1 h with h | h
   · exact this.2 h
   · omega
 · rw [g.size];rcases (M7 b).1 hb with h | h
   · have:=m.im b h;omega
   · omega
 · refine ⟨g.rest.1,g.rest.2.1,g.rest.2.2,by rw [g.size];omega,fun b hb _=>g.old b hb,f.hA,fun b hb h=>?_,fun _ _ h=>h,oV.refl _ _⟩
   rcases (M7 b).1 h with h | h
   · exact .inl h
   · omega
theorem D2G {l:List PV} {cs:List Value} {z:Nat} (hz:∀ v∈l,v.cs=z) (h:cR w A l cs) {b o:Nat} (hr:Row w b o cs):fL w A l b o z:=by
 induction l generalizing cs o with
 | nil=>simp only [fL]
 | cons x r ih =>
   simp only [cR] at h;obtain ⟨c,d,rfl,h1,h2⟩:=h;have hr:=Row.append.1 hr;have hx:=hz x (by simp)
   have hlen:=h1.len;simp only [fL];refine ⟨⟨c,h1,by rw [hlen,hx],hr.1⟩,?_⟩
   refine ih (fun v hv=>hz v (by simp [hv])) h2 ?_
   rw [← hx,← hlen];exact hr.2
theorem Rq:∀ {n z:Nat} {l:List MV},okB (az n z) l=true→l.length=n∧∀ v∈l,v.cs=z∧rZ v=true
 | 0,z,[],_=>⟨rfl,by simp⟩
 | 0,z,x::r,h=>by simp [okB] at h
 | n+1,z,[],h=>by simp [cF,okB] at h
 | n+1,z,x::r,h=>by
   rw [cF] at h;obtain ⟨h1,h2,h3⟩:=Ys h;obtain ⟨h4,h5⟩:=Rq h3;exact ⟨by simp [h4],fun v hv=>by
    rcases aM.1 hv with rfl | hv
    · exact ⟨h1,h2⟩
    · exact h5 v hv⟩
theorem Rr {zc:List Value} {z:Nat} (hz:zc.length=z):∀ n,((List.range (n*z)).map fun i=>zc.toArray[i%zc.toArray.size]!)=(az n zc).flatten
 | 0=>by simp
 | n+1=>by
   rw [dA,List.range_add,b8,Rr hz n,List.replicate_succ',List.flatten_append];congr 1;simp only [cu,ej,List.flatten_nil,bF];apply List.ext_getElem?;intro i;by_cases hi:i<z
   · have h2:(n*z+i)%z=i:=by rw [Nat.add_comm,Nat.add_mul_mod_self_right,Nat.mod_eq_of_lt hi]
     have h3:zc[i]?=some zc[i]:=by simp
     rw [h3];simp only [aN,List.getElem?_range hi,ar,Function.comp,fF,hz,h2];simp [List.getElem!_toArray,List.getElem!_eq_getElem?_getD,h3]
   · rw [bK (by simp;omega),bK (by omega)]
theorem Rs {zc:List Value} {z:Nat} (hz:zc.length=z) (n:Nat):madeCells zc.toArray (n*z)=(az n zc).flatten.toArray:=by
 apply gO;rw [madeCells];simp only [Array.toList_map,Array.toList_range,Rr hz n]
theorem Rt {zc:List Value} (n:Nat):(az n zc).flatten.length=n*zc.length:=by
 induction n with
 | zero=>simp
 | succ n ih=>rw [cF,ej,aQ,ih,dA];omega
structure y5 (w:World) (A:Nat→Prop) (E:dW An) (nx:dv) (γ:Nat) (cs:List Value) (t:T Nat) (tA:T An):Prop where
 er:tA.mapA An.g=t
 tc:TC w A E nx tA cs
 blk:tA.blk=[]
 st:tA.st (nx.add γ)
 new:∀ q y,fM tA q=some y→y.1.g=γ
 one:∀ c∈cs,c.oneCell'=true
theorem M8 {α:Type}:∀ (q:List Nat) (v:PV),fM (.p v:T α) q=none
 | [],v=>rfl
 | i::r,v=>by
   cases v<;>try rfl
   rename_i l;simp only [fM,c6];cases hl:l[i]? with
   | none=>rfl
   | some x=>simp only;have:=M8 (α:=α) r x;simpa only [fM] using this
mutual
theorem Ru:∀ {v:MV} {cs r:List Value} {t:T Nat},sA v cs=some r→zT γ v=some t→∃ c tA,cs=c++r∧y5 w A E nx γ c t tA
 | .p v,cs,r,t,h,k=>by
   simp only [zT,aa] at k;subst k;simp only [sA] at h;obtain ⟨c,h1,h2⟩:=M5 (w:=w) (A:=A) h;exact ⟨c,.p v,h1,rfl,by simp only [TC];exact h2,rfl,trivial,(fun q y hy=>by rw [M8] at hy;cases hy),h2.kz⟩
 | .nil z,cs,r,t,h,k=>by
   simp only [zT,aa] at k;subst k;simp only [sA] at h;split at h
   · rename_i a r';cases h;refine ⟨[.slice a 0 0],.vec ⟨γ,none,0⟩ z [] 0,rfl,rfl,?_,rfl,⟨nx.iZ γ,trivial⟩,?_,by intro c hc;simp at hc;subst hc;rfl⟩
     · simp only [TC,VB];exact ⟨a,0,rfl,au _,⟨rfl,rfl⟩,trivial,trivial⟩
     · intro q y hy;cases q with
       | nil=>simp [fM,c6] at hy;rw [← hy]
       | cons i r=>simp [fM,c6] at hy
   · cases h
 | .agg l,cs,r,t,h,k=>by
   simp only [zT] at k;split at k
   · rename_i ts rO;cases k;simp only [sA] at h;obtain ⟨c,lA,h1,h2,h3,h4,h5,h6,h7⟩:=Yz h rO;refine ⟨c,ke lA,h1,by rw [MQ,h2],Yg.2 h3,by rw [MS,h4],Q5 h5,?_,h7⟩
     intro q y hy;cases q with
     | nil=>rw [Q8] at hy;cases hy
     | cons i r =>
       rw [Q6] at hy;cases hl:lA[i]? with
       | none=>simp [hl] at hy
       | some t=>simp only [hl,ah] at hy;exact h6 t (List.mem_of_getElem? hl) r y hy
   · cases k
 | .own ..,cs,r,t,h,k=>by simp [zT] at k
 | .ptr ..,cs,r,t,h,k=>by simp [zT] at k
 | .fE ..,cs,r,t,h,k=>by simp [zT] at k
 | .fn ..,cs,r,t,h,k=>by simp [zT] at k
 | .eO _,cs,r,t,h,k=>by simp [zT] at k
 | .dead _,cs,r,t,h,k=>by simp [zT] at k
theorem Yz:∀ {l:List MV} {cs r:List Value} {ts:List (T Nat)},CP l cs=some r→zT.CK γ l=some ts→∃ c lA,cs=c++r∧lA.map (T.mapA An.g)=ts∧kq w A E nx lA c∧T.b9 lA=[]∧T.ku (nx.add γ) lA∧(∀ t∈lA,∀ q y,fM t q=some y→y.1.g=γ)∧∀ c'∈c,c'.oneCell'=true
 | [],cs,r,ts,h,k=>by
   simp only [zT.CK,aa] at k;subst k;simp only [CP,aa] at h;subst h;exact ⟨[],[],rfl,rfl,by simp only [kq],rfl,trivial,by simp,by simp⟩
 | x::q,cs,r,ts,h,k=>by
   simp only [zT.CK] at k;split at k
   · rename_i t Rk ht rO;cases k;simp only [CP] at h;split at h
     · rename_i d hd;obtain ⟨c,tA,rfl,z⟩:=Ru hd ht;obtain ⟨c',lA,rfl,h2,h3,h4,h5,h6,h7⟩:=Yz h rO;refine ⟨c++c',tA::lA,by simp,by simp [z.er,h2],by simp only [kq];exact ⟨c,c',rfl,z.tc,h3⟩,by simp [T.b9,z.blk,h4],⟨z.st,h5⟩,?_,fun x hx=>(ay.1 hx).elim (z.one x) (h7 x)⟩
       intro t ht;rcases aM.1 ht with rfl | ht
       · exact z.new
       · exact h6 t ht
     · cases h
   · cases k
end
theorem IF {P:Program} {t:TypeId} {v:MV} (h:Bv P t=some v):∃ zc,vq P t=some zc∧sA v zc=some []:=by
 unfold Bv at h;split at h
 · rename_i v' zc hv r9;split at h
   · rename_i hc;cases h;exact ⟨zc,r9,hc⟩
   · cases h
 · cases h
end
theorem C8S {P:Program} {t:TypeId} {v:PV} (h:Mv P t=some v):∃ zc,vq P t=some zc∧∀ (w:World) (A:Nat→Prop),ec w A v zc:=by
 unfold Mv at h;split at h
 · rename_i v' hz;cases h;obtain ⟨zc,r9,wA⟩:=IF hz;refine ⟨zc,r9,fun w A=>?_⟩
   simp only [sA] at wA;obtain ⟨c,h1,h2⟩:=M5 (w:=w) (A:=A) wA;rw [bF] at h1;rw [h1];exact h2
 · rename_i z hz;cases h;obtain ⟨zc,r9,wA⟩:=IF hz;refine ⟨zc,r9,fun w A=>?_⟩
   simp only [sA] at wA;split at wA
   · rename_i q r;simp only [aa] at wA;subst wA;simp only [ec];exact ⟨_,0,rfl,au _,.inl trivial⟩
   · cases wA
 · cases h
section
variable {P:Program} {o:Oper} {a:Act} {w:World} {A:Nat→Prop} {E:dW An} {nx:dv} {γ:Nat} {v:MV} {h h':cq} {s:gI} {K:jE} {d:Option Nat}
 (hs:qf P w A E nx s a) (hm:MR w A E h nx) (hγ:¬ nx γ)
theorem cI.of {val:Value} {w':World} {E':dW An} (hr:(execOp a.eval o).run P w=.ok (.value val) w') (hm:MR w' A E' h' (nx.add γ)) (hg:gJ w A E nx w' A E') (hv:bT w' A E' (nx.add γ) v val):cI P o a w A E nx γ v h' :=
 ⟨val,w',A,E',.inl hr,hv,hm,hg⟩
include hm hγ
theorem YA {x:MV} {val:Value} {cs:List Value} (hc:val.cells.toList=cs) (hv:bT w A E nx x val) {ty:TypeId} (hr:(execOp a.eval o).run P w=.ok (.value (.pointer (some ⟨w.heap.size,0,none⟩))) (w.alloc (.cells cs.toArray ty)))
 (he:(match o9 γ h x with
   | some (t,h1)=>match m4 d h1 (.cell γ t) with | some h'=>some (MV.ptr (d.getD 0) none [] γ 0,h') | none=>none
   | none=>none)=some (v,h')):cI P o a w A E nx γ v h':=by
 split at he
 · rename_i t h1 hi;cases d with
   | none=>simp [m4] at he
   | some d =>
     simp only [m4,bG,aa,ae] at he;obtain ⟨rfl,rfl⟩:=he;obtain ⟨E1,tA,k⟩:=Ri x hi hm hv;rw [hc] at k;obtain ⟨E2,k1,k2,k3⟩:=D0F hm hγ k (Grown.alloc w cs.toArray ty) d;exact cI.of hr k1 k2 k3
 · cases he
theorem C8T {t:TypeId} {z:MV} (ho:o.op=.alloc t) (hz:Bv P t=some z) (he:cf K γ d s h (.box (.c z))=some (v,h')):cI P o a w A E nx γ v h':=by
 obtain ⟨zc,h1,h2⟩:=IF hz;obtain ⟨zv,h3,h4,_⟩:=C3 h1 w;obtain ⟨c,h5,val,h6,_,_,h7⟩:=Rl (w:=w) (A:=A) (E:=E) (nx:=nx) h2;rw [bF] at h5;subst h5;simp only [cf,cQ] at he;refine YA (ty:=t) hm hγ h6 h7 ?_ he;simp only [execOp,ho,Instr.alloc,bx,h3,aV,newVar,newRow,h4,pC,bN];rfl
include hs
theorem D2H {t t0:TypeId} {x:Operand} {x':dQ} (ho:o.op=.box t x) (hx:fD P t0 x=some x') (he:cf K γ d s h (.box x')=some (v,h')):cI P o a w A E nx γ v h':=by
 have hv:=j3 hs hx;simp only [cf] at he;refine YA (ty:=t) hm hγ rfl hv ?_ he;simp only [execOp,ho,Instr.box,bx,aV,newVar,newRow,pC,bN];rw [Array.toArray_toList];rfl
end
end Go.Mid
namespace Go.Mid
open Go.RowKit
section
variable {P:Program} {o:Oper} {a:Act} {w:World} {A:Nat→Prop} {E:dW An} {nx:dv} {γ:Nat} {v:MV} {h h':cq} {s:gI} {K:jE} {d:Option Nat}
 (hs:qf P w A E nx s a) (hm:MR w A E h nx) (hγ:¬ nx γ)
include hs hm hγ
omit hs in
theorem D0G {z:Nat} {e:TypeId} (ho:o.op=.assign (.const (.slice none 0 0))) (he:cf K γ d s h (.nilv z)=some (v,h')):cI P o a w A E nx γ v h':=by
 simp only [cf] at he;cases d with
 | none=>simp [m4] at he
 | some d =>
   simp only [m4,bG,aa,ae] at he;obtain ⟨rfl,rfl⟩:=he;have pP:∀ np y,fu (some (Obj.vec (⟨γ,none,0⟩:An) z [])) np=some y→y.1.g=γ:=by
    intro np y hy;rcases Yy hy with rfl | ⟨i,t,q,hl,_⟩
    · rfl
    · simp at hl
   have je:(Obj.vec (⟨γ,none,0⟩:An) z []).blk=[]:=rfl;have s:nO w w A E nx (nx.add γ) d (.vec ⟨γ,none,0⟩ z []) :=
    ⟨nx.eP γ,au _,fun _ _ _=>rfl,fun np y hy eE=>by rw [pP np y hy] at eE;exact (hγ eE).elim,by simp [je],by simp [je],by simp [je],⟨nx.iZ γ,trivial⟩⟩
   have yc:=hm.set s (by simp only [OAt,VB];exact ⟨trivial,trivial⟩)
   refine ⟨.slice none 0 0,w,A,_,.inl ?_,?_,yc,?_⟩
   · simp [execOp,ho,D8]
   · simp only [bT];refine ⟨nx.iZ γ,none,0,rfl,au _,fun an z' hn _=>?_⟩
     rw [nN] at hn;simp only [fu,aa,ae] at hn;obtain ⟨rfl,rfl⟩:=hn;exact ⟨rfl,rfl⟩
   · refine gJ.of (E1:=E) ⟨rfl,rfl,rfl⟩ (au _) (fun _ _ _=>rfl) ?_ (oV.refl _ _) (s.fr hm).hE
     intro b _ hb;rcases AO hb with hb | ⟨i,oi,_,r8,AQ⟩
     · simp [je] at hb
     · exact ⟨i,oi,r8,AQ⟩
theorem YB {t e:TypeId} {n:Nat} {mt:Bool} {parts:Array (Nat×Operand)} {zc:List Value} {l:List dQ} (ho:o.op=.buildSlice t n parts) (hu:P.underlying t=some (.slice e)) (rP:P.cellsOf e≠0) (kW:n*P.cellsOf e≤16777216)
 (hz:vq P e=some zc) (y6:zc.length=P.cellsOf e) (kV:AA n parts.toList=true) (hl:xX P parts.toList (az n e) 0 (az n zc).flatten=some l) (Rv:n=0→mt=true)
 (he:cf K γ d s h (.bsl mt (P.cellsOf e) l)=some (v,h')):cI P o a w A E nx γ v h':=by
 simp only [cf] at he;split at he
 · rename_i hb;have BN:l.length=n:=by
    obtain ⟨qo,_,_,h3,_⟩:=Rm hs hl;simpa using h3
   rw [BN] at hb;obtain ⟨zv,Eo,r9,_⟩:=C3 hz w;obtain ⟨cs,h1,h2⟩:=Rn hs hl (by simpa using kV) (by simpa using hb) (fun i=>some (i*P.cellsOf e,P.cellsOf e)) (by
    intro i t ht;rw [j9] at ht;split at ht
    · rename_i hi;cases ht;rw [List.take_replicate,j5,Yx,da (by omega)]
    · cases ht)
   have nP:cs.length=n*P.cellsOf e:=by
    rw [M6 h1];obtain ⟨h3,h4⟩:=Rq hb
    have:∀ {l:List MV} {z:Nat},(∀ v∈l,v.cs=z)→MV.dm l=l.length*z:=by
     intro l z
     induction l with
     | nil=>intro _;simp [MV.dm]
     | cons x r ih=>intro hx;rw [MV.dm,hx x (by simp),ih (fun v hv=>hx v (by simp [hv])),ba,dA];omega
    rw [this (fun v hv=>(h4 v hv).1),h3]
   have il:(execOp a.eval o).run P w=.ok (.value (.slice (some ⟨w.heap.size,0,none⟩) n n)) (w.alloc (.cells cs.toArray e)):=by
    have Er:n*P.cellsOf e=0→(Array.range (n*P.cellsOf e)).map (fun i=>(#[]:Array Value)[i%(#[]:Array Value).size]!)=(az n zc).flatten.toArray:=by
     intro h0
     have:n=0:=by
      rcases Nat.mul_eq_zero.1 h0 with h | h
      · exact h
      · exact absurd h rP
     subst this;simp
    have Es:(Array.range (n*P.cellsOf e)).map (fun i=>zc.toArray[i%zc.toArray.size]!)=(az n zc).flatten.toArray:=by
     have:=Rs y6 n
     rw [← this];rfl
    simp only [execOp,ho,Instr.buildSlice,bx,a8 hu,aV,BA w rP];rw [if_neg (by omega)]
    by_cases h0:n*P.cellsOf e=0
    · rw [if_pos h0];simp only [bx,bN,aV,Er h0];rw [h2];simp only [bx,newRow,pC,aV,bN];rfl
    · rw [if_neg h0];simp only [bx,bN,Eo,aV,r9,Es];rw [h2];simp only [bx,newRow,pC,aV,bN];rfl
   have hg:=Grown.alloc w cs.toArray e;split at he
   · rename_i vs fY;simp only [aa,ae] at he;obtain ⟨rfl,rfl⟩:=he;have ko:pF (l.map (cQ s))=some vs∧mt=false:=by
      cases mt
      · exact ⟨by simpa using fY,rfl⟩
      · simp at fY
     have hp:=CV ko.1;rw [hp] at h1 hb;obtain ⟨h3,h4⟩:=Rq hb;obtain ⟨k1,k2⟩:=hm.grow (γ:=γ) hg (A':=fun b=>A b∨b=w.heap.size) (fun _=>Iff.rfl)
     refine ⟨_,_,_,E,.inl il,?_,k1,k2⟩;have BO:vs.length=n:=by simpa using h3
     refine vw.2 ⟨_,n,by rw [BO],by omega,?_⟩
     right;refine ⟨_,0,P.cellsOf e,rfl,.inr rfl,?_⟩;refine D2G (cs:=cs) ?_ ?_ hg.IE
     · intro v hv
       have:=(h4 (.p v) (eg hv)).1
       simpa [MV.cs] using this
     · exact (QX h1).frame k2.sub (fun b hb=>hg.old b (hm.im b hb))
   · split at he
     · rename_i ts uh rO;split at he
       · rename_i fh;cases d with
         | none=>simp [m4] at he
         | some d =>
           simp only [m4,bG,aa,ae] at he;obtain ⟨rfl,rfl⟩:=he;obtain ⟨vs,fY,rfl⟩:=h1.vs;obtain ⟨E1,lA,k⟩:=Rj _ rO hm fY;have n7:lA.length=ts.length:=by rw [← k.er];simp
           have M9:ts.length=n:=by
            have:∀ (l:List MV) (h:cq) (ts:List (T Nat)) (h1:cq),tQ γ h l=some (ts,h1)→ts.length=l.length:=by
             intro l
             induction l with
             | nil=>intro h ts h1 hi;simp only [tQ,aa,ae] at hi;rw [← hi.1];rfl
             | cons x r ih =>
               intro h ts h1 hi;simp only [tQ] at hi;split at hi
               · split at hi
                 · rename_i h3;simp only [aa,ae] at hi;rw [← hi.1,ba,ih _ _ _ h3,ba]
                 · cases hi
               · cases hi
            rw [this _ _ _ _ rO,aD,BN]
           have AG:∀ t∈lA,t.cs=P.cellsOf e:=by
            intro t ht;have h3:T.mapA An.g t∈ts:=by rw [← k.er];exact eg ht
            simp only [pI,bj,beq_iff_eq] at fh
            have:=fh _ h3
            rwa [T.ky] at this
           obtain ⟨E2,k1,k2,k3⟩:=Rp hm hγ k hg d (q:=[]) (by simp) AG (cap:=n) nP (by omega) (by simp only [AA,ak,decide_eq_true_eq] at kV;exact kV.2.2)
           rw [n7,M9] at k3;rw [M9];exact cI.of il k1 k2 k3
       · cases he
     · cases he
 · cases he
end
end Go.Mid
namespace Go.Mid
open Go.RowKit
section
variable {w w':World} {A:Nat→Prop} {E:dW An} {nx:dv} {γ:Nat} {h:cq}
theorem y5.replicate {cs:List Value} {t:T Nat} {tA:T An} (z:y5 w A E nx γ cs t tA) (m:MR w A E h nx) (n:Nat):l8 w A E nx γ (az n cs).flatten (az n t) h E (az n tA) where
 er:=by rw [j5,z.er]
 mr:=m
 tc:=by
  induction n with
  | zero=>simp [kq]
  | succ n ih=>rw [cF,cF,ej];simp only [kq];exact ⟨_,_,rfl,z.tc,ih⟩
 nd:=by
  have:T.b9 (az n tA)=[]:=by
   induction n with
   | zero=>rfl
   | succ n ih=>rw [cF,T.b9,z.blk,ih];rfl
  rw [this];exact hZ
 own:=by
  have:T.b9 (az n tA)=[]:=by
   induction n with
   | zero=>rfl
   | succ n ih=>rw [cF,T.b9,z.blk,ih];rfl
  rw [this];intro b hb;simp at hb
 sub:=fun _ h=>h
 st:=by
  induction n with
  | zero=>trivial
  | succ n ih=>rw [cF];exact ⟨z.st,ih⟩
 ns:=jK.refl E
 new:=by
  intro i t ht;rw [j9] at ht;split at ht
  · cases ht;exact z.new
  · cases ht
 one:=by
  intro c hc;obtain ⟨l,hl,nP⟩:=List.mem_flatten.1 hc;rw [fp hl] at nP;exact z.one c nP
 ls:=mR.refl E
end
theorem C26 {P:Program} {w:World} {t ti ty e:TypeId} {i:TypeInfo} {z:Value} {k:IntKind} {kd:IntKind} (ht:P.underlying t=some (.slice e)) (Et:P.underlying ti=some (.int k)) (hi:P.info? e=some i) (hz:i.zero=some z) (hsz:0<i.size) {a:Option Addr} {n:Nat} (hn:0<n)
 (rb:n*i.bytes≤140737488355328) (ahU:n≤140737488355328) :
 (de #[t,ti] ty #[.slice a 0 0,.int kd n]).run P w=.ok (.slice (some ⟨w.heap.size,0,none⟩) n (grownCap w n 0 e))
   (w.drew.alloc (.cells ((a6 z.cells n).toList++(a6 z.cells (grownCap w n 0 e-n)).toList).toArray e)):=by
 have hw:IntKind.i64.wrap (n:Int)=(n:Int):=by
  simp only [IntKind.wrap,IntKind.bits,IntKind.signed];simp;omega
 have h0:¬ ((n:Int)<0):=by omega
 have h1:¬ (281474976710656<(n:Int)*(i.bytes:Int)):=by
  have:((n*i.bytes:Nat):Int)≤140737488355328:=by omega
  rw [Int.natCast_mul] at this;omega
 have h2:¬ (n≤0):=by omega
 have h3:¬ (9223372036854775807<(n:Int)):=by omega
 have hc:=mj (need:=n) (old:=0) (bytes:=i.bytes) hn rb;have h4:¬ (281474976710656<Builtin.nextslicecap n 0*i.bytes):=by omega
 have h5:¬ (n*i.size=0):=by
  have:=Nat.mul_pos hn hsz;omega
 have h6:¬ (n=0):=by omega
 have h7:¬ (i.size=0):=by omega
 have hf:∀ w':World,(iB i.size 0 (.slice a 0 0)).run P w'=.ok #[] w':=by
  intro w';cases a with
  | none=>exact jN w' _ _ _ _
  | some a=>exact gY w' i.size 0 a 0 0 [] (by simp) (fun j v h=>by simp at h)
 simp [de,a8 ht,a8 Et,sizeOf,typeInfo,zeroValue,hi,hz,asInt,asIntOf,hw,h0,h1,h3,h4,h5,h6,Question.forced,newRow,grownCap,hf];congr 2;apply gO;simp
theorem YC {z:Array Value} {k:Nat} (n:Nat) (hz:z.size=k):(a6 z n).toList=(az n z.toList).flatten:=by
 have h:=Rs (zc:=z.toList) (z:=k) (by simpa using hz) n
 have e:a6 z n=madeCells z.toList.toArray (n*k):=by
  unfold a6 madeCells;rw [hz]
 rw [e,h]
section
variable {P:Program} {o:Oper} {a:Act} {w:World} {A:Nat→Prop} {E:dW An} {nx:dv} {γ:Nat} {v:MV} {h h':cq} {s:gI} {K:jE} {d:Option Nat}
 (hs:qf P w A E nx s a) (hm:MR w A E h nx) (hγ:¬ nx γ)
include hs hm hγ
theorem D0H {t e t1 t2:TypeId} {zero:MV} {lx cx:Operand} {l' c':dQ} (ho:o.op=.makeSlice t lx cx) (hu:P.underlying t=some (.slice e)) (rP:P.cellsOf e≠0) (wC:P.bytesOf e≠0) (hz:Bv P e=some zero)
 (hl:fD P t1 lx=some l') (hc:fD P t2 cx=some c') (he:cf K γ d s h (.mksl (P.cellsOf e) (P.bytesOf e) zero l' c')=some (v,h')):cI P o a w A E nx γ v h':=by
 simp only [cf] at he;split at he
 · rename_i l c Rw Gk;obtain ⟨kl,BP⟩:=Ir Rw (j3 hs hl);obtain ⟨kc,AH⟩:=Ir Gk (j3 hs hc);split at he
   · rename_i tz Rx;split at he
     · rename_i ed;obtain ⟨h0,nM,fZ,xm⟩:=ed;cases d with
       | none=>simp [m4] at he
       | some d =>
         simp only [m4,bG,aa,ae] at he;obtain ⟨rfl,rfl⟩:=he;obtain ⟨zc,r9,wA⟩:=IF hz;obtain ⟨zv,_,mF,i,hi,C4⟩:=C3 r9 w;obtain ⟨zc',tA,h1,zt⟩:=Ru (w:=w) (A:=A) (E:=E) (nx:=nx) wA Rx;rw [bF] at h1;subst h1;have rm:P.bytesOf e=i.bytes:=by simp [nQ,hi]
         have oc:P.cellsOf e=i.size:=by simp [j0,hi]
         have y7:tA.cs=P.cellsOf e:=by rw [← xm,← zt.er,T.ky]
         have y6:zc.length=P.cellsOf e:=by rw [zt.tc.len,y7]
         have Ry:0≤c:=by omega
         have IG:c.toNat≤room:=dJ (ia _ (eI wC)) fZ;have Rz:((c.toNat * P.bytesOf e:Nat):Int)≤140737488355328:=by
          have:c.toNat * P.bytesOf e≤140737488355328:=fZ
          omega
         have hcI:(c.toNat:Int)=c:=Int.toNat_of_nonneg Ry;have il:=run_make (P:=P) w t e i zv hu hi C4 kl kc l c h0 nM (by
          rw [Int.natCast_mul,hcI,rm] at Rz;rw [Int.mul_comm];omega) (by
          have:c.toNat≤140737488355328:=IG
          omega)
         have n8:(az c.toNat zc).flatten.length=c.toNat * P.cellsOf e:=by rw [Rt,y6]
         have II:madeCells zv.cells (c.toNat * i.size)=(az c.toNat zc).flatten.toArray:=by
          rw [mF,← oc];exact Rs y6 _
         rw [II] at il;have k:=zt.replicate hm l.toNat;obtain ⟨E2,k1,k2,k3⟩:=Rp hm hγ k (Grown.alloc w _ e) d (q:=(az (c.toNat-l.toNat) zc).flatten) (by
          rw [← List.flatten_append,List.replicate_append_replicate];congr 2;omega) (fun t ht=>by rw [fp ht,y7]) n8 (by simp;omega) (by have:c.toNat≤140737488355328:=IG;omega)
         rw [gv] at k3;refine cI.of (w':=_) ?_ k1 k2 k3;simp only [execOp,ho,BP,AH,bx,il,aV,bN]
     · cases he
   · cases he
 · cases he
theorem D0I {t ti e t1 t2:TypeId} {c:Call} {zero:MV} {x y:Operand} {x' y':dQ} {k:IntKind} (ho:o.op=.call c) (pK:c.callee=.builtin .append) (oW:c.args=#[x,y]) (sC:c.argTypes=#[t,ti])
 (hu:P.underlying t=some (.slice e)) (Et:P.underlying ti=some (.int k)) (rP:P.cellsOf e≠0) (wC:P.bytesOf e≠0) (hz:Bv P e=some zero)
 (hx:fD P t1 x=some x') (hy:fD P t2 y=some y') (he:cf K γ d s h (.appn (P.cellsOf e) (P.bytesOf e) zero x' y')=some (v,h')):cI P o a w A E nx γ v h':=by
 have dN:=j3 hs hx;simp only [cf] at he;split at he
 · rename_i zz l xp Rw;obtain ⟨kl,BP⟩:=Ir Rw (j3 hs hy);split at he
   · rename_i tz Rx;split at he
     · rename_i ed;obtain ⟨h0,fZ,xm⟩:=ed;cases d with
       | none=>simp [m4] at he
       | some d =>
         simp only [m4,bG,aa,ae] at he;obtain ⟨rfl,rfl⟩:=he;rw [xp] at dN;simp only [bT] at dN;obtain ⟨ax,RA⟩:=dN;obtain ⟨zc,r9,wA⟩:=IF hz;obtain ⟨zv,_,mF,i,hi,C4⟩:=C3 r9 w;obtain ⟨zc',tA,h1,zt⟩:=Ru (w:=w) (A:=A) (E:=E) (nx:=nx) wA Rx;rw [bF] at h1;subst h1;have rm:P.bytesOf e=i.bytes:=by simp [nQ,hi]
         have oc:P.cellsOf e=i.size:=by simp [j0,hi]
         have y7:tA.cs=P.cellsOf e:=by rw [← xm,← zt.er,T.ky]
         have y6:zc.length=P.cellsOf e:=by rw [zt.tc.len,y7]
         have IG:l.toNat≤room:=dJ (ia _ (eI wC)) fZ;have hlI:(l.toNat:Int)=l:=Int.toNat_of_nonneg (by omega)
         have AR:0<l.toNat:=by omega
         have RB:0<i.size:=by rw [← oc];exact eI rP
         rw [rm] at fZ;have il:=C26 (P:=P) (w:=w) (ty:=o.type) (kd:=kl) (a:=ax) hu Et hi C4 RB AR fZ IG;have wD:=grownCap_ge w l.toNat 0 e;have sW:zv.cells.size=P.cellsOf e:=by rw [mF];simpa using y6
         have hzt:zv.cells.toList=zc:=by rw [mF]
         rw [YC l.toNat sW,YC (grownCap w l.toNat 0 e-l.toNat) sW,hzt] at il;have kk:=zt.replicate hm l.toNat;obtain ⟨E2,k1,k2,k3⟩:=Rp hm hγ kk (Grown.drew w _ e) d (cap:=grownCap w l.toNat 0 e) (q:=(az (grownCap w l.toNat 0 e-l.toNat) zc).flatten) rfl
          (fun t ht=>by rw [fp ht,y7]) (by
            rw [aQ,Rt,Rt,y6,← ir];congr 1;omega) (by simp;omega) (j6 w l.toNat 0 e (by have:l.toNat≤140737488355328:=IG;unfold maxLen;omega))
         rw [gv] at k3;refine cI.of (w':=_) ?_ k1 k2 k3;rw [BC ho pK];simp only [builtin,oW,sC];have e1:qy a.eval #[x,y]=#[.slice ax 0 0,.int kl l.toNat]:=by simp [RA,BP,hlI]
         rw [e1];simp only [bx,il,aV,bN]
     · cases he
   · cases he
 · cases he
end
end Go.Mid
namespace Go.Mid
open Go.RowKit
section
variable {w w':World} {A:Nat→Prop} {E:dW An} {nx:dv} {h:cq}
mutual
theorem TAt.cells:∀ {t:T An} {b o:Nat},TAt w A E nx t b o→∀ j,j<t.cs→(w.cell? ⟨b,o+j,none⟩).isSome=true
 | .p v,b,o,h,j,hj=>by
   simp only [TAt] at h;obtain ⟨cs,h1,h2⟩:=h
   have:j<cs.length:=by rw [h1.len];exact hj
   rw [h2 j cs[j] (by simp [this])];rfl
 | .m v,b,o,h,j,hj=>by
   simp only [TAt] at h;obtain ⟨h0,_,val,_,h2⟩:=h;simp only [T.cs,h0] at hj
   have:j=0:=by omega
   subst this;rw [h2 0 val rfl];rfl
 | .agg l,b,o,h,j,hj=>by simp only [TAt] at h;exact cK.cells h j hj
 | .vec ..,b,o,h,j,hj=>by
   simp only [TAt] at h;obtain ⟨a,cap,h2,_⟩:=h;simp only [T.cs] at hj
   have:j=0:=by omega
   subst this;rw [h2 0 _ rfl];rfl
 | .mp ..,b,o,h,j,hj=>by simp only [TAt] at h
 | .hole n,b,o,h,j,hj=>by
   simp only [TAt] at h;obtain ⟨v,hv⟩:=h j hj;rw [hv];rfl
theorem cK.cells:∀ {l:List (T An)} {b o:Nat},cK w A E nx l b o→∀ j,j<T.dm l→(w.cell? ⟨b,o+j,none⟩).isSome=true
 | [],b,o,_,j,hj=>by simp [T.dm] at hj
 | t::r,b,o,h,j,hj=>by
   simp only [cK] at h;simp only [T.dm] at hj;by_cases eE:j<t.cs
   · exact TAt.cells h.1 j eE
   · have:=cK.cells h.2 (j-t.cs) (by omega)
     rwa [show o+t.cs+(j-t.cs)=o+j by omega] at this
end
mutual
theorem TAt.pQ:∀ {t:T An} {b o:Nat},TAt w A E nx t b o→∀ x∈t.blk,∃ m,l5 w x m
 | .p _,b,o,_,x,hx=>by simp [T.blk] at hx
 | .m _,b,o,_,x,hx=>by simp [T.blk] at hx
 | .agg l,b,o,h,x,hx=>by simp only [TAt] at h;exact cK.pQ h x hx
 | .vec an z l n,b,o,h,x,hx=>by
   simp only [TAt] at h;obtain ⟨a,cap,_,_,_,h⟩:=h;cases hb:an.b with
   | none=>simp only [hb] at h;simp [T.blk,hb,h.1,T.b9] at hx
   | some b' =>
     simp only [hb] at h;simp only [T.blk,hb,cp,aS,a7,aM] at hx;rcases hx with rfl | hx
     · exact ⟨_,h.1⟩
     · exact cK.pQ h.2.2.2 x hx
 | .mp ..,b,o,h,_,_=>by simp only [TAt] at h
 | .hole _,b,o,_,x,hx=>by simp [T.blk] at hx
theorem cK.pQ:∀ {l:List (T An)} {b o:Nat},cK w A E nx l b o→∀ x∈T.b9 l,∃ m,l5 w x m
 | [],b,o,_,x,hx=>by simp [T.b9] at hx
 | t::r,b,o,h,x,hx=>by
   simp only [cK] at h;simp only [T.b9,ay] at hx;rcases hx with hx | hx
   · exact TAt.pQ h.1 x hx
   · exact cK.pQ h.2 x hx
end
theorem OAt.pQ {o:Obj An} (h:OAt w A E nx o):∀ x∈o.blk,∃ m,l5 w x m:=by
 intro x hx;cases o with
 | cell an t =>
   simp only [OAt] at h;obtain ⟨b,hb,h1,h2⟩:=h;simp only [Obj.blk,hb,cp,aS,a7,aM] at hx;rcases hx with rfl | hx
   · exact ⟨_,h1⟩
   · exact h2.pQ x hx
 | vec an z l =>
   simp only [OAt,VB] at h;cases hb:an.b with
   | none=>simp only [hb] at h;simp [Obj.blk,hb,h.1,T.b9] at hx
   | some b' =>
     simp only [hb] at h;simp only [Obj.blk,hb,cp,aS,a7,aM] at hx;rcases hx with rfl | hx
     · exact ⟨_,h.1⟩
     · exact h.2.2.2.pQ x hx
 | mp=>simp only [OAt] at h
 | gone=>simp [Obj.blk] at hx
theorem l5.frozen {b m j:Nat} (h:l5 w b m):w.frozen? ⟨b,j,none⟩=false:=by
 obtain ⟨c,ty,h1,_⟩:=h;simp [World.frozen?,h1]
theorem Wr.setCells {b o:Nat} (cs:List Value) (X:List Nat):Wr w (w.setCells b o cs) b o cs.length X where
 other:=fun b' _ ev _=>wv ev cs o w
 blk:=fun m hm=>hm.setCells cs o w
 cell:=fun j hj=>World.cell?_setCells_out b cs o w ⟨b,j,none⟩ (fun _ _=>hj)
theorem Row.setCells {b o:Nat} {cs:List Value} (h:∀ j,j<cs.length→(w.cell? ⟨b,o+j,none⟩).isSome=true):Row (w.setCells b o cs) b o cs:=by
 intro j v hj;obtain ⟨eE,hv⟩:=aL.1 hj;rw [World.cell?_setCells_in b cs o w h j eE,hv]
end
end Go.Mid
namespace Go.Mid
open Go.RowKit
section
variable {w:World} {A:Nat→Prop} {E:dW An} {nx:dv} {γ:Nat} {h:cq}
theorem YD (m:MR w A E h nx) {id:Nat} {o o':Obj An} {p:List Nat} {u tA:T An} {b o1:Nat} {cs:List Value} (hE:E id=some o) (hs:ew (some o) p=some u) (hl:qU (some o) p=some (b,o1))
 (tc:TC w A E nx tA cs) (fh:tA.cs=u.cs) (eZ:put (some o) p tA=some o') (iq:tA.blk.Nodup) (jd:∀ x∈tA.blk,(x<w.heap.size∧¬ A x)∧(x∈u.blk∨¬ jJ E x)) (hst:tA.st (nx.add γ))
 (pP:∀ q y,fM tA q=some y→nx y.1.g→fM u q=some y) :
 MR (w.setCells b o1 cs) A (cD E id (some o')) (cD h id (some (o'.mapA An.g))) (nx.add γ)∧jJ E b∧(∀ x,jJ (cD E id (some o')) x→x∈tA.blk∨jJ E x)∧oV nx E (cD E id (some o')) ∧
  (∀ j,j<cs.length→(w.cell? ⟨b,o1+j,none⟩).isSome=true)∧∀ j,w.frozen? ⟨b,j,none⟩=false:=by
 obtain ⟨b',BJ,h1,h2,h3,h4,h5⟩:=AP hs (m.at_ id o hE);rw [hl] at h1;cases h1;have hlen:cs.length=u.cs:=by rw [tc.len,fh]
 have l7:jJ E b:=⟨id,o,hE,h3⟩;have hbt:b∉tA.blk:=fun hb=>(jd b hb).2.elim (h5 (m.nd id o hE)) (fun k=>k l7)
 have hO:∀ j,j<cs.length→(w.cell? ⟨b,o1+j,none⟩).isSome=true:=fun j hj=>h2.cells j (by omega)
 have W:Wr w (w.setCells b o1 cs) b o1 u.cs u.blk:=by rw [← hlen];exact Wr.setCells cs u.blk
 have hp:oX w (w.setCells b o1 cs) A E nx (nx.add γ) id o p u tA b o1 :=
  ⟨nx.eP γ,by rw [(xj b cs o1 w).1];exact au _,hE,hs,hl,fh,W,pP,fun x hx=>by rw [(xj b cs o1 w).1];exact (jd x hx).1,iq,fun x hx=>(jd x hx).2,hst⟩
 have hm:=m.put hp eZ (fun f=>(tc.frame f (fun x hx=>wv (fun e:x=b=>hbt (e ▸ hx)) cs o1 w)).at_ (Row.setCells hO))
 refine ⟨hm,l7,fun x hx=>(hp.owned m eZ hx).imp (fun h=>h) (·.1),((hp.ui m eZ).fr m).hE,hO,fun j=>?_⟩
 obtain ⟨mm,QV⟩:=(m.at_ id o hE).pQ b h3;exact QV.frozen
end
section
variable {P:Program} {o:Oper} {a:Act} {w:World} {A:Nat→Prop} {E:dW An} {nx:dv} {γ:Nat} {v:MV} {h h':cq} {s:gI} {K:jE} {d:Option Nat}
theorem YE {t:TypeId} {x y:Operand} {b o1:Nat} (ho:o.op=.store t x y) (hU:qQ P t=true) (hx:a.eval x=.pointer (some ⟨b,o1,none⟩)) (hn:(a.eval y).cells.size=P.cellsOf t)
 (hc:∀ j,j<(a.eval y).cells.toList.length→(w.cell? ⟨b,o1+j,none⟩).isSome=true) (hf:∀ j,w.frozen? ⟨b,j,none⟩=false) (h1:∀ c∈(a.eval y).cells.toList,c.oneCell'=true) :
 (execOp a.eval o).run P w=.ok .skip (w.setCells b o1 (a.eval y).cells.toList):=by
 have hst:=jo (P:=P) b o1 (a.eval y).cells.toList 0 w (by simpa using hc) (fun j _=>hf _) h1
 simp only [du] at hst;simp only [execOp,ho,hx,Instr.storeAt,Instr.sureAddr,bx,bN,aV,storeVar,D6 w hU];rw [if_neg (by simp [hn])]
 simp only [bx,hst,aV,bN]
end
end Go.Mid
namespace Go.Mid
open Go.RowKit
section
variable {P:Program} {o:Oper} {a:Act} {w:World} {A:Nat→Prop} {E:dW An} {nx:dv} {γ:Nat} {v:MV} {h h':cq} {s:gI} {K:jE} {d:Option Nat}
theorem MR.lz (m:MR w A E h nx) {id:Nat} {p:List Nat} {u:T An} (hs:ew (E id) p=some u):∃ ob,E id=some ob:=by
 cases hE:E id with
 | none=>rw [hE] at hs;cases p<;>simp [ew] at hs
 | some ob=>exact ⟨ob,rfl⟩
theorem D2I (m:MR w A E h nx) {id:Nat} {np:Option (List Nat)} {rp:List Nat} {g o0:Nat} {val:Value} {old:T Nat} (hv:bT w A E nx (.ptr id np rp g o0) val) (hl:look (h id) np rp=some (old,g,o0)) :
 ∃ b ob u,val=.pointer (some ⟨b,o0,none⟩)∧E id=some ob∧qU (some ob) (rH np rp)=some (b,o0)∧ew (some ob) (rH np rp)=some u∧old=u.mapA An.g:=by
 obtain ⟨an,tA,n7,hg,rfl⟩:=m.look hl;obtain ⟨b,hb,_⟩:=m.sT n7;simp only [bT] at hv;obtain ⟨_,ad,rfl,rf⟩:=hv;obtain ⟨z,hn⟩:=Gi n7;obtain ⟨b',jx,rfl⟩:=rf an z hn hg;rw [hb] at jx;cases jx;have dM:=MJ n7;obtain ⟨ob,hE⟩:=m.lz dM;rw [hE] at n7 dM;exact ⟨b,ob,tA,rfl,hE,m.wy hE n7 hb,dM,rfl⟩
theorem YF (hm:MR w A E h nx) (hγ:¬ nx γ) {t:TypeId} {x y:Operand} {id:Nat} {path:List Nat} {b o1:Nat} {ob:Obj An} {yv:MV} (ho:o.op=.store t x y) (hU:qQ P t=true) (hx:a.eval x=.pointer (some ⟨b,o1,none⟩))
 (hE:E id=some ob) (hl:qU (some ob) path=some (b,o1)) {u:T An} (hu:ew (some ob) path=some u) (RC:u.cs=P.cellsOf t) (hy:bT w A E nx yv (a.eval y))
 (he:yK γ h (P.cellsOf t) id path yv=some (v,h')):cI P o a w A E nx γ v h':=by
 unfold yK at he;split at he
 · rename_i t1 h1 hi;split at he
   · rename_i fh;split at he
     · rename_i on eZ;simp only [aa,ae] at he;obtain ⟨rfl,rfl⟩:=he;obtain ⟨E1,tA,k⟩:=Ri yv hi hm hy;have xm:tA.cs=P.cellsOf t:=by rw [← fh,← k.er,T.ky]
       rw [k.mr.er id,← k.er,Gm] at eZ;cases iM:put (E1 id) path tA with
       | none=>simp [iM] at eZ
       | some o' =>
         simp only [iM,ar,aa] at eZ;subst eZ;have od:∃ u1,ew (E1 id) path=some u1:=by
          have key:∀ (p:List Nat) (t v t':T An),dh t p v=some t'→∃ u,c6 t p=some u:=by
           intro p
           induction p with
           | nil=>intro t v t' _;exact ⟨t,by simp [c6]⟩
           | cons i r ih =>
             intro t v t' hk;cases t with
             | p pv =>
               cases pv<;>simp only [dh,reduceCtorEq] at hk;rename_i l;simp only [c6];split at hk
               · rename_i x0 y8
                 try simp only [y8]
                 split at hk
                 · rename_i w0 xq;exact ih _ _ _ xq
                 · cases hk
               · cases hk
             | m=>simp [dh] at hk
             | agg l =>
               simp only [dh] at hk;simp only [c6];split at hk
               · rename_i x0 y8
                 try simp only [y8]
                 split at hk
                 · rename_i w0 xq;exact ih _ _ _ xq
                 · cases hk
               · cases hk
             | vec a0 z l n =>
               simp only [dh] at hk;simp only [c6];split at hk
               · rename_i x0 y8
                 try simp only [y8]
                 split at hk
                 · rename_i w0 xq;exact ih _ _ _ xq
                 · cases hk
               · cases hk
             | mp a0 ks l =>
               simp only [dh] at hk;simp only [c6];split at hk
               · rename_i x0 y8
                 try simp only [y8]
                 split at hk
                 · rename_i w0 xq;exact ih _ _ _ xq
                 · cases hk
               · cases hk
             | hole=>simp [dh] at hk
          cases qz:E1 id with
          | none=>rw [qz] at iM;cases path<;>simp [put] at iM
          | some YG =>
            rw [qz] at iM;cases YG with
            | cell a0 t0 =>
              simp only [put] at iM;split at iM
              · rename_i w0 xq;rw [BI];exact key _ _ _ _ xq
              · cases iM
            | vec a0 z l =>
              cases path with
              | nil=>simp [put] at iM
              | cons i r =>
                simp only [put] at iM;simp only [ew];split at iM
                · rename_i x0 y8
                  try simp only [y8]
                  split at iM
                  · rename_i w0 xq;exact key _ _ _ _ xq
                  · cases iM
                · cases iM
            | mp a0 ks l =>
              cases path with
              | nil=>simp [put] at iM
              | cons i r =>
                simp only [put] at iM;simp only [ew];split at iM
                · rename_i x0 y8
                  try simp only [y8]
                  split at iM
                  · rename_i w0 xq;exact key _ _ _ _ xq
                  · cases iM
                · cases iM
            | gone=>cases path<;>simp [put] at iM
         obtain ⟨u1,Gv⟩:=od;obtain ⟨YG,qz⟩:=k.mr.lz Gv;obtain ⟨u',e1,e2,e3⟩:=k.ls id path u1 Gv;rw [hE,hu] at e1;cases e1;rw [hE,qz] at e3;rw [qz] at Gv iM;obtain ⟨k1,k2,k3,k4,k5,k6⟩:=YD k.mr qz Gv (by rw [e3];exact hl) k.tc (by rw [xm,← RC,e2]) iM k.nd
          (fun x hx=>⟨hm.lt x (k.own x hx).1,.inr (k.own x hx).2⟩) k.st (fun q y hy eE=>by rw [k.new q y hy] at eE;exact (hγ eE).elim)
         have hsz:(a.eval y).cells.size=P.cellsOf t:=by rw [← ef,k.tc.len,xm]
         have il:=YE ho hU hx hsz k5 k6 k.one;refine ⟨undef,_,A,_,.inr ⟨il,rfl⟩,by simp only [bT],k1,?_⟩
         obtain ⟨s1,s2,s3,s4⟩:=xj b (a.eval y).cells.toList o1 w;refine gJ.of (E1:=E1) ⟨s2,s3,s4⟩ (by rw [s1];exact au _) (fun x _ hx=>wv (fun e:x=b=>hx (e ▸ k.sub b k2)) _ _ _) ?_ (k.ns.Ek nx) k4
         intro x _ hx;rcases k3 x hx with hx | hx
         · exact (k.own x hx).1
         · exact k.sub x hx
     · cases he
   · cases he
 · cases he
end
end Go.Mid
namespace Go.Mid
open Go.RowKit
theorem RD:∀ (l:List (T An)) (n:Nat),(T.b9 (l.take n)).Sublist (T.b9 l)
 | [],n=>by simp [T.b9]
 | t::r,0=>by simp [T.b9]
 | t::r,n+1=>by
   simp only [bW,T.b9];exact (List.Sublist.refl _).append (RD r n)
theorem YH {nx:dv}:∀ {l:List (T An)} {n:Nat},T.ku nx l→T.ku nx (l.take n)
 | [],n,h=>by simpa using h
 | t::r,0,h=>by simp only [fv,T.ku]
 | t::r,n+1,h=>by
   simp only [bW,T.ku] at h ⊢;exact ⟨h.1,YH h.2⟩
theorem YI {w:World} {A:Nat→Prop} {E:dW An} {nx:dv}:∀ {l:List (T An)} {n b o:Nat},cK w A E nx l b o→cK w A E nx (l.take n) b o
 | [],n,b,o,h=>by simpa using h
 | t::r,0,b,o,h=>by simp only [fv,cK]
 | t::r,n+1,b,o,h=>by
   simp only [bW,cK] at h ⊢;exact ⟨h.1,YI h.2⟩
section
variable {P:Program} {o:Oper} {a:Act} {w:World} {A:Nat→Prop} {E:dW An} {nx:dv} {γ:Nat} {v:MV} {h h':cq} {s:gI} {K:jE} {d:Option Nat}
 (hs:qf P w A E nx s a) (hm:MR w A E h nx) (hγ:¬ nx γ)
include hs hm hγ
theorem C8U {t t1 t2:TypeId} {x y:Operand} {x' y':dQ} (ho:o.op=.store t x y) (hx:fD P t1 x=some x') (hy:fD P t2 y=some y') (hU:qQ P t=true)
 (he:cf K γ d s h (.store (P.cellsOf t) x' y')=some (v,h')):cI P o a w A E nx γ v h':=by
 have dN:=j3 hs hx;have uY:=j3 hs hy;simp only [cf,Gb] at he;split at he
 · rename_i id np rp g0 o0 hp;rw [hp] at dN;split at he
   · rename_i old s' oo hl;split at he
     · rename_i hc;obtain ⟨rfl,rfl,fh⟩:=hc;obtain ⟨b,ob,u,cL,hE,jU,hu,rfl⟩:=D2I hm dN hl;rw [T.ky] at fh;split at he
       · rename_i uV ra off len g' ag z l n' hyv hold;split at he
         · rename_i oW;obtain ⟨rfl,rfl,rfl,rfl,hlen⟩:=oW;split at he
           · rename_i on eZ;simp only [aa,ae] at he;obtain ⟨rfl,rfl⟩:=he;cases u<;>simp only [T.mapA,reduceCtorEq,T.vec.injEq] at hold;rename_i an z0 lA n0;obtain ⟨rfl,rfl,rfl,rfl⟩:=hold;rw [hyv] at uY;simp only [bT] at uY;obtain ⟨_,ad,cap,C5,nM,hh⟩:=uY;have bZ:fu (E uV) (some (rH np rp))=some (an,some z0):=by
              rw [hE]
              have:=M3 (r:=[]) hu
              rw [bF] at this;exact this
             have kN:=hh an z0 bZ rfl;have hT:(T.vec an.g z0 ((T.cP An.g lA).take len) len:T Nat)=(T.vec an z0 (lA.take len) len).mapA An.g:=by
              simp only [T.mapA,T.mapAs_eq,bP]
             rw [hm.er uV,hT,Gm,hE] at eZ;cases iM:put (some ob) (rH np rp) (T.vec an z0 (lA.take len) len) with
             | none=>simp [iM] at eZ
             | some o' =>
               simp only [iM,ar,aa] at eZ;subst eZ;obtain ⟨b',BJ,e1,lh,_,je,_⟩:=AP hu (hm.at_ uV ob hE);simp only [TAt] at lh;obtain ⟨_,_,_,BQ,_,l9⟩:=lh;have hst:(T.vec an z0 lA n0).st nx:=hm.uf (by rw [hE];exact hu)
               have iq:(T.vec an z0 lA n0).blk.Nodup:=by
                obtain ⟨rest,p1,_⟩:=Ej hu iM;exact (aT.1 (p1.nodup_iff.1 (hm.nd uV ob hE))).1
               have wE:∀ x,x∈(T.vec an z0 (lA.take len) len).blk→x∈(T.vec an z0 lA n0).blk:=by
                intro x hx;simp only [T.blk,ay] at hx ⊢;exact hx.imp (fun h=>h) (fun h=>(RD lA len).subset h)
               have tc:TC w A E nx (T.vec an z0 (lA.take len) len) [.slice ad len cap]:=by
                simp only [TC,VB];refine ⟨ad,cap,rfl,by rw [aX];omega,kN,?_⟩
                cases hb:an.b with
                | none =>
                  simp only [hb] at l9;exact ⟨by rw [l9.1,gP],l9.2⟩
                | some b2 =>
                  simp only [hb] at l9;exact ⟨l9.1,dJ (by rw [aX];exact Nat.min_le_right _ _) l9.2.1,fun t ht=>l9.2.2.1 t (c8 ht),YI l9.2.2.2⟩
               have r7:(T.vec an z0 (lA.take len) len).blk.Nodup:=by
                simp only [T.blk] at iq ⊢;exact iq.sublist ((List.Sublist.refl _).append (RD lA len))
               have RE:(T.vec an z0 (lA.take len) len).st nx:=by
                simp only [T.st] at hst ⊢;exact ⟨hst.1,YH hst.2⟩
               obtain ⟨k1,k2,k3,k4,k5,k6⟩:=YD hm hE hu jU tc rfl iM r7 (fun x hx=>⟨hm.kp hE (je x (wE x hx)),.inl (wE x hx)⟩) (T.kx (nx.eP γ) RE)
                (fun q y hy _=>by
                  cases q with
                  | nil=>exact hy
                  | cons i r =>
                    simp only [BF] at hy ⊢;cases ht:(lA.take len)[i]? with
                    | none=>rw [ht] at hy;cases hy
                    | some t =>
                      have h1:lA[i]?=some t:=by
                       have eE:=(aL.1 ht).1;rw [dR (by rw [aX] at eE;omega)] at ht
                       exact ht
                      rw [ht] at hy;rw [h1];exact hy)
               have xl:(a.eval y).cells.toList=[.slice ad len cap]:=by rw [C5];rfl
               have il:=YE ho hU cL (by rw [C5,← fh];rfl) (by rw [xl];exact k5) k6 (by rw [xl];intro c hc;simp at hc;subst hc;rfl)
               rw [xl] at il;obtain ⟨s1,s2,s3,s4⟩:=xj b [Value.slice ad len cap] oo w;refine ⟨undef,_,A,_,.inr ⟨il,rfl⟩,by simp only [bT],k1,?_⟩
               refine gJ.of (E1:=E) ⟨s2,s3,s4⟩ (by rw [s1];exact au _) (fun x _ hx=>wv (fun e:x=b=>hx (e ▸ k2)) _ _ _) ?_ (oV.refl _ _) k4
               intro x _ hx;rcases k3 x hx with hx | hx
               · exact ⟨uV,ob,hE,je x (wE x hx)⟩
               · exact hx
           · cases he
         · exact YF hm hγ ho hU cL hE jU hu fh uY he
       · exact YF hm hγ ho hU cL hE jU hu fh uY he
     · cases he
   · cases he
 · cases he
end
end Go.Mid
namespace Go.Mid
open Go.RowKit
section
variable {w w':World} {A:Nat→Prop} {E:dW An} {nx nx':dv} {h:cq}
mutual
theorem TAt.tc:∀ {t:T An} {b o:Nat},TAt w A E nx t b o→∃ cs,TC w A E nx t cs∧Row w b o cs
 | .p v,b,o,k=>by simp only [TAt] at k;obtain ⟨cs,h1,h2⟩:=k;exact ⟨cs,by simpa only [TC] using h1,h2⟩
 | .m v,b,o,k=>by simp only [TAt] at k;obtain ⟨h0,Bz,val,h1,h2⟩:=k;exact ⟨[val],by simp only [TC];exact ⟨h0,Bz,val,h1,rfl⟩,h2⟩
 | .agg l,b,o,k=>by simp only [TAt] at k;obtain ⟨cs,h1,h2⟩:=cK.tc k;exact ⟨cs,by simpa only [TC] using h1,h2⟩
 | .vec an z l n,b,o,k=>by
   simp only [TAt] at k;obtain ⟨a,cap,h1,h2,h3,h4⟩:=k;exact ⟨[.slice a n cap],by simp only [TC,VB];exact ⟨a,cap,rfl,h2,h3,h4⟩,h1⟩
 | .mp ..,b,o,k=>by simp only [TAt] at k
 | .hole n,b,o,k=>by
   simp only [TAt] at k;obtain ⟨cs,h1,h2⟩:=QW n k;exact ⟨cs,by simpa only [TC] using h1,h2⟩
theorem cK.tc:∀ {l:List (T An)} {b o:Nat},cK w A E nx l b o→∃ cs,kq w A E nx l cs∧Row w b o cs
 | [],b,o,_=>⟨[],by simp only [kq],Row.nil⟩
 | t::r,b,o,k=>by
   simp only [cK] at k;obtain ⟨c,h1,h2⟩:=TAt.tc k.1;obtain ⟨d,h3,h4⟩:=cK.tc k.2;refine ⟨c++d,by simp only [kq];exact ⟨c,d,rfl,h1,h3⟩,Row.append.2 ⟨h2,?_⟩⟩
   rw [h1.len];exact h4
end
theorem kq.append {l m:List (T An)} {cs ds:List Value} (h:kq w A E nx l cs) (k:kq w A E nx m ds):kq w A E nx (l++m) (cs++ds):=by
 induction l generalizing cs with
 | nil=>simp only [kq] at h;subst h;exact k
 | cons t r ih =>
   simp only [kq,aS] at h ⊢;obtain ⟨c,d,rfl,h1,h2⟩:=h;exact ⟨c,d++ds,by simp,h1,ih h2⟩
theorem cK.append {l m:List (T An)} {b o:Nat}:cK w A E nx (l++m) b o↔cK w A E nx l b o∧cK w A E nx m b (o+T.dm l):=by
 induction l generalizing o with
 | nil=>simp only [a7,cK,T.dm,du,true_and]
 | cons t r ih=>simp only [aS,cK,ih,T.dm,Nat.add_assoc,and_assoc]
structure y9 (w w':World) (A:Nat→Prop) (E:dW An) (nx nx':dv) (id:Nat) (o':Obj An):Prop where
 hn:nx.le nx'
 sz:w.heap.size≤w'.heap.size
 ch:∀ b,b<w.heap.size→(A b∨∃ j o,j≠id∧E j=some o∧b∈o.blk)→w'.heap[b]?=w.heap[b]?
 ns:∀ np y,fu (some o') np=some y→nx y.1.g→fu (E id) np=some y
 lt:∀ b∈o'.blk,b<w'.heap.size∧¬ A b
 nd:o'.blk.Nodup
 dj:∀ b∈o'.blk,∀ j o,j≠id→E j=some o→b∉o.blk
 st:o'.st nx'
theorem y9.fr {id:Nat} {o':Obj An} (m:MR w A E h nx) (s:y9 w w' A E nx nx' id o'):Fr w w' A A E (cD E id (some o')) nx nx' :=
 ⟨fun _ h=>h,fun b hb=>s.ch b (m.im b hb) (.inl hb),fun i np an z bZ hg=>by
   by_cases e:i=id
   · subst e;rw [nN] at bZ;exact s.ns np _ bZ hg
   · rw [nU E _ e] at bZ;exact bZ,s.hn⟩
theorem MR.Eu (m:MR w A E h nx) {id:Nat} {o':Obj An} (s:y9 w w' A E nx nx' id o') (lh:OAt w' A (cD E id (some o')) nx' o') :
 MR w' A (cD E id (some o')) (cD h id (some (o'.mapA An.g))) nx':=by
 have f:=s.fr m;constructor
 · intro i;by_cases e:i=id
   · subst e;simp [cD]
   · simp [cD,e,m.er i]
 · intro i o ho;by_cases e:i=id
   · subst e;rw [nN] at ho;cases ho;exact lh
   · rw [nU E _ e] at ho;exact OAt.frame f (fun x hx=>s.ch x (m.kp ho hx).1 (.inr ⟨i,o,e,ho,hx⟩)) (m.at_ i o ho)
 · rintro b ⟨i,o,ho,hb⟩;by_cases e:i=id
   · subst e;rw [nN] at ho;cases ho;exact s.lt b hb
   · rw [nU E _ e] at ho
     have:=m.kp ho hb
     exact ⟨br this.1 s.sz,this.2⟩
 · intro i o ho;by_cases e:i=id
   · subst e;rw [nN] at ho;cases ho;exact s.nd
   · rw [nU E _ e] at ho;exact m.nd i o ho
 · intro i j o o1 gU ho nw b hb n9;by_cases e:i=id
   · subst e;rw [nN] at ho;cases ho;rw [nU E _ (dB gU)] at nw;exact s.dj b hb j o1 (dB gU) nw n9
   · rw [nU E _ e] at ho;by_cases e':j=id
     · subst e';rw [nN] at nw;cases nw;exact s.dj b n9 i o e ho hb
     · rw [nU E _ e'] at nw;exact m.dj i j o o1 gU ho nw b hb n9
 · intro b hb;exact br (m.im b hb) s.sz
 · intro i o ho;by_cases e:i=id
   · subst e;rw [nN] at ho;cases ho;exact s.st
   · rw [nU E _ e] at ho;exact Obj.kx s.hn (m.st i o ho)
end
section
variable {P:Program} {w:World}
structure lB (P:Program) (w:World) (size:Nat) (x:Value) (n:Nat) (news:List Value):Prop where
 val:∃ xb cap,x=.slice xb n cap
 len:news.length=n*size
 rd:∀ w',w'.heap=w.heap→(iB size n x).run P w'=.ok news.toArray w'
 pre:∀ k,k≤n→(iB size k x).run P w=.ok (news.take (k*size)).toArray w
theorem lB.ph {size n cap:Nat} {news:List Value} {a:Option Addr} (hl:news.length=n*size) (h:n=0∨∃ b o,a=some ⟨b,o,none⟩∧Row w b o news):lB P w size (.slice a n cap) n news where
 val:=⟨a,cap,rfl⟩
 len:=hl
 rd:=by
  intro w' hw';cases a with
  | none =>
    rcases h with rfl | ⟨_,_,h,_⟩
    · have:news=[]:=bB (by simpa using hl)
      subst this;exact jN w' _ _ _ _
    · cases h
  | some a =>
    refine gY w' size n a n cap news hl ?_;intro j v hj;rcases h with rfl | ⟨b,o,h,hr⟩
    · have:news=[]:=bB (by simpa using hl)
      subst this;simp at hj
    · simp only [aa] at h;subst h;rw [ug,show w'.cell? ⟨b,o+j,none⟩=w.cell? ⟨b,o+j,none⟩ by simp [World.cell?,hw']]
      exact hr j v hj
 pre:=by
  intro k hk;have xr:(news.take (k*size)).length=k*size:=by rw [aX,hl];exact da (jq _ hk)
  cases a with
  | none =>
    rcases h with rfl | ⟨_,_,h,_⟩
    · have:news=[]:=bB (by simpa using hl)
      subst this;rw [gP];exact jN w _ _ _ _
    · cases h
  | some a =>
    refine gY w size k a n cap _ xr ?_;intro j v hj;rcases h with rfl | ⟨b,o,h,hr⟩
    · have:news=[]:=bB (by simpa using hl)
      subst this;simp at hj
    · simp only [aa] at h;subst h;rw [ug];refine hr j v ?_;have eE:=(aL.1 hj).1;rw [aX] at eE
      rwa [dR (by omega)] at hj
section
variable {t ty e:TypeId} {i:TypeInfo} {z:Value} (ht:P.underlying t=some (.slice e)) (hi:P.info? e=some i)
include ht hi
theorem RF {x:Value} (a:Option Addr) (len cap:Nat) (hx:lB P w i.size x 0 []) (hc:len≤cap) :
 (de #[t,t] ty #[.slice a len cap,x]).run P w=.ok (.slice a len cap) w:=by
 obtain ⟨xb,xc,rfl⟩:=hx.val;have hf:=hx.rd w rfl;cases a<;>simp [de,a8 ht,sizeOf,typeInfo,hi,gQ,hf,hc,storeCells]
theorem C5g {x:Value} {b len n cap:Nat} {news:List Value} (hx:lB P w i.size x n news) (hc:len+n≤cap) (h1:∀ u∈news,u.oneCell'=true)
 (hO:∀ j,j<news.length→(w.cell? ⟨b,len*i.size+j,none⟩).isSome=true) (hf:∀ j,w.frozen? ⟨b,j,none⟩=false) :
 (de #[t,t] ty #[.slice (some ⟨b,0,none⟩) len cap,x]).run P w=.ok (.slice (some ⟨b,0,none⟩) (len+n) cap) (w.setCells b (len*i.size) news):=by
 obtain ⟨xb,xc,rfl⟩:=hx.val;have RG:=hx.rd w rfl;have hst:=jo (P:=P) b (len*i.size) news 0 w (by simpa using hO) (fun j _=>hf _) h1
 simp only [du] at hst;simp [de,a8 ht,sizeOf,typeInfo,hi,gQ,RG,hc,ug,hst]
theorem C27 (hz:i.zero=some z) {x:Value} {a:Option Addr} {len n cap:Nat} {olds news:List Value} (hs:lB P w i.size (.slice a len cap) len olds) (hx:lB P w i.size x n news) (hc:cap<len+n)
 (Ep:((len+n:Nat):Int)≤9223372036854775807) (rb:(len+n)*i.bytes≤140737488355328) :
 (de #[t,t] ty #[.slice a len cap,x]).run P w=.ok (.slice (some ⟨w.heap.size,0,none⟩) (len+n) (grownCap w (len+n) cap e))
   (w.drew.alloc (.cells (olds++news++(a6 z.cells (grownCap w (len+n) cap e-(len+n))).toList).toArray e)):=by
 obtain ⟨xb,xc,rfl⟩:=hx.val;have hn:¬ (len+n≤cap):=by omega
 have IJ:¬ (9223372036854775807<((len:Int)+(n:Int))):=by omega
 have h48:=mj hc rb;have RH:¬ (281474976710656<Builtin.nextslicecap (len+n) cap*i.bytes):=by omega
 have hf:=hx.rd w.drew rfl;have Na:=hs.rd w.drew rfl;simp [de,a8 ht,sizeOf,typeInfo,zeroValue,hi,hz,gQ,hn,IJ,RH,Question.forced,hf,Na,newRow,grownCap];congr 2;apply gO;simp
end
structure Ev (w w':World) (an:An) (γ z len n:Nat) (a':Option Addr) (pj:Nat) (bo:Option Nat) (capn:Nat) (cs:List Value):Prop where
 os:w'.os=w.os
 tape:w'.tape=w.tape
 output:w'.output=w.output
 size:w.heap.size≤w'.heap.size
 bn:∀ b,b<w.heap.size→an.b≠some b→w'.heap[b]?=w.heap[b]?
 le:len+n≤pj
 kN:lg ⟨γ,bo,capn⟩ z 0 (len+n) a' pj
 non:bo=none→len+n=0∧capn=0
 YJ:∀ b,bo=some b→(an.b=some b∨b=w.heap.size∧b<w'.heap.size)∧l5 w' b (capn*z)∧len+n≤capn∧Row w' b 0 cs
theorem RI {t ty e:TypeId} {i:TypeInfo} {zv:Value} (ht:P.underlying t=some (.slice e)) (hi:P.info? e=some i) (hz:i.zero=some zv) (sW:zv.cells.size=i.size) (γ:Nat) {x:Value} {a:Option Addr} {len n cap:Nat} {an:An} {olds news:List Value}
 (hh:lg an i.size 0 len a cap) (nM:len≤cap) (pR:an.b=none→an.cap=0) (IK:olds.length=len*i.size) (hb:∀ b,an.b=some b→l5 w b (an.cap*i.size)∧len≤an.cap∧Row w b 0 olds)
 (hx:lB P w i.size x n news) (h1:∀ u∈news,u.oneCell'=true) (Ep:len+n≤room) (rb:(len+n)*i.bytes≤room) :
 ∃ a' pj w' bo capn,(de #[t,t] ty #[.slice a len cap,x]).run P w=.ok (.slice a' (len+n) pj) w'∧Ev w w' an γ i.size len n a' pj bo capn (olds++news):=by
 have IJ:len+n≤140737488355328:=Ep;have IL:(len+n)*i.bytes≤140737488355328:=rb;by_cases hn:n=0
 · subst hn
   have:news=[]:=bB (by simpa using hx.len)
   subst this;refine ⟨a,cap,w,an.b,an.cap,RF ht hi a len cap hx nM,rfl,rfl,rfl,au _,fun _ _ _=>rfl,nM,?_,?_,?_⟩
   · simp only [lg] at hh ⊢;exact hh
   · intro AU;simp only [lg,AU] at hh;exact ⟨hh.1,pR AU⟩
   · intro b wE;obtain ⟨h2,h3,h4⟩:=hb b wE;exact ⟨.inl wE,h2,h3,by rw [bF];exact h4⟩
 · by_cases hc:len+n≤cap
   · cases kM:an.b with
     | none=>simp only [lg,kM] at hh;omega
     | some b =>
       obtain ⟨h2,h3,h4⟩:=hb b kM;simp only [lg,kM] at hh;obtain ⟨n8,hh⟩:=hh;rcases hh with ⟨h5,h6⟩ | h5
       · omega
       · have ha:a=some ⟨b,0,none⟩:=by rw [h5,dk]
         subst ha;have hle:len*i.size+news.length≤an.cap*i.size:=by
          rw [hx.len,← ir];exact jq _ (by omega)
         have hO:∀ j,j<news.length→(w.cell? ⟨b,len*i.size+j,none⟩).isSome=true:=fun j hj=>(h2.cell (by omega)).1
         have hr:=C5g (ty:=ty) ht hi hx hc h1 hO (fun j=>h2.frozen)
         obtain ⟨s1,s2,s3,s4⟩:=xj b news (len*i.size) w;refine ⟨_,_,_,some b,an.cap,hr,s2,s3,s4,by rw [s1];exact au _,fun x _ hx=>wv (fun e:x=b=>hx (e ▸ kM)) _ _ _,by omega,?_,by simp,?_⟩
         · simp only [lg];exact ⟨n8,.inr (by rw [dk])⟩
         · intro b' jx;cases jx;refine ⟨.inl kM,h2.setCells _ _ _,by omega,Row.append.2 ⟨?_,?_⟩⟩
           · refine h4.jl (fun j hj1 hj2=>?_)
             exact World.cell?_setCells_out b news (len*i.size) w ⟨b,j,none⟩ (fun _ _=>.inl (by simp only;omega))
           · rw [bS,IK];exact Row.setCells hO
   · have hso:lB P w i.size (.slice a len cap) len olds:=by
      refine lB.ph IK ?_;by_cases hl0:len=0
      · exact .inl hl0
      · cases kM:an.b with
        | none=>simp only [lg,kM] at hh;omega
        | some b =>
          obtain ⟨h2,h3,h4⟩:=hb b kM;simp only [lg,kM] at hh;obtain ⟨n8,hh⟩:=hh;rcases hh with ⟨h5,h6⟩ | h5
          · omega
          · exact .inr ⟨b,0,by rw [h5,dk],h4⟩
     have hr:=C27 (ty:=ty) ht hi hz hso hx (by omega) (by omega) IL
     have wD:=grownCap_ge w (len+n) cap e;have aia:grownCap w (len+n) cap e≤9223372036854775807:=j6 w (len+n) cap e (by unfold maxLen;omega)
     refine ⟨_,_,_,some w.heap.size,grownCap w (len+n) cap e,hr,rfl,rfl,rfl,by simp,fun b hb _=>ou w.drew _ b hb,wD,?_,by simp,?_⟩
     · simp only [lg];exact ⟨by omega,.inr (by rw [dk])⟩
     · intro b' jx;cases jx;have g:=Grown.drew w (olds++news++(a6 zv.cells (grownCap w (len+n) cap e-(len+n))).toList).toArray e;have hsz:(olds++news++(a6 zv.cells (grownCap w (len+n) cap e-(len+n))).toList).toArray.size=grownCap w (len+n) cap e*i.size:=by
        simp only [fF,aQ,IK,hx.len,ef,size_zeroCells,sW,← ir];congr 1;omega
       refine ⟨.inr ⟨rfl,by rw [g.size];omega⟩,?_,wD,g.row (p:=[]) (c:=olds++news) (q:=(a6 zv.cells (grownCap w (len+n) cap e-(len+n))).toList) (by simp)⟩
       have:=g.blk
       rwa [hsz] at this
end
end Go.Mid
namespace Go.Mid
open Go.RowKit
section
variable {w w':World} {A:Nat→Prop} {E:dW An} {nx nx':dv} {h:cq}
mutual
theorem C61 (g:Nat):∀ {t:T An} {cs:List Value},TC w A E nx t cs→TC w A E nx (t.mapA (m7 g)) cs
 | .p v,cs,h=>h
 | .m v,cs,h=>h
 | .agg l,cs,h=>by simp only [TC,T.mapA] at h ⊢;exact Nb g h
 | .vec an z l n,cs,h=>by
   simp only [TC,T.mapA] at h ⊢;obtain ⟨a,cap,h1,h2,h3,h4⟩:=h;exact ⟨a,cap,h1,by rw [T.mapAs_eq,aD];exact h2,h3,Yh g h4⟩
 | .mp ..,cs,h=>by simp only [TC] at h
 | .hole n,cs,h=>h
theorem Nb (g:Nat):∀ {l:List (T An)} {cs:List Value},kq w A E nx l cs→kq w A E nx (T.cP (m7 g) l) cs
 | [],cs,h=>by simpa only [kq,T.cP] using h
 | t::r,cs,h=>by
   simp only [kq,T.cP] at h ⊢;obtain ⟨c,d,h1,h2,h3⟩:=h;exact ⟨c,d,h1,C61 g h2,Nb g h3⟩
end
mutual
theorem TC.one:∀ {t:T An} {cs:List Value},CI (t.mapA An.g)=true→TC w A E nx t cs→∀ c∈cs,c.oneCell'=true
 | .p v,cs,_,h=>by simp only [TC] at h;exact h.kz
 | .m v,cs,hs,h=>by
   simp only [TC] at h;obtain ⟨_,_,val,h1,rfl⟩:=h;intro c hc;simp only [aW] at hc;subst hc;cases v<;>simp only [T.mapA,CI,reduceCtorEq] at hs<;>simp only [bT] at h1
   · obtain ⟨_,_,_,rfl,_⟩:=h1;rfl
   · obtain ⟨_,_,rfl,_⟩:=h1;rfl
   · obtain ⟨_,rfl,_⟩:=h1;unfold vu;split<;>rfl
 | .agg l,cs,hs,h=>by simp only [TC] at h;simp only [T.mapA,CI] at hs;exact kq.one hs h
 | .vec ..,cs,_,h=>by
   simp only [TC] at h;obtain ⟨_,_,rfl,_⟩:=h;intro c hc;simp only [aW] at hc;subst hc;rfl
 | .mp ..,cs,_,h=>by simp only [TC] at h
 | .hole n,cs,hs,_=>by simp [T.mapA,CI] at hs
theorem kq.one:∀ {l:List (T An)} {cs:List Value},Av (T.cP An.g l)=true→kq w A E nx l cs→∀ c∈cs,c.oneCell'=true
 | [],cs,_,h=>by simp only [kq] at h;subst h;intro c hc;cases hc
 | t::r,cs,hs,h=>by
   simp only [kq] at h;simp only [T.cP,Av,ak] at hs;obtain ⟨c,d,rfl,h1,h2⟩:=h;intro x hx;rcases ay.1 hx with hx | hx
   · exact TC.one hs.1 h1 x hx
   · exact kq.one hs.2 h2 x hx
end
theorem RJ {l:List (T An)} (h:(l.map (T.mapA An.g)).all tC=true):∃ vs:List PV,l=vs.map .p:=by
 induction l with
 | nil=>exact ⟨[],rfl⟩
 | cons t r ih =>
   simp only [aG,dF,ak] at h;obtain ⟨vs,fY⟩:=ih h.2;cases t<;>simp only [T.mapA,tC,reduceCtorEq] at h
   · exact ⟨_::vs,by rw [fY];rfl⟩
   all_goals exact absurd h.1 (by simp)
theorem D2J {ts:List (T Nat)} (h:ts.all tC=true):∃ vs:List PV,ts=vs.map .p:=by
 induction ts with
 | nil=>exact ⟨[],rfl⟩
 | cons t r ih =>
   simp only [dF,ak] at h;obtain ⟨vs,fY⟩:=ih h.2;cases t<;>simp only [tC,reduceCtorEq] at h
   · exact ⟨_::vs,by rw [fY];rfl⟩
   all_goals exact absurd h.1 (by simp)
theorem Nc (g:Nat) (vs:List PV):nS g (vs.map .p)=vs.map .p:=by
 induction vs with
 | nil=>rfl
 | cons x r ih=>simp only [aG,nS,jQ,jk] at ih ⊢;rw [ih]
theorem YK {z:Nat} {l:List (T Nat)} (h:pI z l=true):T.dm l=l.length*z:=by
 induction l with
 | nil=>simp [T.dm]
 | cons t r ih =>
   simp only [pI,dF,ak,beq_iff_eq] at h;simp only [T.dm,ba,ih h.2,h.1,dA];omega
theorem l8.plain {γ:Nat} (hm:MR w A E h nx) {vs:List PV} {cs:List Value} (hc:cR w A vs cs):l8 w A E nx γ cs (vs.map .p) h E (vs.map .p) where
 er:=by rw [cu];rfl
 mr:=hm
 tc:=uj.2 hc
 nd:=by rw [Eg];exact hZ
 own:=by rw [Eg];intro b hb;cases hb
 sub:=fun _ h=>h
 st:=MW vs
 ns:=jK.refl E
 new:=by
  intro i t ht q y hy;rw [aN] at ht;cases hv:vs[i]? with
  | none=>simp [hv] at ht
  | some v =>
    simp only [hv,ar,aa] at ht;subst ht;rw [M8] at hy;cases hy
 one:=hc.kz
 ls:=mR.refl E
theorem fL.row:∀ {l:List PV} {b o z:Nat},fL w A l b o z→∃ cs,cR w A l cs∧Row w b o cs
 | [],b,o,z,_=>⟨[],by simp only [cR],Row.nil⟩
 | x::r,b,o,z,k=>by
   simp only [fL] at k;obtain ⟨⟨c,h1,h2,h3⟩,h4⟩:=k;obtain ⟨d,h5,h6⟩:=fL.row h4;exact ⟨c++d,by simp only [cR];exact ⟨c,d,rfl,h1,h5⟩,Row.append.2 ⟨h3,by rw [h2];exact h6⟩⟩
theorem YL {l:List (T An)} {b z:Nat} (k:cK w A E nx l b 0) (hz:∀ t∈l,t.cs=z) {off len:Nat} (hl:off+len≤l.length):cK w A E nx ((l.drop off).take len) b (off*z):=by
 have e:l=l.take off++((l.drop off).take len++(l.drop off).drop len):=by rw [bO,bO]
 rw [e] at k;have h1:=(cK.append.1 k).2;rw [AJ hz (by omega),bS] at h1
 exact (cK.append.1 h1).1
theorem RK {n:dv}:∀ {l m:List (T An)},(∀ t∈m,t∈l)→T.ku n l→T.ku n m:=by
 have get:∀ {l:List (T An)} {t:T An},t∈l→T.ku n l→t.st n:=by
  intro l
  induction l with
  | nil=>intro t ht;cases ht
  | cons x r ih =>
    intro t ht k;simp only [T.ku] at k;rcases aM.1 ht with rfl | ht
    · exact k.1
    · exact ih ht k.2
 intro l m
 induction m with
 | nil=>intro _ _;trivial
 | cons x r ih =>
   intro h k;simp only [T.ku];exact ⟨get (h x (by simp)) k,ih (fun t ht=>h t (by simp [ht])) k⟩
theorem RL {P:Program} {γ:Nat} (hm:MR w A E h nx) {y:MV} {val:Value} {ts:List (T Nat)} {h1:cq} {z:Nat} (hv:bT w A E nx y val) (ht:rY h y=some (ts,h1)) (hz:pI z ts=true) :
 ∃ news E1 lA,lB P w z val ts.length news∧l8 w A E nx γ news (nS γ ts) h1 E1 lA:=by
 unfold rY at ht;split at ht
 · cases ht
 · rename_i Rk iw;split at ht
   · rename_i qg;simp only [aa,ae] at ht;obtain ⟨rfl,rfl⟩:=ht;obtain ⟨vs,rfl⟩:=D2J qg;have hlen:∀ {cs:List Value},cR w A vs cs→cs.length=(vs.map (T.p (α:=Nat))).length*z:=by
      intro cs hc;rw [hc.len,← CW (α:=Nat),YK hz]
     rw [Nc];cases y with
     | p v =>
       cases v<;>simp only [elems,reduceCtorEq] at iw;rename_i l;simp only [aa] at iw;have hl:l=vs:=by
        have:=congrArg mw iw
        rw [BD,BD] at this;exact cm this
       subst hl;obtain ⟨p,cap,rfl,nM,nY⟩:=vw.1 hv;rcases nY with rfl | ⟨b,o,z',rfl,hb,iw⟩
       · refine ⟨[],E,[],?_,l8.plain hm (vs:=[]) (by simp only [cR])⟩
         exact lB.ph (by simp) (.inl rfl)
       · obtain ⟨cs,h2,h3⟩:=iw.row;refine ⟨cs,E,_,?_,l8.plain hm h2⟩;rw [aD];exact lB.ph (by have:=hlen h2;rwa [aD] at this) (.inr ⟨b,o,rfl,h3⟩)
     | nil zz =>
       simp only [elems,aa] at iw;simp only [bT] at hv;obtain ⟨a,rfl⟩:=hv
       have:vs=[]:=by
        cases vs with
        | nil=>rfl
        | cons x r=>simp at iw
       subst this;exact ⟨[],E,[],lB.ph (by simp) (.inl rfl),l8.plain hm (vs:=[]) (by simp only [cR])⟩
     | own id path off len g =>
       simp only [elems] at iw;split at iw
       · rename_i g' z0 l iW;split at iw
         · rename_i hc;obtain ⟨rfl,hle⟩:=hc;simp only [aa] at iw;obtain ⟨an,lA,nB,rfl,rfl⟩:=hm.vec iW;have hB:=hm.ue nB;have bZ:=sS nB;simp only [bT] at hv;obtain ⟨_,a,cap,rfl,nM,hh⟩:=hv;have kN:=hh an z0 bZ rfl;rw [aD] at hle;have Ew:((lA.drop off).take len).map (T.mapA An.g)=vs.map .p:=by rw [← iw];simp
           obtain ⟨yd,Ey⟩:=RJ (l:=(lA.drop off).take len) (by rw [Ew];exact qg)
           have Gw:yd=vs:=by
            rw [Ey,cu] at Ew
            have:(yd.map (T.p (α:=Nat)))=vs.map .p:=Ew
            have:=congrArg mw this
            rw [BD,BD] at this;exact cm this
           subst Gw;have za:yd.length=len:=by
            have:=congrArg cE Ey
            simp at this;omega
           simp only [VB] at hB;cases hb:an.b with
           | none =>
             simp only [hb] at hB
             have:len=0:=by have:=hB.1;subst this;simp at hle;omega
             subst this
             have:yd=[]:=bB za
             subst this;exact ⟨[],E,[],lB.ph (by simp) (.inl rfl),l8.plain hm (vs:=[]) (by simp only [cR])⟩
           | some b =>
             simp only [hb] at hB;obtain ⟨_,_,Iv,lh⟩:=hB;have dM:=YL lh Iv hle;rw [Ey] at dM;obtain ⟨cs,h2,h3⟩:=(rh.1 dM).tc;simp only [TC,ec] at h2;refine ⟨cs,E,_,?_,l8.plain hm h2⟩;rw [aD,za];refine lB.ph (by have:=hlen h2;rwa [aD,za] at this) ?_
             simp only [lg,hb] at kN;rcases kN.2 with ⟨h5,_⟩ | h5
             · exact .inl h5
             · exact .inr ⟨b,off*z0,h5,h3⟩
         · cases iw
       · cases iw
     | ptr=>simp only [elems,reduceCtorEq] at iw
     | fE=>simp only [elems,reduceCtorEq] at iw
     | agg=>simp only [elems,reduceCtorEq] at iw
     | fn=>simp only [elems,reduceCtorEq] at iw
     | eO=>simp only [elems,reduceCtorEq] at iw
     | dead=>simp only [elems,reduceCtorEq] at iw
   · split at ht
     · rename_i id len g;split at ht
       · rename_i g1 z1 l gx;split at ht
         · rename_i hc;obtain ⟨rfl,RM⟩:=hc;simp only [aa,ae] at ht;obtain ⟨rfl,rfl⟩:=ht;simp only [elems] at iw;split at iw
           · rename_i g' z0 l2 iW;split at iw
             · rename_i hc;obtain ⟨rfl,hle⟩:=hc;simp only [aa] at iw;obtain ⟨an,lA,IM,rfl,BR,yc,l9,iq,jd,dM⟩:=hm.uk gx;have IP:jI (h id) []=some (an.g,z1,l):=by rw [gx];rfl
               rw [IP] at iW;simp only [aa,ae] at iW;obtain ⟨rfl,rfl,rfl⟩:=iW;rw [fx,List.take_length] at iw;subst iw;have bZ:fu (E id) (some [])=some (an,some z1):=by rw [IM];rfl
               simp only [bT] at hv;obtain ⟨_,a,cap,rfl,nM,hh⟩:=hv;have kN:=hh an z1 bZ rfl;have hst:=hm.st id _ IM;simp only [Obj.st] at hst;have zb:VB w A (cD E id (some .gone)) nx an z1 lA:=l9.frame (jK.fr (jK.gone E id) (dv.le_refl nx)) (fun _ _=>rfl)
               have IQ:(T.cP An.g lA)=lA.map (T.mapA An.g):=T.mapAs_eq _ _;have fh:∃ news,kq w A (cD E id (some .gone)) nx lA news∧(l.length=0∨∃ b o,a=some ⟨b,o,none⟩∧Row w b o news):=by
                simp only [VB] at zb;cases hb:an.b with
                | none =>
                  simp only [hb] at zb;have h0:=zb.1;subst h0;refine ⟨[],by simp only [kq],.inl (by rw [BR];rfl)⟩
                | some b =>
                  simp only [hb] at zb;obtain ⟨cs,h2,h3⟩:=zb.2.2.2.tc;refine ⟨cs,h2,?_⟩;simp only [lg,hb] at kN;rcases kN.2 with ⟨h5,_⟩ | h5
                  · exact .inl h5
                  · exact .inr ⟨b,0,by rw [h5,dk],h3⟩
               obtain ⟨news,zd,hrow⟩:=fh;refine ⟨news,cD E id (some .gone),T.cP (m7 γ) lA,lB.ph (by rw [zd.len,← T.qZ An.g,IQ,← BR,YK hz]) hrow,?_⟩
               constructor
               · rw [← T.mapAs_eq,C0,IQ,← BR]
               · exact yc
               · exact Nb γ zd
               · rw [yY];exact (aT.1 iq).2.1
               · rw [yY];exact fun b hb=>jd b (by simp [hb])
               · exact dM
               · exact CZ nx γ lA
               · exact jK.gone E id
               · intro i t ht q y hy;rw [T.mapAs_eq,aN] at ht;cases hl:lA[i]? with
                 | none=>simp [hl] at ht
                 | some u =>
                   simp only [hl,ar,aa] at ht;subst ht;exact ID hy
               · exact kq.one (by rw [IQ,← BR];exact RM) zd
               · exact mR.gone E id
             · cases iw
           · cases iw
         · cases ht
       · cases ht
     · cases ht
end
end Go.Mid
namespace Go.Mid
open Go.RowKit
section
variable {w w':World} {A:Nat→Prop} {E Eb:dW An} {nx:dv} {γ:Nat} {h hb:cq}
theorem Nd (hγ:¬ nx γ) (m:MR w A E h nx) (mb:MR w A Eb hb nx) (dM:∀ b,jJ Eb b→jJ E b) (hnE:oV nx E Eb) {an:An} {z len n capn pj d:Nat} {a':Option Addr} {bo:Option Nat} {cs:List Value} {l:List (T An)}
 (k:Ev w w' an γ z len n a' pj bo capn cs) (hlen:l.length=len+n) (hz:∀ t∈l,t.cs=z) (htc:kq w A Eb nx l cs)
 (iq:(T.b9 l).Nodup) (jd:∀ b∈T.b9 l,jJ E b∧(∀ j o,j≠d→Eb j=some o→b∉o.blk)∧an.b≠some b)
 (Gx:∀ b,an.b=some b→jJ E b∧∀ j o,j≠d→Eb j=some o→b∉o.blk) (hst:T.ku (nx.add γ) l)
 (pP:∀ (i:Nat) (t:T An),l[i]?=some t→∀ q y,fM t q=some y→nx y.1.g→fu (Eb d) (some (i::q))=some y) :
 ∃ E2,MR w' A E2 (cD hb d (some (.vec γ z (l.map (T.mapA An.g))))) (nx.add γ)∧gJ w A E nx w' A E2∧bT w' A E2 (nx.add γ) (.own d [] 0 (len+n) γ) (.slice a' (len+n) pj):=by
 have AU:∀ b,bo=some b→(an.b=some b∨b=w.heap.size∧b<w'.heap.size):=fun b hb=>(k.YJ b hb).1
 have vC:∀ np y,fu (some (.vec ⟨γ,bo,capn⟩ z l)) np=some y→nx y.1.g→fu (Eb d) np=some y:=by
  intro np y hy hg;cases np with
  | none=>simp [fu] at hy
  | some q =>
    have Ez:=hy;rw [sV] at hy;cases q with
    | nil =>
      simp only [Obj.pO,fM,c6,aa] at hy;subst hy;exact (hγ hg).elim
    | cons i r =>
      simp only [Obj.pO,BF] at hy;cases hl:l[i]? with
      | none=>simp [hl] at hy
      | some t=>simp only [hl,ah] at hy;exact pP i t hl r y hy hg
 have je:∀ b∈(Obj.vec ⟨γ,bo,capn⟩ z l).blk,bo=some b∨b∈T.b9 l:=by
  intro b hb;simp only [Obj.blk,ay,Option.mem_toList] at hb;exact hb
 have ze:∀ b,jJ E b→b<w.heap.size∧¬ A b:=m.lt;have s:y9 w w' A Eb nx (nx.add γ) d (.vec ⟨γ,bo,capn⟩ z l):=by
  refine ⟨nx.eP γ,k.size,?_,vC,?_,?_,?_,⟨nx.iZ γ,hst⟩⟩
  · intro b hb nY;refine k.bn b hb (fun e=>?_)
    rcases nY with hA | ⟨j,o,hj,ho,l7⟩
    · exact (ze b (Gx b e).1).2 hA
    · exact (Gx b e).2 j o hj ho l7
  · intro b hb;rcases je b hb with hb | hb
    · rcases AU b hb with e | ⟨rfl,h2⟩
      · have:=ze b (Gx b e).1;exact ⟨br this.1 k.size,this.2⟩
      · exact ⟨h2,fun hA=>absurd (m.im _ hA) (by omega)⟩
    · have:=ze b (jd b hb).1;exact ⟨br this.1 k.size,this.2⟩
  · simp only [Obj.blk];cases l7:bo with
    | none=>simpa using iq
    | some b =>
      simp only [cp,aS,a7];refine b5.2 ⟨fun hb=>?_,iq⟩
      rcases AU b l7 with e | ⟨rfl,_⟩
      · exact (jd b hb).2.2 e
      · have:=(ze _ (jd _ hb).1).1;omega
  · intro b hb j o hj ho l7;rcases je b hb with hb | hb
    · rcases AU b hb with e | ⟨rfl,_⟩
      · exact (Gx b e).2 j o hj ho l7
      · have:=(mb.kp ho l7).1;omega
    · exact (jd b hb).2.1 j o hj ho l7
 have f:=s.fr mb;have sZ:∀ x∈T.b9 l,w'.heap[x]?=w.heap[x]?:=fun x hx=>k.bn x (ze x (jd x hx).1).1 (jd x hx).2.2
 have IU:=htc.frame f sZ;have lh:OAt w' A (cD Eb d (some (.vec ⟨γ,bo,capn⟩ z l))) (nx.add γ) (.vec ⟨γ,bo,capn⟩ z l):=by
  simp only [OAt,VB];cases l7:bo with
  | none =>
    have:=k.non l7
    refine ⟨bB (by omega),this.2⟩
  | some b =>
    obtain ⟨_,h2,h3,h4⟩:=k.YJ b l7;rw [l7] at IU;exact ⟨h2,by omega,hz,IU.at_ h4⟩
 refine ⟨cD Eb d (some (.vec ⟨γ,bo,capn⟩ z l)),?_,?_,?_⟩
 · have:=mb.Eu s lh
   simpa only [Obj.mapA,T.mapAs_eq] using this
 · refine gJ.of (E1:=Eb) ⟨k.os,k.tape,k.output⟩ k.size (fun b hb ho=>k.bn b hb (fun e=>ho (Gx b e).1)) ?_ hnE f.hE
   intro b eE ho;rcases AO ho with h1 | ⟨i,oi,hi,r8,AQ⟩
   · rcases je b h1 with h2 | h2
     · rcases AU b h2 with e | ⟨rfl,_⟩
       · exact (Gx b e).1
       · omega
     · exact (jd b h2).1
   · exact dM b ⟨i,oi,r8,AQ⟩
 · simp only [bT];refine ⟨nx.iZ γ,_,_,rfl,k.le,fun qS z' hn _=>?_⟩
   rw [nN] at hn;simp only [fu,aa,ae] at hn;obtain ⟨rfl,rfl⟩:=hn;exact k.kN
end
section
variable {P:Program} {o:Oper} {a:Act} {w:World} {A:Nat→Prop} {E:dW An} {nx:dv} {γ:Nat} {v:MV} {h h':cq} {s:gI} {K:jE} {d:Option Nat}
theorem RN {c:Call} {t:TypeId} {x y:Operand} (ho:o.op=.call c) (pK:c.callee=.builtin .append) (oW:c.args=#[x,y]) (sC:c.argTypes=#[t,t]) :
 (execOp a.eval o).run P w=match (de #[t,t] o.type #[a.eval x,a.eval y]).run P w with | .ok v w'=>.ok (.value v) w' | .halt e w'=>.halt e w':=by
 rw [BC ho pK];simp only [builtin,oW,sC];simp only [bx,bN];have e:qy a.eval #[x,y]=#[a.eval x,a.eval y]:=by simp
 rw [e];cases (de #[t,t] o.type #[a.eval x,a.eval y]).run P w<;>rfl
theorem YM {an:An} {z len:Nat} {l:List (T An)} (k:VB w A E nx an z l) (hl:len≤l.length):∃ olds,kq w A E nx (l.take len) olds∧olds.length=len*z∧(∀ t∈l.take len,t.cs=z) ∧
 (an.b=none→an.cap=0)∧∀ b,an.b=some b→l5 w b (an.cap*z)∧len≤an.cap∧Row w b 0 olds:=by
 simp only [VB] at k;cases hb:an.b with
 | none =>
   simp only [hb] at k;obtain ⟨rfl,k2⟩:=k;simp only [List.length_nil,Nat.le_zero] at hl;subst hl;exact ⟨[],by simp only [gP,kq],by simp,by simp,fun _=>k2,by simp⟩
 | some b =>
   simp only [hb] at k;obtain ⟨k1,k2,k3,k4⟩:=k;have h1:=YL k4 k3 (off:=0) (len:=len) (by omega)
   rw [fx,dk] at h1;obtain ⟨olds,h2,h3⟩:=h1.tc;have hz:∀ t∈l.take len,t.cs=z:=fun t ht=>k3 t (c8 ht)
   refine ⟨olds,h2,?_,hz,by simp,fun b' jx=>?_⟩
   · rw [h2.len]
     have:=AJ (l:=l) (i:=len) k3 hl
     exact this
   · cases jx;exact ⟨k1,by omega,h3⟩
theorem YN {l:List (T An)} {n:Nat}:∃ rest,T.b9 l=T.b9 (l.take n)++rest:=⟨T.b9 (l.drop n),by rw [← wu,bO]⟩
theorem D2K (hm:MR w A E h nx) (hγ:¬ nx γ) {t e:TypeId} {xv yv:MV} {vx vy:Value} (ht:P.underlying t=some (.slice e)) (rP:P.cellsOf e≠0) (wC:P.bytesOf e≠0) (hz:(vq P e).map cE=some (P.cellsOf e))
 (hx:bT w A E nx xv vx) (hy:bT w A E nx yv vy) (he:rK γ d h (P.cellsOf e) (P.bytesOf e) xv yv=some (v,h')) (ty:TypeId) :
 ∃ val w' E2,(de #[t,t] ty #[vx,vy]).run P w=.ok val w'∧MR w' A E2 h' (nx.add γ)∧gJ w A E nx w' A E2∧bT w' A E2 (nx.add γ) v val:=by
 cases r9:vq P e with
 | none=>simp [r9] at hz
 | some zc =>
   simp only [r9,ar,aa] at hz;obtain ⟨zv,_,mF,i,hi,C4⟩:=C3 r9 w;have rm:P.bytesOf e=i.bytes:=by simp [nQ,hi]
   have oc:P.cellsOf e=i.size:=by simp [j0,hi]
   have sW:zv.cells.size=i.size:=by rw [mF,← oc];simpa using hz
   rw [oc] at he rP;rw [rm] at he wC;unfold rK at he;split at he
   · cases he
   · rename_i ts h1 BS;split at he
     · cases he
     · rename_i fh;have IV:pI i.size ts=true:=by simpa using fh
       obtain ⟨news,E1,lA,jV,kA⟩:=RL (P:=P) (γ:=γ) hm hy BS IV;have n7:lA.length=ts.length:=by
        have:=congrArg cE kA.er
        simp only [aD,nS] at this;rw [this]
        have:∀ l:List (T Nat),(jQ (fun v=>v) (fun _=>γ) l).length=l.length:=by
         intro l;induction l with
         | nil=>rfl
         | cons x r ih=>simp only [jQ,ba,ih]
        exact this ts
       have RO:∀ t∈lA,t.cs=i.size:=by
        have h2:pI i.size (lA.map (T.mapA An.g))=true:=by
         rw [kA.er]
         have:∀ l:List (T Nat),pI i.size l=true→pI i.size (nS γ l)=true:=by
          intro l;have RP:∀ t:T Nat,(jk (fun v=>v) (fun _=>γ) t).cs=t.cs:=by
           have key:(∀ t:T Nat,(jk (fun v=>v) (fun _=>γ) t).cs=t.cs):=by
            intro t;refine T.rec (motive_1:=fun t=>(jk (fun v=>v) (fun _=>γ) t).cs=t.cs) (motive_2:=fun l=>T.dm (jQ (fun v=>v) (fun _=>γ) l)=T.dm l) ?_ ?_ ?_ ?_ ?_ ?_ ?_ ?_ t
            · intro v;rfl
            · intro v;rfl
            · intro l ih;simp only [jk,T.cs];exact ih
            · intro a z l n ih;rfl
            · intro a ks vs ih;rfl
            · intro n;rfl
            · rfl
            · intro hd tl h1 h2;simp only [jQ,T.dm,h1,h2]
           exact key
          induction l with
          | nil=>intro _;rfl
          | cons x r ih =>
            intro hl;simp only [pI,dF,ak,beq_iff_eq,nS,jQ] at hl ih ⊢;exact ⟨by rw [RP];exact hl.1,ih hl.2⟩
         exact this ts IV
        intro t ht;simp only [pI,bj,beq_iff_eq] at h2
        have:=h2 _ (eg ht)
        rwa [T.ky] at this
       have wF:∀ b∈T.b9 lA,∀ (j:Nat) (o:Obj An),E1 j=some o→b∉o.blk:=fun b hb j o ho l7=>(kA.own b hb).2 ⟨j,o,ho,l7⟩
       have BT:1≤i.bytes:=eI wC;have vE:∀ k,k*i.bytes≤room→k≤room:=fun k hk=>dJ (ia k BT) hk
       split at he
       · -- nil
         split at he
         · rename_i fZ;cases d with
           | none=>simp [m4] at he
           | some d =>
             simp only [m4,bG,aa,ae] at he;obtain ⟨rfl,rfl⟩:=he;simp only [bT] at hx;obtain ⟨ax,rfl⟩:=hx;obtain ⟨a',pj,w',bo,capn,il,k⟩:=RI (ty:=ty) ht hi C4 sW γ (an:=⟨γ,none,0⟩) (a:=ax) (len:=0) (cap:=0) (olds:=[]) ⟨rfl,rfl⟩ (au _) (fun _=>rfl) (by simp) (by simp) jV kA.one (by rw [bS];exact vE _ fZ) (by rw [bS];exact fZ)
             rw [a7] at k;obtain ⟨E2,k1,k2,k3⟩:=Nd (d:=d) hγ hm kA.mr kA.sub (kA.ns.Ek nx) k (by rw [n7,bS]) RO kA.tc kA.nd (fun b hb=>⟨(kA.own b hb).1,fun j o _ ho=>wF b hb j o ho,by simp⟩) (by simp) kA.st
              (fun j t hj q y hy hg=>by rw [kA.new j t hj q y hy] at hg;exact (hγ hg).elim)
             rw [kA.er] at k1;rw [bS] at il k3;exact ⟨_,w',E2,il,k1,k2,k3⟩
         · cases he
       · rename_i id path off len g0;split at he
         · rename_i lL;subst lL;have uX:=hx.frame (jK.fr (w:=w) (A:=A) kA.ns (dv.le_refl nx));simp only [bT] at uX;obtain ⟨ye,ax,cap,rfl,nM,hh⟩:=uX;split at he
           · -- a root
             rename_i g1 z1 l gx;unfold D1 at he;split at he
             · rename_i hc;obtain ⟨rfl,rfl,hle,fZ⟩:=hc;simp only [aa,ae] at he;obtain ⟨rfl,rfl⟩:=he;rw [kA.mr.er id] at gx;cases qz:E1 id with
               | none=>simp [qz] at gx
               | some ob =>
                 cases ob<;>simp only [qz,ar,Obj.mapA,reduceCtorEq,aa,Obj.vec.injEq] at gx;rename_i an z' l';obtain ⟨rfl,rfl,rfl⟩:=gx;rw [T.mapAs_eq,aD] at hle;have kN:=hh an i.size (by rw [qz];rfl) rfl
                 have l9:VB w A E1 nx an i.size l':=by have:=kA.mr.at_ id _ qz;simpa only [OAt] using this
                 obtain ⟨olds,h2,h3,h4,h5,h6⟩:=YM l9 hle;obtain ⟨a',pj,w',bo,capn,il,k⟩:=RI (ty:=ty) ht hi C4 sW γ kN nM h5 h3 h6 jV kA.one (vE _ fZ) fZ;obtain ⟨rest,oa⟩:=YN (l:=l') (n:=len);have rn:=kA.mr.nd id _ qz;simp only [Obj.blk] at rn;have zf:=(aT.1 rn).2.1;rw [oa] at zf;have rq:∀ b∈T.b9 (l'.take len),b∈(Obj.vec an i.size l').blk:=fun b hb=>by simp only [Obj.blk,ay];exact .inr (by rw [oa];simp [hb])
                 obtain ⟨E2,k1,k2,k3⟩:=Nd (d:=id) hγ hm kA.mr kA.sub (kA.ns.Ek nx) k (l:=l'.take len++lA) (by rw [aQ,aX,n7,da hle])
                  (fun t ht=>(ay.1 ht).elim (h4 t) (RO t)) (h2.append kA.tc)
                  (by
                    rw [wu];refine aT.2 ⟨(aT.1 zf).1,kA.nd,?_⟩;rintro b hb _ jx rfl;exact wF b jx id _ qz (rq b hb))
                  (fun b hb=>by
                    rw [wu] at hb;rcases ay.1 hb with hb | hb
                    · refine ⟨kA.sub b ⟨id,_,qz,rq b hb⟩,fun j o hj ho=>kA.mr.dj id j _ o (dB hj) qz ho b (rq b hb),fun e=>?_⟩
                      rw [e] at rn;exact (aT.1 rn).2.2 b (by simp) b (by rw [oa];simp [hb]) rfl
                    · refine ⟨(kA.own b hb).1,fun j o _ ho=>wF b hb j o ho,fun e=>?_⟩
                      exact wF b hb id _ qz (by simp [Obj.blk,e]))
                  (fun b e=>by
                    have hbm:b∈(Obj.vec an i.size l').blk:=by simp [Obj.blk,e]
                    exact ⟨kA.sub b ⟨id,_,qz,hbm⟩,fun j o hj ho=>kA.mr.dj id j _ o (dB hj) qz ho b hbm⟩)
                  (by
                    have hst:=kA.mr.st id _ qz;simp only [Obj.st] at hst;have h8:T.ku (nx.add γ) (l'.take len):=T.l6 (nx.eP γ) (RK (fun t ht=>c8 ht) hst.2)
                    have:∀ l m:List (T An),T.ku (nx.add γ) l→T.ku (nx.add γ) m→T.ku (nx.add γ) (l++m):=by
                     intro l m
                     induction l with
                     | nil=>intro _ h;exact h
                     | cons x r ih=>intro h1 h2;simp only [T.ku,aS] at h1 ⊢;exact ⟨h1.1,ih h1.2 h2⟩
                    exact this _ _ h8 kA.st)
                  (fun j t hj q y hy hg=>by
                    by_cases AV:j<(l'.take len).length
                    · rw [cY AV] at hj;have BU:l'[j]?=some t:=by
                       rw [aX] at AV;rw [dR (by omega)] at hj;exact hj
                      rw [qz,sV];simp only [Obj.pO,BF,BU,ah];exact hy
                    · rw [bH (by omega)] at hj
                      rw [kA.new _ t hj q y hy] at hg;exact (hγ hg).elim)
                 rw [b8,kA.er,bP,← T.mapAs_eq] at k1;exact ⟨_,w',E2,il,k1,k2,k3⟩
             · cases he
           · -- a place
             unfold Aw at he;split at he
             · rename_i g1 z1 l n dM;split at he
               · rename_i hc;obtain ⟨rfl,rfl,rfl,hle,fZ⟩:=hc;split at he
                 · rename_i oh eZ;cases d with
                   | none=>simp [m4] at he
                   | some d =>
                     simp only [m4,bG,aa,ae] at he;obtain ⟨rfl,rfl⟩:=he;obtain ⟨RQ,an,l',YO,bZ,rfl,rfl,yc,l9,iq,jd,C6,vC,Gu⟩:=kA.mr.wz dM eZ;rw [aD] at hle;have kN:=hh an i.size bZ rfl;have RR:VB w A RQ nx an i.size l':=l9.frame (jK.fr vC (dv.le_refl nx)) (fun _ _=>rfl)
                     have RS:=kA.tc.frame (jK.fr (w:=w) (A:=A) vC (dv.le_refl nx)) (fun _ _=>rfl)
                     obtain ⟨olds,h2,h3,h4,h5,h6⟩:=YM RR hle;obtain ⟨a',pj,w',bo,capn,il,k⟩:=RI (ty:=ty) ht hi C4 sW γ kN nM h5 h3 h6 jV kA.one (vE _ fZ) fZ;obtain ⟨rest,oa⟩:=YN (l:=l') (n:=len);have zf:=(aT.1 iq).2.1;rw [oa] at zf;have rq:∀ b∈T.b9 (l'.take len),b∈an.b.toList++T.b9 l':=fun b hb=>ay.2 (.inr (by rw [oa];simp [hb]))
                     have mG:∀ b,¬ jJ RQ b→∀ (j:Nat) (o:Obj An),RQ j=some o→b∉o.blk:=fun b hb j o ho l7=>hb ⟨j,o,ho,l7⟩
                     obtain ⟨E2,k1,k2,k3⟩:=Nd (d:=d) hγ hm yc (fun b hb=>kA.sub b (C6 b hb)) ((kA.ns.trans vC).Ek nx) k (l:=T.cP (m7 γ) (l'.take len)++lA)
                      (by rw [aQ,T.mapAs_eq,aD,aX,n7,da hle])
                      (fun t ht=>(ay.1 ht).elim (fun ht=>by
                        rw [T.mapAs_eq] at ht;obtain ⟨u,hu,rfl⟩:=bh.1 ht;rw [T.ky];exact h4 u hu) (RO t)) ((Nb γ h2).append RS)
                      (by
                        rw [wu,yY];refine aT.2 ⟨(aT.1 zf).1,kA.nd,?_⟩;rintro b hb _ jx rfl;exact (kA.own b jx).2 (jd b (rq b hb)).1)
                      (fun b hb=>by
                        rw [wu,yY] at hb;rcases ay.1 hb with hb | hb
                        · refine ⟨kA.sub b (jd b (rq b hb)).1,fun j o _ ho=>mG b (jd b (rq b hb)).2 j o ho,fun e=>?_⟩
                          rw [e] at iq;exact (aT.1 iq).2.2 b (by simp) b (by rw [oa];simp [hb]) rfl
                        · refine ⟨(kA.own b hb).1,fun j o _ ho=>mG b (fun hc=>(kA.own b hb).2 (C6 b hc)) j o ho,fun e=>?_⟩
                          exact (kA.own b hb).2 (jd b (by simp [e])).1)
                      (fun b e=>by
                        have hbm:=jd b (show b∈an.b.toList++T.b9 l' by simp [e])
                        exact ⟨kA.sub b hbm.1,fun j o _ ho=>mG b hbm.2 j o ho⟩)
                      (by
                        have:∀ l m:List (T An),T.ku (nx.add γ) l→T.ku (nx.add γ) m→T.ku (nx.add γ) (l++m):=by
                         intro l m
                         induction l with
                         | nil=>intro _ h;exact h
                         | cons x r ih=>intro h1 h2;simp only [T.ku,aS] at h1 ⊢;exact ⟨h1.1,ih h1.2 h2⟩
                        exact this _ _ (CZ nx γ _) kA.st)
                      (fun j t hj q y hy hg=>by
                        by_cases AV:j<(T.cP (m7 γ) (l'.take len)).length
                        · rw [cY AV] at hj;rw [T.mapAs_eq,aN] at hj;cases hu:(l'.take len)[j]? with
                          | none=>simp [hu] at hj
                          | some u =>
                            simp only [hu,ar,aa] at hj;subst hj;rw [ID hy] at hg;exact (hγ hg).elim
                        · rw [bH (by omega)] at hj
                          rw [kA.new _ t hj q y hy] at hg;exact (hγ hg).elim)
                     have e:(T.cP (m7 γ) (l'.take len)++lA).map (T.mapA An.g)=nS γ ((l'.map (T.mapA An.g)).take len++ts):=by
                      rw [b8,kA.er,← T.mapAs_eq,C0,T.mapAs_eq,bP]
                      have:∀ l m:List (T Nat),nS γ l++nS γ m=nS γ (l++m):=by
                       intro l m
                       induction l with
                       | nil=>rfl
                       | cons x r ih=>simp only [nS,jQ,aS] at ih ⊢;rw [ih]
                      exact this _ _
                     rw [e] at k1;exact ⟨_,w',E2,il,k1,k2,k3⟩
                 · cases he
               · cases he
             · cases he
         · cases he
       · cases he
end
end Go.Mid
namespace Go.Mid
open Go.RowKit
theorem Nf:∀ {l:List (T Nat)} {vs:List PV},lv l=some vs→vs.length=l.length
 | [],vs,h=>by simp only [lv,aa] at h;subst h;rfl
 | t::r,vs,h=>by
   simp only [lv] at h;split at h
   · rename_i h1 h2;cases h;rw [ba,ba,Nf h2]
   · cases h
section
variable {w:World} {A A':Nat→Prop} {E:dW An} {nx:dv} {h:cq}
theorem cR.append {l m:List PV} {cs ds:List Value} (h:cR w A l cs) (k:cR w A m ds):cR w A (l++m) (cs++ds):=by
 induction l generalizing cs with
 | nil=>simp only [cR] at h;subst h;exact k
 | cons t r ih =>
   simp only [cR,aS] at h ⊢;obtain ⟨c,d,rfl,h1,h2⟩:=h;exact ⟨c,d++ds,by simp,h1,ih h2⟩
mutual
theorem Ng (hA:∀ b,A b→A' b):∀ {t:T An} {v:PV} {b o:Nat},sP (t.mapA An.g)=some v→(∀ x∈t.blk,A' x)→TAt w A E nx t b o→∃ cs,ec w A' v cs∧cs.length=t.cs∧Row w b o cs
 | .p u,v,b,o,h,_,k=>by
   simp only [T.mapA,sP,aa] at h;subst h;simp only [TAt] at k;obtain ⟨cs,h1,h2⟩:=k;exact ⟨cs,h1.frame hA (fun _ _=>rfl),h1.len,h2⟩
 | .m u,v,b,o,h,_,k=>by simp [T.mapA,sP] at h
 | .agg l,v,b,o,h,hb,k=>by
   simp only [T.mapA,sP] at h;split at h
   · rename_i vs fY;cases h;simp only [TAt] at k;obtain ⟨cs,h1,h2,h3⟩:=RT hA fY (by simpa only [T.blk] using hb) k
     exact ⟨cs,by simpa only [ec] using h1,h2,h3⟩
   · cases h
 | .vec an z l n,v,b,o,h,hb,k=>by
   simp only [T.mapA,sP] at h;split at h
   · rename_i vs fY;cases h;simp only [TAt] at k;obtain ⟨a,cap,h1,h2,h3,h4⟩:=k;have hlen:vs.length=l.length:=by rw [Nf fY,T.mapAs_eq,aD]
     have BN:(vs.take n).length=n:=by rw [aX];omega
     refine ⟨[.slice a n cap],?_,rfl,h1⟩;simp only [ec,BN];cases kM:an.b with
     | none =>
       simp only [lg,kM] at h3;obtain ⟨rfl,rfl⟩:=h3;exact ⟨a,0,rfl,au _,.inl (by simp)⟩
     | some b' =>
       simp only [kM] at h4;simp only [lg,kM] at h3;refine ⟨a,cap,rfl,by omega,?_⟩
       rcases h3.2 with ⟨rfl,_⟩ | h5
       · exact .inl (by simp)
       · refine .inr ⟨b',0,z,by rw [h5,dk],hb b' (by simp [T.blk,kM]),?_⟩
         exact fL.take n (RU hA fY (fun x hx=>hb x (by simp [T.blk,hx])) h4.2.2.1 h4.2.2.2)
   · cases h
 | .mp ..,v,b,o,h,_,k=>by simp only [TAt] at k
 | .hole n,v,b,o,h,_,k=>by simp [T.mapA,sP] at h
theorem RT (hA:∀ b,A b→A' b):∀ {l:List (T An)} {vs:List PV} {b o:Nat},lv (T.cP An.g l)=some vs→(∀ x∈T.b9 l,A' x)→cK w A E nx l b o→∃ cs,cR w A' vs cs∧cs.length=T.dm l∧Row w b o cs
 | [],vs,b,o,h,_,k=>by
   simp only [T.cP,lv,aa] at h;subst h;exact ⟨[],by simp only [cR],rfl,Row.nil⟩
 | t::r,vs,b,o,h,hb,k=>by
   simp only [T.cP,lv] at h;split at h
   · rename_i v yd h1 h2;cases h;simp only [cK] at k;simp only [T.b9,ay] at hb;obtain ⟨c,h3,h4,h5⟩:=Ng hA h1 (fun x hx=>hb x (.inl hx)) k.1
     obtain ⟨d,h6,h7,h8⟩:=RT hA h2 (fun x hx=>hb x (.inr hx)) k.2
     exact ⟨c++d,by simp only [cR];exact ⟨c,d,rfl,h3,h6⟩,by rw [aQ,h4,h7,T.dm],Row.append.2 ⟨h5,by rw [h4];exact h8⟩⟩
   · cases h
theorem RU (hA:∀ b,A b→A' b):∀ {l:List (T An)} {vs:List PV} {b o z:Nat},lv (T.cP An.g l)=some vs→(∀ x∈T.b9 l,A' x)→(∀ t∈l,t.cs=z)→cK w A E nx l b o→fL w A' vs b o z
 | [],vs,b,o,z,h,_,_,k=>by
   simp only [T.cP,lv,aa] at h;subst h;simp only [fL]
 | t::r,vs,b,o,z,h,hb,hz,k=>by
   simp only [T.cP,lv] at h;split at h
   · rename_i v yd h1 h2;cases h;simp only [cK] at k;simp only [T.b9,ay] at hb;have ht:=hz t (by simp)
     obtain ⟨c,h3,h4,h5⟩:=Ng hA h1 (fun x hx=>hb x (.inl hx)) k.1
     have:=RU hA h2 (fun x hx=>hb x (.inr hx)) (fun t ht=>hz t (by simp [ht])) k.2
     simp only [fL];rw [ht] at this;exact ⟨⟨c,h3,by rw [h4,ht],h5⟩,this⟩
   · cases h
end
theorem RW (m:MR w A E h nx) {id:Nat} {path:List Nat} {an:An} {z:Nat} {l:List (T An)} (hv:jI (E id) path=some (an,z,l)):∃ o,E id=some o∧∀ b∈an.b.toList++T.b9 l,b∈o.blk:=by
 rcases MK hv with ⟨rfl,he⟩ | ⟨n,hs⟩
 · exact ⟨_,he,fun b hb=>by simpa [Obj.blk] using hb⟩
 · obtain ⟨ob,hE⟩:=m.lz hs;refine ⟨ob,hE,?_⟩;rw [hE] at hs;obtain ⟨_,_,_,_,_,h5,_⟩:=AP hs (m.at_ id ob hE);exact fun b hb=>h5 b (by simpa [T.blk] using hb)
mutual
theorem C7 (m:MR w A E h nx) (hA:∀ b,A b→A' b):∀ {x:MV} {v:PV} {val:Value},mC h x=some v→(∀ i∈kf x,∀ o,E i=some o→∀ b∈o.blk,A' b)→bT w A E nx x val→pe w A' v val
 | .p u,v,val,hp,_,hv=>by
   simp only [mC,aa] at hp;subst hp;simp only [bT] at hv;exact hv.frame hA (fun _ _=>rfl)
 | .nil _,v,val,hp,_,hv=>by
   simp only [mC,aa] at hp;subst hp;simp only [bT] at hv;obtain ⟨a,rfl⟩:=hv;exact ⟨[.slice a 0 0],by simp only [ec];exact ⟨a,0,rfl,au _,.inl trivial⟩,rfl⟩
 | .own id path off len g,v,val,hp,hr,hv=>by
   simp only [mC] at hp;split at hp
   · rename_i g' z l iW;split at hp
     · rename_i hc;obtain ⟨rfl,hle⟩:=hc;split at hp
       · rename_i vs fY;cases hp;obtain ⟨an,lA,nB,rfl,rfl⟩:=m.vec iW;have hB:=m.ue nB;obtain ⟨ob,hE,je⟩:=RW m nB;simp only [bT] at hv;obtain ⟨_,a,cap,rfl,nM,hh⟩:=hv;have kN:=hh an z (sS nB) rfl;rw [← T.mapAs_eq] at fY;have hlen:vs.length=lA.length:=by rw [Nf fY,T.mapAs_eq,aD]
         rw [aD] at hle;have BN:((vs.drop off).take len).length=len:=by rw [aX,List.length_drop];omega
         refine ⟨[.slice a len cap],?_,rfl⟩;simp only [ec,BN];simp only [VB] at hB;cases hb:an.b with
         | none =>
           simp only [lg,hb] at kN;obtain ⟨rfl,rfl⟩:=kN;exact ⟨a,0,rfl,au _,.inl (by simp)⟩
         | some b =>
           simp only [hb] at hB;simp only [lg,hb] at kN;refine ⟨a,cap,rfl,nM,?_⟩;rcases kN.2 with ⟨rfl,_⟩ | h5
           · exact .inl (by simp)
           · refine .inr ⟨b,off*z,z,h5,hr id (by simp [kf]) ob hE b (je b (by simp [hb])),?_⟩
             have:=RU hA fY (fun x hx=>hr id (by simp [kf]) ob hE x (je x (by simp [hx]))) hB.2.2.1 hB.2.2.2
             have:=(this.drop off).take len
             rwa [bS] at this
       · cases hp
     · cases hp
   · cases hp
 | .ptr id np rp g o,v,val,hp,hr,hv=>by
   simp only [mC] at hp;split at hp
   · rename_i t s' o' hl;split at hp
     · rename_i hc;obtain ⟨rfl,rfl⟩:=hc;split at hp
       · rename_i u hu;cases hp;obtain ⟨an,tA,n7,rfl,rfl⟩:=m.look hl;obtain ⟨b,hb,lh⟩:=m.sT n7;simp only [bT] at hv;obtain ⟨_,ad,rfl,rf⟩:=hv;obtain ⟨z,hn⟩:=Gi n7;obtain ⟨b',jx,rfl⟩:=rf an z hn rfl;rw [hb] at jx;cases jx;have dM:=MJ n7;obtain ⟨ob,hE⟩:=m.lz dM;rw [hE] at n7 dM;have jU:=m.wy hE n7 hb;obtain ⟨b2,o2,h1,h2,h3,h4,_⟩:=AP dM (m.at_ id ob hE);rw [jU] at h1;cases h1;have pf:=hr id (by simp [kf]) ob hE
         obtain ⟨cs,h5,_,h6⟩:=Ng hA hu (fun x hx=>pf x (h4 x hx)) lh
         exact ⟨_,by simp only [ec];exact ⟨b,o',rfl,pf b h3,cs,h5,h6⟩,rfl⟩
       · cases hp
     · cases hp
   · cases hp
 | .fE ..,v,val,hp,hr,hv=>by simp only [bT] at hv
 | .agg l,v,val,hp,hr,hv=>by
   simp only [mC] at hp;split at hp
   · rename_i vs fY;cases hp;simp only [bT] at hv;obtain ⟨cs,rfl,hv⟩:=hv;exact ⟨cs,by simp only [ec];exact YP m hA fY (by simpa only [kf] using hr) hv,rfl⟩
   · cases hp
 | .fn f l,v,val,hp,hr,hv=>by
   simp only [mC] at hp;split at hp
   · rename_i vs fY;cases hp;simp only [bT] at hv;obtain ⟨ws,rfl,hv⟩:=hv;exact ⟨_,by simp only [ec];exact ⟨ws,rfl,Nh m hA fY (by simpa only [kf] using hr) hv⟩,rfl⟩
   · cases hp
 | .eO _,v,val,hp,_,hv=>by simp only [mC,reduceCtorEq] at hp
 | .dead _,v,val,hp,_,hv=>by simp only [mC,reduceCtorEq] at hp
theorem YP (m:MR w A E h nx) (hA:∀ b,A b→A' b):∀ {l:List MV} {vs:List PV} {cs:List Value},rI h l=some vs→(∀ i∈mD l,∀ o,E i=some o→∀ b∈o.blk,A' b)→ee w A E nx l cs→cR w A' vs cs
 | [],vs,cs,hp,_,hv=>by
   simp only [rI,aa] at hp;subst hp;simpa only [ee,cR] using hv
 | x::r,vs,cs,hp,hr,hv=>by
   simp only [rI] at hp;split at hp
   · rename_i v yd h1 h2;cases hp;simp only [ee] at hv;obtain ⟨u,d,rfl,_,_,h5,h6⟩:=hv;simp only [mD,ay] at hr;obtain ⟨c,h7,rfl⟩:=C7 m hA h1 (fun i hi=>hr i (.inl hi)) h5
     have h8:=YP m hA h2 (fun i hi=>hr i (.inr hi)) h6
     simp only [cR];exact ⟨c,d,by rw [h7.m6],h7,h8⟩
   · cases hp
theorem Nh (m:MR w A E h nx) (hA:∀ b,A b→A' b):∀ {l:List MV} {vs:List PV} {ws:List Value},rI h l=some vs→(∀ i∈mD l,∀ o,E i=some o→∀ b∈o.blk,A' b)→di w A E nx l ws→kU w A' vs ws
 | [],vs,cs,hp,_,hv=>by
   simp only [rI,aa] at hp;subst hp;simpa only [di,kU] using hv
 | x::r,vs,cs,hp,hr,hv=>by
   simp only [rI] at hp;split at hp
   · rename_i v yd h1 h2;cases hp;simp only [di] at hv;obtain ⟨u,d,rfl,h5,h6⟩:=hv;simp only [mD,ay] at hr;obtain ⟨c,h7,rfl⟩:=C7 m hA h1 (fun i hi=>hr i (.inl hi)) h5
     have h8:=Nh m hA h2 (fun i hi=>hr i (.inr hi)) h6
     simp only [kU];exact ⟨c,d,rfl,h7,h8⟩
   · cases hp
end
theorem MR.wG (m:MR w A E h nx) {id:Nat} {o:Obj An} (hE:E id=some o) :
 MR w (fun b=>A b∨b∈o.blk) (cD E id (some .gone)) (cD h id (some .gone)) nx∧gJ w A E nx w (fun b=>A b∨b∈o.blk) (cD E id (some .gone)):=by
 have own:∀ b,jJ (cD E id (some .gone)) b→b∉o.blk∧jJ E b:=by
  intro b hb;rcases AO hb with h1 | ⟨i,oi,hi,r8,AQ⟩
  · simp [Obj.blk] at h1
  · exact ⟨fun l7=>m.dj id i o oi (dB hi) hE r8 b l7 AQ,i,oi,r8,AQ⟩
 refine ⟨(m.gone id).AD (fun b hb=>.inl hb) ?_,?_⟩
 · rintro b (hb | hb)
   · exact ⟨m.im b hb,fun ho=>(m.lt b (own b ho).2).2 hb⟩
   · exact ⟨(m.kp hE hb).1,fun ho=>(own b ho).1 hb⟩
 · exact ⟨rfl,rfl,rfl,au _,fun _ _ _=>rfl,fun b hb=>.inl hb,fun b _ hb=>hb.imp (fun h=>h) (fun hb=>⟨id,o,hE,hb⟩),fun b _ hb=>(own b hb).2,(jK.gone E id).Ek nx⟩
theorem MR.e7 {w':World} {nx':dv} (m:MR w A E h nx) {A':Nat→Prop} {id:Nat} {o':Obj An} (s:nO w w' A E nx nx' id o') (hA:∀ b,A b→A' b) (lh:Fr w w' A A' E (cD E id (some o')) nx nx'→OAt w' A' (cD E id (some o')) nx' o')
 (mG:∀ b,jJ (cD E id (some o')) b→¬ A' b) (Ni:∀ b,A' b→b<w'.heap.size):MR w' A' (cD E id (some o')) (cD h id (some (o'.mapA An.g))) nx':=by
 have f0:=s.fr m;have f:Fr w w' A A' E (cD E id (some o')) nx nx':=⟨hA,f0.hw,f0.hE,f0.hn⟩;constructor
 · intro i;by_cases e:i=id
   · subst e;simp [cD]
   · simp [cD,e,m.er i]
 · intro i o ho;by_cases e:i=id
   · subst e;rw [nN] at ho;cases ho;exact lh f
   · rw [nU E _ e] at ho;exact OAt.frame f (fun x hx=>s.ch x (m.kp ho hx).1 (fun o1 nw uX=>m.dj i id o o1 e ho nw x hx uX)) (m.at_ i o ho)
 · intro b hb;refine ⟨?_,mG b hb⟩;rcases AO hb with h1 | ⟨i,oi,_,r8,h1⟩
   · exact (s.lt b h1).1
   · exact br (m.kp r8 h1).1 s.sz
 · intro i o ho;by_cases e:i=id
   · subst e;rw [nN] at ho;cases ho;exact s.nd
   · rw [nU E _ e] at ho;exact m.nd i o ho
 · intro i j o o1 gU ho nw b hb n9;by_cases e:i=id
   · subst e;rw [nN] at ho;cases ho;rw [nU E _ (dB gU)] at nw;exact s.dj b hb j o1 (dB gU) nw n9
   · rw [nU E _ e] at ho;by_cases e':j=id
     · subst e';rw [nN] at nw;cases nw;exact s.dj b n9 i o e ho hb
     · rw [nU E _ e'] at nw;exact m.dj i j o o1 gU ho nw b hb n9
 · exact Ni
 · intro i o ho;by_cases e:i=id
   · subst e;rw [nN] at ho;cases ho;exact s.st
   · rw [nU E _ e] at ho;exact Obj.kx s.hn (m.st i o ho)
theorem YQ {z:Nat} (hA:∀ b,A b→A' b):∀ {l:List (T An)} {vs:List PV} {b o:Nat},lv (T.cP An.g l)=some vs→(∀ x∈T.b9 l,A' x)→(∀ t∈l,t.cs=z)→cK w A E nx l b o→∀ v∈vs,v.cs=z
 | [],vs,b,o,h,_,_,k=>by
   simp only [T.cP,lv,aa] at h;subst h;intro v hv;cases hv
 | t::r,vs,b,o,h,hb,hz,k=>by
   simp only [T.cP,lv] at h;split at h
   · rename_i v yd h1 h2;cases h;simp only [cK] at k;simp only [T.b9,ay] at hb;obtain ⟨c,h3,h4,_⟩:=Ng hA h1 (fun x hx=>hb x (.inl hx)) k.1
     intro u hu;rcases aM.1 hu with e | e
     · subst e;rw [← h3.len,h4];exact hz t (by simp)
     · exact YQ hA h2 (fun x hx=>hb x (.inr hx)) (fun t ht=>hz t (by simp [ht])) k.2 u e
   · cases h
theorem MR.EA (m:MR w A E h nx) {id γ z:Nat} (hγ:¬ nx γ) (hs:h id=none) :
 ∃ E',MR w A E' (cD h id (some (.vec γ z []))) (nx.add γ)∧gJ w A E nx w A E'∧fu (E' id) (some [])=some (⟨γ,none,0⟩,some z):=by
 have s:nO w w A E nx (nx.add γ) id (.vec ⟨γ,none,0⟩ z []):=by
  refine ⟨dv.eP _ _,au _,fun _ _ _=>rfl,?_,by simp [Obj.blk,T.b9],by simp [Obj.blk,T.b9],by simp [Obj.blk,T.b9],⟨nx.iZ γ,trivial⟩⟩
  intro np y hy hg;cases np with
  | none=>simp [fu] at hy
  | some p =>
    cases p with
    | nil =>
      simp only [fu,aa] at hy;subst hy;exact (hγ hg).elim
    | cons i r=>simp [fu,ew] at hy
 have f:=s.fr m;have hm:=m.set s (by simp only [OAt,VB];exact ⟨trivial,trivial⟩)
 refine ⟨_,hm,⟨rfl,rfl,rfl,au _,fun _ _ _=>rfl,fun _ h=>h,fun _ _ h=>.inl h,fun b _ hb=>?_,f.hE⟩,by rw [nN];rfl⟩
 rcases AO hb with h1 | ⟨i,oi,_,r8,h1⟩
 · simp [Obj.blk,T.b9] at h1
 · exact ⟨i,oi,r8,h1⟩
theorem MR.sE (m:MR w A E h nx) {id γ:Nat} (hγ:¬ nx γ) {a:Nat} {t:T Nat} (hs:h id=some (.cell a t)) :
 ∃ E',MR w A E' (cD h id (some (.cell a (Ar γ t)))) (nx.add γ)∧gJ w A E nx w A E':=by
 rw [m.er id] at hs;cases hE:E id with
 | none=>simp [hE] at hs
 | some o =>
   cases o<;>simp only [hE,ar,Obj.mapA,reduceCtorEq,aa,Obj.cell.injEq] at hs;rename_i an t';obtain ⟨rfl,rfl⟩:=hs;have je:(Obj.cell an (t'.mapA (m7 γ))).blk=(Obj.cell an t').blk:=by simp only [Obj.blk,Yi]
   have s:nO w w A E nx (nx.add γ) id (.cell an (t'.mapA (m7 γ))):=by
    refine ⟨dv.eP _ _,au _,fun _ _ _=>rfl,?_,?_,?_,?_,?_⟩
    · intro np y hy hg;rw [hE];cases np with
      | none=>simpa [fu] using hy
      | some p =>
        rw [sV] at hy
        have:=ID (t:=t') hy
        rw [this] at hg;exact (hγ hg).elim
    · rw [je];exact fun b hb=>m.kp hE hb
    · rw [je];exact m.nd id _ hE
    · rw [je];exact fun b hb j oj hj BK=>m.dj id j _ oj (dB hj) hE BK b hb
    · exact ⟨.inl (m.st id _ hE).1,Yj nx γ t'⟩
   have f:=s.fr m;have k:=OAt.frame f (fun _ _=>rfl) (m.at_ id _ hE)
   have hm:=m.set s (by
    simp only [OAt] at k ⊢;obtain ⟨b,hb,k1,k2⟩:=k;exact ⟨b,hb,by rw [T.ky];exact k1,Rh γ k2⟩)
   refine ⟨_,?_,rfl,rfl,rfl,au _,fun _ _ _=>rfl,fun _ h=>h,fun _ _ h=>.inl h,fun b _ hb=>?_,f.hE⟩
   · have e:(Obj.cell an (t'.mapA (m7 γ))).mapA An.g=.cell an.g (Ar γ (t'.mapA An.g)):=by simp only [Obj.mapA,Yk]
     rw [e] at hm;exact hm
   · rcases AO hb with h1 | ⟨i,oi,_,r8,h1⟩
     · rw [je] at h1;exact ⟨id,_,hE,h1⟩
     · exact ⟨i,oi,r8,h1⟩
theorem MR.BV (m:MR w A E h nx) {id γ:Nat} (hγ:¬ nx γ) {path:List Nat} {g z n:Nat} {l:List (T Nat)} {oh:Obj Nat} (hs:ew (h id) path=some (.vec g z l n)) (hp:Mid.put (h id) path (.vec g z (nS γ l) n)=some oh) :
 ∃ E',MR w A E' (cD h id (some oh)) (nx.add γ)∧gJ w A E nx w A E':=by
 obtain ⟨t',ht,he⟩:=m.sub hs;cases t'<;>simp only [T.mapA,reduceCtorEq,T.vec.injEq] at he;rename_i an z' l' n';obtain ⟨rfl,rfl,rfl,rfl⟩:=he;cases hE:E id with
 | none=>rw [hE] at ht;cases path<;>simp [ew] at ht
 | some o =>
   rw [hE] at ht;have uo:(T.vec an.g z (nS γ (T.cP An.g l')) n:T Nat)=(T.vec an z (T.cP (m7 γ) l') n:T An).mapA An.g:=by
    simp only [T.mapA,C0]
   rw [m.er id,hE,uo,Gm] at hp;cases iM:Mid.put (some o) path (T.vec an z (T.cP (m7 γ) l') n:T An) with
   | none=>simp [iM] at hp
   | some o' =>
     simp only [iM,ar,aa] at hp;obtain ⟨b1,o1,h1,h2,h3,h4,h5⟩:=AP ht (m.at_ id o hE);obtain ⟨rest,p1,_⟩:=Ej ht iM;have BW:(an.b.toList++T.b9 l').Nodup:=(aT.1 (p1.nodup_iff.1 (m.nd id o hE))).1;have l9:(T.vec an z (T.cP (m7 γ) l') n:T An).blk=(T.vec an z l' n:T An).blk:=by simp only [T.blk,yY]
     have vB:oX w w A E nx (nx.add γ) id o path (.vec an z l' n) (.vec an z (T.cP (m7 γ) l') n) b1 o1:=by
      refine ⟨dv.eP _ _,au _,hE,ht,h1,rfl,Wr.refl _ _ _ _ _,?_,?_,?_,?_,?_⟩
      · intro r y hy hg;cases r with
        | nil=>simpa [fM,c6] using hy
        | cons i r =>
          have e:∀ (L:List (T An)),fM (T.vec an z L n) (i::r)=match L[i]? with | some t=>fM t r | none=>none:=fun L=>by
           simp only [fM,c6];cases L[i]? <;> rfl
          rw [e,T.mapAs_eq,aN] at hy;cases hi:l'[i]? with
          | none=>simp [hi] at hy
          | some u =>
            simp only [hi,ar] at hy
            have:=ID hy
            rw [this] at hg;exact (hγ hg).elim
      · intro b hb;rw [l9] at hb;exact m.kp hE (h4 b hb)
      · rw [l9];exact BW
      · intro b hb;rw [l9] at hb;exact .inl hb
      · have hst:(T.vec an z l' n:T An).st nx:=m.uf (id:=id) (p:=path) (by rw [hE];exact ht)
        exact ⟨.inl hst.1,CZ nx γ l'⟩
     have s:=vB.ui m iM;refine ⟨cD E id (some o'),?_,rfl,rfl,rfl,au _,fun _ _ _=>rfl,fun _ h=>h,fun _ _ h=>.inl h,fun b _ hb=>?_,(s.fr m).hE⟩
     · rw [← hp];refine m.put vB iM fun f=>?_
       have k:=TAt.frame f rfl (fun _ _=>rfl) h2
       have k2:=Rh γ k;simp only [T.mapA] at k2;simp only [TAt] at k k2 ⊢;obtain ⟨a,cap,q1,q2,q3,q4⟩:=k;obtain ⟨_,_,_,r2,_,r4⟩:=k2;exact ⟨a,cap,q1,r2,q3,r4⟩
     · rcases vB.owned m iM hb with k | k
       · rw [l9] at k;exact ⟨id,o,hE,h4 b k⟩
       · exact k.1
theorem MR.IW (m:MR w A E h nx) {id:Nat} {path:List Nat} {g z n:Nat} {l:List (T Nat)} {vs:List PV} {oh:Obj Nat} (hs:ew (h id) path=some (.vec g z l n)) (fY:lv l=some vs) (hp:Mid.put (h id) path (.vec g z (vs.map .p) n)=some oh) :
 ∃ A' E',MR w A' E' (cD h id (some oh)) nx∧gJ w A E nx w A' E':=by
 obtain ⟨t',ht,he⟩:=m.sub hs;cases t'<;>simp only [T.mapA,reduceCtorEq,T.vec.injEq] at he;rename_i an z' l' n';obtain ⟨rfl,rfl,rfl,rfl⟩:=he;cases hE:E id with
 | none=>rw [hE] at ht;cases path<;>simp [ew] at ht
 | some o =>
   rw [hE] at ht;have uo:(T.vec an.g z (vs.map .p) n:T Nat)=(T.vec an z (vs.map .p) n:T An).mapA An.g:=by
    have:∀ us:List PV,T.cP An.g (us.map .p:List (T An))=(us.map .p:List (T Nat)):=fun us=>by
     induction us with
     | nil=>rfl
     | cons u r ih=>simp only [aG,T.cP,T.mapA,ih]
    simp only [T.mapA,this]
   rw [m.er id,hE,uo,Gm] at hp;cases iM:Mid.put (some o) path (T.vec an z (vs.map .p) n:T An) with
   | none=>simp [iM] at hp
   | some o' =>
     simp only [iM,ar,aa] at hp;obtain ⟨b1,o1,h1,h2,h3,h4,h5⟩:=AP ht (m.at_ id o hE);have iq:=m.nd id o hE;obtain ⟨rest,p1,_⟩:=Ej ht iM;have BW:(an.b.toList++T.b9 l').Nodup:=(aT.1 (p1.nodup_iff.1 iq)).1;have l9:(T.vec an z (vs.map .p) n:T An).blk=an.b.toList:=by simp only [T.blk,Eg,bF]
     have vB:oX w w A E nx nx id o path (.vec an z l' n) (.vec an z (vs.map .p) n) b1 o1:=by
      refine ⟨dv.le_refl _,au _,hE,ht,h1,rfl,Wr.refl _ _ _ _ _,?_,?_,?_,?_,?_⟩
      · intro r y hy _;cases r with
        | nil=>simpa [fM,c6] using hy
        | cons i r =>
          simp only [fM,c6,aN] at hy;cases hi:vs[i]? with
          | none=>simp [hi] at hy
          | some v =>
            simp only [hi,ar] at hy
            have:∀ (r:List Nat) (v:PV),fM (T.p v:T An) r=none:=by
             intro r
             induction r with
             | nil=>intro v;rfl
             | cons j r ih =>
               intro v;cases v with
               | agg l =>
                 simp only [fM,c6];cases l[j]? with
                 | none=>rfl
                 | some u=>exact ih u
               | _=>rfl
            have h0:=this r v;simp only [fM] at h0;rw [h0] at hy;cases hy
      · intro b hb;rw [l9] at hb;exact m.kp hE (h4 b (by simp [T.blk,hb]))
      · rw [l9];exact (aT.1 BW).1
      · intro b hb;rw [l9] at hb;exact .inl (by simp [T.blk,hb])
      · have hst:(T.vec an z l' n:T An).st nx:=m.uf (id:=id) (p:=path) (by rw [hE];exact ht)
        exact ⟨hst.1,MW vs⟩
     have s:=vB.ui m iM;have hA:∀ b,A b→(A b∨b∈T.b9 l'):=fun b hb=>.inl hb
     have tD:∀ b∈T.b9 l',b∈o.blk:=fun b hb=>h4 b (by simp [T.blk,hb])
     refine ⟨fun b=>A b∨b∈T.b9 l',cD E id (some o'),?_,rfl,rfl,rfl,au _,fun _ _ _=>rfl,hA,fun b _ hb=>hb.imp (fun h=>h) fun hb=>⟨id,o,hE,tD b hb⟩,fun b _ hb=>?_,(s.fr m).hE⟩
     · rw [← hp];refine m.e7 s hA (fun f=>OAt.put f ht iM h1 rfl (Wr.refl _ _ _ _ _) iq (fun y hy=>(m.kp hE hy).1) (m.at_ id o hE) ?_) ?_ ?_
       · simp only [TAt] at h2 ⊢;obtain ⟨a,cap,k1,k2,k3,k4⟩:=h2;have hlen:vs.length=l'.length:=by rw [Nf fY,T.mapAs_eq,aD]
         refine ⟨a,cap,k1,by rw [aD,hlen];exact k2,k3,?_⟩
         cases hb:an.b with
         | none =>
           simp only [hb] at k4
           have:vs=[]:=by
            rw [k4.1] at hlen;exact List.length_eq_zero_iff.1 hlen
           exact ⟨by rw [this];rfl,k4.2⟩
         | some b' =>
           simp only [hb] at k4;obtain ⟨k5,k6,k7,k8⟩:=k4;obtain ⟨cs,k9,_,k10⟩:=RT hA fY (fun x hx=>.inr hx) k8
           refine ⟨k5,by rw [aD,hlen];exact k6,fun t ht=>?_,rh.2 ⟨cs,by simpa only [ec] using k9,k10⟩⟩
           obtain ⟨v,hv,rfl⟩:=bh.1 ht;exact YQ hA fY (fun x hx=>.inr hx) k7 k8 v hv
       · intro b hb;rcases vB.owned m iM hb with k | k
         · rw [l9] at k;rintro (e | e)
           · exact (m.kp hE (h4 b (by simp [T.blk,k]))).2 e
           · exact (aT.1 BW).2.2 b k b e rfl
         · rintro (e | e)
           · exact (m.lt b k.1).2 e
           · exact k.2 (by simp [T.blk,e])
       · rintro b (e | e)
         · exact m.im b e
         · exact (m.kp hE (tD b e)).1
     · rcases vB.owned m iM hb with k | k
       · rw [l9] at k;exact ⟨id,o,hE,h4 b (by simp [T.blk,k])⟩
       · exact k.1
end
section
variable {P:Program} {o:Oper} {a:Act} {w:World} {A:Nat→Prop} {E:dW An} {nx:dv} {γ:Nat} {v:MV} {h h':cq} {s:gI} {K:jE} {d:Option Nat}
 (hs:qf P w A E nx s a) (hm:MR w A E h nx) (hγ:¬ nx γ)
include hs hm hγ
theorem D2L {c:Call} {t e:TypeId} {x y:Operand} {x' y':dQ} {t1 t2:TypeId} {pz:Bool} (ho:o.op=.call c) (pK:c.callee=.builtin .append) (oW:c.args=#[x,y]) (sC:c.argTypes=#[t,t]) (hx:fD P t1 x=some x') (hy:fD P t2 y=some y')
 (ht:P.underlying t=some (.slice e)) (rP:P.cellsOf e≠0) (wC:P.bytesOf e≠0) (hz:(vq P e).map cE=some (P.cellsOf e))
 (he:cf K γ d s h (.app pz (P.cellsOf e) (P.bytesOf e) x' y')=some (v,h')):cI P o a w A E nx γ v h':=by
 simp only [cf] at he;split at he
 · rename_i id IX len g1 h1 yf;obtain ⟨val,w',E2,h2,h3,h4,h5⟩:=D2K hm hγ ht rP wC hz (j3 hs hx) (j3 hs hy) yf o.type;have hr:(execOp a.eval o).run P w=.ok (.value val) w':=by rw [RN ho pK oW sC,h2]
   split at he
   · split at he
     · rename_i u hu;simp only [aa,ae] at he;obtain ⟨rfl,rfl⟩:=he;have hex:∃ o',E2 id=some o':=by
        simp only [mC] at hu;split at hu
        · rename_i iW;obtain ⟨an,l',nB,_⟩:=h3.vec iW;obtain ⟨o',oP,_⟩:=RW h3 nB;exact ⟨o',oP⟩
        · cases hu
       obtain ⟨o',BX⟩:=hex;obtain ⟨k1,k2⟩:=h3.wG BX;refine ⟨val,w',_,_,.inl hr,?_,k1,h4.trans k2 (nx.eP γ)⟩;simp only [bT];refine C7 h3 (fun b hb=>.inl hb) hu ?_ h5
       intro i hi o1 nw b hb;simp only [kf,aW] at hi;subst hi;rw [BX] at nw;cases nw;exact .inr hb
     · cases he
   · simp only [aa,ae] at he;obtain ⟨rfl,rfl⟩:=he;exact ⟨val,w',A,E2,.inl hr,h5,h3,h4⟩
 · cases he
theorem D0J {t e:TypeId} {n:Nat} {parts:Array (Nat×Operand)} {zc:List Value} {l:List dQ} (ho:o.op=.buildSlice t n parts) (hu:P.underlying t=some (.slice e)) (rP:P.cellsOf e≠0) (kW:n*P.cellsOf e≤16777216)
 (hz:vq P e=some zc) (y6:zc.length=P.cellsOf e) (kV:AA n parts.toList=true) (hl:xX P parts.toList (az n e) 0 (az n zc).flatten=some l)
 (he:cf K γ d s h (.bslp (P.cellsOf e) l)=some (v,h')):cI P o a w A E nx γ v h':=by
 simp only [cf] at he;split at he
 · rename_i hb;split at he
   · rename_i ts h1 hi;split at he
     · rename_i fh;split at he
       · rename_i h2 xt;split at he
         · rename_i u qA;simp only [aa,ae] at he;obtain ⟨rfl,rfl⟩:=he;have jx:cf K γ d s h (.bsl true (P.cellsOf e) l)=some (.own (d.getD 0) [] 0 ts.length γ,h2):=by
            simp only [cf,if_pos hb,if_true,hi,if_pos fh,xt]
           obtain ⟨val,w',A1,E2,hr,h5,h3,h4⟩:=YB hs hm hγ ho hu rP kW hz y6 kV hl (fun _=>rfl) jx
           have hex:∃ o',E2 (d.getD 0)=some o':=by
            simp only [mC] at qA;split at qA
            · rename_i iW;obtain ⟨an,l',nB,_⟩:=h3.vec iW;obtain ⟨o',oP,_⟩:=RW h3 nB;exact ⟨o',oP⟩
            · cases qA
           obtain ⟨o',BX⟩:=hex;obtain ⟨k1,k2⟩:=h3.wG BX;refine ⟨val,w',_,_,hr,?_,k1,h4.trans k2 (nx.eP γ)⟩;simp only [bT];refine C7 h3 (fun b hb=>.inl hb) qA ?_ h5
           intro i hi o1 nw b hb;simp only [kf,aW] at hi;subst hi;rw [BX] at nw;cases nw;exact .inr hb
         · cases he
       · cases he
     · cases he
   · cases he
 · cases he
end
end Go.Mid
