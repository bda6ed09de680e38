/- New memory: variables, literals of slices, make. -/
import Derived.Test.YtfjdpcegbfenbaaGreatDoorM2
import Derived.Laws.MakeOwn
set_option linter.unusedSimpArgs false
set_option linter.unusedVariables false
open Array renaming ext' → gI, map → qm, length_toList → dW
open Bool renaming and_eq_true → aj
open Go renaming heap_alloc_old → od, run_newObj → pj, run_underlying → aZ, growslice_fits → l8, run_firstCells_none → ju, run_firstCells_some → gO, grownCap_le_maxLen → jQ, run_storeCells_cells → iX
open Go.Builtin renaming append_ → cZ, zeroCells → aY, firstCells → hY, lenOf → gJ
open Go.Program renaming bytesOf → nK, cellsOf → jK
open Go.Result renaming andThen_ok → aV
open Go.Sem renaming run_bind → bn, run_pure → bL
open List renaming getElem?_append_right → bE, getElem?_append_left → cP, getElem?_eq_some_iff → aF, cons_append → aS, nil_append → a6, nodup_cons → bV, replicate → aq, replicate_succ → cB, mem_cons → aE, map_append → b5, map_map → cm, flatten_cons → dZ, append_nil → bD, getElem?_map → aH, size_toArray → fB, getElem?_eq_none → bI, length_append → aQ, mem_append → ay, getElem?_replicate → jV, map_replicate → jP, length_cons → ba, mem_map_of_mem → dX, length_map → aB, all_eq_true → bB, nodup_nil → gf, eq_of_mem_replicate → fc, length_replicate → gn, take_succ_cons → bS, take_zero → fj, map_take → bO, nodup_append → aT, length_take → aW, take_nil → iA, mem_of_mem_take → dh, getElem?_take_of_lt → dK, eq_nil_of_length_eq_zero → br, mem_singleton → aX, map_cons → aD, all_cons → dC, take_append_drop → bM, length → cq, drop_zero → fm, mem_map → bj
open Nat renaming succ_mul → dv, le_refl → ar, min_eq_left → cY, le_trans → du, le_mul_of_pos_right → gR, pos_of_ne_zero → ew, add_mul → gX, add_zero → dF, lt_of_lt_of_le → bp, mul_le_mul_right → iY, zero_mul → c9, zero_add → bR
open Ne renaming symm → dw
open Option renaming bind_some → ai, toList → cg, map_some → ak, getD_some → bK
open Option.some renaming injEq → aa, inj → b9
open Prod.mk renaming injEq → ae
namespace Go.Mid
open Go.RowKit
structure Grown (w w':World) (cs:Array Value):Prop where
 size:w'.heap.size=w.heap.size + 1
 old:∀ b,b < w.heap.size→w'.heap[b]?=w.heap[b]?
 new:∃ ty,w'.heap[w.heap.size]?=some (.cells cs ty (0,0))
 rest:w'.os=w.os∧w'.tape=w.tape∧w'.output=w.output
theorem Grown.alloc (w:World) (cs:Array Value) (ty:TypeId):Grown w (w.alloc (.cells cs ty)) cs :=
 ⟨World.size_alloc _ _,fun b hb=>od w _ b hb,⟨ty,heap_alloc_new w _⟩,⟨rfl,rfl,rfl⟩⟩
theorem Grown.drew (w:World) (cs:Array Value) (ty:TypeId):Grown w (w.drew.alloc (.cells cs ty)) cs :=
 ⟨World.size_alloc _ _,fun b hb=>od w.drew _ b hb,⟨ty,heap_alloc_new w.drew _⟩,⟨rfl,rfl,rfl⟩⟩
theorem Grown.blk {w w':World} {cs:Array Value} (g:Grown w w' cs):lT w' w.heap.size cs.size:=by
 obtain ⟨ty,h⟩:=g.new; exact ⟨cs,ty,h,rfl⟩
theorem Grown.row {w w':World} {cs:Array Value} (g:Grown w w' cs) {p c q:List Value} (h:cs.toList=p++c++q):Row w' w.heap.size p.length c:=by
 obtain ⟨ty,hn⟩:=g.new;intro j v hj;have hc:cs=(p++c++q).toArray:=by rw [← h]
 simp only [World.cell?,hn,hc,Option.isSome_none,Bool.false_eq_true,if_false,List.getElem?_toArray];rw [List.append_assoc,bE (by omega),cP (by have:=(aF.1 hj).1; omega)]
 rw [← hj]; congr 1; omega
theorem Grown.Im {w w':World} {cs:Array Value} (g:Grown w w' cs):Row w' w.heap.size 0 cs.toList:=g.row (p:=[]) (q:=[]) (by simp)
section
variable {w w':World} {A:Nat→Prop} {E E1:dL An} {nx:di} {γ:Nat} {h h1:cj}
theorem MR.fresh (m:MR w A E1 h1 nx) (hγ:¬ nx γ) {cs:Array Value} (g:Grown w w' cs) {o':Obj An} (d:Nat) (hg:∀ np y,fg (some o') np=some y→y.1.g=γ)
 (hb:∀ b ∈ o'.blk,b=w.heap.size∨(b < w.heap.size∧¬ A b∧¬ jq E1 b)) (gV:o'.blk.Nodup) (hst:o'.st (nx.add γ)):nH w w' A E1 nx (nx.add γ) d o' where
 hn:=nx.eH γ
 sz:=by rw [g.size]; omega
 ch:=fun b hb _=>g.old b hb
 ns:=fun np y hy eF=>by rw [hg np y hy] at eF; exact (hγ eF).elim
 lt:=fun b hbm=>by
  rw [g.size];rcases hb b hbm with rfl | h
  · exact ⟨by omega,fun hA=>absurd (m.im _ hA) (by omega)⟩
  · exact ⟨by omega,h.2.1⟩
 nd:=gV
 dj:=fun b hbm j o _ ho lV=>by
  rcases hb b hbm with rfl | h
  · have:=(m.j3 ho lV).1; omega
  · exact h.2.2 ⟨j,o,ho,lV⟩
 st:=hst
theorem gE.fresh (m:MR w A E h nx) (hγ:¬ nx γ) {cs:Array Value} (g:Grown w w' cs) {o':Obj An} {d:Nat} (hg:∀ np y,fg (some o') np=some y→y.1.g=γ)
 (hb:∀ b ∈ o'.blk,b=w.heap.size∨jq E b) (dJ:∀ b,jq E1 b→jq E b) (vm:js E E1):gE w A E nx w' A (cz E1 d (some o')):=by
 refine gE.of (E1:=E1) ⟨g.rest.1,g.rest.2.1,g.rest.2.2⟩ (by rw [g.size]; omega) (fun b hb _=>g.old b hb) ?_ (vm.D2 nx) ?_
 · intro b eF ho;rcases Aw ho with h1 | ⟨i,oi,hi,rV,Ay⟩
   · rcases hb b h1 with rfl | h2
     · omega
     · exact h2
   · exact dJ b ⟨i,oi,rV,Ay⟩
 · intro i np an z bW eF;by_cases e:i=d
   · subst e; rw [nG] at bW
     have:=hg np _ bW
     simp only at this; rw [this] at eF; exact (hγ eF).elim
   · rwa [nO E1 _ e] at bW
theorem C4v {α:Type} {a:α} {t:T α} {np:Option (List Nat)} {y:α×Option Nat} (h:fg (some (.cell a t)) np=some y):y=(a,none)∨∃ q,fH t q=some y:=by
 cases np with
 | none=>simp only [fg,aa] at h; exact .inl h.symm
 | some q=>rw [sO] at h; exact .inr ⟨q,h⟩
theorem WY {α:Type} {a:α} {z:Nat} {l:List (T α)} {np:Option (List Nat)} {y:α×Option Nat} (h:fg (some (.vec a z l)) np=some y):y=(a,some z)∨∃ (i:Nat) (t:T α) (q:List Nat),l[i]?=some t∧fH t q=some y:=by
 cases np with
 | none=>simp [fg] at h
 | some q =>
   rw [sO] at h;cases q with
   | nil=>exact .inl (by simp only [Obj.pF,fH,cU,aa] at h; exact h.symm)
   | cons i r =>
     simp only [Obj.pF,Bq] at h;cases hl:l[i]? with
     | none=>simp [hl] at h
     | some t=>simp only [hl,ai] at h; exact .inr ⟨i,t,r,hl,h⟩
theorem C9H (m:MR w A E h nx) (hγ:¬ nx γ) {cs:List Value} {t:T Nat} {tA:T An} (k:o4 w A E nx γ cs t h1 E1 tA) (g:Grown w w' cs.toArray) (d:Nat) :
 ∃ E2,MR w' A E2 (cz h1 d (some (.cell γ t))) (nx.add γ)∧gE w A E nx w' A E2∧bQ w' A E2 (nx.add γ) (.ptr d none [] γ 0) (.pointer (some ⟨w.heap.size,0,none⟩)):=by
 have pG:∀ np y,fg (some (.cell ⟨γ,some w.heap.size,0⟩ tA)) np=some y→y.1.g=γ:=by
  intro np y hy;rcases C4v hy with rfl | ⟨q,hq⟩
  · rfl
  · exact k.new q y hq
 have iM:∀ b ∈ (Obj.cell ⟨γ,some w.heap.size,0⟩ tA).blk,b=w.heap.size∨b ∈ tA.blk:=by
  intro b hb; simpa [Obj.blk] using hb
 have eF:∀ b ∈ tA.blk,b < w.heap.size∧¬ A b:=fun b hb=>m.lt b (k.own b hb).1
 have s:=k.mr.fresh hγ g (o':=.cell ⟨γ,some w.heap.size,0⟩ tA) d pG (fun b hb=>(iM b hb).imp id fun hb=>⟨(eF b hb).1,(eF b hb).2,(k.own b hb).2⟩) (by
  simp only [Obj.blk,cg,aS,a6];exact bV.2 ⟨fun hb=>by have:=(eF _ hb).1; omega,k.nd⟩) ⟨nx.iG γ,k.st⟩
 have f:=s.fr k.mr;have htc:=k.tc.frame f (fun x hx=>g.old x (eF x hx).1)
 have hrow:=g.Im;simp only at hrow;refine ⟨cz E1 d (some (.cell ⟨γ,some w.heap.size,0⟩ tA)),?_,gE.fresh m hγ g pG (fun b hb=>(iM b hb).imp id fun hb=>(k.own b hb).1) k.sub k.ns,?_⟩
 · have:=k.mr.set s (by
    simp only [OAt];refine ⟨w.heap.size,rfl,?_,htc.at_ hrow⟩
    have:=g.blk
    have e:cs.toArray.size=tA.cs:=k.tc.len
    rwa [e] at this)
   simpa only [Obj.mapA,k.er] using this
 · simp only [bQ];refine ⟨nx.iG γ,_,rfl,fun an z hn _=>?_⟩
   rw [nG] at hn;simp only [fg,aa,ae] at hn;exact ⟨w.heap.size,by rw [← hn.1],rfl⟩
theorem Qf (m:MR w A E h nx) (hγ:¬ nx γ) {cs cells:List Value} {ts:List (T Nat)} {lA:List (T An)} {z cap:Nat} (k:lW w A E nx γ cs ts h1 E1 lA) (g:Grown w w' cells.toArray) (d:Nat) {q:List Value} (hc:cells=cs++q)
 (hz:∀ t ∈ lA,t.cs=z) (nX:cells.length=cap * z) (hle:lA.length ≤ cap) (D6:cap ≤ 9223372036854775807) :
 ∃ E2,MR w' A E2 (cz h1 d (some (.vec γ z ts))) (nx.add γ)∧gE w A E nx w' A E2∧bQ w' A E2 (nx.add γ) (.own d [] 0 lA.length γ) (.slice (some ⟨w.heap.size,0,none⟩) lA.length cap):=by
 have pG:∀ np y,fg (some (.vec ⟨γ,some w.heap.size,cap⟩ z lA)) np=some y→y.1.g=γ:=by
  intro np y hy;rcases WY hy with rfl | ⟨i,t,q,hl,hq⟩
  · rfl
  · exact k.new i t hl q y hq
 have iM:∀ b ∈ (Obj.vec ⟨γ,some w.heap.size,cap⟩ z lA).blk,b=w.heap.size∨b ∈ T.b6 lA:=by
  intro b hb; simpa [Obj.blk] using hb
 have eF:∀ b ∈ T.b6 lA,b < w.heap.size∧¬ A b:=fun b hb=>m.lt b (k.own b hb).1
 have s:=k.mr.fresh hγ g (o':=.vec ⟨γ,some w.heap.size,cap⟩ z lA) d pG (fun b hb=>(iM b hb).imp id fun hb=>⟨(eF b hb).1,(eF b hb).2,(k.own b hb).2⟩) (by
  simp only [Obj.blk,cg,aS,a6];exact bV.2 ⟨fun hb=>by have:=(eF _ hb).1; omega,k.nd⟩) ⟨nx.iG γ,k.st⟩
 have f:=s.fr k.mr;have htc:=k.tc.frame f (fun x hx=>g.old x (eF x hx).1)
 have hrow:=g.row (p:=[]) (c:=cs) (q:=q) (by simp [hc])
 refine ⟨cz E1 d (some (.vec ⟨γ,some w.heap.size,cap⟩ z lA)),?_,gE.fresh m hγ g pG (fun b hb=>(iM b hb).imp id fun hb=>(k.own b hb).1) k.sub k.ns,?_⟩
 · have:=k.mr.set s (by
    simp only [OAt,VB];refine ⟨?_,hle,hz,htc.at_ hrow⟩
    have:=g.blk
    have e:cells.toArray.size=cap * z:=nX
    rwa [e] at this)
   simpa only [Obj.mapA,T.mapAs_eq,k.er] using this
 · simp only [bQ];refine ⟨nx.iG γ,_,_,rfl,hle,fun an z' hn _=>?_⟩
   rw [nG] at hn;simp only [fg,aa,ae] at hn;obtain ⟨rfl,rfl⟩:=hn;exact ⟨⟨rfl,D6⟩,.inr (by simp)⟩
end
end Go.Mid
namespace Go.Mid
open Go.RowKit
section
variable {w w':World} {A:Nat→Prop} {E:dL An} {nx:di} {γ:Nat} {h:cj}
theorem MR.Al {A':Nat→Prop} (m:MR w A E h nx) (hA:∀ b,A b→A' b) (h1:∀ b,A' b→b < w.heap.size∧¬ jq E b):MR w A' E h nx where
 er:=m.er
 at_:=fun i o ho=>OAt.frame ⟨hA,fun _ _=>rfl,oO.refl _ _,di.le_refl _⟩ (fun _ _=>rfl) (m.at_ i o ho)
 lt:=fun b hb=>⟨(m.lt b hb).1,fun h=>(h1 b h).2 hb⟩
 nd:=m.nd
 dj:=m.dj
 im:=fun b hb=>(h1 b hb).1
 st:=m.st
theorem MR.grow (m:MR w A E h nx) {cs:Array Value} (g:Grown w w' cs) {A':Nat→Prop} (Mj:∀ b,A' b↔A b∨b=w.heap.size):MR w' A' E h (nx.add γ)∧gE w A E nx w' A' E:=by
 have f:Fr w w' A A' E E nx (nx.add γ):=⟨fun b hb=>(Mj b).2 (.inl hb),fun b hb=>g.old b (m.im b hb),oO.refl _ _,nx.eH γ⟩
 refine ⟨⟨m.er,fun i o ho=>OAt.frame f (fun x hx=>g.old x (m.j3 ho hx).1) (m.at_ i o ho),fun b hb=>?_,m.nd,m.dj,fun b hb=>?_,fun i o ho=>Obj.j8 (nx.eH γ) (m.st i o ho)⟩,?_⟩
 · have:=m.lt b hb
   refine ⟨by rw [g.size]; omega,fun h=>?_⟩
   rcases (Mj b).1 h with h | h
   · exact this.2 h
   · omega
 · rw [g.size];rcases (Mj b).1 hb with h | h
   · have:=m.im b h; omega
   · omega
 · refine ⟨g.rest.1,g.rest.2.1,g.rest.2.2,by rw [g.size]; omega,fun b hb _=>g.old b hb,f.hA,fun b hb h=>?_,fun _ _ h=>h,oO.refl _ _⟩
   rcases (Mj b).1 h with h | h
   · exact .inl h
   · omega
theorem D1E {l:List PV} {cs:List Value} {z:Nat} (hz:∀ v ∈ l,v.cs=z) (h:cK w A l cs) {b o:Nat} (hr:Row w b o cs):fE w A l b o z:=by
 induction l generalizing cs o with
 | nil=>simp only [fE]
 | cons x r ih =>
   simp only [cK] at h;obtain ⟨c,d,rfl,h1,h2⟩:=h;have hr:=Row.append.1 hr;have hx:=hz x (by simp)
   have hlen:=h1.len;simp only [fE];refine ⟨⟨c,h1,by rw [hlen,hx],hr.1⟩,?_⟩
   refine ih (fun v hv=>hz v (by simp [hv])) h2 ?_
   rw [← hx,← hlen]; exact hr.2
theorem Qg:∀ {n z:Nat} {l:List MV},okB (aq n z) l=true→l.length=n∧∀ v ∈ l,v.cs=z∧rQ v=true
 | 0,z,[],_=>⟨rfl,by simp⟩
 | 0,z,x::r,h=>by simp [okB] at h
 | n + 1,z,[],h=>by simp [cB,okB] at h
 | n + 1,z,x::r,h=>by
   rw [cB] at h;obtain ⟨h1,h2,h3⟩:=WS h;obtain ⟨h4,h5⟩:=Qg h3;exact ⟨by simp [h4],fun v hv=>by
    rcases aE.1 hv with rfl | hv
    · exact ⟨h1,h2⟩
    · exact h5 v hv⟩
theorem Qh {zc:List Value} {z:Nat} (hz:zc.length=z):∀ n,((List.range (n * z)).map fun i=>zc.toArray[i % zc.toArray.size]!)=(aq n zc).flatten
 | 0=>by simp
 | n + 1=>by
   rw [dv,List.range_add,b5,Qh hz n,List.replicate_succ',List.flatten_append];congr 1;simp only [cm,dZ,List.flatten_nil,bD];apply List.ext_getElem?;intro i;by_cases hi:i < z
   · have h2:(n * z + i) % z=i:=by rw [Nat.add_comm,Nat.add_mul_mod_self_right,Nat.mod_eq_of_lt hi]
     have h3:zc[i]?=some zc[i]:=by simp
     rw [h3];simp only [aH,List.getElem?_range hi,ak,Function.comp,fB,hz,h2];simp [List.getElem!_toArray,List.getElem!_eq_getElem?_getD,h3]
   · rw [bI (by simp; omega),bI (by omega)]
theorem Qi {zc:List Value} {z:Nat} (hz:zc.length=z) (n:Nat):madeCells zc.toArray (n * z)=(aq n zc).flatten.toArray:=by
 apply gI;rw [madeCells];simp only [Array.toList_map,Array.toList_range,Qh hz n]
theorem Qj {zc:List Value} (n:Nat):(aq n zc).flatten.length=n * zc.length:=by
 induction n with
 | zero=>simp
 | succ n ih=>rw [cB,dZ,aQ,ih,dv]; omega
structure yP (w:World) (A:Nat→Prop) (E:dL An) (nx:di) (γ:Nat) (cs:List Value) (t:T Nat) (tA:T An):Prop where
 er:tA.mapA An.g=t
 tc:TC w A E nx tA cs
 blk:tA.blk=[]
 st:tA.st (nx.add γ)
 new:∀ q y,fH tA q=some y→y.1.g=γ
 one:∀ c ∈ cs,c.oneCell'=true
theorem Mk {α:Type}:∀ (q:List Nat) (v:PV),fH (.p v:T α) q=none
 | [],v=>rfl
 | i::r,v=>by
   cases v <;> try rfl
   rename_i l;simp only [fH,cU];cases hl:l[i]? with
   | none=>rfl
   | some x=>simp only; have:=Mk (α:=α) r x; simpa only [fH] using this
mutual
theorem Qk:∀ {v:MV} {cs r:List Value} {t:T Nat},so v cs=some r→zT γ v=some t→∃ c tA,cs=c++r∧yP w A E nx γ c t tA
 | .p v,cs,r,t,h,k=>by
   simp only [zT,aa] at k; subst k;simp only [so] at h;obtain ⟨c,h1,h2⟩:=Mh (w:=w) (A:=A) h;exact ⟨c,.p v,h1,rfl,by simp only [TC]; exact h2,rfl,trivial,(fun q y hy=>by rw [Mk] at hy; cases hy),h2.ka⟩
 | .nil z,cs,r,t,h,k=>by
   simp only [zT,aa] at k; subst k;simp only [so] at h;split at h
   · rename_i a r';cases h;refine ⟨[.slice a 0 0],.vec ⟨γ,none,0⟩ z [] 0,rfl,rfl,?_,rfl,⟨nx.iG γ,trivial⟩,?_,by intro c hc; simp at hc; subst hc; rfl⟩
     · simp only [TC,VB];exact ⟨a,0,rfl,ar _,⟨rfl,rfl⟩,trivial,trivial⟩
     · intro q y hy;cases q with
       | nil=>simp [fH,cU] at hy; rw [← hy]
       | cons i r=>simp [fH,cU] at hy
   · cases h
 | .agg l,cs,r,t,h,k=>by
   simp only [zT] at k;split at k
   · rename_i ts rF;cases k;simp only [so] at h;obtain ⟨c,lA,h1,h2,h3,h4,h5,h6,h7⟩:=WZ h rF;refine ⟨c,jY lA,h1,by rw [L5,h2],WE.2 h3,by rw [L6,h4],PY h5,?_,h7⟩
     intro q y hy;cases q with
     | nil=>rw [P1] at hy; cases hy
     | cons i r =>
       rw [PZ] at hy;cases hl:lA[i]? with
       | none=>simp [hl] at hy
       | some t=>simp only [hl,ai] at hy; exact h6 t (List.mem_of_getElem? hl) r y hy
   · cases k
 | .own ..,cs,r,t,h,k=>by simp [zT] at k
 | .ptr ..,cs,r,t,h,k=>by simp [zT] at k
 | .fy ..,cs,r,t,h,k=>by simp [zT] at k
 | .fn ..,cs,r,t,h,k=>by simp [zT] at k
 | .eJ _,cs,r,t,h,k=>by simp [zT] at k
 | .dead _,cs,r,t,h,k=>by simp [zT] at k
theorem WZ:∀ {l:List MV} {cs r:List Value} {ts:List (T Nat)},CA l cs=some r→zT.Cv γ l=some ts→∃ c lA,cs=c++r∧lA.map (T.mapA An.g)=ts∧j4 w A E nx lA c∧T.b6 lA=[]∧T.j7 (nx.add γ) lA∧(∀ t ∈ lA,∀ q y,fH t q=some y→y.1.g=γ)∧∀ c' ∈ c,c'.oneCell'=true
 | [],cs,r,ts,h,k=>by
   simp only [zT.Cv,aa] at k; subst k;simp only [CA,aa] at h; subst h;exact ⟨[],[],rfl,rfl,by simp only [j4],rfl,trivial,by simp,by simp⟩
 | x::q,cs,r,ts,h,k=>by
   simp only [zT.Cv] at k;split at k
   · rename_i t Qa ht rF;cases k;simp only [CA] at h;split at h
     · rename_i d hd;obtain ⟨c,tA,rfl,z⟩:=Qk hd ht;obtain ⟨c',lA,rfl,h2,h3,h4,h5,h6,h7⟩:=WZ h rF;refine ⟨c++c',tA::lA,by simp,by simp [z.er,h2],by simp only [j4]; exact ⟨c,c',rfl,z.tc,h3⟩,by simp [T.b6,z.blk,h4],⟨z.st,h5⟩,?_,fun x hx=>(ay.1 hx).elim (z.one x) (h7 x)⟩
       intro t ht;rcases aE.1 ht with rfl | ht
       · exact z.new
       · exact h6 t ht
     · cases h
   · cases k
end
theorem Io {P:Program} {t:TypeId} {v:MV} (h:Bh P t=some v):∃ zc,vd P t=some zc∧so v zc=some []:=by
 unfold Bh at h;split at h
 · rename_i v' zc hv rW;split at h
   · rename_i hc;cases h;exact ⟨zc,rW,hc⟩
   · cases h
 · cases h
end
theorem C7X {P:Program} {t:TypeId} {v:PV} (h:LI P t=some v):∃ zc,vd P t=some zc∧∀ (w:World) (A:Nat→Prop),dR w A v zc:=by
 unfold LI at h;split at h
 · rename_i v' hz;cases h;obtain ⟨zc,rW,xO⟩:=Io hz;refine ⟨zc,rW,fun w A=>?_⟩
   simp only [so] at xO;obtain ⟨c,h1,h2⟩:=Mh (w:=w) (A:=A) xO;rw [bD] at h1;rw [h1]; exact h2
 · rename_i z hz;cases h;obtain ⟨zc,rW,xO⟩:=Io hz;refine ⟨zc,rW,fun w A=>?_⟩
   simp only [so] at xO;split at xO
   · rename_i q r;simp only [aa] at xO;subst xO;simp only [dR];exact ⟨_,0,rfl,ar _,.inl trivial⟩
   · cases xO
 · cases h
section
variable {P:Program} {o:Oper} {a:Act} {w:World} {A:Nat→Prop} {E:dL An} {nx:di} {γ:Nat} {v:MV} {h h':cj} {s:gD} {K:jl} {d:Option Nat}
 (hs:pZ P w A E nx s a) (hm:MR w A E h nx) (hγ:¬ nx γ)
theorem cC.of {val:Value} {w':World} {E':dL An} (hr:(execOp a.eval o).run P w=.ok (.value val) w') (hm:MR w' A E' h' (nx.add γ)) (hg:gE w A E nx w' A E') (hv:bQ w' A E' (nx.add γ) v val):cC P o a w A E nx γ v h' :=
 ⟨val,w',A,E',.inl hr,hv,hm,hg⟩
include hm hγ
theorem W0 {x:MV} {val:Value} {cs:List Value} (hc:val.cells.toList=cs) (hv:bQ w A E nx x val) {ty:TypeId} (hr:(execOp a.eval o).run P w=.ok (.value (.pointer (some ⟨w.heap.size,0,none⟩))) (w.alloc (.cells cs.toArray ty)))
 (he:(match oW γ h x with
   | some (t,h1)=>match mS d h1 (.cell γ t) with | some h'=>some (MV.ptr (d.getD 0) none [] γ 0,h') | none=>none
   | none=>none)=some (v,h')):cC P o a w A E nx γ v h':=by
 split at he
 · rename_i t h1 hi;cases d with
   | none=>simp [mS] at he
   | some d =>
     simp only [mS,bK,aa,ae] at he;obtain ⟨rfl,rfl⟩:=he;obtain ⟨E1,tA,k⟩:=P8 x hi hm hv;rw [hc] at k;obtain ⟨E2,k1,k2,k3⟩:=C9H hm hγ k (Grown.alloc w cs.toArray ty) d;exact cC.of hr k1 k2 k3
 · cases he
theorem C7Y {t:TypeId} {z:MV} (ho:o.op=.alloc t) (hz:Bh P t=some z) (he:b7 K γ d s h (.box (.c z))=some (v,h')):cC P o a w A E nx γ v h':=by
 obtain ⟨zc,h1,h2⟩:=Io hz;obtain ⟨zv,h3,h4,_⟩:=CP h1 w;obtain ⟨c,h5,val,h6,_,_,h7⟩:=Qb (w:=w) (A:=A) (E:=E) (nx:=nx) h2;rw [bD] at h5;subst h5;simp only [b7,cJ] at he;refine W0 (ty:=t) hm hγ h6 h7 ?_ he;simp only [execOp,ho,Instr.alloc,bn,h3,aV,newVar,newRow,h4,pj,bL];rfl
include hs
theorem D1F {t t0:TypeId} {x:Operand} {x':dI} (ho:o.op=.box t x) (hx:fx P t0 x=some x') (he:b7 K γ d s h (.box x')=some (v,h')):cC P o a w A E nx γ v h':=by
 have hv:=jM hs hx;simp only [b7] at he;refine W0 (ty:=t) hm hγ rfl hv ?_ he;simp only [execOp,ho,Instr.box,bn,aV,newVar,newRow,pj,bL];rw [Array.toArray_toList];rfl
end
end Go.Mid
namespace Go.Mid
open Go.RowKit
section
variable {P:Program} {o:Oper} {a:Act} {w:World} {A:Nat→Prop} {E:dL An} {nx:di} {γ:Nat} {v:MV} {h h':cj} {s:gD} {K:jl} {d:Option Nat}
 (hs:pZ P w A E nx s a) (hm:MR w A E h nx) (hγ:¬ nx γ)
include hs hm hγ
omit hs in
theorem C9I {z:Nat} {e:TypeId} (ho:o.op=.assign (.const (.slice none 0 0))) (he:b7 K γ d s h (.nilv z)=some (v,h')):cC P o a w A E nx γ v h':=by
 simp only [b7] at he;cases d with
 | none=>simp [mS] at he
 | some d =>
   simp only [mS,bK,aa,ae] at he;obtain ⟨rfl,rfl⟩:=he;have pG:∀ np y,fg (some (Obj.vec (⟨γ,none,0⟩:An) z [])) np=some y→y.1.g=γ:=by
    intro np y hy;rcases WY hy with rfl | ⟨i,t,q,hl,_⟩
    · rfl
    · simp at hl
   have iM:(Obj.vec (⟨γ,none,0⟩:An) z []).blk=[]:=rfl;have s:nH w w A E nx (nx.add γ) d (.vec ⟨γ,none,0⟩ z []) :=
    ⟨nx.eH γ,ar _,fun _ _ _=>rfl,fun np y hy eF=>by rw [pG np y hy] at eF; exact (hγ eF).elim,by simp [iM],by simp [iM],by simp [iM],⟨nx.iG γ,trivial⟩⟩
   have xN:=hm.set s (by simp only [OAt,VB]; exact ⟨trivial,trivial⟩)
   refine ⟨.slice none 0 0,w,A,_,.inl ?_,?_,xN,?_⟩
   · simp [execOp,ho,DU]
   · simp only [bQ];refine ⟨nx.iG γ,none,0,rfl,ar _,fun an z' hn _=>?_⟩
     rw [nG] at hn;simp only [fg,aa,ae] at hn;obtain ⟨rfl,rfl⟩:=hn;exact ⟨rfl,rfl⟩
   · refine gE.of (E1:=E) ⟨rfl,rfl,rfl⟩ (ar _) (fun _ _ _=>rfl) ?_ (oO.refl _ _) (s.fr hm).hE
     intro b _ hb;rcases Aw hb with hb | ⟨i,oi,_,rV,Ay⟩
     · simp [iM] at hb
     · exact ⟨i,oi,rV,Ay⟩
theorem W2 {t e:TypeId} {n:Nat} {mt:Bool} {parts:Array (Nat×Operand)} {zc:List Value} {l:List dI} (ho:o.op=.buildSlice t n parts) (hu:P.underlying t=some (.slice e)) (rG:P.cellsOf e ≠ 0) (kM:n * P.cellsOf e ≤ 16777216)
 (hz:vd P e=some zc) (yQ:zc.length=P.cellsOf e) (kL:Ak n parts.toList=true) (hl:xK P parts.toList (aq n e) 0 (aq n zc).flatten=some l) (Ql:n=0→mt=true)
 (he:b7 K γ d s h (.bsl mt (P.cellsOf e) l)=some (v,h')):cC P o a w A E nx γ v h':=by
 simp only [b7] at he;split at he
 · rename_i hb;have Bz:l.length=n:=by
    obtain ⟨qd,_,_,h3,_⟩:=Qc hs hl;simpa using h3
   rw [Bz] at hb;obtain ⟨zv,D5,rW,_⟩:=CP hz w;obtain ⟨cs,h1,h2⟩:=Qd hs hl (by simpa using kL) (by simpa using hb) (fun i=>some (i * P.cellsOf e,P.cellsOf e)) (by
    intro i t ht;rw [jV] at ht;split at ht
    · rename_i hi;cases ht;rw [List.take_replicate,jP,WX,cY (by omega)]
    · cases ht)
   have nI:cs.length=n * P.cellsOf e:=by
    rw [Mi h1];obtain ⟨h3,h4⟩:=Qg hb
    have:∀ {l:List MV} {z:Nat},(∀ v ∈ l,v.cs=z)→MV.da l=l.length * z:=by
     intro l z
     induction l with
     | nil=>intro _; simp [MV.da]
     | cons x r ih=>intro hx; rw [MV.da,hx x (by simp),ih (fun v hv=>hx v (by simp [hv])),ba,dv]; omega
    rw [this (fun v hv=>(h4 v hv).1),h3]
   have gr:(execOp a.eval o).run P w=.ok (.value (.slice (some ⟨w.heap.size,0,none⟩) n n)) (w.alloc (.cells cs.toArray e)):=by
    have D7:n * P.cellsOf e=0→(Array.range (n * P.cellsOf e)).map (fun i=>(#[]:Array Value)[i % (#[]:Array Value).size]!)=(aq n zc).flatten.toArray:=by
     intro h0
     have:n=0:=by
      rcases Nat.mul_eq_zero.1 h0 with h | h
      · exact h
      · exact absurd h rG
     subst this;simp
    have D8:(Array.range (n * P.cellsOf e)).map (fun i=>zc.toArray[i % zc.toArray.size]!)=(aq n zc).flatten.toArray:=by
     have:=Qi yQ n
     rw [← this]; rfl
    simp only [execOp,ho,Instr.buildSlice,bn,aZ hu,aV,Bk w rG];rw [if_neg (by omega)]
    by_cases h0:n * P.cellsOf e=0
    · rw [if_pos h0];simp only [bn,bL,aV,D7 h0];rw [h2];simp only [bn,newRow,pj,aV,bL];rfl
    · rw [if_neg h0];simp only [bn,bL,D5,aV,rW,D8];rw [h2];simp only [bn,newRow,pj,aV,bL];rfl
   have hg:=Grown.alloc w cs.toArray e;split at he
   · rename_i vs fR;simp only [aa,ae] at he;obtain ⟨rfl,rfl⟩:=he;have kD:pq (l.map (cJ s))=some vs∧mt=false:=by
      cases mt
      · exact ⟨by simpa using fR,rfl⟩
      · simp at fR
     have hp:=CH kD.1;rw [hp] at h1 hb;obtain ⟨h3,h4⟩:=Qg hb;obtain ⟨k1,k2⟩:=hm.grow (γ:=γ) hg (A':=fun b=>A b∨b=w.heap.size) (fun _=>Iff.rfl)
     refine ⟨_,_,_,E,.inl gr,?_,k1,k2⟩;have BA:vs.length=n:=by simpa using h3
     refine vg.2 ⟨_,n,by rw [BA],by omega,?_⟩
     right;refine ⟨_,0,P.cellsOf e,rfl,.inr rfl,?_⟩;refine D1E (cs:=cs) ?_ ?_ hg.Im
     · intro v hv
       have:=(h4 (.p v) (dX hv)).1
       simpa [MV.cs] using this
     · exact (PO h1).frame k2.sub (fun b hb=>hg.old b (hm.im b hb))
   · split at he
     · rename_i ts tV rF;split at he
       · rename_i eY;cases d with
         | none=>simp [mS] at he
         | some d =>
           simp only [mS,bK,aa,ae] at he;obtain ⟨rfl,rfl⟩:=he;obtain ⟨vs,fR,rfl⟩:=h1.vs;obtain ⟨E1,lA,k⟩:=P9 _ rF hm fR;have nW:lA.length=ts.length:=by rw [← k.er]; simp
           have Ml:ts.length=n:=by
            have:∀ (l:List MV) (h:cj) (ts:List (T Nat)) (h1:cj),tC γ h l=some (ts,h1)→ts.length=l.length:=by
             intro l
             induction l with
             | nil=>intro h ts h1 hi; simp only [tC,aa,ae] at hi; rw [← hi.1]; rfl
             | cons x r ih =>
               intro h ts h1 hi;simp only [tC] at hi;split at hi
               · split at hi
                 · rename_i h3;simp only [aa,ae] at hi;rw [← hi.1,ba,ih _ _ _ h3,ba]
                 · cases hi
               · cases hi
            rw [this _ _ _ _ rF,aB,Bz]
           have CD:∀ t ∈ lA,t.cs=P.cellsOf e:=by
            intro t ht;have h3:T.mapA An.g t ∈ ts:=by rw [← k.er]; exact dX ht
            simp only [pw,bB,beq_iff_eq] at eY
            have:=eY _ h3
            rwa [T.j9] at this
           obtain ⟨E2,k1,k2,k3⟩:=Qf hm hγ k hg d (q:=[]) (by simp) CD (cap:=n) nI (by omega) (by simp only [Ak,aj,decide_eq_true_eq] at kL; exact kL.2.2)
           rw [nW,Ml] at k3;rw [Ml];exact cC.of gr k1 k2 k3
       · cases he
     · cases he
 · cases he
end
end Go.Mid
namespace Go.Mid
open Go.RowKit
section
variable {w w':World} {A:Nat→Prop} {E:dL An} {nx:di} {γ:Nat} {h:cj}
theorem yP.replicate {cs:List Value} {t:T Nat} {tA:T An} (z:yP w A E nx γ cs t tA) (m:MR w A E h nx) (n:Nat):lW w A E nx γ (aq n cs).flatten (aq n t) h E (aq n tA) where
 er:=by rw [jP,z.er]
 mr:=m
 tc:=by
  induction n with
  | zero=>simp [j4]
  | succ n ih=>rw [cB,cB,dZ]; simp only [j4]; exact ⟨_,_,rfl,z.tc,ih⟩
 nd:=by
  have:T.b6 (aq n tA)=[]:=by
   induction n with
   | zero=>rfl
   | succ n ih=>rw [cB,T.b6,z.blk,ih]; rfl
  rw [this]; exact gf
 own:=by
  have:T.b6 (aq n tA)=[]:=by
   induction n with
   | zero=>rfl
   | succ n ih=>rw [cB,T.b6,z.blk,ih]; rfl
  rw [this]; intro b hb; simp at hb
 sub:=fun _ h=>h
 st:=by
  induction n with
  | zero=>trivial
  | succ n ih=>rw [cB]; exact ⟨z.st,ih⟩
 ns:=js.refl E
 new:=by
  intro i t ht;rw [jV] at ht;split at ht
  · cases ht; exact z.new
  · cases ht
 one:=by
  intro c hc;obtain ⟨l,hl,nI⟩:=List.mem_flatten.1 hc;rw [fc hl] at nI;exact z.one c nI
 ls:=mL.refl E
end
theorem C2u {P:Program} {w:World} {t ti ty e:TypeId} {i:TypeInfo} {z:Value} {k:IntKind} {kd:IntKind} (ht:P.underlying t=some (.slice e)) (D9:P.underlying ti=some (.int k)) (hi:P.info? e=some i) (hz:i.zero=some z) (hsz:0 < i.size) {a:Option Addr} {n:Nat} (hn:0 < n)
 (qV:n * i.bytes ≤ 140737488355328) (af4:n ≤ 140737488355328) :
 (cZ #[t,ti] ty #[.slice a 0 0,.int kd n]).run P w=.ok (.slice (some ⟨w.heap.size,0,none⟩) n (grownCap w n 0 e))
   (w.drew.alloc (.cells ((aY z.cells n).toList++(aY z.cells (grownCap w n 0 e - n)).toList).toArray e)):=by
 have hw:IntKind.i64.wrap (n:Int)=(n:Int):=by
  simp only [IntKind.wrap,IntKind.bits,IntKind.signed]; simp; omega
 have h0:¬ ((n:Int) < 0):=by omega
 have h1:¬ (281474976710656 < (n:Int) * (i.bytes:Int)):=by
  have:((n * i.bytes:Nat):Int) ≤ 140737488355328:=by omega
  rw [Int.natCast_mul] at this; omega
 have h2:¬ (n ≤ 0):=by omega
 have h3:¬ (9223372036854775807 < (n:Int)):=by omega
 have hc:=l8 (need:=n) (old:=0) (bytes:=i.bytes) hn qV;have h4:¬ (281474976710656 < Builtin.nextslicecap n 0 * i.bytes):=by omega
 have h5:¬ (n * i.size=0):=by
  have:=Nat.mul_pos hn hsz; omega
 have h6:¬ (n=0):=by omega
 have h7:¬ (i.size=0):=by omega
 have hf:∀ w':World,(hY i.size 0 (.slice a 0 0)).run P w'=.ok #[] w':=by
  intro w';cases a with
  | none=>exact ju w' _ _ _ _
  | some a=>exact gO w' i.size 0 a 0 0 [] (by simp) (fun j v h=>by simp at h)
 simp [cZ,aZ ht,aZ D9,sizeOf,typeInfo,zeroValue,hi,hz,asInt,asIntOf,hw,h0,h1,h3,h4,h5,h6,Question.forced,newRow,grownCap,hf];congr 2;apply gI;simp
theorem W3 {z:Array Value} {k:Nat} (n:Nat) (hz:z.size=k):(aY z n).toList=(aq n z.toList).flatten:=by
 have h:=Qi (zc:=z.toList) (z:=k) (by simpa using hz) n
 have e:aY z n=madeCells z.toList.toArray (n * k):=by
  unfold aY madeCells;rw [hz]
 rw [e,h]
section
variable {P:Program} {o:Oper} {a:Act} {w:World} {A:Nat→Prop} {E:dL An} {nx:di} {γ:Nat} {v:MV} {h h':cj} {s:gD} {K:jl} {d:Option Nat}
 (hs:pZ P w A E nx s a) (hm:MR w A E h nx) (hγ:¬ nx γ)
include hs hm hγ
theorem C9J {t e t1 t2:TypeId} {zero:MV} {lx cx:Operand} {l' c':dI} (ho:o.op=.makeSlice t lx cx) (hu:P.underlying t=some (.slice e)) (rG:P.cellsOf e ≠ 0) (we:P.bytesOf e ≠ 0) (hz:Bh P e=some zero)
 (hl:fx P t1 lx=some l') (hc:fx P t2 cx=some c') (he:b7 K γ d s h (.mksl (P.cellsOf e) (P.bytesOf e) zero l' c')=some (v,h')):cC P o a w A E nx γ v h':=by
 simp only [b7] at he;split at he
 · rename_i l c Qm F7;obtain ⟨kl,BB⟩:=H7 Qm (jM hs hl);obtain ⟨kc,Ap⟩:=H7 F7 (jM hs hc);split at he
   · rename_i tz Qn;split at he
     · rename_i dS;obtain ⟨h0,nF,fS,w8⟩:=dS;cases d with
       | none=>simp [mS] at he
       | some d =>
         simp only [mS,bK,aa,ae] at he;obtain ⟨rfl,rfl⟩:=he;obtain ⟨zc,rW,xO⟩:=Io hz;obtain ⟨zv,_,mz,i,hi,CQ⟩:=CP rW w;obtain ⟨zc',tA,h1,zt⟩:=Qk (w:=w) (A:=A) (E:=E) (nx:=nx) xO Qn;rw [bD] at h1;subst h1;have q8:P.bytesOf e=i.bytes:=by simp [nK,hi]
         have n3:P.cellsOf e=i.size:=by simp [jK,hi]
         have yR:tA.cs=P.cellsOf e:=by rw [← w8,← zt.er,T.j9]
         have yQ:zc.length=P.cellsOf e:=by rw [zt.tc.len,yR]
         have Qo:0 ≤ c:=by omega
         have Ip:c.toNat ≤ room:=du (gR _ (ew we)) fS;have Qp:((c.toNat * P.bytesOf e:Nat):Int) ≤ 140737488355328:=by
          have:c.toNat * P.bytesOf e ≤ 140737488355328:=fS
          omega
         have hcI:(c.toNat:Int)=c:=Int.toNat_of_nonneg Qo;have gr:=run_make (P:=P) w t e i zv hu hi CQ kl kc l c h0 nF (by
          rw [Int.natCast_mul,hcI,q8] at Qp;rw [Int.mul_comm]; omega) (by
          have:c.toNat ≤ 140737488355328:=Ip
          omega)
         have nX:(aq c.toNat zc).flatten.length=c.toNat * P.cellsOf e:=by rw [Qj,yQ]
         have Iq:madeCells zv.cells (c.toNat * i.size)=(aq c.toNat zc).flatten.toArray:=by
          rw [mz,← n3]; exact Qi yQ _
         rw [Iq] at gr;have k:=zt.replicate hm l.toNat;obtain ⟨E2,k1,k2,k3⟩:=Qf hm hγ k (Grown.alloc w _ e) d (q:=(aq (c.toNat - l.toNat) zc).flatten) (by
          rw [← List.flatten_append,List.replicate_append_replicate];congr 2; omega) (fun t ht=>by rw [fc ht,yR]) nX (by simp; omega) (by have:c.toNat ≤ 140737488355328:=Ip; omega)
         rw [gn] at k3;refine cC.of (w':=_) ?_ k1 k2 k3;simp only [execOp,ho,BB,Ap,bn,gr,aV,bL]
     · cases he
   · cases he
 · cases he
theorem C9K {t ti e t1 t2:TypeId} {c:Call} {zero:MV} {x y:Operand} {x' y':dI} {k:IntKind} (ho:o.op=.call c) (pB:c.callee=.builtin .append) (oP:c.args=#[x,y]) (sr:c.argTypes=#[t,ti])
 (hu:P.underlying t=some (.slice e)) (D9:P.underlying ti=some (.int k)) (rG:P.cellsOf e ≠ 0) (we:P.bytesOf e ≠ 0) (hz:Bh P e=some zero)
 (hx:fx P t1 x=some x') (hy:fx P t2 y=some y') (he:b7 K γ d s h (.appn (P.cellsOf e) (P.bytesOf e) zero x' y')=some (v,h')):cC P o a w A E nx γ v h':=by
 have dH:=jM hs hx;simp only [b7] at he;split at he
 · rename_i zz l w9 Qm;obtain ⟨kl,BB⟩:=H7 Qm (jM hs hy);split at he
   · rename_i tz Qn;split at he
     · rename_i dS;obtain ⟨h0,fS,w8⟩:=dS;cases d with
       | none=>simp [mS] at he
       | some d =>
         simp only [mS,bK,aa,ae] at he;obtain ⟨rfl,rfl⟩:=he;rw [w9] at dH;simp only [bQ] at dH;obtain ⟨ax,Qq⟩:=dH;obtain ⟨zc,rW,xO⟩:=Io hz;obtain ⟨zv,_,mz,i,hi,CQ⟩:=CP rW w;obtain ⟨zc',tA,h1,zt⟩:=Qk (w:=w) (A:=A) (E:=E) (nx:=nx) xO Qn;rw [bD] at h1;subst h1;have q8:P.bytesOf e=i.bytes:=by simp [nK,hi]
         have n3:P.cellsOf e=i.size:=by simp [jK,hi]
         have yR:tA.cs=P.cellsOf e:=by rw [← w8,← zt.er,T.j9]
         have yQ:zc.length=P.cellsOf e:=by rw [zt.tc.len,yR]
         have Ip:l.toNat ≤ room:=du (gR _ (ew we)) fS;have hlI:(l.toNat:Int)=l:=Int.toNat_of_nonneg (by omega)
         have Az:0 < l.toNat:=by omega
         have Qr:0 < i.size:=by rw [← n3]; exact ew rG
         rw [q8] at fS;have gr:=C2u (P:=P) (w:=w) (ty:=o.type) (kd:=kl) (a:=ax) hu D9 hi CQ Qr Az fS Ip;have wg:=grownCap_ge w l.toNat 0 e;have sP:zv.cells.size=P.cellsOf e:=by rw [mz]; simpa using yQ
         have hzt:zv.cells.toList=zc:=by rw [mz]
         rw [W3 l.toNat sP,W3 (grownCap w l.toNat 0 e - l.toNat) sP,hzt] at gr;have kk:=zt.replicate hm l.toNat;obtain ⟨E2,k1,k2,k3⟩:=Qf hm hγ kk (Grown.drew w _ e) d (cap:=grownCap w l.toNat 0 e) (q:=(aq (grownCap w l.toNat 0 e - l.toNat) zc).flatten) rfl
          (fun t ht=>by rw [fc ht,yR]) (by
            rw [aQ,Qj,Qj,yQ,← gX];congr 1; omega) (by simp; omega) (jQ w l.toNat 0 e (by have:l.toNat ≤ 140737488355328:=Ip; unfold maxLen; omega))
         rw [gn] at k3;refine cC.of (w':=_) ?_ k1 k2 k3;rw [Bm ho pB];simp only [builtin,oP,sr];have e1:qm a.eval #[x,y]=#[.slice ax 0 0,.int kl l.toNat]:=by simp [Qq,BB,hlI]
         rw [e1];simp only [bn,gr,aV,bL]
     · cases he
   · cases he
 · cases he
end
end Go.Mid
namespace Go.Mid
open Go.RowKit
section
variable {w w':World} {A:Nat→Prop} {E:dL An} {nx:di} {h:cj}
mutual
theorem TAt.cells:∀ {t:T An} {b o:Nat},TAt w A E nx t b o→∀ j,j < t.cs→(w.cell? ⟨b,o + j,none⟩).isSome=true
 | .p v,b,o,h,j,hj=>by
   simp only [TAt] at h;obtain ⟨cs,h1,h2⟩:=h
   have:j < cs.length:=by rw [h1.len]; exact hj
   rw [h2 j cs[j] (by simp [this])]; rfl
 | .m v,b,o,h,j,hj=>by
   simp only [TAt] at h;obtain ⟨h0,_,val,_,h2⟩:=h;simp only [T.cs,h0] at hj
   have:j=0:=by omega
   subst this;rw [h2 0 val rfl]; rfl
 | .agg l,b,o,h,j,hj=>by simp only [TAt] at h; exact cD.cells h j hj
 | .vec ..,b,o,h,j,hj=>by
   simp only [TAt] at h;obtain ⟨a,cap,h2,_⟩:=h;simp only [T.cs] at hj
   have:j=0:=by omega
   subst this;rw [h2 0 _ rfl]; rfl
 | .mp ..,b,o,h,j,hj=>by simp only [TAt] at h
 | .hole n,b,o,h,j,hj=>by
   simp only [TAt] at h;obtain ⟨v,hv⟩:=h j hj;rw [hv]; rfl
theorem cD.cells:∀ {l:List (T An)} {b o:Nat},cD w A E nx l b o→∀ j,j < T.da l→(w.cell? ⟨b,o + j,none⟩).isSome=true
 | [],b,o,_,j,hj=>by simp [T.da] at hj
 | t::r,b,o,h,j,hj=>by
   simp only [cD] at h;simp only [T.da] at hj;by_cases eF:j < t.cs
   · exact TAt.cells h.1 j eF
   · have:=cD.cells h.2 (j - t.cs) (by omega)
     rwa [show o + t.cs + (j - t.cs)=o + j by omega] at this
end
mutual
theorem TAt.pH:∀ {t:T An} {b o:Nat},TAt w A E nx t b o→∀ x ∈ t.blk,∃ m,lT w x m
 | .p _,b,o,_,x,hx=>by simp [T.blk] at hx
 | .m _,b,o,_,x,hx=>by simp [T.blk] at hx
 | .agg l,b,o,h,x,hx=>by simp only [TAt] at h; exact cD.pH h x hx
 | .vec an z l n,b,o,h,x,hx=>by
   simp only [TAt] at h;obtain ⟨a,cap,_,_,_,h⟩:=h;cases hb:an.b with
   | none=>simp only [hb] at h; simp [T.blk,hb,h.1,T.b6] at hx
   | some b' =>
     simp only [hb] at h;simp only [T.blk,hb,cg,aS,a6,aE] at hx;rcases hx with rfl | hx
     · exact ⟨_,h.1⟩
     · exact cD.pH h.2.2.2 x hx
 | .mp ..,b,o,h,_,_=>by simp only [TAt] at h
 | .hole _,b,o,_,x,hx=>by simp [T.blk] at hx
theorem cD.pH:∀ {l:List (T An)} {b o:Nat},cD w A E nx l b o→∀ x ∈ T.b6 l,∃ m,lT w x m
 | [],b,o,_,x,hx=>by simp [T.b6] at hx
 | t::r,b,o,h,x,hx=>by
   simp only [cD] at h;simp only [T.b6,ay] at hx;rcases hx with hx | hx
   · exact TAt.pH h.1 x hx
   · exact cD.pH h.2 x hx
end
theorem OAt.pH {o:Obj An} (h:OAt w A E nx o):∀ x ∈ o.blk,∃ m,lT w x m:=by
 intro x hx;cases o with
 | cell an t =>
   simp only [OAt] at h;obtain ⟨b,hb,h1,h2⟩:=h;simp only [Obj.blk,hb,cg,aS,a6,aE] at hx;rcases hx with rfl | hx
   · exact ⟨_,h1⟩
   · exact h2.pH x hx
 | vec an z l =>
   simp only [OAt,VB] at h;cases hb:an.b with
   | none=>simp only [hb] at h; simp [Obj.blk,hb,h.1,T.b6] at hx
   | some b' =>
     simp only [hb] at h;simp only [Obj.blk,hb,cg,aS,a6,aE] at hx;rcases hx with rfl | hx
     · exact ⟨_,h.1⟩
     · exact h.2.2.2.pH x hx
 | mp=>simp only [OAt] at h
 | gone=>simp [Obj.blk] at hx
theorem lT.frozen {b m j:Nat} (h:lT w b m):w.frozen? ⟨b,j,none⟩=false:=by
 obtain ⟨c,ty,h1,_⟩:=h;simp [World.frozen?,h1]
theorem Wr.setCells {b o:Nat} (cs:List Value) (X:List Nat):Wr w (w.setCells b o cs) b o cs.length X where
 other:=fun b' _ eA _=>v8 eA cs o w
 blk:=fun m hm=>hm.setCells cs o w
 cell:=fun j hj=>World.cell?_setCells_out b cs o w ⟨b,j,none⟩ (fun _ _=>hj)
theorem Row.setCells {b o:Nat} {cs:List Value} (h:∀ j,j < cs.length→(w.cell? ⟨b,o + j,none⟩).isSome=true):Row (w.setCells b o cs) b o cs:=by
 intro j v hj;obtain ⟨eF,hv⟩:=aF.1 hj;rw [World.cell?_setCells_in b cs o w h j eF,hv]
end
end Go.Mid
namespace Go.Mid
open Go.RowKit
section
variable {w:World} {A:Nat→Prop} {E:dL An} {nx:di} {γ:Nat} {h:cj}
theorem W4 (m:MR w A E h nx) {id:Nat} {o o':Obj An} {p:List Nat} {u tA:T An} {b o1:Nat} {cs:List Value} (hE:E id=some o) (hs:ef (some o) p=some u) (hl:qG (some o) p=some (b,o1))
 (tc:TC w A E nx tA cs) (eY:tA.cs=u.cs) (eR:put (some o) p tA=some o') (gV:tA.blk.Nodup) (iL:∀ x ∈ tA.blk,(x < w.heap.size∧¬ A x)∧(x ∈ u.blk∨¬ jq E x)) (hst:tA.st (nx.add γ))
 (pG:∀ q y,fH tA q=some y→nx y.1.g→fH u q=some y) :
 MR (w.setCells b o1 cs) A (cz E id (some o')) (cz h id (some (o'.mapA An.g))) (nx.add γ)∧jq E b∧(∀ x,jq (cz E id (some o')) x→x ∈ tA.blk∨jq E x)∧oO nx E (cz E id (some o')) ∧
  (∀ j,j < cs.length→(w.cell? ⟨b,o1 + j,none⟩).isSome=true)∧∀ j,w.frozen? ⟨b,j,none⟩=false:=by
 obtain ⟨b',Bu,h1,h2,h3,h4,h5⟩:=Ax hs (m.at_ id o hE);rw [hl] at h1; cases h1;have hlen:cs.length=u.cs:=by rw [tc.len,eY]
 have lV:jq E b:=⟨id,o,hE,h3⟩;have hbt:b ∉ tA.blk:=fun hb=>(iL b hb).2.elim (h5 (m.nd id o hE)) (fun k=>k lV)
 have gQ:∀ j,j < cs.length→(w.cell? ⟨b,o1 + j,none⟩).isSome=true:=fun j hj=>h2.cells j (by omega)
 have W:Wr w (w.setCells b o1 cs) b o1 u.cs u.blk:=by rw [← hlen]; exact Wr.setCells cs u.blk
 have hp:oQ w (w.setCells b o1 cs) A E nx (nx.add γ) id o p u tA b o1 :=
  ⟨nx.eH γ,by rw [(wZ b cs o1 w).1]; exact ar _,hE,hs,hl,eY,W,pG,fun x hx=>by rw [(wZ b cs o1 w).1]; exact (iL x hx).1,gV,fun x hx=>(iL x hx).2,hst⟩
 have hm:=m.put hp eR (fun f=>(tc.frame f (fun x hx=>v8 (fun e:x=b=>hbt (e ▸ hx)) cs o1 w)).at_ (Row.setCells gQ))
 refine ⟨hm,lV,fun x hx=>(hp.owned m eR hx).imp (fun h=>h) (·.1),((hp.tW m eR).fr m).hE,gQ,fun j=>?_⟩
 obtain ⟨mm,PM⟩:=(m.at_ id o hE).pH b h3;exact PM.frozen
end
section
variable {P:Program} {o:Oper} {a:Act} {w:World} {A:Nat→Prop} {E:dL An} {nx:di} {γ:Nat} {v:MV} {h h':cj} {s:gD} {K:jl} {d:Option Nat}
theorem W5 {t:TypeId} {x y:Operand} {b o1:Nat} (ho:o.op=.store t x y) (hU:qD P t=true) (hx:a.eval x=.pointer (some ⟨b,o1,none⟩)) (hn:(a.eval y).cells.size=P.cellsOf t)
 (hc:∀ j,j < (a.eval y).cells.toList.length→(w.cell? ⟨b,o1 + j,none⟩).isSome=true) (hf:∀ j,w.frozen? ⟨b,j,none⟩=false) (h1:∀ c ∈ (a.eval y).cells.toList,c.oneCell'=true) :
 (execOp a.eval o).run P w=.ok .skip (w.setCells b o1 (a.eval y).cells.toList):=by
 have hst:=iX (P:=P) b o1 (a.eval y).cells.toList 0 w (by simpa using hc) (fun j _=>hf _) h1
 simp only [dF] at hst;simp only [execOp,ho,hx,Instr.storeAt,Instr.sureAddr,bn,bL,aV,storeVar,DS w hU];rw [if_neg (by simp [hn])]
 simp only [bn,hst,aV,bL]
end
end Go.Mid
namespace Go.Mid
open Go.RowKit
section
variable {P:Program} {o:Oper} {a:Act} {w:World} {A:Nat→Prop} {E:dL An} {nx:di} {γ:Nat} {v:MV} {h h':cj} {s:gD} {K:jl} {d:Option Nat}
theorem MR.la (m:MR w A E h nx) {id:Nat} {p:List Nat} {u:T An} (hs:ef (E id) p=some u):∃ ob,E id=some ob:=by
 cases hE:E id with
 | none=>rw [hE] at hs; cases p <;> simp [ef] at hs
 | some ob=>exact ⟨ob,rfl⟩
theorem D1G (m:MR w A E h nx) {id:Nat} {np:Option (List Nat)} {rp:List Nat} {g o0:Nat} {val:Value} {old:T Nat} (hv:bQ w A E nx (.ptr id np rp g o0) val) (hl:look (h id) np rp=some (old,g,o0)) :
 ∃ b ob u,val=.pointer (some ⟨b,o0,none⟩)∧E id=some ob∧qG (some ob) (ru np rp)=some (b,o0)∧ef (some ob) (ru np rp)=some u∧old=u.mapA An.g:=by
 obtain ⟨an,tA,nW,hg,rfl⟩:=m.look hl;obtain ⟨b,hb,_⟩:=m.sM nW;simp only [bQ] at hv;obtain ⟨_,ad,rfl,qX⟩:=hv;obtain ⟨z,hn⟩:=F5 nW;obtain ⟨b',jr,rfl⟩:=qX an z hn hg;rw [hb] at jr; cases jr;have dJ:=LY nW;obtain ⟨ob,hE⟩:=m.la dJ;rw [hE] at nW dJ;exact ⟨b,ob,tA,rfl,hE,m.wa hE nW hb,dJ,rfl⟩
theorem W6 (hm:MR w A E h nx) (hγ:¬ nx γ) {t:TypeId} {x y:Operand} {id:Nat} {path:List Nat} {b o1:Nat} {ob:Obj An} {yv:MV} (ho:o.op=.store t x y) (hU:qD P t=true) (hx:a.eval x=.pointer (some ⟨b,o1,none⟩))
 (hE:E id=some ob) (hl:qG (some ob) path=some (b,o1)) {u:T An} (hu:ef (some ob) path=some u) (Qs:u.cs=P.cellsOf t) (hy:bQ w A E nx yv (a.eval y))
 (he:yw γ h (P.cellsOf t) id path yv=some (v,h')):cC P o a w A E nx γ v h':=by
 unfold yw at he;split at he
 · rename_i t1 h1 hi;split at he
   · rename_i eY;split at he
     · rename_i on eR;simp only [aa,ae] at he;obtain ⟨rfl,rfl⟩:=he;obtain ⟨E1,tA,k⟩:=P8 yv hi hm hy;have w8:tA.cs=P.cellsOf t:=by rw [← eY,← k.er,T.j9]
       rw [k.mr.er id,← k.er,F9] at eR;cases ig:put (E1 id) path tA with
       | none=>simp [ig] at eR
       | some o' =>
         simp only [ig,ak,aa] at eR;subst eR;have n4:∃ u1,ef (E1 id) path=some u1:=by
          have key:∀ (p:List Nat) (t v t':T An),c7 t p v=some t'→∃ u,cU t p=some u:=by
           intro p
           induction p with
           | nil=>intro t v t' _; exact ⟨t,by simp [cU]⟩
           | cons i r ih =>
             intro t v t' hk;cases t with
             | p pv =>
               cases pv <;> simp only [c7,reduceCtorEq] at hk;rename_i l;simp only [cU];split at hk
               · rename_i x0 yS
                 try simp only [yS]
                 split at hk
                 · rename_i w0 xd; exact ih _ _ _ xd
                 · cases hk
               · cases hk
             | m=>simp [c7] at hk
             | agg l =>
               simp only [c7] at hk;simp only [cU];split at hk
               · rename_i x0 yS
                 try simp only [yS]
                 split at hk
                 · rename_i w0 xd; exact ih _ _ _ xd
                 · cases hk
               · cases hk
             | vec a0 z l n =>
               simp only [c7] at hk;simp only [cU];split at hk
               · rename_i x0 yS
                 try simp only [yS]
                 split at hk
                 · rename_i w0 xd; exact ih _ _ _ xd
                 · cases hk
               · cases hk
             | mp a0 ks l =>
               simp only [c7] at hk;simp only [cU];split at hk
               · rename_i x0 yS
                 try simp only [yS]
                 split at hk
                 · rename_i w0 xd; exact ih _ _ _ xd
                 · cases hk
               · cases hk
             | hole=>simp [c7] at hk
          cases qn:E1 id with
          | none=>rw [qn] at ig; cases path <;> simp [put] at ig
          | some W7 =>
            rw [qn] at ig;cases W7 with
            | cell a0 t0 =>
              simp only [put] at ig;split at ig
              · rename_i w0 xd;rw [Bt]; exact key _ _ _ _ xd
              · cases ig
            | vec a0 z l =>
              cases path with
              | nil=>simp [put] at ig
              | cons i r =>
                simp only [put] at ig;simp only [ef];split at ig
                · rename_i x0 yS
                  try simp only [yS]
                  split at ig
                  · rename_i w0 xd; exact key _ _ _ _ xd
                  · cases ig
                · cases ig
            | mp a0 ks l =>
              cases path with
              | nil=>simp [put] at ig
              | cons i r =>
                simp only [put] at ig;simp only [ef];split at ig
                · rename_i x0 yS
                  try simp only [yS]
                  split at ig
                  · rename_i w0 xd; exact key _ _ _ _ xd
                  · cases ig
                · cases ig
            | gone=>cases path <;> simp [put] at ig
         obtain ⟨u1,Gi⟩:=n4;obtain ⟨W7,qn⟩:=k.mr.la Gi;obtain ⟨u',e1,e2,e3⟩:=k.ls id path u1 Gi;rw [hE,hu] at e1;cases e1;rw [hE,qn] at e3;rw [qn] at Gi ig;obtain ⟨k1,k2,k3,k4,k5,k6⟩:=W4 k.mr qn Gi (by rw [e3]; exact hl) k.tc (by rw [w8,← Qs,e2]) ig k.nd
          (fun x hx=>⟨hm.lt x (k.own x hx).1,.inr (k.own x hx).2⟩) k.st (fun q y hy eF=>by rw [k.new q y hy] at eF; exact (hγ eF).elim)
         have hsz:(a.eval y).cells.size=P.cellsOf t:=by rw [← dW,k.tc.len,w8]
         have gr:=W5 ho hU hx hsz k5 k6 k.one;refine ⟨undef,_,A,_,.inr ⟨gr,rfl⟩,by simp only [bQ],k1,?_⟩
         obtain ⟨s1,s2,s3,s4⟩:=wZ b (a.eval y).cells.toList o1 w;refine gE.of (E1:=E1) ⟨s2,s3,s4⟩ (by rw [s1]; exact ar _) (fun x _ hx=>v8 (fun e:x=b=>hx (e ▸ k.sub b k2)) _ _ _) ?_ (k.ns.D2 nx) k4
         intro x _ hx;rcases k3 x hx with hx | hx
         · exact (k.own x hx).1
         · exact k.sub x hx
     · cases he
   · cases he
 · cases he
end
end Go.Mid
namespace Go.Mid
open Go.RowKit
theorem Qt:∀ (l:List (T An)) (n:Nat),(T.b6 (l.take n)).Sublist (T.b6 l)
 | [],n=>by simp [T.b6]
 | t::r,0=>by simp [T.b6]
 | t::r,n + 1=>by
   simp only [bS,T.b6];exact (List.Sublist.refl _).append (Qt r n)
theorem W8 {nx:di}:∀ {l:List (T An)} {n:Nat},T.j7 nx l→T.j7 nx (l.take n)
 | [],n,h=>by simpa using h
 | t::r,0,h=>by simp only [fj,T.j7]
 | t::r,n + 1,h=>by
   simp only [bS,T.j7] at h ⊢;exact ⟨h.1,W8 h.2⟩
theorem W9 {w:World} {A:Nat→Prop} {E:dL An} {nx:di}:∀ {l:List (T An)} {n b o:Nat},cD w A E nx l b o→cD w A E nx (l.take n) b o
 | [],n,b,o,h=>by simpa using h
 | t::r,0,b,o,h=>by simp only [fj,cD]
 | t::r,n + 1,b,o,h=>by
   simp only [bS,cD] at h ⊢;exact ⟨h.1,W9 h.2⟩
section
variable {P:Program} {o:Oper} {a:Act} {w:World} {A:Nat→Prop} {E:dL An} {nx:di} {γ:Nat} {v:MV} {h h':cj} {s:gD} {K:jl} {d:Option Nat}
 (hs:pZ P w A E nx s a) (hm:MR w A E h nx) (hγ:¬ nx γ)
include hs hm hγ
theorem C7Z {t t1 t2:TypeId} {x y:Operand} {x' y':dI} (ho:o.op=.store t x y) (hx:fx P t1 x=some x') (hy:fx P t2 y=some y') (hU:qD P t=true)
 (he:b7 K γ d s h (.store (P.cellsOf t) x' y')=some (v,h')):cC P o a w A E nx γ v h':=by
 have dH:=jM hs hx;have uK:=jM hs hy;simp only [b7,FZ] at he;split at he
 · rename_i id np rp g0 o0 hp;rw [hp] at dH;split at he
   · rename_i old s' oo hl;split at he
     · rename_i hc;obtain ⟨rfl,rfl,eY⟩:=hc;obtain ⟨b,ob,u,cE,hE,jA,hu,rfl⟩:=D1G hm dH hl;rw [T.j9] at eY;split at he
       · rename_i uH qU off len g' ag z l n' hyv hold;split at he
         · rename_i oP;obtain ⟨rfl,rfl,rfl,rfl,hlen⟩:=oP;split at he
           · rename_i on eR;simp only [aa,ae] at he;obtain ⟨rfl,rfl⟩:=he;cases u <;> simp only [T.mapA,reduceCtorEq,T.vec.injEq] at hold;rename_i an z0 lA n0;obtain ⟨rfl,rfl,rfl,rfl⟩:=hold;rw [hyv] at uK;simp only [bQ] at uK;obtain ⟨_,ad,cap,CR,nF,hh⟩:=uK;have bW:fg (E uH) (some (ru np rp))=some (an,some z0):=by
              rw [hE]
              have:=Mf (r:=[]) hu
              rw [bD] at this;exact this
             have kE:=hh an z0 bW rfl;have hT:(T.vec an.g z0 ((T.cI An.g lA).take len) len:T Nat)=(T.vec an z0 (lA.take len) len).mapA An.g:=by
              simp only [T.mapA,T.mapAs_eq,bO]
             rw [hm.er uH,hT,F9,hE] at eR;cases ig:put (some ob) (ru np rp) (T.vec an z0 (lA.take len) len) with
             | none=>simp [ig] at eR
             | some o' =>
               simp only [ig,ak,aa] at eR;subst eR;obtain ⟨b',Bu,e1,kS,_,iM,_⟩:=Ax hu (hm.at_ uH ob hE);simp only [TAt] at kS;obtain ⟨_,_,_,BC,_,lX⟩:=kS;have hst:(T.vec an z0 lA n0).st nx:=hm.tT (by rw [hE]; exact hu)
               have gV:(T.vec an z0 lA n0).blk.Nodup:=by
                obtain ⟨rest,p1,_⟩:=D1 hu ig;exact (aT.1 (p1.nodup_iff.1 (hm.nd uH ob hE))).1
               have wi:∀ x,x ∈ (T.vec an z0 (lA.take len) len).blk→x ∈ (T.vec an z0 lA n0).blk:=by
                intro x hx;simp only [T.blk,ay] at hx ⊢;exact hx.imp (fun h=>h) (fun h=>(Qt lA len).subset h)
               have tc:TC w A E nx (T.vec an z0 (lA.take len) len) [.slice ad len cap]:=by
                simp only [TC,VB];refine ⟨ad,cap,rfl,by rw [aW]; omega,kE,?_⟩
                cases hb:an.b with
                | none =>
                  simp only [hb] at lX;exact ⟨by rw [lX.1,iA],lX.2⟩
                | some b2 =>
                  simp only [hb] at lX;exact ⟨lX.1,du (by rw [aW]; exact Nat.min_le_right _ _) lX.2.1,fun t ht=>lX.2.2.1 t (dh ht),W9 lX.2.2.2⟩
               have rU:(T.vec an z0 (lA.take len) len).blk.Nodup:=by
                simp only [T.blk] at gV ⊢;exact gV.sublist ((List.Sublist.refl _).append (Qt lA len))
               have Qu:(T.vec an z0 (lA.take len) len).st nx:=by
                simp only [T.st] at hst ⊢;exact ⟨hst.1,W8 hst.2⟩
               obtain ⟨k1,k2,k3,k4,k5,k6⟩:=W4 hm hE hu jA tc rfl ig rU (fun x hx=>⟨hm.j3 hE (iM x (wi x hx)),.inl (wi x hx)⟩) (T.j8 (nx.eH γ) Qu)
                (fun q y hy _=>by
                  cases q with
                  | nil=>exact hy
                  | cons i r =>
                    simp only [Bq] at hy ⊢;cases ht:(lA.take len)[i]? with
                    | none=>rw [ht] at hy; cases hy
                    | some t =>
                      have h1:lA[i]?=some t:=by
                       have eF:=(aF.1 ht).1;rw [dK (by rw [aW] at eF; omega)] at ht
                       exact ht
                      rw [ht] at hy;rw [h1];exact hy)
               have w6:(a.eval y).cells.toList=[.slice ad len cap]:=by rw [CR]; rfl
               have gr:=W5 ho hU cE (by rw [CR,← eY]; rfl) (by rw [w6]; exact k5) k6 (by rw [w6]; intro c hc; simp at hc; subst hc; rfl)
               rw [w6] at gr;obtain ⟨s1,s2,s3,s4⟩:=wZ b [Value.slice ad len cap] oo w;refine ⟨undef,_,A,_,.inr ⟨gr,rfl⟩,by simp only [bQ],k1,?_⟩
               refine gE.of (E1:=E) ⟨s2,s3,s4⟩ (by rw [s1]; exact ar _) (fun x _ hx=>v8 (fun e:x=b=>hx (e ▸ k2)) _ _ _) ?_ (oO.refl _ _) k4
               intro x _ hx;rcases k3 x hx with hx | hx
               · exact ⟨uH,ob,hE,iM x (wi x hx)⟩
               · exact hx
           · cases he
         · exact W6 hm hγ ho hU cE hE jA hu eY uK he
       · exact W6 hm hγ ho hU cE hE jA hu eY uK he
     · cases he
   · cases he
 · cases he
end
end Go.Mid
namespace Go.Mid
open Go.RowKit
section
variable {w w':World} {A:Nat→Prop} {E:dL An} {nx nx':di} {h:cj}
mutual
theorem TAt.tc:∀ {t:T An} {b o:Nat},TAt w A E nx t b o→∃ cs,TC w A E nx t cs∧Row w b o cs
 | .p v,b,o,k=>by simp only [TAt] at k; obtain ⟨cs,h1,h2⟩:=k; exact ⟨cs,by simpa only [TC] using h1,h2⟩
 | .m v,b,o,k=>by simp only [TAt] at k; obtain ⟨h0,DQ,val,h1,h2⟩:=k; exact ⟨[val],by simp only [TC]; exact ⟨h0,DQ,val,h1,rfl⟩,h2⟩
 | .agg l,b,o,k=>by simp only [TAt] at k; obtain ⟨cs,h1,h2⟩:=cD.tc k; exact ⟨cs,by simpa only [TC] using h1,h2⟩
 | .vec an z l n,b,o,k=>by
   simp only [TAt] at k;obtain ⟨a,cap,h1,h2,h3,h4⟩:=k;exact ⟨[.slice a n cap],by simp only [TC,VB]; exact ⟨a,cap,rfl,h2,h3,h4⟩,h1⟩
 | .mp ..,b,o,k=>by simp only [TAt] at k
 | .hole n,b,o,k=>by
   simp only [TAt] at k;obtain ⟨cs,h1,h2⟩:=PN n k;exact ⟨cs,by simpa only [TC] using h1,h2⟩
theorem cD.tc:∀ {l:List (T An)} {b o:Nat},cD w A E nx l b o→∃ cs,j4 w A E nx l cs∧Row w b o cs
 | [],b,o,_=>⟨[],by simp only [j4],Row.nil⟩
 | t::r,b,o,k=>by
   simp only [cD] at k;obtain ⟨c,h1,h2⟩:=TAt.tc k.1;obtain ⟨d,h3,h4⟩:=cD.tc k.2;refine ⟨c++d,by simp only [j4]; exact ⟨c,d,rfl,h1,h3⟩,Row.append.2 ⟨h2,?_⟩⟩
   rw [h1.len]; exact h4
end
theorem j4.append {l m:List (T An)} {cs ds:List Value} (h:j4 w A E nx l cs) (k:j4 w A E nx m ds):j4 w A E nx (l++m) (cs++ds):=by
 induction l generalizing cs with
 | nil=>simp only [j4] at h; subst h; exact k
 | cons t r ih =>
   simp only [j4,aS] at h ⊢;obtain ⟨c,d,rfl,h1,h2⟩:=h;exact ⟨c,d++ds,by simp,h1,ih h2⟩
theorem cD.append {l m:List (T An)} {b o:Nat}:cD w A E nx (l++m) b o↔cD w A E nx l b o∧cD w A E nx m b (o + T.da l):=by
 induction l generalizing o with
 | nil=>simp only [a6,cD,T.da,dF,true_and]
 | cons t r ih=>simp only [aS,cD,ih,T.da,Nat.add_assoc,and_assoc]
structure yT (w w':World) (A:Nat→Prop) (E:dL An) (nx nx':di) (id:Nat) (o':Obj An):Prop where
 hn:nx.le nx'
 sz:w.heap.size ≤ w'.heap.size
 ch:∀ b,b < w.heap.size→(A b∨∃ j o,j ≠ id∧E j=some o∧b ∈ o.blk)→w'.heap[b]?=w.heap[b]?
 ns:∀ np y,fg (some o') np=some y→nx y.1.g→fg (E id) np=some y
 lt:∀ b ∈ o'.blk,b < w'.heap.size∧¬ A b
 nd:o'.blk.Nodup
 dj:∀ b ∈ o'.blk,∀ j o,j ≠ id→E j=some o→b ∉ o.blk
 st:o'.st nx'
theorem yT.fr {id:Nat} {o':Obj An} (m:MR w A E h nx) (s:yT w w' A E nx nx' id o'):Fr w w' A A E (cz E id (some o')) nx nx' :=
 ⟨fun _ h=>h,fun b hb=>s.ch b (m.im b hb) (.inl hb),fun i np an z bW hg=>by
   by_cases e:i=id
   · subst e; rw [nG] at bW; exact s.ns np _ bW hg
   · rw [nO E _ e] at bW; exact bW,s.hn⟩
theorem MR.Ea (m:MR w A E h nx) {id:Nat} {o':Obj An} (s:yT w w' A E nx nx' id o') (kS:OAt w' A (cz E id (some o')) nx' o') :
 MR w' A (cz E id (some o')) (cz h id (some (o'.mapA An.g))) nx':=by
 have f:=s.fr m;constructor
 · intro i;by_cases e:i=id
   · subst e; simp [cz]
   · simp [cz,e,m.er i]
 · intro i o ho;by_cases e:i=id
   · subst e; rw [nG] at ho; cases ho; exact kS
   · rw [nO E _ e] at ho;exact OAt.frame f (fun x hx=>s.ch x (m.j3 ho hx).1 (.inr ⟨i,o,e,ho,hx⟩)) (m.at_ i o ho)
 · rintro b ⟨i,o,ho,hb⟩;by_cases e:i=id
   · subst e; rw [nG] at ho; cases ho; exact s.lt b hb
   · rw [nO E _ e] at ho
     have:=m.j3 ho hb
     exact ⟨bp this.1 s.sz,this.2⟩
 · intro i o ho;by_cases e:i=id
   · subst e; rw [nG] at ho; cases ho; exact s.nd
   · rw [nO E _ e] at ho; exact m.nd i o ho
 · intro i j o o1 gL ho nf b hb nY;by_cases e:i=id
   · subst e;rw [nG] at ho; cases ho;rw [nO E _ (dw gL)] at nf;exact s.dj b hb j o1 (dw gL) nf nY
   · rw [nO E _ e] at ho;by_cases e':j=id
     · subst e';rw [nG] at nf; cases nf;exact s.dj b nY i o e ho hb
     · rw [nO E _ e'] at nf;exact m.dj i j o o1 gL ho nf b hb nY
 · intro b hb;exact bp (m.im b hb) s.sz
 · intro i o ho;by_cases e:i=id
   · subst e; rw [nG] at ho; cases ho; exact s.st
   · rw [nO E _ e] at ho; exact Obj.j8 s.hn (m.st i o ho)
end
section
variable {P:Program} {w:World}
structure lf (P:Program) (w:World) (size:Nat) (x:Value) (n:Nat) (news:List Value):Prop where
 val:∃ xb cap,x=.slice xb n cap
 len:news.length=n * size
 rd:∀ w',w'.heap=w.heap→(hY size n x).run P w'=.ok news.toArray w'
 pre:∀ k,k ≤ n→(hY size k x).run P w=.ok (news.take (k * size)).toArray w
theorem lf.o5 {size n cap:Nat} {news:List Value} {a:Option Addr} (hl:news.length=n * size) (h:n=0∨∃ b o,a=some ⟨b,o,none⟩∧Row w b o news):lf P w size (.slice a n cap) n news where
 val:=⟨a,cap,rfl⟩
 len:=hl
 rd:=by
  intro w' hw';cases a with
  | none =>
    rcases h with rfl | ⟨_,_,h,_⟩
    · have:news=[]:=br (by simpa using hl)
      subst this;exact ju w' _ _ _ _
    · cases h
  | some a =>
    refine gO w' size n a n cap news hl ?_;intro j v hj;rcases h with rfl | ⟨b,o,h,hr⟩
    · have:news=[]:=br (by simpa using hl)
      subst this; simp at hj
    · simp only [aa] at h;subst h;rw [tU,show w'.cell? ⟨b,o + j,none⟩=w.cell? ⟨b,o + j,none⟩ by simp [World.cell?,hw']]
      exact hr j v hj
 pre:=by
  intro k hk;have xe:(news.take (k * size)).length=k * size:=by rw [aW,hl]; exact cY (iY _ hk)
  cases a with
  | none =>
    rcases h with rfl | ⟨_,_,h,_⟩
    · have:news=[]:=br (by simpa using hl)
      subst this;rw [iA];exact ju w _ _ _ _
    · cases h
  | some a =>
    refine gO w size k a n cap _ xe ?_;intro j v hj;rcases h with rfl | ⟨b,o,h,hr⟩
    · have:news=[]:=br (by simpa using hl)
      subst this; simp at hj
    · simp only [aa] at h;subst h;rw [tU];refine hr j v ?_;have eF:=(aF.1 hj).1;rw [aW] at eF
      rwa [dK (by omega)] at hj
section
variable {t ty e:TypeId} {i:TypeInfo} {z:Value} (ht:P.underlying t=some (.slice e)) (hi:P.info? e=some i)
include ht hi
theorem Qv {x:Value} (a:Option Addr) (len cap:Nat) (hx:lf P w i.size x 0 []) (hc:len ≤ cap) :
 (cZ #[t,t] ty #[.slice a len cap,x]).run P w=.ok (.slice a len cap) w:=by
 obtain ⟨xb,xc,rfl⟩:=hx.val;have hf:=hx.rd w rfl;cases a <;> simp [cZ,aZ ht,sizeOf,typeInfo,hi,gJ,hf,hc,storeCells]
theorem C4w {x:Value} {b len n cap:Nat} {news:List Value} (hx:lf P w i.size x n news) (hc:len + n ≤ cap) (h1:∀ u ∈ news,u.oneCell'=true)
 (gQ:∀ j,j < news.length→(w.cell? ⟨b,len * i.size + j,none⟩).isSome=true) (hf:∀ j,w.frozen? ⟨b,j,none⟩=false) :
 (cZ #[t,t] ty #[.slice (some ⟨b,0,none⟩) len cap,x]).run P w=.ok (.slice (some ⟨b,0,none⟩) (len + n) cap) (w.setCells b (len * i.size) news):=by
 obtain ⟨xb,xc,rfl⟩:=hx.val;have Qw:=hx.rd w rfl;have hst:=iX (P:=P) b (len * i.size) news 0 w (by simpa using gQ) (fun j _=>hf _) h1
 simp only [dF] at hst;simp [cZ,aZ ht,sizeOf,typeInfo,hi,gJ,Qw,hc,tU,hst]
theorem C2v (hz:i.zero=some z) {x:Value} {a:Option Addr} {len n cap:Nat} {olds news:List Value} (hs:lf P w i.size (.slice a len cap) len olds) (hx:lf P w i.size x n news) (hc:cap < len + n)
 (D6:((len + n:Nat):Int) ≤ 9223372036854775807) (qV:(len + n) * i.bytes ≤ 140737488355328) :
 (cZ #[t,t] ty #[.slice a len cap,x]).run P w=.ok (.slice (some ⟨w.heap.size,0,none⟩) (len + n) (grownCap w (len + n) cap e))
   (w.drew.alloc (.cells (olds++news++(aY z.cells (grownCap w (len + n) cap e - (len + n))).toList).toArray e)):=by
 obtain ⟨xb,xc,rfl⟩:=hx.val;have hn:¬ (len + n ≤ cap):=by omega
 have Ir:¬ (9223372036854775807 < ((len:Int) + (n:Int))):=by omega
 have h48:=l8 hc qV;have Qx:¬ (281474976710656 < Builtin.nextslicecap (len + n) cap * i.bytes):=by omega
 have hf:=hx.rd w.drew rfl;have Mm:=hs.rd w.drew rfl;simp [cZ,aZ ht,sizeOf,typeInfo,zeroValue,hi,hz,gJ,hn,Ir,Qx,Question.forced,hf,Mm,newRow,grownCap];congr 2;apply gI;simp
end
structure Ee (w w':World) (an:An) (γ z len n:Nat) (a':Option Addr) (o6:Nat) (bo:Option Nat) (capn:Nat) (cs:List Value):Prop where
 os:w'.os=w.os
 tape:w'.tape=w.tape
 output:w'.output=w.output
 size:w.heap.size ≤ w'.heap.size
 bm:∀ b,b < w.heap.size→an.b ≠ some b→w'.heap[b]?=w.heap[b]?
 le:len + n ≤ o6
 kE:kR ⟨γ,bo,capn⟩ z 0 (len + n) a' o6
 non:bo=none→len + n=0∧capn=0
 Xa:∀ b,bo=some b→(an.b=some b∨b=w.heap.size∧b < w'.heap.size)∧lT w' b (capn * z)∧len + n ≤ capn∧Row w' b 0 cs
theorem Qy {t ty e:TypeId} {i:TypeInfo} {zv:Value} (ht:P.underlying t=some (.slice e)) (hi:P.info? e=some i) (hz:i.zero=some zv) (sP:zv.cells.size=i.size) (γ:Nat) {x:Value} {a:Option Addr} {len n cap:Nat} {an:An} {olds news:List Value}
 (hh:kR an i.size 0 len a cap) (nF:len ≤ cap) (pI:an.b=none→an.cap=0) (Is:olds.length=len * i.size) (hb:∀ b,an.b=some b→lT w b (an.cap * i.size)∧len ≤ an.cap∧Row w b 0 olds)
 (hx:lf P w i.size x n news) (h1:∀ u ∈ news,u.oneCell'=true) (D6:len + n ≤ room) (qV:(len + n) * i.bytes ≤ room) :
 ∃ a' o6 w' bo capn,(cZ #[t,t] ty #[.slice a len cap,x]).run P w=.ok (.slice a' (len + n) o6) w'∧Ee w w' an γ i.size len n a' o6 bo capn (olds++news):=by
 have Ir:len + n ≤ 140737488355328:=D6;have It:(len + n) * i.bytes ≤ 140737488355328:=qV;by_cases hn:n=0
 · subst hn
   have:news=[]:=br (by simpa using hx.len)
   subst this;refine ⟨a,cap,w,an.b,an.cap,Qv ht hi a len cap hx nF,rfl,rfl,rfl,ar _,fun _ _ _=>rfl,nF,?_,?_,?_⟩
   · simp only [kR] at hh ⊢; exact hh
   · intro AA; simp only [kR,AA] at hh; exact ⟨hh.1,pI AA⟩
   · intro b wi;obtain ⟨h2,h3,h4⟩:=hb b wi;exact ⟨.inl wi,h2,h3,by rw [bD]; exact h4⟩
 · by_cases hc:len + n ≤ cap
   · cases kC:an.b with
     | none=>simp only [kR,kC] at hh; omega
     | some b =>
       obtain ⟨h2,h3,h4⟩:=hb b kC;simp only [kR,kC] at hh;obtain ⟨nX,hh⟩:=hh;rcases hh with ⟨h5,h6⟩ | h5
       · omega
       · have ha:a=some ⟨b,0,none⟩:=by rw [h5,c9]
         subst ha;have hle:len * i.size + news.length ≤ an.cap * i.size:=by
          rw [hx.len,← gX]; exact iY _ (by omega)
         have gQ:∀ j,j < news.length→(w.cell? ⟨b,len * i.size + j,none⟩).isSome=true:=fun j hj=>(h2.cell (by omega)).1
         have hr:=C4w (ty:=ty) ht hi hx hc h1 gQ (fun j=>h2.frozen)
         obtain ⟨s1,s2,s3,s4⟩:=wZ b news (len * i.size) w;refine ⟨_,_,_,some b,an.cap,hr,s2,s3,s4,by rw [s1]; exact ar _,fun x _ hx=>v8 (fun e:x=b=>hx (e ▸ kC)) _ _ _,by omega,?_,by simp,?_⟩
         · simp only [kR]; exact ⟨nX,.inr (by rw [c9])⟩
         · intro b' jr;cases jr;refine ⟨.inl kC,h2.setCells _ _ _,by omega,Row.append.2 ⟨?_,?_⟩⟩
           · refine h4.iT (fun j Bn CS=>?_)
             exact World.cell?_setCells_out b news (len * i.size) w ⟨b,j,none⟩ (fun _ _=>.inl (by simp only; omega))
           · rw [bR,Is]; exact Row.setCells gQ
   · have hso:lf P w i.size (.slice a len cap) len olds:=by
      refine lf.o5 Is ?_;by_cases hl0:len=0
      · exact .inl hl0
      · cases kC:an.b with
        | none=>simp only [kR,kC] at hh; omega
        | some b =>
          obtain ⟨h2,h3,h4⟩:=hb b kC;simp only [kR,kC] at hh;obtain ⟨nX,hh⟩:=hh;rcases hh with ⟨h5,h6⟩ | h5
          · omega
          · exact .inr ⟨b,0,by rw [h5,c9],h4⟩
     have hr:=C2v (ty:=ty) ht hi hz hso hx (by omega) (by omega) It
     have wg:=grownCap_ge w (len + n) cap e;have agl:grownCap w (len + n) cap e ≤ 9223372036854775807:=jQ w (len + n) cap e (by unfold maxLen; omega)
     refine ⟨_,_,_,some w.heap.size,grownCap w (len + n) cap e,hr,rfl,rfl,rfl,by simp,fun b hb _=>od w.drew _ b hb,wg,?_,by simp,?_⟩
     · simp only [kR]; exact ⟨by omega,.inr (by rw [c9])⟩
     · intro b' jr;cases jr;have g:=Grown.drew w (olds++news++(aY zv.cells (grownCap w (len + n) cap e - (len + n))).toList).toArray e;have hsz:(olds++news++(aY zv.cells (grownCap w (len + n) cap e - (len + n))).toList).toArray.size=grownCap w (len + n) cap e * i.size:=by
        simp only [fB,aQ,Is,hx.len,dW,size_zeroCells,sP,← gX];congr 1; omega
       refine ⟨.inr ⟨rfl,by rw [g.size]; omega⟩,?_,wg,g.row (p:=[]) (c:=olds++news) (q:=(aY zv.cells (grownCap w (len + n) cap e - (len + n))).toList) (by simp)⟩
       have:=g.blk
       rwa [hsz] at this
end
end Go.Mid
namespace Go.Mid
open Go.RowKit
section
variable {w w':World} {A:Nat→Prop} {E:dL An} {nx nx':di} {h:cj}
mutual
theorem C6a (g:Nat):∀ {t:T An} {cs:List Value},TC w A E nx t cs→TC w A E nx (t.mapA (mV g)) cs
 | .p v,cs,h=>h
 | .m v,cs,h=>h
 | .agg l,cs,h=>by simp only [TC,T.mapA] at h ⊢; exact Mn g h
 | .vec an z l n,cs,h=>by
   simp only [TC,T.mapA] at h ⊢;obtain ⟨a,cap,h1,h2,h3,h4⟩:=h;exact ⟨a,cap,h1,by rw [T.mapAs_eq,aB]; exact h2,h3,WG g h4⟩
 | .mp ..,cs,h=>by simp only [TC] at h
 | .hole n,cs,h=>h
theorem Mn (g:Nat):∀ {l:List (T An)} {cs:List Value},j4 w A E nx l cs→j4 w A E nx (T.cI (mV g) l) cs
 | [],cs,h=>by simpa only [j4,T.cI] using h
 | t::r,cs,h=>by
   simp only [j4,T.cI] at h ⊢;obtain ⟨c,d,h1,h2,h3⟩:=h;exact ⟨c,d,h1,C6a g h2,Mn g h3⟩
end
mutual
theorem TC.one:∀ {t:T An} {cs:List Value},Ct (t.mapA An.g)=true→TC w A E nx t cs→∀ c ∈ cs,c.oneCell'=true
 | .p v,cs,_,h=>by simp only [TC] at h; exact h.ka
 | .m v,cs,hs,h=>by
   simp only [TC] at h;obtain ⟨_,_,val,h1,rfl⟩:=h;intro c hc;simp only [aX] at hc;subst hc;cases v <;> simp only [T.mapA,Ct,reduceCtorEq] at hs <;> simp only [bQ] at h1
   · obtain ⟨_,_,_,rfl,_⟩:=h1; rfl
   · obtain ⟨_,_,rfl,_⟩:=h1; rfl
   · obtain ⟨_,rfl,_⟩:=h1; unfold vf; split <;> rfl
 | .agg l,cs,hs,h=>by simp only [TC] at h; simp only [T.mapA,Ct] at hs; exact j4.one hs h
 | .vec ..,cs,_,h=>by
   simp only [TC] at h;obtain ⟨_,_,rfl,_⟩:=h;intro c hc; simp only [aX] at hc; subst hc; rfl
 | .mp ..,cs,_,h=>by simp only [TC] at h
 | .hole n,cs,hs,_=>by simp [T.mapA,Ct] at hs
theorem j4.one:∀ {l:List (T An)} {cs:List Value},Af (T.cI An.g l)=true→j4 w A E nx l cs→∀ c ∈ cs,c.oneCell'=true
 | [],cs,_,h=>by simp only [j4] at h; subst h; intro c hc; cases hc
 | t::r,cs,hs,h=>by
   simp only [j4] at h;simp only [T.cI,Af,aj] at hs;obtain ⟨c,d,rfl,h1,h2⟩:=h;intro x hx;rcases ay.1 hx with hx | hx
   · exact TC.one hs.1 h1 x hx
   · exact j4.one hs.2 h2 x hx
end
theorem Qz {l:List (T An)} (h:(l.map (T.mapA An.g)).all tj=true):∃ vs:List PV,l=vs.map .p:=by
 induction l with
 | nil=>exact ⟨[],rfl⟩
 | cons t r ih =>
   simp only [aD,dC,aj] at h;obtain ⟨vs,fR⟩:=ih h.2;cases t <;> simp only [T.mapA,tj,reduceCtorEq] at h
   · exact ⟨_::vs,by rw [fR]; rfl⟩
   all_goals exact absurd h.1 (by simp)
theorem D1H {ts:List (T Nat)} (h:ts.all tj=true):∃ vs:List PV,ts=vs.map .p:=by
 induction ts with
 | nil=>exact ⟨[],rfl⟩
 | cons t r ih =>
   simp only [dC,aj] at h;obtain ⟨vs,fR⟩:=ih h.2;cases t <;> simp only [tj,reduceCtorEq] at h
   · exact ⟨_::vs,by rw [fR]; rfl⟩
   all_goals exact absurd h.1 (by simp)
theorem Mo (g:Nat) (vs:List PV):nM g (vs.map .p)=vs.map .p:=by
 induction vs with
 | nil=>rfl
 | cons x r ih=>simp only [aD,nM,jw,iS] at ih ⊢; rw [ih]
theorem Xb {z:Nat} {l:List (T Nat)} (h:pw z l=true):T.da l=l.length * z:=by
 induction l with
 | nil=>simp [T.da]
 | cons t r ih =>
   simp only [pw,dC,aj,beq_iff_eq] at h;simp only [T.da,ba,ih h.2,h.1,dv];omega
theorem lW.plain {γ:Nat} (hm:MR w A E h nx) {vs:List PV} {cs:List Value} (hc:cK w A vs cs):lW w A E nx γ cs (vs.map .p) h E (vs.map .p) where
 er:=by rw [cm]; rfl
 mr:=hm
 tc:=tX.2 hc
 nd:=by rw [DZ]; exact gf
 own:=by rw [DZ]; intro b hb; cases hb
 sub:=fun _ h=>h
 st:=L9 vs
 ns:=js.refl E
 new:=by
  intro i t ht q y hy;rw [aH] at ht;cases hv:vs[i]? with
  | none=>simp [hv] at ht
  | some v =>
    simp only [hv,ak,aa] at ht;subst ht;rw [Mk] at hy; cases hy
 one:=hc.ka
 ls:=mL.refl E
theorem fE.row:∀ {l:List PV} {b o z:Nat},fE w A l b o z→∃ cs,cK w A l cs∧Row w b o cs
 | [],b,o,z,_=>⟨[],by simp only [cK],Row.nil⟩
 | x::r,b,o,z,k=>by
   simp only [fE] at k;obtain ⟨⟨c,h1,h2,h3⟩,h4⟩:=k;obtain ⟨d,h5,h6⟩:=fE.row h4;exact ⟨c++d,by simp only [cK]; exact ⟨c,d,rfl,h1,h5⟩,Row.append.2 ⟨h3,by rw [h2]; exact h6⟩⟩
theorem Xc {l:List (T An)} {b z:Nat} (k:cD w A E nx l b 0) (hz:∀ t ∈ l,t.cs=z) {off len:Nat} (hl:off + len ≤ l.length):cD w A E nx ((l.drop off).take len) b (off * z):=by
 have e:l=l.take off++((l.drop off).take len++(l.drop off).drop len):=by rw [bM,bM]
 rw [e] at k;have h1:=(cD.append.1 k).2;rw [Aq hz (by omega),bR] at h1
 exact (cD.append.1 h1).1
theorem QA {n:di}:∀ {l m:List (T An)},(∀ t ∈ m,t ∈ l)→T.j7 n l→T.j7 n m:=by
 have get:∀ {l:List (T An)} {t:T An},t ∈ l→T.j7 n l→t.st n:=by
  intro l
  induction l with
  | nil=>intro t ht; cases ht
  | cons x r ih =>
    intro t ht k;simp only [T.j7] at k;rcases aE.1 ht with rfl | ht
    · exact k.1
    · exact ih ht k.2
 intro l m
 induction m with
 | nil=>intro _ _; trivial
 | cons x r ih =>
   intro h k;simp only [T.j7];exact ⟨get (h x (by simp)) k,ih (fun t ht=>h t (by simp [ht])) k⟩
theorem QB {P:Program} {γ:Nat} (hm:MR w A E h nx) {y:MV} {val:Value} {ts:List (T Nat)} {h1:cj} {z:Nat} (hv:bQ w A E nx y val) (ht:rP h y=some (ts,h1)) (hz:pw z ts=true) :
 ∃ news E1 lA,lf P w z val ts.length news∧lW w A E nx γ news (nM γ ts) h1 E1 lA:=by
 unfold rP at ht;split at ht
 · cases ht
 · rename_i Qa gZ;split at ht
   · rename_i p0;simp only [aa,ae] at ht;obtain ⟨rfl,rfl⟩:=ht;obtain ⟨vs,rfl⟩:=D1H p0;have hlen:∀ {cs:List Value},cK w A vs cs→cs.length=(vs.map (T.p (α:=Nat))).length * z:=by
      intro cs hc;rw [hc.len,← CI (α:=Nat),Xb hz]
     rw [Mo];cases y with
     | p v =>
       cases v <;> simp only [elems,reduceCtorEq] at gZ;rename_i l;simp only [aa] at gZ;have hl:l=vs:=by
        have:=congrArg mh gZ
        rw [Bo,Bo] at this;exact b9 this
       subst hl;obtain ⟨p,cap,rfl,nF,nS⟩:=vg.1 hv;rcases nS with rfl | ⟨b,o,z',rfl,hb,gZ⟩
       · refine ⟨[],E,[],?_,lW.plain hm (vs:=[]) (by simp only [cK])⟩
         exact lf.o5 (by simp) (.inl rfl)
       · obtain ⟨cs,h2,h3⟩:=gZ.row;refine ⟨cs,E,_,?_,lW.plain hm h2⟩;rw [aB];exact lf.o5 (by have:=hlen h2; rwa [aB] at this) (.inr ⟨b,o,rfl,h3⟩)
     | nil zz =>
       simp only [elems,aa] at gZ;simp only [bQ] at hv;obtain ⟨a,rfl⟩:=hv
       have:vs=[]:=by
        cases vs with
        | nil=>rfl
        | cons x r=>simp at gZ
       subst this;exact ⟨[],E,[],lf.o5 (by simp) (.inl rfl),lW.plain hm (vs:=[]) (by simp only [cK])⟩
     | own id path off len g =>
       simp only [elems] at gZ;split at gZ
       · rename_i g' z0 l iC;split at gZ
         · rename_i hc;obtain ⟨rfl,hle⟩:=hc;simp only [aa] at gZ;obtain ⟨an,lA,nm,rfl,rfl⟩:=hm.vec iC;have hB:=hm.tR nm;have bW:=sL nm;simp only [bQ] at hv;obtain ⟨_,a,cap,rfl,nF,hh⟩:=hv;have kE:=hh an z0 bW rfl;rw [aB] at hle;have Ef:((lA.drop off).take len).map (T.mapA An.g)=vs.map .p:=by rw [← gZ]; simp
           obtain ⟨xP,Eg⟩:=Qz (l:=(lA.drop off).take len) (by rw [Ef]; exact p0)
           have Gj:xP=vs:=by
            rw [Eg,cm] at Ef
            have:(xP.map (T.p (α:=Nat)))=vs.map .p:=Ef
            have:=congrArg mh this
            rw [Bo,Bo] at this;exact b9 this
           subst Gj;have yU:xP.length=len:=by
            have:=congrArg cq Eg
            simp at this; omega
           simp only [VB] at hB;cases hb:an.b with
           | none =>
             simp only [hb] at hB
             have:len=0:=by have:=hB.1; subst this; simp at hle; omega
             subst this
             have:xP=[]:=br yU
             subst this;exact ⟨[],E,[],lf.o5 (by simp) (.inl rfl),lW.plain hm (vs:=[]) (by simp only [cK])⟩
           | some b =>
             simp only [hb] at hB;obtain ⟨_,_,Ib,kS⟩:=hB;have dJ:=Xc kS Ib hle;rw [Eg] at dJ;obtain ⟨cs,h2,h3⟩:=(qY.1 dJ).tc;simp only [TC,dR] at h2;refine ⟨cs,E,_,?_,lW.plain hm h2⟩;rw [aB,yU];refine lf.o5 (by have:=hlen h2; rwa [aB,yU] at this) ?_
             simp only [kR,hb] at kE;rcases kE.2 with ⟨h5,_⟩ | h5
             · exact .inl h5
             · exact .inr ⟨b,off * z0,h5,h3⟩
         · cases gZ
       · cases gZ
     | ptr=>simp only [elems,reduceCtorEq] at gZ
     | fy=>simp only [elems,reduceCtorEq] at gZ
     | agg=>simp only [elems,reduceCtorEq] at gZ
     | fn=>simp only [elems,reduceCtorEq] at gZ
     | eJ=>simp only [elems,reduceCtorEq] at gZ
     | dead=>simp only [elems,reduceCtorEq] at gZ
   · split at ht
     · rename_i id len g;split at ht
       · rename_i g1 z1 l gq;split at ht
         · rename_i hc;obtain ⟨rfl,QC⟩:=hc;simp only [aa,ae] at ht;obtain ⟨rfl,rfl⟩:=ht;simp only [elems] at gZ;split at gZ
           · rename_i g' z0 l2 iC;split at gZ
             · rename_i hc;obtain ⟨rfl,hle⟩:=hc;simp only [aa] at gZ;obtain ⟨an,lA,Iu,rfl,BD,xN,lX,gV,iL,dJ⟩:=hm.tY gq;have Iv:jo (h id) []=some (an.g,z1,l):=by rw [gq]; rfl
               rw [Iv] at iC;simp only [aa,ae] at iC;obtain ⟨rfl,rfl,rfl⟩:=iC;rw [fm,List.take_length] at gZ;subst gZ;have bW:fg (E id) (some [])=some (an,some z1):=by rw [Iu]; rfl
               simp only [bQ] at hv;obtain ⟨_,a,cap,rfl,nF,hh⟩:=hv;have kE:=hh an z1 bW rfl;have hst:=hm.st id _ Iu;simp only [Obj.st] at hst;have yV:VB w A (cz E id (some .gone)) nx an z1 lA:=lX.frame (js.fr (js.gone E id) (di.le_refl nx)) (fun _ _=>rfl)
               have Iw:(T.cI An.g lA)=lA.map (T.mapA An.g):=T.mapAs_eq _ _;have eY:∃ news,j4 w A (cz E id (some .gone)) nx lA news∧(l.length=0∨∃ b o,a=some ⟨b,o,none⟩∧Row w b o news):=by
                simp only [VB] at yV;cases hb:an.b with
                | none =>
                  simp only [hb] at yV;have h0:=yV.1;subst h0;refine ⟨[],by simp only [j4],.inl (by rw [BD]; rfl)⟩
                | some b =>
                  simp only [hb] at yV;obtain ⟨cs,h2,h3⟩:=yV.2.2.2.tc;refine ⟨cs,h2,?_⟩;simp only [kR,hb] at kE;rcases kE.2 with ⟨h5,_⟩ | h5
                  · exact .inl h5
                  · exact .inr ⟨b,0,by rw [h5,c9],h3⟩
               obtain ⟨news,yW,hrow⟩:=eY;refine ⟨news,cz E id (some .gone),T.cI (mV γ) lA,lf.o5 (by rw [yW.len,← T.qN An.g,Iw,← BD,Xb hz]) hrow,?_⟩
               constructor
               · rw [← T.mapAs_eq,CM,Iw,← BD]
               · exact xN
               · exact Mn γ yW
               · rw [yN]; exact (aT.1 gV).2.1
               · rw [yN]; exact fun b hb=>iL b (by simp [hb])
               · exact dJ
               · exact CL nx γ lA
               · exact js.gone E id
               · intro i t ht q y hy;rw [T.mapAs_eq,aH] at ht;cases hl:lA[i]? with
                 | none=>simp [hl] at ht
                 | some u =>
                   simp only [hl,ak,aa] at ht;subst ht;exact Il hy
               · exact j4.one (by rw [Iw,← BD]; exact QC) yW
               · exact mL.gone E id
             · cases gZ
           · cases gZ
         · cases ht
       · cases ht
     · cases ht
end
end Go.Mid
namespace Go.Mid
open Go.RowKit
section
variable {w w':World} {A:Nat→Prop} {E Eb:dL An} {nx:di} {γ:Nat} {h hb:cj}
theorem Mp (hγ:¬ nx γ) (m:MR w A E h nx) (mb:MR w A Eb hb nx) (dJ:∀ b,jq Eb b→jq E b) (hnE:oO nx E Eb) {an:An} {z len n capn o6 d:Nat} {a':Option Addr} {bo:Option Nat} {cs:List Value} {l:List (T An)}
 (k:Ee w w' an γ z len n a' o6 bo capn cs) (hlen:l.length=len + n) (hz:∀ t ∈ l,t.cs=z) (htc:j4 w A Eb nx l cs)
 (gV:(T.b6 l).Nodup) (iL:∀ b ∈ T.b6 l,jq E b∧(∀ j o,j ≠ d→Eb j=some o→b ∉ o.blk)∧an.b ≠ some b)
 (Gk:∀ b,an.b=some b→jq E b∧∀ j o,j ≠ d→Eb j=some o→b ∉ o.blk) (hst:T.j7 (nx.add γ) l)
 (pG:∀ (i:Nat) (t:T An),l[i]?=some t→∀ q y,fH t q=some y→nx y.1.g→fg (Eb d) (some (i::q))=some y) :
 ∃ E2,MR w' A E2 (cz hb d (some (.vec γ z (l.map (T.mapA An.g))))) (nx.add γ)∧gE w A E nx w' A E2∧bQ w' A E2 (nx.add γ) (.own d [] 0 (len + n) γ) (.slice a' (len + n) o6):=by
 have AA:∀ b,bo=some b→(an.b=some b∨b=w.heap.size∧b < w'.heap.size):=fun b hb=>(k.Xa b hb).1
 have vm:∀ np y,fg (some (.vec ⟨γ,bo,capn⟩ z l)) np=some y→nx y.1.g→fg (Eb d) np=some y:=by
  intro np y hy hg;cases np with
  | none=>simp [fg] at hy
  | some q =>
    have Ei:=hy;rw [sO] at hy;cases q with
    | nil =>
      simp only [Obj.pF,fH,cU,aa] at hy;subst hy;exact (hγ hg).elim
    | cons i r =>
      simp only [Obj.pF,Bq] at hy;cases hl:l[i]? with
      | none=>simp [hl] at hy
      | some t=>simp only [hl,ai] at hy; exact pG i t hl r y hy hg
 have iM:∀ b ∈ (Obj.vec ⟨γ,bo,capn⟩ z l).blk,bo=some b∨b ∈ T.b6 l:=by
  intro b hb;simp only [Obj.blk,ay,Option.mem_toList] at hb;exact hb
 have yX:∀ b,jq E b→b < w.heap.size∧¬ A b:=m.lt;have s:yT w w' A Eb nx (nx.add γ) d (.vec ⟨γ,bo,capn⟩ z l):=by
  refine ⟨nx.eH γ,k.size,?_,vm,?_,?_,?_,⟨nx.iG γ,hst⟩⟩
  · intro b hb nS;refine k.bm b hb (fun e=>?_)
    rcases nS with hA | ⟨j,o,hj,ho,lV⟩
    · exact (yX b (Gk b e).1).2 hA
    · exact (Gk b e).2 j o hj ho lV
  · intro b hb;rcases iM b hb with hb | hb
    · rcases AA b hb with e | ⟨rfl,h2⟩
      · have:=yX b (Gk b e).1; exact ⟨bp this.1 k.size,this.2⟩
      · exact ⟨h2,fun hA=>absurd (m.im _ hA) (by omega)⟩
    · have:=yX b (iL b hb).1; exact ⟨bp this.1 k.size,this.2⟩
  · simp only [Obj.blk];cases lV:bo with
    | none=>simpa using gV
    | some b =>
      simp only [cg,aS,a6];refine bV.2 ⟨fun hb=>?_,gV⟩
      rcases AA b lV with e | ⟨rfl,_⟩
      · exact (iL b hb).2.2 e
      · have:=(yX _ (iL _ hb).1).1; omega
  · intro b hb j o hj ho lV;rcases iM b hb with hb | hb
    · rcases AA b hb with e | ⟨rfl,_⟩
      · exact (Gk b e).2 j o hj ho lV
      · have:=(mb.j3 ho lV).1; omega
    · exact (iL b hb).2.1 j o hj ho lV
 have f:=s.fr mb;have sQ:∀ x ∈ T.b6 l,w'.heap[x]?=w.heap[x]?:=fun x hx=>k.bm x (yX x (iL x hx).1).1 (iL x hx).2.2
 have Ix:=htc.frame f sQ;have kS:OAt w' A (cz Eb d (some (.vec ⟨γ,bo,capn⟩ z l))) (nx.add γ) (.vec ⟨γ,bo,capn⟩ z l):=by
  simp only [OAt,VB];cases lV:bo with
  | none =>
    have:=k.non lV
    refine ⟨br (by omega),this.2⟩
  | some b =>
    obtain ⟨_,h2,h3,h4⟩:=k.Xa b lV;rw [lV] at Ix;exact ⟨h2,by omega,hz,Ix.at_ h4⟩
 refine ⟨cz Eb d (some (.vec ⟨γ,bo,capn⟩ z l)),?_,?_,?_⟩
 · have:=mb.Ea s kS
   simpa only [Obj.mapA,T.mapAs_eq] using this
 · refine gE.of (E1:=Eb) ⟨k.os,k.tape,k.output⟩ k.size (fun b hb ho=>k.bm b hb (fun e=>ho (Gk b e).1)) ?_ hnE f.hE
   intro b eF ho;rcases Aw ho with h1 | ⟨i,oi,hi,rV,Ay⟩
   · rcases iM b h1 with h2 | h2
     · rcases AA b h2 with e | ⟨rfl,_⟩
       · exact (Gk b e).1
       · omega
     · exact (iL b h2).1
   · exact dJ b ⟨i,oi,rV,Ay⟩
 · simp only [bQ];refine ⟨nx.iG γ,_,_,rfl,k.le,fun qF z' hn _=>?_⟩
   rw [nG] at hn;simp only [fg,aa,ae] at hn;obtain ⟨rfl,rfl⟩:=hn;exact k.kE
end
section
variable {P:Program} {o:Oper} {a:Act} {w:World} {A:Nat→Prop} {E:dL An} {nx:di} {γ:Nat} {v:MV} {h h':cj} {s:gD} {K:jl} {d:Option Nat}
theorem QD {c:Call} {t:TypeId} {x y:Operand} (ho:o.op=.call c) (pB:c.callee=.builtin .append) (oP:c.args=#[x,y]) (sr:c.argTypes=#[t,t]) :
 (execOp a.eval o).run P w=match (cZ #[t,t] o.type #[a.eval x,a.eval y]).run P w with | .ok v w'=>.ok (.value v) w' | .halt e w'=>.halt e w':=by
 rw [Bm ho pB];simp only [builtin,oP,sr];simp only [bn,bL];have e:qm a.eval #[x,y]=#[a.eval x,a.eval y]:=by simp
 rw [e];cases (cZ #[t,t] o.type #[a.eval x,a.eval y]).run P w <;> rfl
theorem Xd {an:An} {z len:Nat} {l:List (T An)} (k:VB w A E nx an z l) (hl:len ≤ l.length):∃ olds,j4 w A E nx (l.take len) olds∧olds.length=len * z∧(∀ t ∈ l.take len,t.cs=z) ∧
 (an.b=none→an.cap=0)∧∀ b,an.b=some b→lT w b (an.cap * z)∧len ≤ an.cap∧Row w b 0 olds:=by
 simp only [VB] at k;cases hb:an.b with
 | none =>
   simp only [hb] at k;obtain ⟨rfl,k2⟩:=k;simp only [List.length_nil,Nat.le_zero] at hl;subst hl;exact ⟨[],by simp only [iA,j4],by simp,by simp,fun _=>k2,by simp⟩
 | some b =>
   simp only [hb] at k;obtain ⟨k1,k2,k3,k4⟩:=k;have h1:=Xc k4 k3 (off:=0) (len:=len) (by omega)
   rw [fm,c9] at h1;obtain ⟨olds,h2,h3⟩:=h1.tc;have hz:∀ t ∈ l.take len,t.cs=z:=fun t ht=>k3 t (dh ht)
   refine ⟨olds,h2,?_,hz,by simp,fun b' jr=>?_⟩
   · rw [h2.len]
     have:=Aq (l:=l) (i:=len) k3 hl
     exact this
   · cases jr;exact ⟨k1,by omega,h3⟩
theorem Xe {l:List (T An)} {n:Nat}:∃ rest,T.b6 l=T.b6 (l.take n)++rest:=⟨T.b6 (l.drop n),by rw [← v7,bM]⟩
theorem D1I (hm:MR w A E h nx) (hγ:¬ nx γ) {t e:TypeId} {xv yv:MV} {vx vy:Value} (ht:P.underlying t=some (.slice e)) (rG:P.cellsOf e ≠ 0) (we:P.bytesOf e ≠ 0) (hz:(vd P e).map cq=some (P.cellsOf e))
 (hx:bQ w A E nx xv vx) (hy:bQ w A E nx yv vy) (he:rB γ d h (P.cellsOf e) (P.bytesOf e) xv yv=some (v,h')) (ty:TypeId) :
 ∃ val w' E2,(cZ #[t,t] ty #[vx,vy]).run P w=.ok val w'∧MR w' A E2 h' (nx.add γ)∧gE w A E nx w' A E2∧bQ w' A E2 (nx.add γ) v val:=by
 cases rW:vd P e with
 | none=>simp [rW] at hz
 | some zc =>
   simp only [rW,ak,aa] at hz;obtain ⟨zv,_,mz,i,hi,CQ⟩:=CP rW w;have q8:P.bytesOf e=i.bytes:=by simp [nK,hi]
   have n3:P.cellsOf e=i.size:=by simp [jK,hi]
   have sP:zv.cells.size=i.size:=by rw [mz,← n3]; simpa using hz
   rw [n3] at he rG;rw [q8] at he we;unfold rB at he;split at he
   · cases he
   · rename_i ts h1 BE;split at he
     · cases he
     · rename_i eY;have Iy:pw i.size ts=true:=by simpa using eY
       obtain ⟨news,E1,lA,jB,kA⟩:=QB (P:=P) (γ:=γ) hm hy BE Iy;have nW:lA.length=ts.length:=by
        have:=congrArg cq kA.er
        simp only [aB,nM] at this;rw [this]
        have:∀ l:List (T Nat),(jw (fun v=>v) (fun _=>γ) l).length=l.length:=by
         intro l; induction l with
         | nil=>rfl
         | cons x r ih=>simp only [jw,ba,ih]
        exact this ts
       have QE:∀ t ∈ lA,t.cs=i.size:=by
        have h2:pw i.size (lA.map (T.mapA An.g))=true:=by
         rw [kA.er]
         have:∀ l:List (T Nat),pw i.size l=true→pw i.size (nM γ l)=true:=by
          intro l;have QF:∀ t:T Nat,(iS (fun v=>v) (fun _=>γ) t).cs=t.cs:=by
           have key:(∀ t:T Nat,(iS (fun v=>v) (fun _=>γ) t).cs=t.cs):=by
            intro t;refine T.rec (motive_1:=fun t=>(iS (fun v=>v) (fun _=>γ) t).cs=t.cs) (motive_2:=fun l=>T.da (jw (fun v=>v) (fun _=>γ) l)=T.da l) ?_ ?_ ?_ ?_ ?_ ?_ ?_ ?_ t
            · intro v; rfl
            · intro v; rfl
            · intro l ih; simp only [iS,T.cs]; exact ih
            · intro a z l n ih; rfl
            · intro a ks vs ih; rfl
            · intro n; rfl
            · rfl
            · intro hd tl h1 h2; simp only [jw,T.da,h1,h2]
           exact key
          induction l with
          | nil=>intro _; rfl
          | cons x r ih =>
            intro hl;simp only [pw,dC,aj,beq_iff_eq,nM,jw] at hl ih ⊢;exact ⟨by rw [QF]; exact hl.1,ih hl.2⟩
         exact this ts Iy
        intro t ht;simp only [pw,bB,beq_iff_eq] at h2
        have:=h2 _ (dX ht)
        rwa [T.j9] at this
       have wj:∀ b ∈ T.b6 lA,∀ (j:Nat) (o:Obj An),E1 j=some o→b ∉ o.blk:=fun b hb j o ho lV=>(kA.own b hb).2 ⟨j,o,ho,lV⟩
       have BF:1 ≤ i.bytes:=ew we;have vn:∀ k,k * i.bytes ≤ room→k ≤ room:=fun k hk=>du (gR k BF) hk
       split at he
       · -- nil
         split at he
         · rename_i fS;cases d with
           | none=>simp [mS] at he
           | some d =>
             simp only [mS,bK,aa,ae] at he;obtain ⟨rfl,rfl⟩:=he;simp only [bQ] at hx;obtain ⟨ax,rfl⟩:=hx;obtain ⟨a',o6,w',bo,capn,gr,k⟩:=Qy (ty:=ty) ht hi CQ sP γ (an:=⟨γ,none,0⟩) (a:=ax) (len:=0) (cap:=0) (olds:=[]) ⟨rfl,rfl⟩ (ar _) (fun _=>rfl) (by simp) (by simp) jB kA.one (by rw [bR]; exact vn _ fS) (by rw [bR]; exact fS)
             rw [a6] at k;obtain ⟨E2,k1,k2,k3⟩:=Mp (d:=d) hγ hm kA.mr kA.sub (kA.ns.D2 nx) k (by rw [nW,bR]) QE kA.tc kA.nd (fun b hb=>⟨(kA.own b hb).1,fun j o _ ho=>wj b hb j o ho,by simp⟩) (by simp) kA.st
              (fun j t hj q y hy hg=>by rw [kA.new j t hj q y hy] at hg; exact (hγ hg).elim)
             rw [kA.er] at k1;rw [bR] at gr k3;exact ⟨_,w',E2,gr,k1,k2,k3⟩
         · cases he
       · rename_i id path off len g0;split at he
         · rename_i lz;subst lz;have uJ:=hx.frame (js.fr (w:=w) (A:=A) kA.ns (di.le_refl nx));simp only [bQ] at uJ;obtain ⟨xQ,ax,cap,rfl,nF,hh⟩:=uJ;split at he
           · -- a root
             rename_i g1 z1 l gq;unfold DM at he;split at he
             · rename_i hc;obtain ⟨rfl,rfl,hle,fS⟩:=hc;simp only [aa,ae] at he;obtain ⟨rfl,rfl⟩:=he;rw [kA.mr.er id] at gq;cases qn:E1 id with
               | none=>simp [qn] at gq
               | some ob =>
                 cases ob <;> simp only [qn,ak,Obj.mapA,reduceCtorEq,aa,Obj.vec.injEq] at gq;rename_i an z' l';obtain ⟨rfl,rfl,rfl⟩:=gq;rw [T.mapAs_eq,aB] at hle;have kE:=hh an i.size (by rw [qn]; rfl) rfl
                 have lX:VB w A E1 nx an i.size l':=by have:=kA.mr.at_ id _ qn; simpa only [OAt] using this
                 obtain ⟨olds,h2,h3,h4,h5,h6⟩:=Xd lX hle;obtain ⟨a',o6,w',bo,capn,gr,k⟩:=Qy (ty:=ty) ht hi CQ sP γ kE nF h5 h3 h6 jB kA.one (vn _ fS) fS;obtain ⟨rest,nZ⟩:=Xe (l:=l') (n:=len);have q9:=kA.mr.nd id _ qn;simp only [Obj.blk] at q9;have yY:=(aT.1 q9).2.1;rw [nZ] at yY;have ra:∀ b ∈ T.b6 (l'.take len),b ∈ (Obj.vec an i.size l').blk:=fun b hb=>by simp only [Obj.blk,ay]; exact .inr (by rw [nZ]; simp [hb])
                 obtain ⟨E2,k1,k2,k3⟩:=Mp (d:=id) hγ hm kA.mr kA.sub (kA.ns.D2 nx) k (l:=l'.take len++lA) (by rw [aQ,aW,nW,cY hle])
                  (fun t ht=>(ay.1 ht).elim (h4 t) (QE t)) (h2.append kA.tc)
                  (by
                    rw [v7];refine aT.2 ⟨(aT.1 yY).1,kA.nd,?_⟩;rintro b hb _ jr rfl;exact wj b jr id _ qn (ra b hb))
                  (fun b hb=>by
                    rw [v7] at hb;rcases ay.1 hb with hb | hb
                    · refine ⟨kA.sub b ⟨id,_,qn,ra b hb⟩,fun j o hj ho=>kA.mr.dj id j _ o (dw hj) qn ho b (ra b hb),fun e=>?_⟩
                      rw [e] at q9;exact (aT.1 q9).2.2 b (by simp) b (by rw [nZ]; simp [hb]) rfl
                    · refine ⟨(kA.own b hb).1,fun j o _ ho=>wj b hb j o ho,fun e=>?_⟩
                      exact wj b hb id _ qn (by simp [Obj.blk,e]))
                  (fun b e=>by
                    have hbm:b ∈ (Obj.vec an i.size l').blk:=by simp [Obj.blk,e]
                    exact ⟨kA.sub b ⟨id,_,qn,hbm⟩,fun j o hj ho=>kA.mr.dj id j _ o (dw hj) qn ho b hbm⟩)
                  (by
                    have hst:=kA.mr.st id _ qn;simp only [Obj.st] at hst;have h8:T.j7 (nx.add γ) (l'.take len):=T.lU (nx.eH γ) (QA (fun t ht=>dh ht) hst.2)
                    have:∀ l m:List (T An),T.j7 (nx.add γ) l→T.j7 (nx.add γ) m→T.j7 (nx.add γ) (l++m):=by
                     intro l m
                     induction l with
                     | nil=>intro _ h; exact h
                     | cons x r ih=>intro h1 h2; simp only [T.j7,aS] at h1 ⊢; exact ⟨h1.1,ih h1.2 h2⟩
                    exact this _ _ h8 kA.st)
                  (fun j t hj q y hy hg=>by
                    by_cases AD:j < (l'.take len).length
                    · rw [cP AD] at hj;have BG:l'[j]?=some t:=by
                       rw [aW] at AD;rw [dK (by omega)] at hj; exact hj
                      rw [qn,sO];simp only [Obj.pF,Bq,BG,ai]; exact hy
                    · rw [bE (by omega)] at hj
                      rw [kA.new _ t hj q y hy] at hg; exact (hγ hg).elim)
                 rw [b5,kA.er,bO,← T.mapAs_eq] at k1;exact ⟨_,w',E2,gr,k1,k2,k3⟩
             · cases he
           · -- a place
             unfold Ag at he;split at he
             · rename_i g1 z1 l n dJ;split at he
               · rename_i hc;obtain ⟨rfl,rfl,rfl,hle,fS⟩:=hc;split at he
                 · rename_i oh eR;cases d with
                   | none=>simp [mS] at he
                   | some d =>
                     simp only [mS,bK,aa,ae] at he;obtain ⟨rfl,rfl⟩:=he;obtain ⟨QG,an,l',Xf,bW,rfl,rfl,xN,lX,gV,iL,CT,vm,Gg⟩:=kA.mr.wc dJ eR;rw [aB] at hle;have kE:=hh an i.size bW rfl;have QH:VB w A QG nx an i.size l':=lX.frame (js.fr vm (di.le_refl nx)) (fun _ _=>rfl)
                     have QI:=kA.tc.frame (js.fr (w:=w) (A:=A) vm (di.le_refl nx)) (fun _ _=>rfl)
                     obtain ⟨olds,h2,h3,h4,h5,h6⟩:=Xd QH hle;obtain ⟨a',o6,w',bo,capn,gr,k⟩:=Qy (ty:=ty) ht hi CQ sP γ kE nF h5 h3 h6 jB kA.one (vn _ fS) fS;obtain ⟨rest,nZ⟩:=Xe (l:=l') (n:=len);have yY:=(aT.1 gV).2.1;rw [nZ] at yY;have ra:∀ b ∈ T.b6 (l'.take len),b ∈ an.b.toList++T.b6 l':=fun b hb=>ay.2 (.inr (by rw [nZ]; simp [hb]))
                     have ng:∀ b,¬ jq QG b→∀ (j:Nat) (o:Obj An),QG j=some o→b ∉ o.blk:=fun b hb j o ho lV=>hb ⟨j,o,ho,lV⟩
                     obtain ⟨E2,k1,k2,k3⟩:=Mp (d:=d) hγ hm xN (fun b hb=>kA.sub b (CT b hb)) ((kA.ns.trans vm).D2 nx) k (l:=T.cI (mV γ) (l'.take len)++lA)
                      (by rw [aQ,T.mapAs_eq,aB,aW,nW,cY hle])
                      (fun t ht=>(ay.1 ht).elim (fun ht=>by
                        rw [T.mapAs_eq] at ht;obtain ⟨u,hu,rfl⟩:=bj.1 ht;rw [T.j9]; exact h4 u hu) (QE t)) ((Mn γ h2).append QI)
                      (by
                        rw [v7,yN];refine aT.2 ⟨(aT.1 yY).1,kA.nd,?_⟩;rintro b hb _ jr rfl;exact (kA.own b jr).2 (iL b (ra b hb)).1)
                      (fun b hb=>by
                        rw [v7,yN] at hb;rcases ay.1 hb with hb | hb
                        · refine ⟨kA.sub b (iL b (ra b hb)).1,fun j o _ ho=>ng b (iL b (ra b hb)).2 j o ho,fun e=>?_⟩
                          rw [e] at gV;exact (aT.1 gV).2.2 b (by simp) b (by rw [nZ]; simp [hb]) rfl
                        · refine ⟨(kA.own b hb).1,fun j o _ ho=>ng b (fun hc=>(kA.own b hb).2 (CT b hc)) j o ho,fun e=>?_⟩
                          exact (kA.own b hb).2 (iL b (by simp [e])).1)
                      (fun b e=>by
                        have hbm:=iL b (show b ∈ an.b.toList++T.b6 l' by simp [e])
                        exact ⟨kA.sub b hbm.1,fun j o _ ho=>ng b hbm.2 j o ho⟩)
                      (by
                        have:∀ l m:List (T An),T.j7 (nx.add γ) l→T.j7 (nx.add γ) m→T.j7 (nx.add γ) (l++m):=by
                         intro l m
                         induction l with
                         | nil=>intro _ h; exact h
                         | cons x r ih=>intro h1 h2; simp only [T.j7,aS] at h1 ⊢; exact ⟨h1.1,ih h1.2 h2⟩
                        exact this _ _ (CL nx γ _) kA.st)
                      (fun j t hj q y hy hg=>by
                        by_cases AD:j < (T.cI (mV γ) (l'.take len)).length
                        · rw [cP AD] at hj;rw [T.mapAs_eq,aH] at hj;cases hu:(l'.take len)[j]? with
                          | none=>simp [hu] at hj
                          | some u =>
                            simp only [hu,ak,aa] at hj;subst hj;rw [Il hy] at hg; exact (hγ hg).elim
                        · rw [bE (by omega)] at hj
                          rw [kA.new _ t hj q y hy] at hg; exact (hγ hg).elim)
                     have e:(T.cI (mV γ) (l'.take len)++lA).map (T.mapA An.g)=nM γ ((l'.map (T.mapA An.g)).take len++ts):=by
                      rw [b5,kA.er,← T.mapAs_eq,CM,T.mapAs_eq,bO]
                      have:∀ l m:List (T Nat),nM γ l++nM γ m=nM γ (l++m):=by
                       intro l m
                       induction l with
                       | nil=>rfl
                       | cons x r ih=>simp only [nM,jw,aS] at ih ⊢; rw [ih]
                      exact this _ _
                     rw [e] at k1;exact ⟨_,w',E2,gr,k1,k2,k3⟩
                 · cases he
               · cases he
             · cases he
         · cases he
       · cases he
end
end Go.Mid
namespace Go.Mid
open Go.RowKit
theorem Mq:∀ {l:List (T Nat)} {vs:List PV},kZ l=some vs→vs.length=l.length
 | [],vs,h=>by simp only [kZ,aa] at h; subst h; rfl
 | t::r,vs,h=>by
   simp only [kZ] at h;split at h
   · rename_i h1 h2; cases h; rw [ba,ba,Mq h2]
   · cases h
section
variable {w:World} {A A':Nat→Prop} {E:dL An} {nx:di} {h:cj}
theorem cK.append {l m:List PV} {cs ds:List Value} (h:cK w A l cs) (k:cK w A m ds):cK w A (l++m) (cs++ds):=by
 induction l generalizing cs with
 | nil=>simp only [cK] at h; subst h; exact k
 | cons t r ih =>
   simp only [cK,aS] at h ⊢;obtain ⟨c,d,rfl,h1,h2⟩:=h;exact ⟨c,d++ds,by simp,h1,ih h2⟩
mutual
theorem Mr (hA:∀ b,A b→A' b):∀ {t:T An} {v:PV} {b o:Nat},sG (t.mapA An.g)=some v→(∀ x ∈ t.blk,A' x)→TAt w A E nx t b o→∃ cs,dR w A' v cs∧cs.length=t.cs∧Row w b o cs
 | .p u,v,b,o,h,_,k=>by
   simp only [T.mapA,sG,aa] at h;subst h;simp only [TAt] at k;obtain ⟨cs,h1,h2⟩:=k;exact ⟨cs,h1.frame hA (fun _ _=>rfl),h1.len,h2⟩
 | .m u,v,b,o,h,_,k=>by simp [T.mapA,sG] at h
 | .agg l,v,b,o,h,hb,k=>by
   simp only [T.mapA,sG] at h;split at h
   · rename_i vs fR;cases h;simp only [TAt] at k;obtain ⟨cs,h1,h2,h3⟩:=QJ hA fR (by simpa only [T.blk] using hb) k
     exact ⟨cs,by simpa only [dR] using h1,h2,h3⟩
   · cases h
 | .vec an z l n,v,b,o,h,hb,k=>by
   simp only [T.mapA,sG] at h;split at h
   · rename_i vs fR;cases h;simp only [TAt] at k;obtain ⟨a,cap,h1,h2,h3,h4⟩:=k;have hlen:vs.length=l.length:=by rw [Mq fR,T.mapAs_eq,aB]
     have Bz:(vs.take n).length=n:=by rw [aW]; omega
     refine ⟨[.slice a n cap],?_,rfl,h1⟩;simp only [dR,Bz];cases kC:an.b with
     | none =>
       simp only [kR,kC] at h3;obtain ⟨rfl,rfl⟩:=h3;exact ⟨a,0,rfl,ar _,.inl (by simp)⟩
     | some b' =>
       simp only [kC] at h4;simp only [kR,kC] at h3;refine ⟨a,cap,rfl,by omega,?_⟩
       rcases h3.2 with ⟨rfl,_⟩ | h5
       · exact .inl (by simp)
       · refine .inr ⟨b',0,z,by rw [h5,c9],hb b' (by simp [T.blk,kC]),?_⟩
         exact fE.take n (QK hA fR (fun x hx=>hb x (by simp [T.blk,hx])) h4.2.2.1 h4.2.2.2)
   · cases h
 | .mp ..,v,b,o,h,_,k=>by simp only [TAt] at k
 | .hole n,v,b,o,h,_,k=>by simp [T.mapA,sG] at h
theorem QJ (hA:∀ b,A b→A' b):∀ {l:List (T An)} {vs:List PV} {b o:Nat},kZ (T.cI An.g l)=some vs→(∀ x ∈ T.b6 l,A' x)→cD w A E nx l b o→∃ cs,cK w A' vs cs∧cs.length=T.da l∧Row w b o cs
 | [],vs,b,o,h,_,k=>by
   simp only [T.cI,kZ,aa] at h;subst h;exact ⟨[],by simp only [cK],rfl,Row.nil⟩
 | t::r,vs,b,o,h,hb,k=>by
   simp only [T.cI,kZ] at h;split at h
   · rename_i v xP h1 h2;cases h;simp only [cD] at k;simp only [T.b6,ay] at hb;obtain ⟨c,h3,h4,h5⟩:=Mr hA h1 (fun x hx=>hb x (.inl hx)) k.1
     obtain ⟨d,h6,h7,h8⟩:=QJ hA h2 (fun x hx=>hb x (.inr hx)) k.2
     exact ⟨c++d,by simp only [cK]; exact ⟨c,d,rfl,h3,h6⟩,by rw [aQ,h4,h7,T.da],Row.append.2 ⟨h5,by rw [h4]; exact h8⟩⟩
   · cases h
theorem QK (hA:∀ b,A b→A' b):∀ {l:List (T An)} {vs:List PV} {b o z:Nat},kZ (T.cI An.g l)=some vs→(∀ x ∈ T.b6 l,A' x)→(∀ t ∈ l,t.cs=z)→cD w A E nx l b o→fE w A' vs b o z
 | [],vs,b,o,z,h,_,_,k=>by
   simp only [T.cI,kZ,aa] at h;subst h;simp only [fE]
 | t::r,vs,b,o,z,h,hb,hz,k=>by
   simp only [T.cI,kZ] at h;split at h
   · rename_i v xP h1 h2;cases h;simp only [cD] at k;simp only [T.b6,ay] at hb;have ht:=hz t (by simp)
     obtain ⟨c,h3,h4,h5⟩:=Mr hA h1 (fun x hx=>hb x (.inl hx)) k.1
     have:=QK hA h2 (fun x hx=>hb x (.inr hx)) (fun t ht=>hz t (by simp [ht])) k.2
     simp only [fE];rw [ht] at this;exact ⟨⟨c,h3,by rw [h4,ht],h5⟩,this⟩
   · cases h
end
theorem QL (m:MR w A E h nx) {id:Nat} {path:List Nat} {an:An} {z:Nat} {l:List (T An)} (hv:jo (E id) path=some (an,z,l)):∃ o,E id=some o∧∀ b ∈ an.b.toList++T.b6 l,b ∈ o.blk:=by
 rcases LZ hv with ⟨rfl,he⟩ | ⟨n,hs⟩
 · exact ⟨_,he,fun b hb=>by simpa [Obj.blk] using hb⟩
 · obtain ⟨ob,hE⟩:=m.la hs;refine ⟨ob,hE,?_⟩;rw [hE] at hs;obtain ⟨_,_,_,_,_,h5,_⟩:=Ax hs (m.at_ id ob hE);exact fun b hb=>h5 b (by simpa [T.blk] using hb)
mutual
theorem CU (m:MR w A E h nx) (hA:∀ b,A b→A' b):∀ {x:MV} {v:PV} {val:Value},mq h x=some v→(∀ i ∈ jZ x,∀ o,E i=some o→∀ b ∈ o.blk,A' b)→bQ w A E nx x val→oZ w A' v val
 | .p u,v,val,hp,_,hv=>by
   simp only [mq,aa] at hp;subst hp;simp only [bQ] at hv;exact hv.frame hA (fun _ _=>rfl)
 | .nil _,v,val,hp,_,hv=>by
   simp only [mq,aa] at hp;subst hp;simp only [bQ] at hv;obtain ⟨a,rfl⟩:=hv;exact ⟨[.slice a 0 0],by simp only [dR]; exact ⟨a,0,rfl,ar _,.inl trivial⟩,rfl⟩
 | .own id path off len g,v,val,hp,hr,hv=>by
   simp only [mq] at hp;split at hp
   · rename_i g' z l iC;split at hp
     · rename_i hc;obtain ⟨rfl,hle⟩:=hc;split at hp
       · rename_i vs fR;cases hp;obtain ⟨an,lA,nm,rfl,rfl⟩:=m.vec iC;have hB:=m.tR nm;obtain ⟨ob,hE,iM⟩:=QL m nm;simp only [bQ] at hv;obtain ⟨_,a,cap,rfl,nF,hh⟩:=hv;have kE:=hh an z (sL nm) rfl;rw [← T.mapAs_eq] at fR;have hlen:vs.length=lA.length:=by rw [Mq fR,T.mapAs_eq,aB]
         rw [aB] at hle;have Bz:((vs.drop off).take len).length=len:=by rw [aW,List.length_drop]; omega
         refine ⟨[.slice a len cap],?_,rfl⟩;simp only [dR,Bz];simp only [VB] at hB;cases hb:an.b with
         | none =>
           simp only [kR,hb] at kE;obtain ⟨rfl,rfl⟩:=kE;exact ⟨a,0,rfl,ar _,.inl (by simp)⟩
         | some b =>
           simp only [hb] at hB;simp only [kR,hb] at kE;refine ⟨a,cap,rfl,nF,?_⟩;rcases kE.2 with ⟨rfl,_⟩ | h5
           · exact .inl (by simp)
           · refine .inr ⟨b,off * z,z,h5,hr id (by simp [jZ]) ob hE b (iM b (by simp [hb])),?_⟩
             have:=QK hA fR (fun x hx=>hr id (by simp [jZ]) ob hE x (iM x (by simp [hx]))) hB.2.2.1 hB.2.2.2
             have:=(this.drop off).take len
             rwa [bR] at this
       · cases hp
     · cases hp
   · cases hp
 | .ptr id np rp g o,v,val,hp,hr,hv=>by
   simp only [mq] at hp;split at hp
   · rename_i t s' o' hl;split at hp
     · rename_i hc;obtain ⟨rfl,rfl⟩:=hc;split at hp
       · rename_i u hu;cases hp;obtain ⟨an,tA,nW,rfl,rfl⟩:=m.look hl;obtain ⟨b,hb,kS⟩:=m.sM nW;simp only [bQ] at hv;obtain ⟨_,ad,rfl,qX⟩:=hv;obtain ⟨z,hn⟩:=F5 nW;obtain ⟨b',jr,rfl⟩:=qX an z hn rfl;rw [hb] at jr; cases jr;have dJ:=LY nW;obtain ⟨ob,hE⟩:=m.la dJ;rw [hE] at nW dJ;have jA:=m.wa hE nW hb;obtain ⟨b2,o2,h1,h2,h3,h4,_⟩:=Ax dJ (m.at_ id ob hE);rw [jA] at h1; cases h1;have nn:=hr id (by simp [jZ]) ob hE
         obtain ⟨cs,h5,_,h6⟩:=Mr hA hu (fun x hx=>nn x (h4 x hx)) kS
         exact ⟨_,by simp only [dR]; exact ⟨b,o',rfl,nn b h3,cs,h5,h6⟩,rfl⟩
       · cases hp
     · cases hp
   · cases hp
 | .fy ..,v,val,hp,hr,hv=>by simp only [bQ] at hv
 | .agg l,v,val,hp,hr,hv=>by
   simp only [mq] at hp;split at hp
   · rename_i vs fR;cases hp;simp only [bQ] at hv;obtain ⟨cs,rfl,hv⟩:=hv;exact ⟨cs,by simp only [dR]; exact Xg m hA fR (by simpa only [jZ] using hr) hv,rfl⟩
   · cases hp
 | .fn f l,v,val,hp,hr,hv=>by
   simp only [mq] at hp;split at hp
   · rename_i vs fR;cases hp;simp only [bQ] at hv;obtain ⟨ws,rfl,hv⟩:=hv;exact ⟨_,by simp only [dR]; exact ⟨ws,rfl,Ms m hA fR (by simpa only [jZ] using hr) hv⟩,rfl⟩
   · cases hp
 | .eJ _,v,val,hp,_,hv=>by simp only [mq,reduceCtorEq] at hp
 | .dead _,v,val,hp,_,hv=>by simp only [mq,reduceCtorEq] at hp
theorem Xg (m:MR w A E h nx) (hA:∀ b,A b→A' b):∀ {l:List MV} {vs:List PV} {cs:List Value},rz h l=some vs→(∀ i ∈ mu l,∀ o,E i=some o→∀ b ∈ o.blk,A' b)→dV w A E nx l cs→cK w A' vs cs
 | [],vs,cs,hp,_,hv=>by
   simp only [rz,aa] at hp;subst hp;simpa only [dV,cK] using hv
 | x::r,vs,cs,hp,hr,hv=>by
   simp only [rz] at hp;split at hp
   · rename_i v xP h1 h2;cases hp;simp only [dV] at hv;obtain ⟨u,d,rfl,_,_,h5,h6⟩:=hv;simp only [mu,ay] at hr;obtain ⟨c,h7,rfl⟩:=CU m hA h1 (fun i hi=>hr i (.inl hi)) h5
     have h8:=Xg m hA h2 (fun i hi=>hr i (.inr hi)) h6
     simp only [cK];exact ⟨c,d,by rw [h7.mU],h7,h8⟩
   · cases hp
theorem Ms (m:MR w A E h nx) (hA:∀ b,A b→A' b):∀ {l:List MV} {vs:List PV} {ws:List Value},rz h l=some vs→(∀ i ∈ mu l,∀ o,E i=some o→∀ b ∈ o.blk,A' b)→c8 w A E nx l ws→kK w A' vs ws
 | [],vs,cs,hp,_,hv=>by
   simp only [rz,aa] at hp;subst hp;simpa only [c8,kK] using hv
 | x::r,vs,cs,hp,hr,hv=>by
   simp only [rz] at hp;split at hp
   · rename_i v xP h1 h2;cases hp;simp only [c8] at hv;obtain ⟨u,d,rfl,h5,h6⟩:=hv;simp only [mu,ay] at hr;obtain ⟨c,h7,rfl⟩:=CU m hA h1 (fun i hi=>hr i (.inl hi)) h5
     have h8:=Ms m hA h2 (fun i hi=>hr i (.inr hi)) h6
     simp only [kK];exact ⟨c,d,rfl,h7,h8⟩
   · cases hp
end
theorem MR.wk (m:MR w A E h nx) {id:Nat} {o:Obj An} (hE:E id=some o) :
 MR w (fun b=>A b∨b ∈ o.blk) (cz E id (some .gone)) (cz h id (some .gone)) nx∧gE w A E nx w (fun b=>A b∨b ∈ o.blk) (cz E id (some .gone)):=by
 have own:∀ b,jq (cz E id (some .gone)) b→b ∉ o.blk∧jq E b:=by
  intro b hb;rcases Aw hb with h1 | ⟨i,oi,hi,rV,Ay⟩
  · simp [Obj.blk] at h1
  · exact ⟨fun lV=>m.dj id i o oi (dw hi) hE rV b lV Ay,i,oi,rV,Ay⟩
 refine ⟨(m.gone id).Al (fun b hb=>.inl hb) ?_,?_⟩
 · rintro b (hb | hb)
   · exact ⟨m.im b hb,fun ho=>(m.lt b (own b ho).2).2 hb⟩
   · exact ⟨(m.j3 hE hb).1,fun ho=>(own b ho).1 hb⟩
 · exact ⟨rfl,rfl,rfl,ar _,fun _ _ _=>rfl,fun b hb=>.inl hb,fun b _ hb=>hb.imp (fun h=>h) (fun hb=>⟨id,o,hE,hb⟩),fun b _ hb=>(own b hb).2,(js.gone E id).D2 nx⟩
theorem MR.eS {w':World} {nx':di} (m:MR w A E h nx) {A':Nat→Prop} {id:Nat} {o':Obj An} (s:nH w w' A E nx nx' id o') (hA:∀ b,A b→A' b) (kS:Fr w w' A A' E (cz E id (some o')) nx nx'→OAt w' A' (cz E id (some o')) nx' o')
 (ng:∀ b,jq (cz E id (some o')) b→¬ A' b) (Mt:∀ b,A' b→b < w'.heap.size):MR w' A' (cz E id (some o')) (cz h id (some (o'.mapA An.g))) nx':=by
 have f0:=s.fr m;have f:Fr w w' A A' E (cz E id (some o')) nx nx':=⟨hA,f0.hw,f0.hE,f0.hn⟩;constructor
 · intro i;by_cases e:i=id
   · subst e; simp [cz]
   · simp [cz,e,m.er i]
 · intro i o ho;by_cases e:i=id
   · subst e; rw [nG] at ho; cases ho; exact kS f
   · rw [nO E _ e] at ho;exact OAt.frame f (fun x hx=>s.ch x (m.j3 ho hx).1 (fun o1 nf uJ=>m.dj i id o o1 e ho nf x hx uJ)) (m.at_ i o ho)
 · intro b hb;refine ⟨?_,ng b hb⟩;rcases Aw hb with h1 | ⟨i,oi,_,rV,h1⟩
   · exact (s.lt b h1).1
   · exact bp (m.j3 rV h1).1 s.sz
 · intro i o ho;by_cases e:i=id
   · subst e; rw [nG] at ho; cases ho; exact s.nd
   · rw [nO E _ e] at ho; exact m.nd i o ho
 · intro i j o o1 gL ho nf b hb nY;by_cases e:i=id
   · subst e;rw [nG] at ho; cases ho;rw [nO E _ (dw gL)] at nf;exact s.dj b hb j o1 (dw gL) nf nY
   · rw [nO E _ e] at ho;by_cases e':j=id
     · subst e';rw [nG] at nf; cases nf;exact s.dj b nY i o e ho hb
     · rw [nO E _ e'] at nf;exact m.dj i j o o1 gL ho nf b hb nY
 · exact Mt
 · intro i o ho;by_cases e:i=id
   · subst e; rw [nG] at ho; cases ho; exact s.st
   · rw [nO E _ e] at ho; exact Obj.j8 s.hn (m.st i o ho)
theorem Xh {z:Nat} (hA:∀ b,A b→A' b):∀ {l:List (T An)} {vs:List PV} {b o:Nat},kZ (T.cI An.g l)=some vs→(∀ x ∈ T.b6 l,A' x)→(∀ t ∈ l,t.cs=z)→cD w A E nx l b o→∀ v ∈ vs,v.cs=z
 | [],vs,b,o,h,_,_,k=>by
   simp only [T.cI,kZ,aa] at h;subst h;intro v hv;cases hv
 | t::r,vs,b,o,h,hb,hz,k=>by
   simp only [T.cI,kZ] at h;split at h
   · rename_i v xP h1 h2;cases h;simp only [cD] at k;simp only [T.b6,ay] at hb;obtain ⟨c,h3,h4,_⟩:=Mr hA h1 (fun x hx=>hb x (.inl hx)) k.1
     intro u hu;rcases aE.1 hu with e | e
     · subst e;rw [← h3.len,h4];exact hz t (by simp)
     · exact Xh hA h2 (fun x hx=>hb x (.inr hx)) (fun t ht=>hz t (by simp [ht])) k.2 u e
   · cases h
theorem MR.Ej (m:MR w A E h nx) {id γ z:Nat} (hγ:¬ nx γ) (hs:h id=none) :
 ∃ E',MR w A E' (cz h id (some (.vec γ z []))) (nx.add γ)∧gE w A E nx w A E'∧fg (E' id) (some [])=some (⟨γ,none,0⟩,some z):=by
 have s:nH w w A E nx (nx.add γ) id (.vec ⟨γ,none,0⟩ z []):=by
  refine ⟨di.eH _ _,ar _,fun _ _ _=>rfl,?_,by simp [Obj.blk,T.b6],by simp [Obj.blk,T.b6],by simp [Obj.blk,T.b6],⟨nx.iG γ,trivial⟩⟩
  intro np y hy hg;cases np with
  | none=>simp [fg] at hy
  | some p =>
    cases p with
    | nil =>
      simp only [fg,aa] at hy;subst hy;exact (hγ hg).elim
    | cons i r=>simp [fg,ef] at hy
 have f:=s.fr m;have hm:=m.set s (by simp only [OAt,VB]; exact ⟨trivial,trivial⟩)
 refine ⟨_,hm,⟨rfl,rfl,rfl,ar _,fun _ _ _=>rfl,fun _ h=>h,fun _ _ h=>.inl h,fun b _ hb=>?_,f.hE⟩,by rw [nG]; rfl⟩
 rcases Aw hb with h1 | ⟨i,oi,_,rV,h1⟩
 · simp [Obj.blk,T.b6] at h1
 · exact ⟨i,oi,rV,h1⟩
theorem MR.sw (m:MR w A E h nx) {id γ:Nat} (hγ:¬ nx γ) {a:Nat} {t:T Nat} (hs:h id=some (.cell a t)) :
 ∃ E',MR w A E' (cz h id (some (.cell a (Ac γ t)))) (nx.add γ)∧gE w A E nx w A E':=by
 rw [m.er id] at hs;cases hE:E id with
 | none=>simp [hE] at hs
 | some o =>
   cases o <;> simp only [hE,ak,Obj.mapA,reduceCtorEq,aa,Obj.cell.injEq] at hs;rename_i an t';obtain ⟨rfl,rfl⟩:=hs;have iM:(Obj.cell an (t'.mapA (mV γ))).blk=(Obj.cell an t').blk:=by simp only [Obj.blk,WH]
   have s:nH w w A E nx (nx.add γ) id (.cell an (t'.mapA (mV γ))):=by
    refine ⟨di.eH _ _,ar _,fun _ _ _=>rfl,?_,?_,?_,?_,?_⟩
    · intro np y hy hg;rw [hE];cases np with
      | none=>simpa [fg] using hy
      | some p =>
        rw [sO] at hy
        have:=Il (t:=t') hy
        rw [this] at hg;exact (hγ hg).elim
    · rw [iM]; exact fun b hb=>m.j3 hE hb
    · rw [iM]; exact m.nd id _ hE
    · rw [iM]; exact fun b hb j oj hj Bv=>m.dj id j _ oj (dw hj) hE Bv b hb
    · exact ⟨.inl (m.st id _ hE).1,WI nx γ t'⟩
   have f:=s.fr m;have k:=OAt.frame f (fun _ _=>rfl) (m.at_ id _ hE)
   have hm:=m.set s (by
    simp only [OAt] at k ⊢;obtain ⟨b,hb,k1,k2⟩:=k;exact ⟨b,hb,by rw [T.j9]; exact k1,P7 γ k2⟩)
   refine ⟨_,?_,rfl,rfl,rfl,ar _,fun _ _ _=>rfl,fun _ h=>h,fun _ _ h=>.inl h,fun b _ hb=>?_,f.hE⟩
   · have e:(Obj.cell an (t'.mapA (mV γ))).mapA An.g=.cell an.g (Ac γ (t'.mapA An.g)):=by simp only [Obj.mapA,WJ]
     rw [e] at hm;exact hm
   · rcases Aw hb with h1 | ⟨i,oi,_,rV,h1⟩
     · rw [iM] at h1; exact ⟨id,_,hE,h1⟩
     · exact ⟨i,oi,rV,h1⟩
theorem MR.BH (m:MR w A E h nx) {id γ:Nat} (hγ:¬ nx γ) {path:List Nat} {g z n:Nat} {l:List (T Nat)} {oh:Obj Nat} (hs:ef (h id) path=some (.vec g z l n)) (hp:Mid.put (h id) path (.vec g z (nM γ l) n)=some oh) :
 ∃ E',MR w A E' (cz h id (some oh)) (nx.add γ)∧gE w A E nx w A E':=by
 obtain ⟨t',ht,he⟩:=m.sub hs;cases t' <;> simp only [T.mapA,reduceCtorEq,T.vec.injEq] at he;rename_i an z' l' n';obtain ⟨rfl,rfl,rfl,rfl⟩:=he;cases hE:E id with
 | none=>rw [hE] at ht; cases path <;> simp [ef] at ht
 | some o =>
   rw [hE] at ht;have xf:(T.vec an.g z (nM γ (T.cI An.g l')) n:T Nat)=(T.vec an z (T.cI (mV γ) l') n:T An).mapA An.g:=by
    simp only [T.mapA,CM]
   rw [m.er id,hE,xf,F9] at hp;cases ig:Mid.put (some o) path (T.vec an z (T.cI (mV γ) l') n:T An) with
   | none=>simp [ig] at hp
   | some o' =>
     simp only [ig,ak,aa] at hp;obtain ⟨b1,o1,h1,h2,h3,h4,h5⟩:=Ax ht (m.at_ id o hE);obtain ⟨rest,p1,_⟩:=D1 ht ig;have BI:(an.b.toList++T.b6 l').Nodup:=(aT.1 (p1.nodup_iff.1 (m.nd id o hE))).1;have lX:(T.vec an z (T.cI (mV γ) l') n:T An).blk=(T.vec an z l' n:T An).blk:=by simp only [T.blk,yN]
     have vl:oQ w w A E nx (nx.add γ) id o path (.vec an z l' n) (.vec an z (T.cI (mV γ) l') n) b1 o1:=by
      refine ⟨di.eH _ _,ar _,hE,ht,h1,rfl,Wr.refl _ _ _ _ _,?_,?_,?_,?_,?_⟩
      · intro r y hy hg;cases r with
        | nil=>simpa [fH,cU] using hy
        | cons i r =>
          have e:∀ (L:List (T An)),fH (T.vec an z L n) (i::r)=match L[i]? with | some t=>fH t r | none=>none:=fun L=>by
           simp only [fH,cU];cases L[i]? <;> rfl
          rw [e,T.mapAs_eq,aH] at hy;cases hi:l'[i]? with
          | none=>simp [hi] at hy
          | some u =>
            simp only [hi,ak] at hy
            have:=Il hy
            rw [this] at hg;exact (hγ hg).elim
      · intro b hb;rw [lX] at hb;exact m.j3 hE (h4 b hb)
      · rw [lX]; exact BI
      · intro b hb;rw [lX] at hb;exact .inl hb
      · have hst:(T.vec an z l' n:T An).st nx:=m.tT (id:=id) (p:=path) (by rw [hE]; exact ht)
        exact ⟨.inl hst.1,CL nx γ l'⟩
     have s:=vl.tW m ig;refine ⟨cz E id (some o'),?_,rfl,rfl,rfl,ar _,fun _ _ _=>rfl,fun _ h=>h,fun _ _ h=>.inl h,fun b _ hb=>?_,(s.fr m).hE⟩
     · rw [← hp];refine m.put vl ig fun f=>?_
       have k:=TAt.frame f rfl (fun _ _=>rfl) h2
       have k2:=P7 γ k;simp only [T.mapA] at k2;simp only [TAt] at k k2 ⊢;obtain ⟨a,cap,q1,q2,q3,q4⟩:=k;obtain ⟨_,_,_,r2,_,r4⟩:=k2;exact ⟨a,cap,q1,r2,q3,r4⟩
     · rcases vl.owned m ig hb with k | k
       · rw [lX] at k;exact ⟨id,o,hE,h4 b k⟩
       · exact k.1
theorem MR.Iz (m:MR w A E h nx) {id:Nat} {path:List Nat} {g z n:Nat} {l:List (T Nat)} {vs:List PV} {oh:Obj Nat} (hs:ef (h id) path=some (.vec g z l n)) (fR:kZ l=some vs) (hp:Mid.put (h id) path (.vec g z (vs.map .p) n)=some oh) :
 ∃ A' E',MR w A' E' (cz h id (some oh)) nx∧gE w A E nx w A' E':=by
 obtain ⟨t',ht,he⟩:=m.sub hs;cases t' <;> simp only [T.mapA,reduceCtorEq,T.vec.injEq] at he;rename_i an z' l' n';obtain ⟨rfl,rfl,rfl,rfl⟩:=he;cases hE:E id with
 | none=>rw [hE] at ht; cases path <;> simp [ef] at ht
 | some o =>
   rw [hE] at ht;have xf:(T.vec an.g z (vs.map .p) n:T Nat)=(T.vec an z (vs.map .p) n:T An).mapA An.g:=by
    have:∀ us:List PV,T.cI An.g (us.map .p:List (T An))=(us.map .p:List (T Nat)):=fun us=>by
     induction us with
     | nil=>rfl
     | cons u r ih=>simp only [aD,T.cI,T.mapA,ih]
    simp only [T.mapA,this]
   rw [m.er id,hE,xf,F9] at hp;cases ig:Mid.put (some o) path (T.vec an z (vs.map .p) n:T An) with
   | none=>simp [ig] at hp
   | some o' =>
     simp only [ig,ak,aa] at hp;obtain ⟨b1,o1,h1,h2,h3,h4,h5⟩:=Ax ht (m.at_ id o hE);have gV:=m.nd id o hE;obtain ⟨rest,p1,_⟩:=D1 ht ig;have BI:(an.b.toList++T.b6 l').Nodup:=(aT.1 (p1.nodup_iff.1 gV)).1;have lX:(T.vec an z (vs.map .p) n:T An).blk=an.b.toList:=by simp only [T.blk,DZ,bD]
     have vl:oQ w w A E nx nx id o path (.vec an z l' n) (.vec an z (vs.map .p) n) b1 o1:=by
      refine ⟨di.le_refl _,ar _,hE,ht,h1,rfl,Wr.refl _ _ _ _ _,?_,?_,?_,?_,?_⟩
      · intro r y hy _;cases r with
        | nil=>simpa [fH,cU] using hy
        | cons i r =>
          simp only [fH,cU,aH] at hy;cases hi:vs[i]? with
          | none=>simp [hi] at hy
          | some v =>
            simp only [hi,ak] at hy
            have:∀ (r:List Nat) (v:PV),fH (T.p v:T An) r=none:=by
             intro r
             induction r with
             | nil=>intro v; rfl
             | cons j r ih =>
               intro v;cases v with
               | agg l =>
                 simp only [fH,cU];cases l[j]? with
                 | none=>rfl
                 | some u=>exact ih u
               | _=>rfl
            have h0:=this r v;simp only [fH] at h0;rw [h0] at hy;cases hy
      · intro b hb;rw [lX] at hb;exact m.j3 hE (h4 b (by simp [T.blk,hb]))
      · rw [lX]; exact (aT.1 BI).1
      · intro b hb;rw [lX] at hb;exact .inl (by simp [T.blk,hb])
      · have hst:(T.vec an z l' n:T An).st nx:=m.tT (id:=id) (p:=path) (by rw [hE]; exact ht)
        exact ⟨hst.1,L9 vs⟩
     have s:=vl.tW m ig;have hA:∀ b,A b→(A b∨b ∈ T.b6 l'):=fun b hb=>.inl hb
     have tm:∀ b ∈ T.b6 l',b ∈ o.blk:=fun b hb=>h4 b (by simp [T.blk,hb])
     refine ⟨fun b=>A b∨b ∈ T.b6 l',cz E id (some o'),?_,rfl,rfl,rfl,ar _,fun _ _ _=>rfl,hA,fun b _ hb=>hb.imp (fun h=>h) fun hb=>⟨id,o,hE,tm b hb⟩,fun b _ hb=>?_,(s.fr m).hE⟩
     · rw [← hp];refine m.eS s hA (fun f=>OAt.put f ht ig h1 rfl (Wr.refl _ _ _ _ _) gV (fun y hy=>(m.j3 hE hy).1) (m.at_ id o hE) ?_) ?_ ?_
       · simp only [TAt] at h2 ⊢;obtain ⟨a,cap,k1,k2,k3,k4⟩:=h2;have hlen:vs.length=l'.length:=by rw [Mq fR,T.mapAs_eq,aB]
         refine ⟨a,cap,k1,by rw [aB,hlen]; exact k2,k3,?_⟩
         cases hb:an.b with
         | none =>
           simp only [hb] at k4
           have:vs=[]:=by
            rw [k4.1] at hlen;exact List.length_eq_zero_iff.1 hlen
           exact ⟨by rw [this]; rfl,k4.2⟩
         | some b' =>
           simp only [hb] at k4;obtain ⟨k5,k6,k7,k8⟩:=k4;obtain ⟨cs,k9,_,k10⟩:=QJ hA fR (fun x hx=>.inr hx) k8
           refine ⟨k5,by rw [aB,hlen]; exact k6,fun t ht=>?_,qY.2 ⟨cs,by simpa only [dR] using k9,k10⟩⟩
           obtain ⟨v,hv,rfl⟩:=bj.1 ht;exact Xh hA fR (fun x hx=>.inr hx) k7 k8 v hv
       · intro b hb;rcases vl.owned m ig hb with k | k
         · rw [lX] at k;rintro (e | e)
           · exact (m.j3 hE (h4 b (by simp [T.blk,k]))).2 e
           · exact (aT.1 BI).2.2 b k b e rfl
         · rintro (e | e)
           · exact (m.lt b k.1).2 e
           · exact k.2 (by simp [T.blk,e])
       · rintro b (e | e)
         · exact m.im b e
         · exact (m.j3 hE (tm b e)).1
     · rcases vl.owned m ig hb with k | k
       · rw [lX] at k;exact ⟨id,o,hE,h4 b (by simp [T.blk,k])⟩
       · exact k.1
end
section
variable {P:Program} {o:Oper} {a:Act} {w:World} {A:Nat→Prop} {E:dL An} {nx:di} {γ:Nat} {v:MV} {h h':cj} {s:gD} {K:jl} {d:Option Nat}
 (hs:pZ P w A E nx s a) (hm:MR w A E h nx) (hγ:¬ nx γ)
include hs hm hγ
theorem D1J {c:Call} {t e:TypeId} {x y:Operand} {x' y':dI} {t1 t2:TypeId} {pz:Bool} (ho:o.op=.call c) (pB:c.callee=.builtin .append) (oP:c.args=#[x,y]) (sr:c.argTypes=#[t,t]) (hx:fx P t1 x=some x') (hy:fx P t2 y=some y')
 (ht:P.underlying t=some (.slice e)) (rG:P.cellsOf e ≠ 0) (we:P.bytesOf e ≠ 0) (hz:(vd P e).map cq=some (P.cellsOf e))
 (he:b7 K γ d s h (.app pz (P.cellsOf e) (P.bytesOf e) x' y')=some (v,h')):cC P o a w A E nx γ v h':=by
 simp only [b7] at he;split at he
 · rename_i id IA len g1 h1 xR;obtain ⟨val,w',E2,h2,h3,h4,h5⟩:=D1I hm hγ ht rG we hz (jM hs hx) (jM hs hy) xR o.type;have hr:(execOp a.eval o).run P w=.ok (.value val) w':=by rw [QD ho pB oP sr,h2]
   split at he
   · split at he
     · rename_i u hu;simp only [aa,ae] at he;obtain ⟨rfl,rfl⟩:=he;have hex:∃ o',E2 id=some o':=by
        simp only [mq] at hu;split at hu
        · rename_i iC;obtain ⟨an,l',nm,_⟩:=h3.vec iC;obtain ⟨o',oH,_⟩:=QL h3 nm;exact ⟨o',oH⟩
        · cases hu
       obtain ⟨o',BJ⟩:=hex;obtain ⟨k1,k2⟩:=h3.wk BJ;refine ⟨val,w',_,_,.inl hr,?_,k1,h4.trans k2 (nx.eH γ)⟩;simp only [bQ];refine CU h3 (fun b hb=>.inl hb) hu ?_ h5
       intro i hi o1 nf b hb;simp only [jZ,aX] at hi;subst hi;rw [BJ] at nf; cases nf;exact .inr hb
     · cases he
   · simp only [aa,ae] at he;obtain ⟨rfl,rfl⟩:=he;exact ⟨val,w',A,E2,.inl hr,h5,h3,h4⟩
 · cases he
theorem C9L {t e:TypeId} {n:Nat} {parts:Array (Nat×Operand)} {zc:List Value} {l:List dI} (ho:o.op=.buildSlice t n parts) (hu:P.underlying t=some (.slice e)) (rG:P.cellsOf e ≠ 0) (kM:n * P.cellsOf e ≤ 16777216)
 (hz:vd P e=some zc) (yQ:zc.length=P.cellsOf e) (kL:Ak n parts.toList=true) (hl:xK P parts.toList (aq n e) 0 (aq n zc).flatten=some l)
 (he:b7 K γ d s h (.bslp (P.cellsOf e) l)=some (v,h')):cC P o a w A E nx γ v h':=by
 simp only [b7] at he;split at he
 · rename_i hb;split at he
   · rename_i ts h1 hi;split at he
     · rename_i eY;split at he
       · rename_i h2 sR;split at he
         · rename_i u qo;simp only [aa,ae] at he;obtain ⟨rfl,rfl⟩:=he;have jr:b7 K γ d s h (.bsl true (P.cellsOf e) l)=some (.own (d.getD 0) [] 0 ts.length γ,h2):=by
            simp only [b7,if_pos hb,if_true,hi,if_pos eY,sR]
           obtain ⟨val,w',A1,E2,hr,h5,h3,h4⟩:=W2 hs hm hγ ho hu rG kM hz yQ kL hl (fun _=>rfl) jr
           have hex:∃ o',E2 (d.getD 0)=some o':=by
            simp only [mq] at qo;split at qo
            · rename_i iC;obtain ⟨an,l',nm,_⟩:=h3.vec iC;obtain ⟨o',oH,_⟩:=QL h3 nm;exact ⟨o',oH⟩
            · cases qo
           obtain ⟨o',BJ⟩:=hex;obtain ⟨k1,k2⟩:=h3.wk BJ;refine ⟨val,w',_,_,hr,?_,k1,h4.trans k2 (nx.eH γ)⟩;simp only [bQ];refine CU h3 (fun b hb=>.inl hb) qo ?_ h5
           intro i hi o1 nf b hb;simp only [jZ,aX] at hi;subst hi;rw [BJ] at nf; cases nf;exact .inr hb
         · cases he
       · cases he
     · cases he
   · cases he
 · cases he
end
end Go.Mid
