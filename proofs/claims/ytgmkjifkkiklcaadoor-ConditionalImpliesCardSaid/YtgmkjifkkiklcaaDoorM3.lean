/- New memory: variables, literals of slices, make. -/
import Derived.Test.YtgmkjifkkiklcaaDoorM2
import Derived.Laws.MakeOwn
namespace Go.Mid
set_option linter.unusedSimpArgs false
set_option linter.unusedVariables false
open Go.RowKit
structure Grown (w w':World)(cs:Array Value):Prop where
 size:w'.heap.size=w.heap.size+1
 old:∀b,b<w.heap.size->w'.heap[b]?=w.heap[b]?
 new:∃ty,w'.heap[w.heap.size]?=some (.cells cs ty (0,0))
 rest:w'.os=w.os∧w'.tape=w.tape∧w'.output=w.output
theorem Grown.alloc (w:World)(cs:Array Value)(ty:TypeId):Grown w (w.alloc (.cells cs ty)) cs :=
 ⟨World.size_alloc _ _,λb hb=>heap_alloc_old w _ b hb,⟨ty,heap_alloc_new w _⟩,⟨rfl,rfl,rfl⟩⟩
theorem Grown.drew (w:World)(cs:Array Value)(ty:TypeId):Grown w (w.drew.alloc (.cells cs ty)) cs :=
 ⟨World.size_alloc _ _,λb hb=>heap_alloc_old w.drew _ b hb,⟨ty,heap_alloc_new w.drew _⟩,⟨rfl,rfl,rfl⟩⟩
theorem Grown.blk {w w':World}{cs:Array Value}(g:Grown w w' cs):Blk w' w.heap.size cs.size:=by
 obtain⟨ty,h⟩:=g.new;exact⟨cs,ty,h,rfl⟩
theorem Grown.row {w w':World}{cs:Array Value}(g:Grown w w' cs){p c q:List Value}(h:cs.toList=p++c++q):Row w' w.heap.size p.length c:=by
 obtain⟨ty,hn⟩:=g.new;intro j v hj;have hc:cs=(p++c++q).toArray:=by rw[←h]
 simp only[World.cell?,hn,hc,Option.isSome_none,Bool.false_eq_true,if_false,List.getElem?_toArray];rw[List.append_assoc,List.getElem?_append_right (by omega),List.getElem?_append_left (by have:=(List.getElem?_eq_some_iff.1 hj).1;omega)]
 rw[←hj];congr 1;omega
theorem Grown.row0 {w w':World}{cs:Array Value}(g:Grown w w' cs):Row w' w.heap.size 0 cs.toList:=g.row (p:=[]) (q:=[]) (by simp)
section
variable {w w':World}{A:Nat->Prop}{E E1:A0f An}{nx:Stp}{γ:Nat}{h h1:A0b}
theorem MR.fresh (m:MR w A E1 h1 nx)(hγ:¬ nx γ){cs:Array Value}(g:Grown w w' cs){o':Obj An}(d:Nat)(hg:∀ np y,A0h (some o') np=some y->y.1.g=γ)
 (hb:∀b∈o'.blk,b=w.heap.size∨(b<w.heap.size∧¬A b∧¬A0B E1 b)) (hnd:o'.blk.Nodup) (hst:o'.st (nx.add γ)):SetOk w w' A E1 nx (nx.add γ) d o' where
 hn:=nx.le_add γ
 sz:=by rw[g.size];omega
 ch:=λb hb _=>g.old b hb
 ns:=λnp y hy hlt=>by rw[hg np y hy] at hlt;exact(hγ hlt).elim
 lt:=λb hbm=>by
  rw[g.size];rcases hb b hbm with rfl | h
  . exact⟨by omega,λhA=>absurd (m.im _ hA) (by omega)⟩
  . exact⟨by omega,h.2.1⟩
 nd:=hnd
 dj:=λb hbm j o _ ho hbo=>by
  rcases hb b hbm with rfl | h
  . have:=(m.notA ho hbo).1;omega
  . exact h.2.2 ⟨j,o,ho,hbo⟩
 st:=hst
theorem Go1.fresh (m:MR w A E h nx)(hγ:¬ nx γ){cs:Array Value}(g:Grown w w' cs){o':Obj An}{d:Nat}(hg:∀ np y,A0h (some o') np=some y->y.1.g=γ)
 (hb:∀b∈o'.blk,b=w.heap.size∨A0B E b) (hsub:∀b,A0B E1 b->A0B E b) (hns:NSub E E1):Go1 w A E nx w' A (upd E1 d (some o')):=by
 refine Go1.of (E1:=E1) ⟨g.rest.1,g.rest.2.1,g.rest.2.2⟩ (by rw[g.size];omega) (λb hb _=>g.old b hb) ?_ (hns.nst nx) ?_
 . intro b hlt ho;rcases A4P ho with h1 | ⟨i,oi,hi,hoi,hbi⟩
   . rcases hb b h1 with rfl | h2
     . omega
     . exact h2
   . exact hsub b ⟨i,oi,hoi,hbi⟩
 . intro i np an z hnode hlt;by_cases e:i=d
   . subst e;rw [A0L] at hnode
     have:=hg np _ hnode
     simp only at this;rw[this] at hlt;exact(hγ hlt).elim
   . rwa [A0C E1 _ e] at hnode
theorem C4G {α:Type}{a:α}{t:T α}{np:Option (List Nat)}{y:α×Option Nat}(h:A0h (some (.cell a t)) np=some y):y=(a,none)∨∃q,ndT t q=some y:=by
 cases np with
 |none=>simp only[A0h,Option.some.injEq] at h;exact .inl h.symm
 |some q=>rw[A1F] at h;exact .inr ⟨q,h⟩
theorem B8a {α:Type}{a:α}{z:Nat}{l:List (T α)}{np:Option (List Nat)}{y:α×Option Nat}(h:A0h (some (.vec a z l)) np=some y):y=(a,some z)∨∃(i:Nat) (t:T α) (q:List Nat),l[i]?=some t∧ndT t q=some y:=by
 cases np with
 |none=>simp[A0h] at h
 |some q =>
   rw[A1F] at h;cases q with
   |nil=>exact .inl (by simp only[Obj.asT,ndT,A0e,Option.some.injEq] at h;exact h.symm)
   |cons i r =>
     simp only[Obj.asT,A7y] at h;cases hl:l[i]? with
     |none=>simp[hl] at h
     |some t=>simp only[hl,Option.bind_some] at h;exact .inr ⟨i,t,r,hl,h⟩
theorem C9Q (m:MR w A E h nx)(hγ:¬ nx γ){cs:List Value}{t:T Nat}{tA:T An}(k:Into w A E nx γ cs t h1 E1 tA)(g:Grown w w' cs.toArray)(d:Nat) :
 ∃E2,MR w' A E2 (upd h1 d (some (.cell γ t))) (nx.add γ)∧Go1 w A E nx w' A E2∧MVv w' A E2 (nx.add γ) (.ptr d none [] γ 0) (.pointer (some ⟨w.heap.size,0,none⟩)):=by
 have hnew:∀np y,A0h (some (.cell ⟨γ,some w.heap.size,0⟩ tA)) np=some y->y.1.g=γ:=by
  intro np y hy;rcases C4G hy with rfl | ⟨q,hq⟩
  . rfl
  . exact k.new q y hq
 have hblk:∀b∈(Obj.cell ⟨γ,some w.heap.size,0⟩ tA).blk,b=w.heap.size∨b∈tA.blk:=by
  intro b hb;simpa [Obj.blk] using hb
 have hlt:∀b∈tA.blk,b<w.heap.size∧¬A b:=λb hb=>m.lt b (k.own b hb).1
 have s:=k.mr.fresh hγ g (o':=.cell ⟨γ,some w.heap.size,0⟩ tA) d hnew (λb hb=>(hblk b hb).imp id λhb=>⟨(hlt b hb).1,(hlt b hb).2,(k.own b hb).2⟩) (by
  simp only[Obj.blk,Option.toList,List.cons_append,List.nil_append];exact List.nodup_cons.2 ⟨λhb=>by have:=(hlt _ hb).1;omega,k.nd⟩) ⟨nx.mem_add γ,k.st⟩
 have f:=s.fr k.mr;have htc:=k.tc.frame f (λx hx=>g.old x (hlt x hx).1)
 have hrow:=g.row0;simp only at hrow;refine⟨upd E1 d (some (.cell ⟨γ,some w.heap.size,0⟩ tA)),?_,Go1.fresh m hγ g hnew (λb hb=>(hblk b hb).imp id λhb=>(k.own b hb).1) k.sub k.ns,?_⟩
 . have:=k.mr.set s (by
    simp only[OAt];refine⟨w.heap.size,rfl,?_,htc.at_ hrow⟩
    have:=g.blk
    have e:cs.toArray.size=tA.cs:=k.tc.len
    rwa [e] at this)
   simpa only[Obj.mapA,k.er] using this
 . simp only [MVv];refine ⟨nx.mem_add γ,_,rfl,λan z hn _=>?_⟩
   rw[A0L] at hn;simp only[A0h,Option.some.injEq,Prod.mk.injEq] at hn;exact⟨w.heap.size,by rw[←hn.1],rfl⟩
theorem B9E (m:MR w A E h nx)(hγ:¬ nx γ){cs cells:List Value}{ts:List (T Nat)}{lA:List (T An)}{z cap:Nat}(k:IntoL w A E nx γ cs ts h1 E1 lA)(g:Grown w w' cells.toArray)(d:Nat){q:List Value}(hc:cells=cs++q)
 (hz:∀t∈lA,t.cs=z) (hcap:cells.length=cap*z) (hle:lA.length<=cap) (h63:cap<=9223372036854775807) :
 ∃E2,MR w' A E2 (upd h1 d (some (.vec γ z ts))) (nx.add γ)∧Go1 w A E nx w' A E2∧MVv w' A E2 (nx.add γ) (.own d [] 0 lA.length γ) (.slice (some ⟨w.heap.size,0,none⟩) lA.length cap):=by
 have hnew:∀np y,A0h (some (.vec ⟨γ,some w.heap.size,cap⟩ z lA)) np=some y->y.1.g=γ:=by
  intro np y hy;rcases B8a hy with rfl | ⟨i,t,q,hl,hq⟩
  . rfl
  . exact k.new i t hl q y hq
 have hblk:∀b∈(Obj.vec ⟨γ,some w.heap.size,cap⟩ z lA).blk,b=w.heap.size∨b∈T.blks lA:=by
  intro b hb;simpa [Obj.blk] using hb
 have hlt:∀b∈T.blks lA,b<w.heap.size∧¬A b:=λb hb=>m.lt b (k.own b hb).1
 have s:=k.mr.fresh hγ g (o':=.vec ⟨γ,some w.heap.size,cap⟩ z lA) d hnew (λb hb=>(hblk b hb).imp id λhb=>⟨(hlt b hb).1,(hlt b hb).2,(k.own b hb).2⟩) (by
  simp only[Obj.blk,Option.toList,List.cons_append,List.nil_append];exact List.nodup_cons.2 ⟨λhb=>by have:=(hlt _ hb).1;omega,k.nd⟩) ⟨nx.mem_add γ,k.st⟩
 have f:=s.fr k.mr;have htc:=k.tc.frame f (λx hx=>g.old x (hlt x hx).1)
 have hrow:=g.row (p:=[]) (c:=cs) (q:=q) (by simp[hc])
 refine⟨upd E1 d (some (.vec ⟨γ,some w.heap.size,cap⟩ z lA)),?_,Go1.fresh m hγ g hnew (λb hb=>(hblk b hb).imp id λhb=>(k.own b hb).1) k.sub k.ns,?_⟩
 . have:=k.mr.set s (by
    simp only[OAt,VB];refine⟨?_,hle,hz,htc.at_ hrow⟩
    have:=g.blk
    have e:cells.toArray.size=cap*z:=hcap
    rwa [e] at this)
   simpa only[Obj.mapA,T.mapAs_eq,k.er] using this
 . simp only [MVv];refine ⟨nx.mem_add γ,_,_,rfl,hle,λan z' hn _=>?_⟩
   rw[A0L] at hn;simp only[A0h,Option.some.injEq,Prod.mk.injEq] at hn;obtain⟨rfl,rfl⟩:=hn;exact⟨⟨rfl,h63⟩,.inr (by simp)⟩
end
end Go.Mid
/- Operations that make new memory. -/
namespace Go.Mid
set_option linter.unusedSimpArgs false
set_option linter.unusedVariables false
open Go.RowKit
section
variable {w w':World}{A:Nat->Prop}{E:A0f An}{nx:Stp}{γ:Nat}{h:A0b}
theorem MR.imm {A':Nat->Prop}(m:MR w A E h nx)(hA:∀ b,A b->A' b)(h1:∀ b,A' b->b<w.heap.size∧¬ A0B E b):MR w A' E h nx where
 er:=m.er
 at_:=λi o ho=>OAt.frame ⟨hA,λ_ _=>rfl,NSt.refl _ _,Stp.le_refl _⟩ (λ_ _=>rfl) (m.at_ i o ho)
 lt:=λb hb=>⟨(m.lt b hb).1,λh=>(h1 b h).2 hb⟩
 nd:=m.nd
 dj:=m.dj
 im:=λb hb=>(h1 b hb).1
 st:=m.st
theorem MR.grow (m:MR w A E h nx){cs:Array Value}(g:Grown w w' cs){A':Nat->Prop}(hA':∀b,A' b↔A b∨b=w.heap.size):MR w' A' E h (nx.add γ)∧Go1 w A E nx w' A' E:=by
 have f:Fr w w' A A' E E nx (nx.add γ):=⟨λb hb=>(hA' b).2 (.inl hb),λb hb=>g.old b (m.im b hb),NSt.refl _ _,nx.le_add γ⟩
 refine⟨⟨m.er,λi o ho=>OAt.frame f (λx hx=>g.old x (m.notA ho hx).1) (m.at_ i o ho),λb hb=>?_,m.nd,m.dj,λb hb=>?_,λi o ho=>Obj.st_mono (nx.le_add γ) (m.st i o ho)⟩,?_⟩
 . have:=m.lt b hb
   refine⟨by rw[g.size];omega,λh=>?_⟩
   rcases (hA' b).1 h with h | h
   . exact this.2 h
   . omega
 . rw [g.size];rcases (hA' b).1 hb with h | h
   . have:=m.im b h;omega
   . omega
 . refine ⟨g.rest.1,g.rest.2.1,g.rest.2.2,by rw [g.size];omega,λb hb _=>g.old b hb,f.hA,λb hb h=>?_,λ_ _ h=>h,NSt.refl _ _⟩
   rcases (hA' b).1 h with h | h
   . exact .inl h
   . omega
theorem D1N {l:List PV}{cs:List Value}{z:Nat}(hz:∀v∈l,v.cs=z)(h:PVcs w A l cs){b o:Nat}(hr:Row w b o cs):PVel w A l b o z:=by
 induction l generalizing cs o with
 |nil=>simp only[PVel]
 |cons x r ih =>
   simp only[PVcs] at h;obtain⟨c,d,rfl,h1,h2⟩:=h;have hr:=Row.append.1 hr;have hx:=hz x (by simp)
   have hlen:=h1.len;simp only[PVel];refine⟨⟨c,h1,by rw[hlen,hx],hr.1⟩,?_⟩
   refine ih (λv hv=>hz v (by simp[hv])) h2 ?_
   rw[←hx,←hlen];exact hr.2
theorem B0f:∀ {n z:Nat} {l:List MV},okB (List.replicate n z) l=true->l.length=n∧∀ v∈l,v.cs=z∧A3Z v=true
 |0,z,[],_=>⟨rfl,by simp⟩
 |0,z,x::r,h=>by simp[okB] at h
 |n+1,z,[],h=>by simp[List.replicate_succ,okB] at h
 |n+1,z,x::r,h=>by
   rw[List.replicate_succ] at h;obtain⟨h1,h2,h3⟩:=C2A h;obtain⟨h4,h5⟩:=B0f h3;exact⟨by simp[h4],λv hv=>by
    rcases List.mem_cons.1 hv with rfl | hv
    . exact⟨h1,h2⟩
    . exact h5 v hv⟩
theorem B2i {zc:List Value}{z:Nat}(hz:zc.length=z):∀ n,((List.range (n*z)).map λi=>zc.toArray[i%zc.toArray.size]!)=(List.replicate n zc).flatten
 |0=>by simp
 |n+1=>by
   rw[Nat.succ_mul,List.range_add,List.map_append,B2i hz n,List.replicate_succ',List.flatten_append];congr 1;simp only[List.map_map,List.flatten_cons,List.flatten_nil,List.append_nil];apply List.ext_getElem?;intro i;by_cases hi:i<z
   . have h2:(n*z+i)%z=i:=by rw [Nat.add_comm,Nat.add_mul_mod_self_right,Nat.mod_eq_of_lt hi]
     have h3:zc[i]?=some zc[i]:=by simp
     rw[h3];simp only[List.getElem?_map,List.getElem?_range hi,Option.map_some,Function.comp,List.size_toArray,hz,h2];simp[List.getElem!_toArray,List.getElem!_eq_getElem?_getD,h3]
   . rw[List.getElem?_eq_none (by simp;omega),List.getElem?_eq_none (by omega)]
theorem B0Y {zc:List Value}{z:Nat}(hz:zc.length=z)(n:Nat):madeCells zc.toArray (n*z)=(List.replicate n zc).flatten.toArray:=by
 apply Array.ext';rw[madeCells];simp only[Array.toList_map,Array.toList_range,B2i hz n]
theorem A57 {zc:List Value}(n:Nat):(List.replicate n zc).flatten.length=n*zc.length:=by
 induction n with
 |zero=>simp
 |succ n ih=>rw[List.replicate_succ,List.flatten_cons,List.length_append,ih,Nat.succ_mul];omega
structure ZeroT (w:World)(A:Nat->Prop)(E:A0f An)(nx:Stp)(γ:Nat)(cs:List Value)(t:T Nat)(tA:T An):Prop where
 er:tA.mapA An.g=t
 tc:TC w A E nx tA cs
 blk:tA.blk=[]
 st:tA.st (nx.add γ)
 new:∀q y,ndT tA q=some y->y.1.g=γ
 one:∀c∈cs,c.oneCell'=true
theorem B8b {α:Type}:∀ (q:List Nat) (v:PV),ndT (.p v:T α) q=none
 | [],v=>rfl
 |i::r,v=>by
   cases v<;>try rfl
   rename_i l;simp only[ndT,A0e];cases hl:l[i]? with
   |none=>rfl
   |some x=>simp only;have:=B8b (α:=α) r x;simpa only[ndT] using this
mutual
theorem C2D:∀ {v:MV} {cs r:List Value} {t:T Nat},A56 v cs=some r->zT γ v=some t->∃ c tA,cs=c++r∧ZeroT w A E nx γ c t tA
 |.p v,cs,r,t,h,k=>by
   simp only[zT,Option.some.injEq] at k;subst k;simp only[A56] at h;obtain⟨c,h1,h2⟩:=B3u (w:=w) (A:=A) h;exact⟨c,.p v,h1,rfl,by simp only[TC];exact h2,rfl,trivial,(λq y hy=>by rw[B8b] at hy;cases hy),h2.oneCell⟩
 |.nil z,cs,r,t,h,k=>by
   simp only[zT,Option.some.injEq] at k;subst k;simp only[A56] at h;split at h
   . rename_i a r';cases h;refine ⟨[.slice a 0 0],.vec ⟨γ,none,0⟩ z [] 0,rfl,rfl,?_,rfl,⟨nx.mem_add γ,trivial⟩,?_,by intro c hc;simp at hc;subst hc;rfl⟩
     . simp only[TC,VB];exact⟨a,0,rfl,Nat.le_refl _,⟨rfl,rfl⟩,trivial,trivial⟩
     . intro q y hy;cases q with
       |nil=>simp[ndT,A0e] at hy;rw[←hy]
       |cons i r=>simp[ndT,A0e] at hy
   . cases h
 |.agg l,cs,r,t,h,k=>by
   simp only[zT] at k;split at k
   . rename_i ts hts;cases k;simp only [A56] at h;obtain ⟨c,lA,h1,h2,h3,h4,h5,h6,h7⟩:=C42 h hts;refine ⟨c,A0z lA,h1,by rw [A9J,h2],C0D.2 h3,by rw [B0p,h4],B4O h5,?_,h7⟩
     intro q y hy;cases q with
     |nil=>rw[B9B] at hy;cases hy
     |cons i r =>
       rw[C2w] at hy;cases hl:lA[i]? with
       |none=>simp[hl] at hy
       |some t=>simp only[hl,Option.bind_some] at hy;exact h6 t (List.mem_of_getElem? hl) r y hy
   . cases k
 |.own ..,cs,r,t,h,k=>by simp[zT] at k
 |.ptr ..,cs,r,t,h,k=>by simp[zT] at k
 |.mref ..,cs,r,t,h,k=>by simp[zT] at k
 |.fn ..,cs,r,t,h,k=>by simp[zT] at k
 |.tup _,cs,r,t,h,k=>by simp[zT] at k
 |.dead _,cs,r,t,h,k=>by simp[zT] at k
theorem C42:∀ {l:List MV} {cs r:List Value} {ts:List (T Nat)},B1B l cs=some r->zT.zTs γ l=some ts->∃ c lA,cs=c++r∧lA.map (T.mapA An.g)=ts∧TCs w A E nx lA c∧T.blks lA=[]∧T.sts (nx.add γ) lA∧(∀ t∈lA,∀ q y,ndT t q=some y->y.1.g=γ)∧∀ c'∈c,c'.oneCell'=true
 | [],cs,r,ts,h,k=>by
   simp only[zT.zTs,Option.some.injEq] at k;subst k;simp only[B1B,Option.some.injEq] at h;subst h;exact⟨[],[],rfl,rfl,by simp only[TCs],rfl,trivial,by simp,by simp⟩
 |x::q,cs,r,ts,h,k=>by
   simp only[zT.zTs] at k;split at k
   . rename_i t ts' ht hts;cases k;simp only [B1B] at h;split at h
     . rename_i d hd;obtain ⟨c,tA,rfl,z⟩:=C2D hd ht;obtain ⟨c',lA,rfl,h2,h3,h4,h5,h6,h7⟩:=C42 h hts;refine ⟨c++c',tA::lA,by simp,by simp [z.er,h2],by simp only [TCs];exact ⟨c,c',rfl,z.tc,h3⟩,by simp [T.blks,z.blk,h4],⟨z.st,h5⟩,?_,λx hx=>(List.mem_append.1 hx).elim (z.one x) (h7 x)⟩
       intro t ht;rcases List.mem_cons.1 ht with rfl | ht
       . exact z.new
       . exact h6 t ht
     . cases h
   . cases k
end
theorem A90 {P:Program}{t:TypeId}{v:MV}(h:B0n P t=some v):∃zc,A42 P t=some zc∧A56 v zc=some []:=by
 unfold B0n at h;split at h
 . rename_i v' zc hv hzc;split at h
   . rename_i hc;cases h;exact⟨zc,hzc,hc⟩
   . cases h
 . cases h
end
theorem C76 {P:Program}{t:TypeId}{v:PV}(h:C1Z P t=some v):∃zc,A42 P t=some zc∧∀(w:World) (A:Nat->Prop),PVc w A v zc:=by
 unfold C1Z at h;split at h
 . rename_i v' hz;cases h;obtain ⟨zc,hzc,hck⟩:=A90 hz;refine ⟨zc,hzc,λw A=>?_⟩
   simp only[A56] at hck;obtain⟨c,h1,h2⟩:=B3u (w:=w) (A:=A) hck;rw[List.append_nil] at h1;rw[h1];exact h2
 . rename_i z hz;cases h;obtain ⟨zc,hzc,hck⟩:=A90 hz;refine ⟨zc,hzc,λw A=>?_⟩
   simp only[A56] at hck;split at hck
   . rename_i q r;simp only[Option.some.injEq] at hck;subst hck;simp only[PVc];exact⟨_,0,rfl,Nat.le_refl _,.inl trivial⟩
   . cases hck
 . cases h
section
variable {P:Program}{o:Oper}{a:Act}{w:World}{A:Nat->Prop}{E:A0f An}{nx:Stp}{γ:Nat}{v:MV}{h h':A0b}{s:A0o}{K:A0w}{d:Option Nat}
 (hs:SlR P w A E nx s a) (hm:MR w A E h nx) (hγ:¬nx γ)
theorem OpOk.of {val:Value}{w':World}{E':A0f An}(hr:(execOp a.eval o).run P w=.ok (.value val) w')(hm:MR w' A E' h' (nx.add γ))(hg:Go1 w A E nx w' A E')(hv:MVv w' A E' (nx.add γ) v val):OpOk P o a w A E nx γ v h' :=
 ⟨val,w',A,E',.inl hr,hv,hm,hg⟩
include hm hγ
theorem B8c {x:MV}{val:Value}{cs:List Value}(hc:val.cells.toList=cs)(hv:MVv w A E nx x val){ty:TypeId}(hr:(execOp a.eval o).run P w=.ok (.value (.pointer (some ⟨w.heap.size,0,none⟩))) (w.alloc (.cells cs.toArray ty)))
 (he:(match A2b γ h x with
   |some (t,h1)=>match A0O d h1 (.cell γ t) with | some h'=>some (MV.ptr (d.getD 0) none [] γ 0,h') | none=>none
   |none=>none)=some (v,h')):OpOk P o a w A E nx γ v h':=by
 split at he
 . rename_i t h1 hi;cases d with
   |none=>simp[A0O] at he
   |some d =>
     simp only[A0O,Option.getD_some,Option.some.injEq,Prod.mk.injEq] at he;obtain⟨rfl,rfl⟩:=he;obtain⟨E1,tA,k⟩:=B4P x hi hm hv;rw[hc] at k;obtain⟨E2,k1,k2,k3⟩:=C9Q hm hγ k (Grown.alloc w cs.toArray ty) d;exact OpOk.of hr k1 k2 k3
 . cases he
theorem C77 {t:TypeId}{z:MV}(ho:o.op=.alloc t)(hz:B0n P t=some z)(he:A0a K γ d s h (.box (.c z))=some (v,h')):OpOk P o a w A E nx γ v h':=by
 obtain⟨zc,h1,h2⟩:=A90 hz;obtain⟨zv,h3,h4,_⟩:=A5C h1 w;obtain⟨c,h5,val,h6,_,_,h7⟩:=B69 (w:=w) (A:=A) (E:=E) (nx:=nx) h2;rw[List.append_nil] at h5;subst h5;simp only[A0a,evO] at he;refine B8c (ty:=t) hm hγ h6 h7 ?_ he;simp only[execOp,ho,Instr.alloc,Sem.run_bind,h3,Result.andThen_ok,newVar,newRow,h4,run_newObj,Sem.run_pure];rfl
include hs
theorem D1O {t t0:TypeId}{x:Operand}{x':Opd}(ho:o.op=.box t x)(hx:A0r P t0 x=some x')(he:A0a K γ d s h (.box x')=some (v,h')):OpOk P o a w A E nx γ v h':=by
 have hv:=A0l hs hx;simp only[A0a] at he;refine B8c (ty:=t) hm hγ rfl hv ?_ he;simp only[execOp,ho,Instr.box,Sem.run_bind,Result.andThen_ok,newVar,newRow,run_newObj,Sem.run_pure];rw[Array.toArray_toList];rfl
end
end Go.Mid
/- Literals of slices,make,the empty slice of one's own. -/
namespace Go.Mid
set_option linter.unusedSimpArgs false
set_option linter.unusedVariables false
open Go.RowKit
section
variable {P:Program}{o:Oper}{a:Act}{w:World}{A:Nat->Prop}{E:A0f An}{nx:Stp}{γ:Nat}{v:MV}{h h':A0b}{s:A0o}{K:A0w}{d:Option Nat}
 (hs:SlR P w A E nx s a) (hm:MR w A E h nx) (hγ:¬nx γ)
include hs hm hγ
omit hs in
theorem C9R {z:Nat}{e:TypeId}(ho:o.op=.assign (.const (.slice none 0 0)))(he:A0a K γ d s h (.nilv z)=some (v,h')):OpOk P o a w A E nx γ v h':=by
 simp only[A0a] at he;cases d with
 |none=>simp[A0O] at he
 |some d =>
   simp only[A0O,Option.getD_some,Option.some.injEq,Prod.mk.injEq] at he;obtain⟨rfl,rfl⟩:=he;have hnew:∀np y,A0h (some (Obj.vec (⟨γ,none,0⟩:An) z [])) np=some y->y.1.g=γ:=by
    intro np y hy;rcases B8a hy with rfl | ⟨i,t,q,hl,_⟩
    . rfl
    . simp at hl
   have hblk:(Obj.vec (⟨γ,none,0⟩:An) z []).blk=[]:=rfl;have s:SetOk w w A E nx (nx.add γ) d (.vec ⟨γ,none,0⟩ z []) :=
    ⟨nx.le_add γ,Nat.le_refl _,λ_ _ _=>rfl,λnp y hy hlt=>by rw[hnew np y hy] at hlt;exact(hγ hlt).elim,by simp[hblk],by simp[hblk],by simp[hblk],⟨nx.mem_add γ,trivial⟩⟩
   have hmr:=hm.set s (by simp only[OAt,VB];exact⟨trivial,trivial⟩)
   refine⟨.slice none 0 0,w,A,_,.inl ?_,?_,hmr,?_⟩
   . simp[execOp,ho,A6p]
   . simp only [MVv];refine ⟨nx.mem_add γ,none,0,rfl,Nat.le_refl _,λan z' hn _=>?_⟩
     rw[A0L] at hn;simp only[A0h,Option.some.injEq,Prod.mk.injEq] at hn;obtain⟨rfl,rfl⟩:=hn;exact⟨rfl,rfl⟩
   . refine Go1.of (E1:=E) ⟨rfl,rfl,rfl⟩ (Nat.le_refl _) (λ_ _ _=>rfl) ?_ (NSt.refl _ _) (s.fr hm).hE
     intro b _ hb;rcases A4P hb with hb | ⟨i,oi,_,hoi,hbi⟩
     . simp[hblk] at hb
     . exact⟨i,oi,hoi,hbi⟩
theorem C43 {t e:TypeId}{n:Nat}{mt:Bool}{parts:Array (Nat×Operand)}{zc:List Value}{l:List Opd}(ho:o.op=.buildSlice t n parts)(hu:P.underlying t=some (.slice e))(hc0:P.cellsOf e≠0)(hbig:n*P.cellsOf e<=16777216)
 (hz:A42 P e=some zc) (hzl:zc.length=P.cellsOf e) (hok:A6T n parts.toList=true) (hl:A6K P parts.toList (List.replicate n e) 0 (List.replicate n zc).flatten=some l) (hmt:n=0->mt=true)
 (he:A0a K γ d s h (.bsl mt (P.cellsOf e) l)=some (v,h')):OpOk P o a w A E nx γ v h':=by
 simp only[A0a] at he;split at he
 . rename_i hb;have hln:l.length=n:=by
    obtain⟨cks,_,_,h3,_⟩:=B3w hs hl;simpa using h3
   rw[hln] at hb;obtain⟨zv,hzr,hzc,_⟩:=A5C hz w;obtain⟨cs,h1,h2⟩:=B7a hs hl (by simpa using hok) (by simpa using hb) (λi=>some (i*P.cellsOf e,P.cellsOf e)) (by
    intro i t ht;rw[List.getElem?_replicate] at ht;split at ht
    . rename_i hi;cases ht;rw[List.take_replicate,List.map_replicate,B2H,Nat.min_eq_left (by omega)]
    . cases ht)
   have hcl:cs.length=n*P.cellsOf e:=by
    rw[B3v h1];obtain⟨h3,h4⟩:=B0f hb
    have:∀{l:List MV} {z:Nat},(∀v∈l,v.cs=z)->MV.css l=l.length*z:=by
     intro l z
     induction l with
     |nil=>intro _;simp[MV.css]
     |cons x r ih=>intro hx;rw[MV.css,hx x (by simp),ih (λv hv=>hx v (by simp[hv])),List.length_cons,Nat.succ_mul];omega
    rw[this (λv hv=>(h4 v hv).1),h3]
   have hrun:(execOp a.eval o).run P w=.ok (.value (.slice (some ⟨w.heap.size,0,none⟩) n n)) (w.alloc (.cells cs.toArray e)):=by
    have hinit0:n*P.cellsOf e=0->(Array.range (n*P.cellsOf e)).map (λi=>(#[]:Array Value)[i%(#[]:Array Value).size]!)=(List.replicate n zc).flatten.toArray:=by
     intro h0
     have:n=0:=by
      rcases Nat.mul_eq_zero.1 h0 with h | h
      . exact h
      . exact absurd h hc0
     subst this;simp
    have hinit1:(Array.range (n*P.cellsOf e)).map (λi=>zc.toArray[i%zc.toArray.size]!)=(List.replicate n zc).flatten.toArray:=by
     have:=B0Y hzl n
     rw[←this];rfl
    simp only[execOp,ho,Instr.buildSlice,Sem.run_bind,run_underlying hu,Result.andThen_ok,A3k w hc0];rw[if_neg (by omega)]
    by_cases h0:n*P.cellsOf e=0
    . rw[if_pos h0];simp only[Sem.run_bind,Sem.run_pure,Result.andThen_ok,hinit0 h0];rw[h2];simp only[Sem.run_bind,newRow,run_newObj,Result.andThen_ok,Sem.run_pure];rfl
    . rw[if_neg h0];simp only[Sem.run_bind,Sem.run_pure,hzr,Result.andThen_ok,hzc,hinit1];rw[h2];simp only[Sem.run_bind,newRow,run_newObj,Result.andThen_ok,Sem.run_pure];rfl
   have hg:=Grown.alloc w cs.toArray e;split at he
   . rename_i vs hvs;simp only [Option.some.injEq,Prod.mk.injEq] at he;obtain ⟨rfl,rfl⟩:=he;have hall:A3h (l.map (evO s))=some vs∧mt=false:=by
      cases mt
      . exact⟨by simpa using hvs,rfl⟩
      . simp at hvs
     have hp:=A8r hall.1;rw[hp] at h1 hb;obtain⟨h3,h4⟩:=B0f hb;obtain⟨k1,k2⟩:=hm.grow (γ:=γ) hg (A':=λb=>A b∨b=w.heap.size) (λ_=>Iff.rfl)
     refine⟨_,_,_,E,.inl hrun,?_,k1,k2⟩;have hvl:vs.length=n:=by simpa using h3
     refine A43.2 ⟨_,n,by rw[hvl],by omega,?_⟩
     right;refine⟨_,0,P.cellsOf e,rfl,.inr rfl,?_⟩;refine D1N (cs:=cs) ?_ ?_ hg.row0
     . intro v hv
       have:=(h4 (.p v) (List.mem_map_of_mem hv)).1
       simpa [MV.cs] using this
     . exact(C2t h1).frame k2.sub (λb hb=>hg.old b (hm.im b hb))
   . split at he
     . rename_i ts h1' hts;split at he
       . rename_i hcs;cases d with
         |none=>simp[A0O] at he
         |some d =>
           simp only[A0O,Option.getD_some,Option.some.injEq,Prod.mk.injEq] at he;obtain⟨rfl,rfl⟩:=he;obtain⟨vs,hvs,rfl⟩:=h1.vs;obtain⟨E1,lA,k⟩:=B3t _ hts hm hvs;have hlA:lA.length=ts.length:=by rw[←k.er];simp
           have htn:ts.length=n:=by
            have:∀(l:List MV) (h:A0b) (ts:List (T Nat)) (h1:A0b),A36 γ h l=some (ts,h1)->ts.length=l.length:=by
             intro l
             induction l with
             |nil=>intro h ts h1 hi;simp only[A36,Option.some.injEq,Prod.mk.injEq] at hi;rw[←hi.1];rfl
             |cons x r ih =>
               intro h ts h1 hi;simp only[A36] at hi;split at hi
               . split at hi
                 . rename_i h3;simp only[Option.some.injEq,Prod.mk.injEq] at hi;rw[←hi.1,List.length_cons,ih _ _ _ h3,List.length_cons]
                 . cases hi
               . cases hi
            rw[this _ _ _ _ hts,List.length_map,hln]
           have hz':∀t∈lA,t.cs=P.cellsOf e:=by
            intro t ht;have h3:T.mapA An.g t∈ts:=by rw[←k.er];exact List.mem_map_of_mem ht
            simp only[A2j,List.all_eq_true,beq_iff_eq] at hcs
            have:=hcs _ h3
            rwa [T.cs_map] at this
           obtain⟨E2,k1,k2,k3⟩:=B9E hm hγ k hg d (q:=[]) (by simp) hz' (cap:=n) hcl (by omega) (by simp only[A6T,Bool.and_eq_true,decide_eq_true_eq] at hok;exact hok.2.2)
           rw[hlA,htn] at k3;rw[htn];exact OpOk.of hrun k1 k2 k3
       . cases he
     . cases he
 . cases he
end
end Go.Mid
/- make;a store. -/
namespace Go.Mid
set_option linter.unusedSimpArgs false
set_option linter.unusedVariables false
open Go.RowKit
section
variable {w w':World}{A:Nat->Prop}{E:A0f An}{nx:Stp}{γ:Nat}{h:A0b}
theorem ZeroT.replicate {cs:List Value}{t:T Nat}{tA:T An}(z:ZeroT w A E nx γ cs t tA)(m:MR w A E h nx)(n:Nat):IntoL w A E nx γ (List.replicate n cs).flatten (List.replicate n t) h E (List.replicate n tA) where
 er:=by rw[List.map_replicate,z.er]
 mr:=m
 tc:=by
  induction n with
  |zero=>simp[TCs]
  |succ n ih=>rw[List.replicate_succ,List.replicate_succ,List.flatten_cons];simp only[TCs];exact⟨_,_,rfl,z.tc,ih⟩
 nd:=by
  have:T.blks (List.replicate n tA)=[]:=by
   induction n with
   |zero=>rfl
   |succ n ih=>rw[List.replicate_succ,T.blks,z.blk,ih];rfl
  rw[this];exact List.nodup_nil
 own:=by
  have:T.blks (List.replicate n tA)=[]:=by
   induction n with
   |zero=>rfl
   |succ n ih=>rw[List.replicate_succ,T.blks,z.blk,ih];rfl
  rw[this];intro b hb;simp at hb
 sub:=λ_ h=>h
 st:=by
  induction n with
  |zero=>trivial
  |succ n ih=>rw[List.replicate_succ];exact⟨z.st,ih⟩
 ns:=NSub.refl E
 new:=by
  intro i t ht;rw[List.getElem?_replicate] at ht;split at ht
  . cases ht;exact z.new
  . cases ht
 one:=by
  intro c hc;obtain⟨l,hl,hcl⟩:=List.mem_flatten.1 hc;rw[List.eq_of_mem_replicate hl] at hcl;exact z.one c hcl
 ls:=LSub.refl E
end
theorem C2E {P:Program}{w:World}{t ti ty e:TypeId}{i:TypeInfo}{z:Value}{k:IntKind}{kd:IntKind}(ht:P.underlying t=some (.slice e))(hti:P.underlying ti=some (.int k))(hi:P.info? e=some i)(hz:i.zero=some z)(hsz:0<i.size){a:Option Addr}{n:Nat}(hn:0<n)
 (hfit:n*i.bytes<=140737488355328) (hn48:n<=140737488355328) :
 (Builtin.append_ #[t,ti] ty #[.slice a 0 0,.int kd n]).run P w=.ok (.slice (some ⟨w.heap.size,0,none⟩) n (grownCap w n 0 e))
   (w.drew.alloc (.cells ((Builtin.zeroCells z.cells n).toList++(Builtin.zeroCells z.cells (grownCap w n 0 e-n)).toList).toArray e)):=by
 have hw:IntKind.i64.wrap (n:Int)=(n:Int):=by
  simp only[IntKind.wrap,IntKind.bits,IntKind.signed];simp;omega
 have h0:¬((n:Int)<0):=by omega
 have h1:¬(281474976710656<(n:Int)*(i.bytes:Int)):=by
  have:((n*i.bytes:Nat):Int)<=140737488355328:=by omega
  rw[Int.natCast_mul] at this;omega
 have h2:¬(n<=0):=by omega
 have h3:¬(9223372036854775807<(n:Int)):=by omega
 have hc:=growslice_fits (need:=n) (old:=0) (bytes:=i.bytes) hn hfit;have h4:¬(281474976710656<Builtin.nextslicecap n 0*i.bytes):=by omega
 have h5:¬(n*i.size=0):=by
  have:=Nat.mul_pos hn hsz;omega
 have h6:¬(n=0):=by omega
 have h7:¬(i.size=0):=by omega
 have hf:∀w':World,(Builtin.firstCells i.size 0 (.slice a 0 0)).run P w'=.ok #[] w':=by
  intro w';cases a with
  |none=>exact run_firstCells_none w' _ _ _ _
  |some a=>exact run_firstCells_some w' i.size 0 a 0 0 [] (by simp) (λj v h=>by simp at h)
 simp[Builtin.append_,run_underlying ht,run_underlying hti,sizeOf,typeInfo,zeroValue,hi,hz,asInt,asIntOf,hw,h0,h1,h3,h4,h5,h6,Question.forced,newRow,grownCap,hf];congr 2;apply Array.ext';simp
theorem B4Q {z:Array Value}{k:Nat}(n:Nat)(hz:z.size=k):(Builtin.zeroCells z n).toList=(List.replicate n z.toList).flatten:=by
 have h:=B0Y (zc:=z.toList) (z:=k) (by simpa using hz) n
 have e:Builtin.zeroCells z n=madeCells z.toList.toArray (n*k):=by
  unfold Builtin.zeroCells madeCells;rw[hz]
 rw[e,h]
section
variable {P:Program}{o:Oper}{a:Act}{w:World}{A:Nat->Prop}{E:A0f An}{nx:Stp}{γ:Nat}{v:MV}{h h':A0b}{s:A0o}{K:A0w}{d:Option Nat}
 (hs:SlR P w A E nx s a) (hm:MR w A E h nx) (hγ:¬nx γ)
include hs hm hγ
theorem C9S {t e t1 t2:TypeId}{zero:MV}{lx cx:Operand}{l' c':Opd}(ho:o.op=.makeSlice t lx cx)(hu:P.underlying t=some (.slice e))(hc0:P.cellsOf e≠0)(hb0:P.bytesOf e≠0)(hz:B0n P e=some zero)
 (hl:A0r P t1 lx=some l') (hc:A0r P t2 cx=some c') (he:A0a K γ d s h (.mksl (P.cellsOf e) (P.bytesOf e) zero l' c')=some (v,h')):OpOk P o a w A E nx γ v h':=by
 simp only[A0a] at he;split at he
 . rename_i l c hli hci;obtain ⟨kl,hlv⟩:=B2F hli (A0l hs hl);obtain ⟨kc,hcv⟩:=B2F hci (A0l hs hc);split at he
   . rename_i tz htz;split at he
     . rename_i hcond;obtain ⟨h0,hlc,hroom,htcs⟩:=hcond;cases d with
       |none=>simp[A0O] at he
       |some d =>
         simp only[A0O,Option.getD_some,Option.some.injEq,Prod.mk.injEq] at he;obtain⟨rfl,rfl⟩:=he;obtain⟨zc,hzc,hck⟩:=A90 hz;obtain⟨zv,_,hzcells,i,hi,hiz⟩:=A5C hzc w;obtain⟨zc',tA,h1,zt⟩:=C2D (w:=w) (A:=A) (E:=E) (nx:=nx) hck htz;rw[List.append_nil] at h1;subst h1;have hbytes:P.bytesOf e=i.bytes:=by simp[Program.bytesOf,hi]
         have hcells:P.cellsOf e=i.size:=by simp[Program.cellsOf,hi]
         have hAcs:tA.cs=P.cellsOf e:=by rw[←htcs,←zt.er,T.cs_map]
         have hzl:zc.length=P.cellsOf e:=by rw[zt.tc.len,hAcs]
         have hc0':0<=c:=by omega
         have hcN:c.toNat<=D8a:=Nat.le_trans (Nat.le_mul_of_pos_right _ (Nat.pos_of_ne_zero hb0)) hroom;have hr48:((c.toNat * P.bytesOf e:Nat):Int)<=140737488355328:=by
          have:c.toNat * P.bytesOf e<=140737488355328:=hroom
          omega
         have hcI:(c.toNat:Int)=c:=Int.toNat_of_nonneg hc0';have hrun:=run_make (P:=P) w t e i zv hu hi hiz kl kc l c h0 hlc (by
          rw[Int.natCast_mul,hcI,hbytes] at hr48;rw[Int.mul_comm];omega) (by
          have:c.toNat<=140737488355328:=hcN
          omega)
         have hcap:(List.replicate c.toNat zc).flatten.length=c.toNat * P.cellsOf e:=by rw[A57,hzl]
         have hmade:madeCells zv.cells (c.toNat * i.size)=(List.replicate c.toNat zc).flatten.toArray:=by
          rw[hzcells,←hcells];exact B0Y hzl _
         rw[hmade] at hrun;have k:=zt.replicate hm l.toNat;obtain⟨E2,k1,k2,k3⟩:=B9E hm hγ k (Grown.alloc w _ e) d (q:=(List.replicate (c.toNat-l.toNat) zc).flatten) (by
          rw[←List.flatten_append,List.replicate_append_replicate];congr 2;omega) (λt ht=>by rw[List.eq_of_mem_replicate ht,hAcs]) hcap (by simp;omega) (by have:c.toNat<=140737488355328:=hcN;omega)
         rw[List.length_replicate] at k3;refine OpOk.of (w':=_) ?_ k1 k2 k3;simp only[execOp,ho,hlv,hcv,Sem.run_bind,hrun,Result.andThen_ok,Sem.run_pure]
     . cases he
   . cases he
 . cases he
theorem C9T {t ti e t1 t2:TypeId}{c:Call}{zero:MV}{x y:Operand}{x' y':Opd}{k:IntKind}(ho:o.op=.call c)(hc1:c.callee=.builtin .append)(hc2:c.args=#[x,y])(hc3:c.argTypes=#[t,ti])
 (hu:P.underlying t=some (.slice e)) (hti:P.underlying ti=some (.int k)) (hc0:P.cellsOf e≠0) (hb0:P.bytesOf e≠0) (hz:B0n P e=some zero)
 (hx:A0r P t1 x=some x') (hy:A0r P t2 y=some y') (he:A0a K γ d s h (.appn (P.cellsOf e) (P.bytesOf e) zero x' y')=some (v,h')):OpOk P o a w A E nx γ v h':=by
 have hvx:=A0l hs hx;simp only[A0a] at he;split at he
 . rename_i zz l hxv hli;obtain ⟨kl,hlv⟩:=B2F hli (A0l hs hy);split at he
   . rename_i tz htz;split at he
     . rename_i hcond;obtain ⟨h0,hroom,htcs⟩:=hcond;cases d with
       |none=>simp[A0O] at he
       |some d =>
         simp only[A0O,Option.getD_some,Option.some.injEq,Prod.mk.injEq] at he;obtain⟨rfl,rfl⟩:=he;rw[hxv] at hvx;simp only[MVv] at hvx;obtain⟨ax,hax⟩:=hvx;obtain⟨zc,hzc,hck⟩:=A90 hz;obtain⟨zv,_,hzcells,i,hi,hiz⟩:=A5C hzc w;obtain⟨zc',tA,h1,zt⟩:=C2D (w:=w) (A:=A) (E:=E) (nx:=nx) hck htz;rw[List.append_nil] at h1;subst h1;have hbytes:P.bytesOf e=i.bytes:=by simp[Program.bytesOf,hi]
         have hcells:P.cellsOf e=i.size:=by simp[Program.cellsOf,hi]
         have hAcs:tA.cs=P.cellsOf e:=by rw[←htcs,←zt.er,T.cs_map]
         have hzl:zc.length=P.cellsOf e:=by rw[zt.tc.len,hAcs]
         have hcN:l.toNat<=D8a:=Nat.le_trans (Nat.le_mul_of_pos_right _ (Nat.pos_of_ne_zero hb0)) hroom;have hlI:(l.toNat:Int)=l:=Int.toNat_of_nonneg (by omega)
         have hn0:0<l.toNat:=by omega
         have hsz0:0<i.size:=by rw[←hcells];exact Nat.pos_of_ne_zero hc0
         rw[hbytes] at hroom;have hrun:=C2E (P:=P) (w:=w) (ty:=o.type) (kd:=kl) (a:=ax) hu hti hi hiz hsz0 hn0 hroom hcN;have hge:=grownCap_ge w l.toNat 0 e;have hzs:zv.cells.size=P.cellsOf e:=by rw[hzcells];simpa using hzl
         have hzt:zv.cells.toList=zc:=by rw[hzcells]
         rw [B4Q l.toNat hzs,B4Q (grownCap w l.toNat 0 e-l.toNat) hzs,hzt] at hrun;have kk:=zt.replicate hm l.toNat;obtain ⟨E2,k1,k2,k3⟩:=B9E hm hγ kk (Grown.drew w _ e) d (cap:=grownCap w l.toNat 0 e) (q:=(List.replicate (grownCap w l.toNat 0 e-l.toNat) zc).flatten) rfl
          (λt ht=>by rw[List.eq_of_mem_replicate ht,hAcs]) (by
            rw[List.length_append,A57,A57,hzl,←Nat.add_mul];congr 1;omega) (by simp;omega) (grownCap_le_maxLen w l.toNat 0 e (by have:l.toNat<=140737488355328:=hcN;unfold maxLen;omega))
         rw[List.length_replicate] at k3;refine OpOk.of (w':=_) ?_ k1 k2 k3;rw[A30 ho hc1];simp only[builtin,hc2,hc3];have e1:Array.map a.eval #[x,y]=#[.slice ax 0 0,.int kl l.toNat]:=by simp[hax,hlv,hlI]
         rw[e1];simp only[Sem.run_bind,hrun,Result.andThen_ok,Sem.run_pure]
     . cases he
   . cases he
 . cases he
end
end Go.Mid
/- A store: a place of a root gets a new value. -/
namespace Go.Mid
set_option linter.unusedSimpArgs false
set_option linter.unusedVariables false
open Go.RowKit
section
variable {w w':World}{A:Nat->Prop}{E:A0f An}{nx:Stp}{h:A0b}
mutual
theorem TAt.cells:∀ {t:T An} {b o:Nat},TAt w A E nx t b o->∀ j,j<t.cs->(w.cell? ⟨b,o+j,none⟩).isSome=true
 |.p v,b,o,h,j,hj=>by
   simp only[TAt] at h;obtain⟨cs,h1,h2⟩:=h
   have:j<cs.length:=by rw[h1.len];exact hj
   rw[h2 j cs[j] (by simp[this])];rfl
 |.m v,b,o,h,j,hj=>by
   simp only[TAt] at h;obtain⟨h0,_,val,_,h2⟩:=h;simp only[T.cs,h0] at hj
   have:j=0:=by omega
   subst this;rw[h2 0 val rfl];rfl
 |.agg l,b,o,h,j,hj=>by simp only[TAt] at h;exact TsAt.cells h j hj
 |.vec ..,b,o,h,j,hj=>by
   simp only[TAt] at h;obtain⟨a,cap,h2,_⟩:=h;simp only[T.cs] at hj
   have:j=0:=by omega
   subst this;rw[h2 0 _ rfl];rfl
 |.mp ..,b,o,h,j,hj=>by simp only[TAt] at h
 |.hole n,b,o,h,j,hj=>by
   simp only[TAt] at h;obtain⟨v,hv⟩:=h j hj;rw[hv];rfl
theorem TsAt.cells:∀ {l:List (T An)} {b o:Nat},TsAt w A E nx l b o->∀ j,j<T.css l->(w.cell? ⟨b,o+j,none⟩).isSome=true
 | [],b,o,_,j,hj=>by simp[T.css] at hj
 |t::r,b,o,h,j,hj=>by
   simp only[TsAt] at h;simp only[T.css] at hj;by_cases hlt:j<t.cs
   . exact TAt.cells h.1 j hlt
   . have:=TsAt.cells h.2 (j-t.cs) (by omega)
     rwa [show o+t.cs+(j-t.cs)=o+j by omega] at this
end
mutual
theorem TAt.isBlk:∀ {t:T An} {b o:Nat},TAt w A E nx t b o->∀ x∈t.blk,∃ m,Blk w x m
 |.p _,b,o,_,x,hx=>by simp[T.blk] at hx
 |.m _,b,o,_,x,hx=>by simp[T.blk] at hx
 |.agg l,b,o,h,x,hx=>by simp only[TAt] at h;exact TsAt.isBlk h x hx
 |.vec an z l n,b,o,h,x,hx=>by
   simp only[TAt] at h;obtain⟨a,cap,_,_,_,h⟩:=h;cases hb:an.b with
   |none=>simp only[hb] at h;simp[T.blk,hb,h.1,T.blks] at hx
   |some b' =>
     simp only[hb] at h;simp only[T.blk,hb,Option.toList,List.cons_append,List.nil_append,List.mem_cons] at hx;rcases hx with rfl | hx
     . exact⟨_,h.1⟩
     . exact TsAt.isBlk h.2.2.2 x hx
 |.mp ..,b,o,h,_,_=>by simp only[TAt] at h
 |.hole _,b,o,_,x,hx=>by simp[T.blk] at hx
theorem TsAt.isBlk:∀ {l:List (T An)} {b o:Nat},TsAt w A E nx l b o->∀ x∈T.blks l,∃ m,Blk w x m
 | [],b,o,_,x,hx=>by simp[T.blks] at hx
 |t::r,b,o,h,x,hx=>by
   simp only[TsAt] at h;simp only[T.blks,List.mem_append] at hx;rcases hx with hx | hx
   . exact TAt.isBlk h.1 x hx
   . exact TsAt.isBlk h.2 x hx
end
theorem OAt.isBlk {o:Obj An}(hp:∀a ks vs,o≠.mp a ks vs)(h:OAt w A E nx o):∀x∈o.blk,∃m,Blk w x m:=by
 intro x hx;cases o with
 |cell an t =>
   simp only[OAt] at h;obtain⟨b,hb,h1,h2⟩:=h;simp only[Obj.blk,hb,Option.toList,List.cons_append,List.nil_append,List.mem_cons] at hx;rcases hx with rfl | hx
   . exact⟨_,h1⟩
   . exact h2.isBlk x hx
 |vec an z l =>
   simp only[OAt,VB] at h;cases hb:an.b with
   |none=>simp only[hb] at h;simp[Obj.blk,hb,h.1,T.blks] at hx
   |some b' =>
     simp only[hb] at h;simp only[Obj.blk,hb,Option.toList,List.cons_append,List.nil_append,List.mem_cons] at hx;rcases hx with rfl | hx
     . exact⟨_,h.1⟩
     . exact h.2.2.2.isBlk x hx
 |mp=>exact absurd rfl (hp _ _ _)
 |gone=>simp[Obj.blk] at hx
theorem Blk.frozen {b m j:Nat}(h:Blk w b m):w.frozen? ⟨b,j,none⟩=false:=by
 obtain⟨c,ty,h1,_⟩:=h;simp[World.frozen?,h1]
theorem Wr.setCells {b o:Nat}(cs:List Value)(X:List Nat):Wr w (w.setCells b o cs) b o cs.length X where
 other:=λb' _ hne _=>A0U hne cs o w
 blk:=λm hm=>hm.setCells cs o w
 cell:=λj hj=>World.cell?_setCells_out b cs o w ⟨b,j,none⟩ (λ_ _=>hj)
theorem Row.setCells {b o:Nat}{cs:List Value}(h:∀j,j<cs.length->(w.cell? ⟨b,o+j,none⟩).isSome=true):Row (w.setCells b o cs) b o cs:=by
 intro j v hj;obtain⟨hlt,hv⟩:=List.getElem?_eq_some_iff.1 hj;rw[World.cell?_setCells_in b cs o w h j hlt,hv]
end
end Go.Mid
/- A store: a place of a root gets a new value (the state after it). -/
namespace Go.Mid
set_option linter.unusedSimpArgs false
set_option linter.unusedVariables false
open Go.RowKit
section
variable {w:World}{A:Nat->Prop}{E:A0f An}{nx:Stp}{γ:Nat}{h:A0b}
theorem B6C (m:MR w A E h nx){id:Nat}{o o':Obj An}{p:List Nat}{u tA:T An}{b o1:Nat}{cs:List Value}(hE:E id=some o)(hs:A0j (some o) p=some u)(hl:A4m (some o) p=some (b,o1))
 (tc:TC w A E nx tA cs) (hcs:tA.cs=u.cs) (hput:put (some o) p tA=some o') (hnd:tA.blk.Nodup) (hown:∀x∈tA.blk,(x<w.heap.size∧¬A x)∧(x∈u.blk∨¬A0B E x)) (hst:tA.st (nx.add γ))
 (hnew:∀q y,ndT tA q=some y->nx y.1.g->ndT u q=some y) :
 MR (w.setCells b o1 cs) A (upd E id (some o')) (upd h id (some (o'.mapA An.g))) (nx.add γ)∧A0B E b∧(∀ x,A0B (upd E id (some o')) x->x∈tA.blk∨A0B E x)∧NSt nx E (upd E id (some o')) ∧
  (∀j,j<cs.length->(w.cell? ⟨b,o1+j,none⟩).isSome=true)∧∀j,w.frozen? ⟨b,j,none⟩=false:=by
 obtain⟨b',o'',h1,h2,h3,h4,h5⟩:=A5V hs (m.at_ id o hE);rw[hl] at h1;cases h1;have hlen:cs.length=u.cs:=by rw[tc.len,hcs]
 have hbo:A0B E b:=⟨id,o,hE,h3⟩;have hbt:b∉tA.blk:=λhb=>(hown b hb).2.elim (h5 (m.nd id o hE)) (λk=>k hbo)
 have hcell:∀j,j<cs.length->(w.cell? ⟨b,o1+j,none⟩).isSome=true:=λj hj=>h2.cells j (by omega)
 have W:Wr w (w.setCells b o1 cs) b o1 u.cs u.blk:=by rw[←hlen];exact Wr.setCells cs u.blk
 have hp:PutOk w (w.setCells b o1 cs) A E nx (nx.add γ) id o p u tA b o1 :=
  ⟨nx.le_add γ,by rw[(A1Q b cs o1 w).1];exact Nat.le_refl _,hE,hs,hl,hcs,W,hnew,λx hx=>by rw[(A1Q b cs o1 w).1];exact(hown x hx).1,hnd,λx hx=>(hown x hx).2,hst⟩
 have hm:=m.put hp hput (λf=>(tc.frame f (λx hx=>A0U (λe:x=b=>hbt (e ▸ hx)) cs o1 w)).at_ (Row.setCells hcell))
 refine⟨hm,hbo,λx hx=>(hp.owned m hput hx).imp (λh=>h) (·.1),((hp.setOk m hput).fr m).hE,hcell,λj=>?_⟩
 obtain⟨mm,hmm⟩:=(m.at_ id o hE).isBlk (by rintro a ks vs rfl;cases p<;>simp[A0j] at hs) b h3
 exact hmm.frozen
end
section
variable {P:Program}{o:Oper}{a:Act}{w:World}{A:Nat->Prop}{E:A0f An}{nx:Stp}{γ:Nat}{v:MV}{h h':A0b}{s:A0o}{K:A0w}{d:Option Nat}
theorem B1K {t:TypeId}{x y:Operand}{b o1:Nat}(ho:o.op=.store t x y)(hU:A4l P t=true)(hx:a.eval x=.pointer (some ⟨b,o1,none⟩))(hn:(a.eval y).cells.size=P.cellsOf t)
 (hc:∀j,j<(a.eval y).cells.toList.length->(w.cell? ⟨b,o1+j,none⟩).isSome=true) (hf:∀j,w.frozen? ⟨b,j,none⟩=false) (h1:∀c∈(a.eval y).cells.toList,c.oneCell'=true) :
 (execOp a.eval o).run P w=.ok .skip (w.setCells b o1 (a.eval y).cells.toList):=by
 have hst:=run_storeCells_cells (P:=P) b o1 (a.eval y).cells.toList 0 w (by simpa using hc) (λj _=>hf _) h1
 simp only[Nat.add_zero] at hst;simp only[execOp,ho,hx,Instr.storeAt,Instr.sureAddr,Sem.run_bind,Sem.run_pure,Result.andThen_ok,storeVar,A44 w hU];rw[if_neg (by simp[hn])]
 simp only[Sem.run_bind,hst,Result.andThen_ok,Sem.run_pure]
end
end Go.Mid
/- A store: the operation. -/
namespace Go.Mid
set_option linter.unusedSimpArgs false
set_option linter.unusedVariables false
open Go.RowKit
section
variable {P:Program}{o:Oper}{a:Act}{w:World}{A:Nat->Prop}{E:A0f An}{nx:Stp}{γ:Nat}{v:MV}{h h':A0b}{s:A0o}{K:A0w}{d:Option Nat}
theorem MR.some_of_sub (m:MR w A E h nx){id:Nat}{p:List Nat}{u:T An}(hs:A0j (E id) p=some u):∃ob,E id=some ob:=by
 cases hE:E id with
 |none=>rw[hE] at hs;cases p<;>simp[A0j] at hs
 |some ob=>exact⟨ob,rfl⟩
theorem D1P (m:MR w A E h nx){id:Nat}{np:Option (List Nat)}{rp:List Nat}{g o0:Nat}{val:Value}{old:T Nat}(hv:MVv w A E nx (.ptr id np rp g o0) val)(hl:look (h id) np rp=some (old,g,o0)) :
 ∃b ob u,val=.pointer (some ⟨b,o0,none⟩)∧E id=some ob∧A4m (some ob) (A5q np rp)=some (b,o0)∧A0j (some ob) (A5q np rp)=some u∧old=u.mapA An.g:=by
 obtain⟨an,tA,hlA,hg,rfl⟩:=m.look hl;obtain⟨b,hb,_⟩:=m.lookAt hlA;simp only[MVv] at hv;obtain⟨_,ad,rfl,hadr⟩:=hv;obtain⟨z,hn⟩:=A8q hlA;obtain⟨b',hb',rfl⟩:=hadr an z hn hg;rw[hb] at hb';cases hb';have hsub:=B3o hlA;obtain⟨ob,hE⟩:=m.some_of_sub hsub;rw[hE] at hlA hsub;exact⟨b,ob,tA,rfl,hE,m.lookLoc hE hlA hb,hsub,rfl⟩
theorem B4R (hm:MR w A E h nx)(hγ:¬ nx γ){t:TypeId}{x y:Operand}{id:Nat}{path:List Nat}{b o1:Nat}{ob:Obj An}{yv:MV}(ho:o.op=.store t x y)(hU:A4l P t=true)(hx:a.eval x=.pointer (some ⟨b,o1,none⟩))
 (hE:E id=some ob) (hl:A4m (some ob) path=some (b,o1)) {u:T An} (hu:A0j (some ob) path=some u) (hucs:u.cs=P.cellsOf t) (hy:MVv w A E nx yv (a.eval y))
 (he:A41 γ h (P.cellsOf t) id path yv=some (v,h')):OpOk P o a w A E nx γ v h':=by
 unfold A41 at he;split at he
 . rename_i t1 h1 hi;split at he
   . rename_i hcs;split at he
     . rename_i on hput;simp only [Option.some.injEq,Prod.mk.injEq] at he;obtain ⟨rfl,rfl⟩:=he;obtain ⟨E1,tA,k⟩:=B4P yv hi hm hy;have htcs:tA.cs=P.cellsOf t:=by rw [← hcs,← k.er,T.cs_map]
       rw[k.mr.er id,←k.er,B0J] at hput;cases hp':put (E1 id) path tA with
       |none=>simp[hp'] at hput
       |some o' =>
         simp only[hp',Option.map_some,Option.some.injEq] at hput;subst hput;have hsome:∃u1,A0j (E1 id) path=some u1:=by
          have key:∀(p:List Nat) (t v t':T An),putT t p v=some t'->∃u,A0e t p=some u:=by
           intro p
           induction p with
           |nil=>intro t v t' _;exact⟨t,by simp[A0e]⟩
           |cons i r ih =>
             intro t v t' hk;cases t with
             |p pv =>
               cases pv<;>simp only[putT,reduceCtorEq] at hk;rename_i l;simp only[A0e];split at hk
               . rename_i x0 hx0
                 try simp only[hx0]
                 split at hk
                 . rename_i w0 hw0;exact ih _ _ _ hw0
                 . cases hk
               . cases hk
             |m=>simp[putT] at hk
             |agg l =>
               simp only[putT] at hk;simp only[A0e];split at hk
               . rename_i x0 hx0
                 try simp only[hx0]
                 split at hk
                 . rename_i w0 hw0;exact ih _ _ _ hw0
                 . cases hk
               . cases hk
             |vec a0 z l n =>
               simp only[putT] at hk;simp only[A0e];split at hk
               . rename_i x0 hx0
                 try simp only[hx0]
                 split at hk
                 . rename_i w0 hw0;exact ih _ _ _ hw0
                 . cases hk
               . cases hk
             |mp a0 ks l=>simp[putT] at hk
             |hole=>simp[putT] at hk
          cases hE1:E1 id with
          |none=>rw[hE1] at hp';cases path<;>simp[put] at hp'
          |some ob1 =>
            rw[hE1] at hp';cases ob1 with
            |cell a0 t0 =>
              simp only[put] at hp';split at hp'
              . rename_i w0 hw0;rw[A5B];exact key _ _ _ _ hw0
              . cases hp'
            |vec a0 z l =>
              cases path with
              |nil=>simp[put] at hp'
              |cons i r =>
                simp only[put] at hp';simp only[A0j];split at hp'
                . rename_i x0 hx0
                  try simp only[hx0]
                  split at hp'
                  . rename_i w0 hw0;exact key _ _ _ _ hw0
                  . cases hp'
                . cases hp'
            |mp a0 ks l=>cases path<;>simp[put] at hp'
            |gone=>cases path<;>simp[put] at hp'
         obtain ⟨u1,hu1⟩:=hsome;obtain ⟨ob1,hE1⟩:=k.mr.some_of_sub hu1;obtain ⟨u',e1,e2,e3⟩:=k.ls id path u1 hu1;rw [hE,hu] at e1;cases e1;rw [hE,hE1] at e3;rw [hE1] at hu1 hp';obtain ⟨k1,k2,k3,k4,k5,k6⟩:=B6C k.mr hE1 hu1 (by rw [e3];exact hl) k.tc (by rw [htcs,← hucs,e2]) hp' k.nd
          (λx hx=>⟨hm.lt x (k.own x hx).1,.inr (k.own x hx).2⟩) k.st (λq y hy hlt=>by rw[k.new q y hy] at hlt;exact(hγ hlt).elim)
         have hsz:(a.eval y).cells.size=P.cellsOf t:=by rw[←Array.length_toList,k.tc.len,htcs]
         have hrun:=B1K ho hU hx hsz k5 k6 k.one;refine⟨undef,_,A,_,.inr ⟨hrun,rfl⟩,by simp only[MVv],k1,?_⟩
         obtain⟨s1,s2,s3,s4⟩:=A1Q b (a.eval y).cells.toList o1 w;refine Go1.of (E1:=E1) ⟨s2,s3,s4⟩ (by rw[s1];exact Nat.le_refl _) (λx _ hx=>A0U (λe:x=b=>hx (e ▸ k.sub b k2)) _ _ _) ?_ (k.ns.nst nx) k4
         intro x _ hx;rcases k3 x hx with hx | hx
         . exact(k.own x hx).1
         . exact k.sub x hx
     . cases he
   . cases he
 . cases he
end
end Go.Mid
/- A store: the operation,with its case of a slice that is cut short in place. -/
namespace Go.Mid
set_option linter.unusedSimpArgs false
set_option linter.unusedVariables false
open Go.RowKit
theorem B3y:∀ (l:List (T An)) (n:Nat),(T.blks (l.take n)).Sublist (T.blks l)
 | [],n=>by simp[T.blks]
 |t::r,0=>by simp[T.blks]
 |t::r,n+1=>by
   simp only[List.take_succ_cons,T.blks];exact(List.Sublist.refl _).append (B3y r n)
theorem C0I {nx:Stp}:∀ {l:List (T An)} {n:Nat},T.sts nx l->T.sts nx (l.take n)
 | [],n,h=>by simpa using h
 |t::r,0,h=>by simp only[List.take_zero,T.sts]
 |t::r,n+1,h=>by
   simp only[List.take_succ_cons,T.sts] at h ⊢;exact⟨h.1,C0I h.2⟩
theorem B8d {w:World}{A:Nat->Prop}{E:A0f An}{nx:Stp}:∀ {l:List (T An)} {n b o:Nat},TsAt w A E nx l b o->TsAt w A E nx (l.take n) b o
 | [],n,b,o,h=>by simpa using h
 |t::r,0,b,o,h=>by simp only[List.take_zero,TsAt]
 |t::r,n+1,b,o,h=>by
   simp only[List.take_succ_cons,TsAt] at h ⊢;exact⟨h.1,B8d h.2⟩
section
variable {P:Program}{o:Oper}{a:Act}{w:World}{A:Nat->Prop}{E:A0f An}{nx:Stp}{γ:Nat}{v:MV}{h h':A0b}{s:A0o}{K:A0w}{d:Option Nat}
 (hs:SlR P w A E nx s a) (hm:MR w A E h nx) (hγ:¬nx γ)
include hs hm hγ
theorem C78 {t t1 t2:TypeId}{x y:Operand}{x' y':Opd}(ho:o.op=.store t x y)(hx:A0r P t1 x=some x')(hy:A0r P t2 y=some y')(hU:A4l P t=true)
 (he:A0a K γ d s h (.store (P.cellsOf t) x' y')=some (v,h')):OpOk P o a w A E nx γ v h':=by
 have hvx:=A0l hs hx;have hvy:=A0l hs hy;simp only[A0a,B0H] at he;split at he
 . rename_i id np rp g0 o0 hp;rw [hp] at hvx;split at he
   . rename_i old s' oo hl;split at he
     . rename_i hc;obtain ⟨rfl,rfl,hcs⟩:=hc;obtain ⟨b,ob,u,hval,hE,hloc,hu,rfl⟩:=D1P hm hvx hl;rw [T.cs_map] at hcs;split at he
       . rename_i id' path' off len g' ag z l n' hyv hold;split at he
         . rename_i hc2;obtain ⟨rfl,rfl,rfl,rfl,hlen⟩:=hc2;split at he
           . rename_i on hput;simp only [Option.some.injEq,Prod.mk.injEq] at he;obtain ⟨rfl,rfl⟩:=he;cases u<;>simp only [T.mapA,reduceCtorEq,T.vec.injEq] at hold;rename_i an z0 lA n0;obtain ⟨rfl,rfl,rfl,rfl⟩:=hold;rw [hyv] at hvy;simp only [MVv] at hvy;obtain ⟨_,ad,cap,hyval,hlc,hh⟩:=hvy;have hnode:A0h (E id') (some (A5q np rp))=some (an,some z0):=by
              rw[hE]
              have:=B0r (r:=[]) hu
              rw[List.append_nil] at this;exact this
             have hdr:=hh an z0 hnode rfl;have hT:(T.vec an.g z0 ((T.mapAs An.g lA).take len) len:T Nat)=(T.vec an z0 (lA.take len) len).mapA An.g:=by
              simp only[T.mapA,T.mapAs_eq,List.map_take]
             rw[hm.er id',hT,B0J,hE] at hput;cases hp':put (some ob) (A5q np rp) (T.vec an z0 (lA.take len) len) with
             |none=>simp[hp'] at hput
             |some o' =>
               simp only[hp',Option.map_some,Option.some.injEq] at hput;subst hput;obtain⟨b',o'',e1,hat,_,hblk,_⟩:=A5V hu (hm.at_ id' ob hE);simp only[TAt] at hat;obtain⟨_,_,_,hnl,_,hvb⟩:=hat;have hst:(T.vec an z0 lA n0).st nx:=hm.subSt (by rw[hE];exact hu)
               have hnd:(T.vec an z0 lA n0).blk.Nodup:=by
                obtain⟨rest,p1,_⟩:=A9u hu hp';exact(List.nodup_append.1 (p1.nodup_iff.1 (hm.nd id' ob hE))).1
               have hbs:∀x,x∈(T.vec an z0 (lA.take len) len).blk->x∈(T.vec an z0 lA n0).blk:=by
                intro x hx;simp only[T.blk,List.mem_append] at hx ⊢;exact hx.imp (λh=>h) (λh=>(B3y lA len).subset h)
               have tc:TC w A E nx (T.vec an z0 (lA.take len) len) [.slice ad len cap]:=by
                simp only[TC,VB];refine⟨ad,cap,rfl,by rw[List.length_take];omega,hdr,?_⟩
                cases hb:an.b with
                |none =>
                  simp only[hb] at hvb;exact⟨by rw[hvb.1,List.take_nil],hvb.2⟩
                |some b2 =>
                  simp only[hb] at hvb;exact⟨hvb.1,Nat.le_trans (by rw[List.length_take];exact Nat.min_le_right _ _) hvb.2.1,λt ht=>hvb.2.2.1 t (List.mem_of_mem_take ht),B8d hvb.2.2.2⟩
               have hnd':(T.vec an z0 (lA.take len) len).blk.Nodup:=by
                simp only[T.blk] at hnd ⊢;exact hnd.sublist ((List.Sublist.refl _).append (B3y lA len))
               have hst':(T.vec an z0 (lA.take len) len).st nx:=by
                simp only[T.st] at hst ⊢;exact⟨hst.1,C0I hst.2⟩
               obtain ⟨k1,k2,k3,k4,k5,k6⟩:=B6C hm hE hu hloc tc rfl hp' hnd' (λx hx=>⟨hm.notA hE (hblk x (hbs x hx)),.inl (hbs x hx)⟩) (T.st_mono (nx.le_add γ) hst')
                (λq y hy _=>by
                  cases q with
                  |nil=>exact hy
                  |cons i r =>
                    simp only[A7y] at hy ⊢;cases ht:(lA.take len)[i]? with
                    |none=>rw[ht] at hy;cases hy
                    |some t =>
                      have h1:lA[i]?=some t:=by
                       have hlt:=(List.getElem?_eq_some_iff.1 ht).1;rw[List.getElem?_take_of_lt (by rw[List.length_take] at hlt;omega)] at ht
                       exact ht
                      rw[ht] at hy;rw[h1];exact hy)
               have hycs:(a.eval y).cells.toList=[.slice ad len cap]:=by rw[hyval];rfl
               have hrun:=B1K ho hU hval (by rw[hyval,←hcs];rfl) (by rw[hycs];exact k5) k6 (by rw[hycs];intro c hc;simp at hc;subst hc;rfl)
               rw[hycs] at hrun;obtain⟨s1,s2,s3,s4⟩:=A1Q b [Value.slice ad len cap] oo w;refine⟨undef,_,A,_,.inr ⟨hrun,rfl⟩,by simp only[MVv],k1,?_⟩
               refine Go1.of (E1:=E) ⟨s2,s3,s4⟩ (by rw[s1];exact Nat.le_refl _) (λx _ hx=>A0U (λe:x=b=>hx (e ▸ k2)) _ _ _) ?_ (NSt.refl _ _) k4
               intro x _ hx;rcases k3 x hx with hx | hx
               . exact⟨id',ob,hE,hblk x (hbs x hx)⟩
               . exact hx
           . cases he
         . exact B4R hm hγ ho hU hval hE hloc hu hcs hvy he
       . exact B4R hm hγ ho hU hval hE hloc hu hcs hvy he
     . cases he
   . cases he
 . cases he
end
end Go.Mid
/- Append: detached trees,replaced roots,and what the model's append does to the world. -/
namespace Go.Mid
set_option linter.unusedSimpArgs false
set_option linter.unusedVariables false
open Go.RowKit
section
variable {w w':World}{A:Nat->Prop}{E:A0f An}{nx nx':Stp}{h:A0b}
mutual
theorem TAt.tc:∀ {t:T An} {b o:Nat},TAt w A E nx t b o->∃ cs,TC w A E nx t cs∧Row w b o cs
 |.p v,b,o,k=>by simp only[TAt] at k;obtain⟨cs,h1,h2⟩:=k;exact⟨cs,by simpa only[TC] using h1,h2⟩
 |.m v,b,o,k=>by simp only[TAt] at k;obtain⟨h0,h0',val,h1,h2⟩:=k;exact⟨[val],by simp only[TC];exact⟨h0,h0',val,h1,rfl⟩,h2⟩
 |.agg l,b,o,k=>by simp only[TAt] at k;obtain⟨cs,h1,h2⟩:=TsAt.tc k;exact⟨cs,by simpa only[TC] using h1,h2⟩
 |.vec an z l n,b,o,k=>by
   simp only[TAt] at k;obtain⟨a,cap,h1,h2,h3,h4⟩:=k;exact⟨[.slice a n cap],by simp only[TC,VB];exact⟨a,cap,rfl,h2,h3,h4⟩,h1⟩
 |.mp ..,b,o,k=>by simp only[TAt] at k
 |.hole n,b,o,k=>by
   simp only[TAt] at k;obtain⟨cs,h1,h2⟩:=B0U n k;exact⟨cs,by simpa only[TC] using h1,h2⟩
theorem TsAt.tc:∀ {l:List (T An)} {b o:Nat},TsAt w A E nx l b o->∃ cs,TCs w A E nx l cs∧Row w b o cs
 | [],b,o,_=>⟨[],by simp only[TCs],Row.nil⟩
 |t::r,b,o,k=>by
   simp only[TsAt] at k;obtain⟨c,h1,h2⟩:=TAt.tc k.1;obtain⟨d,h3,h4⟩:=TsAt.tc k.2;refine⟨c++d,by simp only[TCs];exact⟨c,d,rfl,h1,h3⟩,Row.append.2 ⟨h2,?_⟩⟩
   rw[h1.len];exact h4
end
theorem TCs.append {l m:List (T An)}{cs ds:List Value}(h:TCs w A E nx l cs)(k:TCs w A E nx m ds):TCs w A E nx (l++m) (cs++ds):=by
 induction l generalizing cs with
 |nil=>simp only[TCs] at h;subst h;exact k
 |cons t r ih =>
   simp only[TCs,List.cons_append] at h ⊢;obtain⟨c,d,rfl,h1,h2⟩:=h;exact⟨c,d++ds,by simp,h1,ih h2⟩
theorem TsAt.append {l m:List (T An)}{b o:Nat}:TsAt w A E nx (l++m) b o↔TsAt w A E nx l b o∧TsAt w A E nx m b (o+T.css l):=by
 induction l generalizing o with
 |nil=>simp only[List.nil_append,TsAt,T.css,Nat.add_zero,true_and]
 |cons t r ih=>simp only[List.cons_append,TsAt,ih,T.css,Nat.add_assoc,and_assoc]
structure Set2 (w w':World)(A:Nat->Prop)(E:A0f An)(nx nx':Stp)(id:Nat)(o':Obj An):Prop where
 hn:nx.le nx'
 sz:w.heap.size<=w'.heap.size
 ch:∀b,b<w.heap.size->(A b∨∃j o,j≠id∧E j=some o∧b∈o.blk)->w'.heap[b]?=w.heap[b]?
 ns:∀np y,A0h (some o') np=some y->nx y.1.g->A0h (E id) np=some y
 lt:∀b∈o'.blk,b<w'.heap.size∧¬A b
 nd:o'.blk.Nodup
 dj:∀b∈o'.blk,∀j o,j≠id->E j=some o->b∉o.blk
 st:o'.st nx'
theorem Set2.fr {id:Nat}{o':Obj An}(m:MR w A E h nx)(s:Set2 w w' A E nx nx' id o'):Fr w w' A A E (upd E id (some o')) nx nx' :=
 ⟨λ_ h=>h,λb hb=>s.ch b (m.im b hb) (.inl hb),λi np an z hnode hg=>by
   by_cases e:i=id
   . subst e;rw[A0L] at hnode;exact s.ns np _ hnode hg
   . rw[A0C E _ e] at hnode;exact hnode,s.hn⟩
theorem MR.set2 (m:MR w A E h nx){id:Nat}{o':Obj An}(s:Set2 w w' A E nx nx' id o')(hat:OAt w' A (upd E id (some o')) nx' o') :
 MR w' A (upd E id (some o')) (upd h id (some (o'.mapA An.g))) nx':=by
 have f:=s.fr m;constructor
 . intro i;by_cases e:i=id
   . subst e;simp[upd]
   . simp[upd,e,m.er i]
 . intro i o ho;by_cases e:i=id
   . subst e;rw[A0L] at ho;cases ho;exact hat
   . rw[A0C E _ e] at ho;exact OAt.frame f (λx hx=>s.ch x (m.notA ho hx).1 (.inr ⟨i,o,e,ho,hx⟩)) (m.at_ i o ho)
 . rintro b ⟨i,o,ho,hb⟩;by_cases e:i=id
   . subst e;rw[A0L] at ho;cases ho;exact s.lt b hb
   . rw [A0C E _ e] at ho
     have:=m.notA ho hb
     exact⟨Nat.lt_of_lt_of_le this.1 s.sz,this.2⟩
 . intro i o ho;by_cases e:i=id
   . subst e;rw[A0L] at ho;cases ho;exact s.nd
   . rw[A0C E _ e] at ho;exact m.nd i o ho
 . intro i j o o1 hij ho ho1 b hb hb1;by_cases e:i=id
   . subst e;rw[A0L] at ho;cases ho;rw[A0C E _ (Ne.symm hij)] at ho1;exact s.dj b hb j o1 (Ne.symm hij) ho1 hb1
   . rw [A0C E _ e] at ho;by_cases e':j=id
     . subst e';rw[A0L] at ho1;cases ho1;exact s.dj b hb1 i o e ho hb
     . rw[A0C E _ e'] at ho1;exact m.dj i j o o1 hij ho ho1 b hb hb1
 . intro b hb;exact Nat.lt_of_lt_of_le (m.im b hb) s.sz
 . intro i o ho;by_cases e:i=id
   . subst e;rw[A0L] at ho;cases ho;exact s.st
   . rw[A0C E _ e] at ho;exact Obj.st_mono s.hn (m.st i o ho)
end
section
variable {P:Program}{w:World}
structure SrcOk (P:Program)(w:World)(size:Nat)(x:Value)(n:Nat)(news:List Value):Prop where
 val:∃xb cap,x=.slice xb n cap
 len:news.length=n*size
 rd:∀w',w'.heap=w.heap->(Builtin.firstCells size n x).run P w'=.ok news.toArray w'
 pre:∀k,k<=n->(Builtin.firstCells size k x).run P w=.ok (news.take (k*size)).toArray w
theorem SrcOk.of_row {size n cap:Nat}{news:List Value}{a:Option Addr}(hl:news.length=n*size)(h:n=0∨∃ b o,a=some ⟨b,o,none⟩∧Row w b o news):SrcOk P w size (.slice a n cap) n news where
 val:=⟨a,cap,rfl⟩
 len:=hl
 rd:=by
  intro w' hw';cases a with
  |none =>
    rcases h with rfl | ⟨_,_,h,_⟩
    . have:news=[]:=List.eq_nil_of_length_eq_zero (by simpa using hl)
      subst this;exact run_firstCells_none w' _ _ _ _
    . cases h
  |some a =>
    refine run_firstCells_some w' size n a n cap news hl ?_;intro j v hj;rcases h with rfl | ⟨b,o,h,hr⟩
    . have:news=[]:=List.eq_nil_of_length_eq_zero (by simpa using hl)
      subst this;simp at hj
    . simp only [Option.some.injEq] at h;subst h;rw [A2s,show w'.cell? ⟨b,o+j,none⟩=w.cell? ⟨b,o+j,none⟩ by simp [World.cell?,hw']]
      exact hr j v hj
 pre:=by
  intro k hk;have hkl:(news.take (k*size)).length=k*size:=by rw[List.length_take,hl];exact Nat.min_eq_left (Nat.mul_le_mul_right _ hk)
  cases a with
  |none =>
    rcases h with rfl | ⟨_,_,h,_⟩
    . have:news=[]:=List.eq_nil_of_length_eq_zero (by simpa using hl)
      subst this;rw[List.take_nil];exact run_firstCells_none w _ _ _ _
    . cases h
  |some a =>
    refine run_firstCells_some w size k a n cap _ hkl ?_;intro j v hj;rcases h with rfl | ⟨b,o,h,hr⟩
    . have:news=[]:=List.eq_nil_of_length_eq_zero (by simpa using hl)
      subst this;simp at hj
    . simp only [Option.some.injEq] at h;subst h;rw [A2s];refine hr j v ?_;have hlt:=(List.getElem?_eq_some_iff.1 hj).1;rw [List.length_take] at hlt
      rwa [List.getElem?_take_of_lt (by omega)] at hj
section
variable {t ty e:TypeId}{i:TypeInfo}{z:Value}(ht:P.underlying t=some (.slice e))(hi:P.info? e=some i)
include ht hi
theorem B0Z {x:Value}(a:Option Addr)(len cap:Nat)(hx:SrcOk P w i.size x 0 [])(hc:len<=cap) :
 (Builtin.append_ #[t,t] ty #[.slice a len cap,x]).run P w=.ok (.slice a len cap) w:=by
 obtain⟨xb,xc,rfl⟩:=hx.val;have hf:=hx.rd w rfl;cases a<;>simp[Builtin.append_,run_underlying ht,sizeOf,typeInfo,hi,Builtin.lenOf,hf,hc,storeCells]
theorem C4H {x:Value}{b len n cap:Nat}{news:List Value}(hx:SrcOk P w i.size x n news)(hc:len+n<=cap)(h1:∀ u∈news,u.oneCell'=true)
 (hcell:∀j,j<news.length->(w.cell? ⟨b,len*i.size+j,none⟩).isSome=true) (hf:∀j,w.frozen? ⟨b,j,none⟩=false) :
 (Builtin.append_ #[t,t] ty #[.slice (some ⟨b,0,none⟩) len cap,x]).run P w=.ok (.slice (some ⟨b,0,none⟩) (len+n) cap) (w.setCells b (len*i.size) news):=by
 obtain⟨xb,xc,rfl⟩:=hx.val;have hfc:=hx.rd w rfl;have hst:=run_storeCells_cells (P:=P) b (len*i.size) news 0 w (by simpa using hcell) (λj _=>hf _) h1
 simp only[Nat.add_zero] at hst;simp[Builtin.append_,run_underlying ht,sizeOf,typeInfo,hi,Builtin.lenOf,hfc,hc,A2s,hst]
theorem C2F (hz:i.zero=some z){x:Value}{a:Option Addr}{len n cap:Nat}{olds news:List Value}(hs:SrcOk P w i.size (.slice a len cap) len olds)(hx:SrcOk P w i.size x n news)(hc:cap<len+n)
 (h63:((len+n:Nat):Int)<=9223372036854775807) (hfit:(len+n)*i.bytes<=140737488355328) :
 (Builtin.append_ #[t,t] ty #[.slice a len cap,x]).run P w=.ok (.slice (some ⟨w.heap.size,0,none⟩) (len+n) (grownCap w (len+n) cap e))
   (w.drew.alloc (.cells (olds++news++(Builtin.zeroCells z.cells (grownCap w (len+n) cap e-(len+n))).toList).toArray e)):=by
 obtain⟨xb,xc,rfl⟩:=hx.val;have hn:¬(len+n<=cap):=by omega
 have h63':¬(9223372036854775807<((len:Int)+(n:Int))):=by omega
 have h48:=growslice_fits hc hfit;have h48':¬(281474976710656<Builtin.nextslicecap (len+n) cap*i.bytes):=by omega
 have hf:=hx.rd w.drew rfl;have hfo:=hs.rd w.drew rfl;simp[Builtin.append_,run_underlying ht,sizeOf,typeInfo,zeroValue,hi,hz,Builtin.lenOf,hn,h63',h48',Question.forced,hf,hfo,newRow,grownCap];congr 2;apply Array.ext';simp
end
structure AppW (w w':World)(an:An)(γ z len n:Nat)(a':Option Addr)(cap':Nat)(bo:Option Nat)(capn:Nat)(cs:List Value):Prop where
 os:w'.os=w.os
 tape:w'.tape=w.tape
 output:w'.output=w.output
 size:w.heap.size<=w'.heap.size
 keep:∀b,b<w.heap.size->an.b≠some b->w'.heap[b]?=w.heap[b]?
 le:len+n<=cap'
 hdr:A0I ⟨γ,bo,capn⟩ z 0 (len+n) a' cap'
 non:bo=none->len+n=0∧capn=0
 som:∀b,bo=some b->(an.b=some b∨b=w.heap.size∧b<w'.heap.size)∧Blk w' b (capn*z)∧len+n<=capn∧Row w' b 0 cs
theorem B9F {t ty e:TypeId}{i:TypeInfo}{zv:Value}(ht:P.underlying t=some (.slice e))(hi:P.info? e=some i)(hz:i.zero=some zv)(hzs:zv.cells.size=i.size)(γ:Nat){x:Value}{a:Option Addr}{len n cap:Nat}{an:An}{olds news:List Value}
 (hh:A0I an i.size 0 len a cap) (hlc:len<=cap) (hnone:an.b=none->an.cap=0) (hol:olds.length=len*i.size) (hb:∀b,an.b=some b->Blk w b (an.cap*i.size)∧len<=an.cap∧Row w b 0 olds)
 (hx:SrcOk P w i.size x n news) (h1:∀u∈news,u.oneCell'=true) (h63:len+n<=D8a) (hfit:(len+n)*i.bytes<=D8a) :
 ∃a' cap' w' bo capn,(Builtin.append_ #[t,t] ty #[.slice a len cap,x]).run P w=.ok (.slice a' (len+n) cap') w'∧AppW w w' an γ i.size len n a' cap' bo capn (olds++news):=by
 have h63':len+n<=140737488355328:=h63;have hfit':(len+n)*i.bytes<=140737488355328:=hfit;by_cases hn:n=0
 . subst hn
   have:news=[]:=List.eq_nil_of_length_eq_zero (by simpa using hx.len)
   subst this;refine⟨a,cap,w,an.b,an.cap,B0Z ht hi a len cap hx hlc,rfl,rfl,rfl,Nat.le_refl _,λ_ _ _=>rfl,hlc,?_,?_,?_⟩
   . simp only[A0I] at hh ⊢;exact hh
   . intro hbn;simp only[A0I,hbn] at hh;exact⟨hh.1,hnone hbn⟩
   . intro b hbs;obtain⟨h2,h3,h4⟩:=hb b hbs;exact⟨.inl hbs,h2,h3,by rw[List.append_nil];exact h4⟩
 . by_cases hc:len+n<=cap
   . cases hbb:an.b with
     |none=>simp only[A0I,hbb] at hh;omega
     |some b =>
       obtain⟨h2,h3,h4⟩:=hb b hbb;simp only[A0I,hbb] at hh;obtain⟨hcap,hh⟩:=hh;rcases hh with⟨h5,h6⟩ | h5
       . omega
       . have ha:a=some ⟨b,0,none⟩:=by rw [h5,Nat.zero_mul]
         subst ha;have hle:len*i.size+news.length<=an.cap*i.size:=by
          rw[hx.len,←Nat.add_mul];exact Nat.mul_le_mul_right _ (by omega)
         have hcell:∀j,j<news.length->(w.cell? ⟨b,len*i.size+j,none⟩).isSome=true:=λj hj=>(h2.cell (by omega)).1
         have hr:=C4H (ty:=ty) ht hi hx hc h1 hcell (λj=>h2.frozen)
         obtain⟨s1,s2,s3,s4⟩:=A1Q b news (len*i.size) w;refine⟨_,_,_,some b,an.cap,hr,s2,s3,s4,by rw[s1];exact Nat.le_refl _,λx _ hx=>A0U (λe:x=b=>hx (e ▸ hbb)) _ _ _,by omega,?_,by simp,?_⟩
         . simp only[A0I];exact⟨hcap,.inr (by rw[Nat.zero_mul])⟩
         . intro b' hb';cases hb';refine ⟨.inl hbb,h2.setCells _ _ _,by omega,Row.append.2 ⟨?_,?_⟩⟩
           . refine h4.frameC (λj hj1 hj2=>?_)
             exact World.cell?_setCells_out b news (len*i.size) w ⟨b,j,none⟩ (λ_ _=>.inl (by simp only;omega))
           . rw[Nat.zero_add,hol];exact Row.setCells hcell
   . have hso:SrcOk P w i.size (.slice a len cap) len olds:=by
      refine SrcOk.of_row hol ?_;by_cases hl0:len=0
      . exact .inl hl0
      . cases hbb:an.b with
        |none=>simp only[A0I,hbb] at hh;omega
        |some b =>
          obtain⟨h2,h3,h4⟩:=hb b hbb;simp only[A0I,hbb] at hh;obtain⟨hcap,hh⟩:=hh;rcases hh with⟨h5,h6⟩ | h5
          . omega
          . exact .inr ⟨b,0,by rw[h5,Nat.zero_mul],h4⟩
     have hr:=C2F (ty:=ty) ht hi hz hso hx (by omega) (by omega) hfit'
     have hge:=grownCap_ge w (len+n) cap e;have hge2:grownCap w (len+n) cap e<=9223372036854775807:=grownCap_le_maxLen w (len+n) cap e (by unfold maxLen;omega)
     refine⟨_,_,_,some w.heap.size,grownCap w (len+n) cap e,hr,rfl,rfl,rfl,by simp,λb hb _=>heap_alloc_old w.drew _ b hb,hge,?_,by simp,?_⟩
     . simp only[A0I];exact⟨by omega,.inr (by rw[Nat.zero_mul])⟩
     . intro b' hb';cases hb';have g:=Grown.drew w (olds++news++(Builtin.zeroCells zv.cells (grownCap w (len+n) cap e-(len+n))).toList).toArray e;have hsz:(olds++news++(Builtin.zeroCells zv.cells (grownCap w (len+n) cap e-(len+n))).toList).toArray.size=grownCap w (len+n) cap e*i.size:=by
        simp only[List.size_toArray,List.length_append,hol,hx.len,Array.length_toList,size_zeroCells,hzs,←Nat.add_mul];congr 1;omega
       refine⟨.inr ⟨rfl,by rw[g.size];omega⟩,?_,hge,g.row (p:=[]) (c:=olds++news) (q:=(Builtin.zeroCells zv.cells (grownCap w (len+n) cap e-(len+n))).toList) (by simp)⟩
       have:=g.blk
       rwa [hsz] at this
end
end Go.Mid
/- Append: the elements that are read,and the array behind it. -/
namespace Go.Mid
set_option linter.unusedSimpArgs false
set_option linter.unusedVariables false
open Go.RowKit
section
variable {w w':World}{A:Nat->Prop}{E:A0f An}{nx nx':Stp}{h:A0b}
mutual
theorem C6i (g:Nat):∀ {t:T An} {cs:List Value},TC w A E nx t cs->TC w A E nx (t.mapA (A0Q g)) cs
 |.p v,cs,h=>h
 |.m v,cs,h=>h
 |.agg l,cs,h=>by simp only[TC,T.mapA] at h ⊢;exact A9K g h
 |.vec an z l n,cs,h=>by
   simp only[TC,T.mapA] at h ⊢;obtain⟨a,cap,h1,h2,h3,h4⟩:=h;exact⟨a,cap,h1,by rw[T.mapAs_eq,List.length_map];exact h2,h3,B75 g h4⟩
 |.mp ..,cs,h=>by simp only[TC] at h
 |.hole n,cs,h=>h
theorem A9K (g:Nat):∀ {l:List (T An)} {cs:List Value},TCs w A E nx l cs->TCs w A E nx (T.mapAs (A0Q g) l) cs
 | [],cs,h=>by simpa only[TCs,T.mapAs] using h
 |t::r,cs,h=>by
   simp only[TCs,T.mapAs] at h ⊢;obtain⟨c,d,h1,h2,h3⟩:=h;exact⟨c,d,h1,C6i g h2,A9K g h3⟩
end
mutual
theorem TC.one:∀ {t:T An} {cs:List Value},A9V (t.mapA An.g)=true->TC w A E nx t cs->∀ c∈cs,c.oneCell'=true
 |.p v,cs,_,h=>by simp only[TC] at h;exact h.oneCell
 |.m v,cs,hs,h=>by
   simp only[TC] at h;obtain⟨_,_,val,h1,rfl⟩:=h;intro c hc;simp only[List.mem_singleton] at hc;subst hc;cases v<;>simp only[T.mapA,A9V,reduceCtorEq] at hs<;>simp only[MVv] at h1
   . obtain⟨_,_,_,rfl,_⟩:=h1;rfl
   . obtain⟨_,_,rfl,_⟩:=h1;rfl
   . obtain⟨_,_,rfl,_⟩:=h1;rfl
   . obtain⟨_,rfl,_⟩:=h1;unfold fnV;split<;>rfl
 |.agg l,cs,hs,h=>by simp only[TC] at h;simp only[T.mapA,A9V] at hs;exact TCs.one hs h
 |.vec ..,cs,_,h=>by
   simp only[TC] at h;obtain⟨_,_,rfl,_⟩:=h;intro c hc;simp only[List.mem_singleton] at hc;subst hc;rfl
 |.mp ..,cs,_,h=>by simp only[TC] at h
 |.hole n,cs,hs,_=>by simp[T.mapA,A9V] at hs
theorem TCs.one:∀ {l:List (T An)} {cs:List Value},A6Q (T.mapAs An.g l)=true->TCs w A E nx l cs->∀ c∈cs,c.oneCell'=true
 | [],cs,_,h=>by simp only[TCs] at h;subst h;intro c hc;cases hc
 |t::r,cs,hs,h=>by
   simp only[TCs] at h;simp only[T.mapAs,A6Q,Bool.and_eq_true] at hs;obtain⟨c,d,rfl,h1,h2⟩:=h;intro x hx;rcases List.mem_append.1 hx with hx | hx
   . exact TC.one hs.1 h1 x hx
   . exact TCs.one hs.2 h2 x hx
end
theorem B4S {l:List (T An)}(h:(l.map (T.mapA An.g)).all A3C=true):∃vs:List PV,l=vs.map .p:=by
 induction l with
 |nil=>exact⟨[],rfl⟩
 |cons t r ih =>
   simp only[List.map_cons,List.all_cons,Bool.and_eq_true] at h;obtain⟨vs,hvs⟩:=ih h.2;cases t<;>simp only[T.mapA,A3C,reduceCtorEq] at h
   . exact⟨_::vs,by rw[hvs];rfl⟩
   all_goals exact absurd h.1 (by simp)
theorem D1Q {ts:List (T Nat)}(h:ts.all A3C=true):∃vs:List PV,ts=vs.map .p:=by
 induction ts with
 |nil=>exact⟨[],rfl⟩
 |cons t r ih =>
   simp only[List.all_cons,Bool.and_eq_true] at h;obtain⟨vs,hvs⟩:=ih h.2;cases t<;>simp only[A3C,reduceCtorEq] at h
   . exact⟨_::vs,by rw[hvs];rfl⟩
   all_goals exact absurd h.1 (by simp)
theorem B3z (g:Nat)(vs:List PV):A0N g (vs.map .p)=vs.map .p:=by
 induction vs with
 |nil=>rfl
 |cons x r ih=>simp only[List.map_cons,A0N,A0H,A0R] at ih ⊢;rw[ih]
theorem C0J {z:Nat}{l:List (T Nat)}(h:A2j z l=true):T.css l=l.length*z:=by
 induction l with
 |nil=>simp[T.css]
 |cons t r ih =>
   simp only[A2j,List.all_cons,Bool.and_eq_true,beq_iff_eq] at h;simp only[T.css,List.length_cons,ih h.2,h.1,Nat.succ_mul];omega
theorem IntoL.plain {γ:Nat}(hm:MR w A E h nx){vs:List PV}{cs:List Value}(hc:PVcs w A vs cs):IntoL w A E nx γ cs (vs.map .p) h E (vs.map .p) where
 er:=by rw[List.map_map];rfl
 mr:=hm
 tc:=TCs_p.2 hc
 nd:=by rw[B0X];exact List.nodup_nil
 own:=by rw[B0X];intro b hb;cases hb
 sub:=λ_ h=>h
 st:=C11 vs
 ns:=NSub.refl E
 new:=by
  intro i t ht q y hy;rw[List.getElem?_map] at ht;cases hv:vs[i]? with
  |none=>simp[hv] at ht
  |some v =>
    simp only[hv,Option.map_some,Option.some.injEq] at ht;subst ht;rw[B8b] at hy;cases hy
 one:=hc.oneCell
 ls:=LSub.refl E
theorem PVel.row:∀ {l:List PV} {b o z:Nat},PVel w A l b o z->∃ cs,PVcs w A l cs∧Row w b o cs
 | [],b,o,z,_=>⟨[],by simp only[PVcs],Row.nil⟩
 |x::r,b,o,z,k=>by
   simp only[PVel] at k;obtain⟨⟨c,h1,h2,h3⟩,h4⟩:=k;obtain⟨d,h5,h6⟩:=PVel.row h4;exact⟨c++d,by simp only[PVcs];exact⟨c,d,rfl,h1,h5⟩,Row.append.2 ⟨h3,by rw[h2];exact h6⟩⟩
theorem C2G {l:List (T An)}{b z:Nat}(k:TsAt w A E nx l b 0)(hz:∀t∈l,t.cs=z){off len:Nat}(hl:off+len<=l.length):TsAt w A E nx ((l.drop off).take len) b (off*z):=by
 have e:l=l.take off++((l.drop off).take len++(l.drop off).drop len):=by rw[List.take_append_drop,List.take_append_drop]
 rw[e] at k;have h1:=(TsAt.append.1 k).2;rw[A5U hz (by omega),Nat.zero_add] at h1
 exact(TsAt.append.1 h1).1
theorem B9G {n:Stp}:∀{l m:List (T An)},(∀t∈m,t∈l)->T.sts n l->T.sts n m:=by
 have get:∀{l:List (T An)} {t:T An},t∈l->T.sts n l->t.st n:=by
  intro l
  induction l with
  |nil=>intro t ht;cases ht
  |cons x r ih =>
    intro t ht k;simp only[T.sts] at k;rcases List.mem_cons.1 ht with rfl | ht
    . exact k.1
    . exact ih ht k.2
 intro l m
 induction m with
 |nil=>intro _ _;trivial
 |cons x r ih =>
   intro h k;simp only[T.sts];exact⟨get (h x (by simp)) k,ih (λt ht=>h t (by simp[ht])) k⟩
theorem B0g {P:Program}{γ:Nat}(hm:MR w A E h nx){y:MV}{val:Value}{ts:List (T Nat)}{h1:A0b}{z:Nat}(hv:MVv w A E nx y val)(ht:A1H h y=some (ts,h1))(hz:A2j z ts=true) :
 ∃news E1 lA,SrcOk P w z val ts.length news∧IntoL w A E nx γ news (A0N γ ts) h1 E1 lA:=by
 unfold A1H at ht;split at ht
 . cases ht
 . rename_i ts' hel;split at ht
   . rename_i hpl;simp only [Option.some.injEq,Prod.mk.injEq] at ht;obtain ⟨rfl,rfl⟩:=ht;obtain ⟨vs,rfl⟩:=D1Q hpl;have hlen:∀ {cs:List Value},PVcs w A vs cs->cs.length=(vs.map (T.p (α:=Nat))).length*z:=by
      intro cs hc;rw[hc.len,←B1I (α:=Nat),C0J hz]
     rw[B3z];cases y with
     |p v =>
       cases v<;>simp only[elems,reduceCtorEq] at hel;rename_i l;simp only[Option.some.injEq] at hel;have hl:l=vs:=by
        have:=congrArg A1h hel
        rw[A7x,A7x] at this;exact Option.some.inj this
       subst hl;obtain⟨p,cap,rfl,hlc,hor⟩:=A43.1 hv;rcases hor with rfl | ⟨b,o,z',rfl,hb,hel⟩
       . refine ⟨[],E,[],?_,IntoL.plain hm (vs:=[]) (by simp only [PVcs])⟩
         exact SrcOk.of_row (by simp) (.inl rfl)
       . obtain⟨cs,h2,h3⟩:=hel.row;refine⟨cs,E,_,?_,IntoL.plain hm h2⟩;rw[List.length_map];exact SrcOk.of_row (by have:=hlen h2;rwa [List.length_map] at this) (.inr ⟨b,o,rfl,h3⟩)
     |nil zz =>
       simp only[elems,Option.some.injEq] at hel;simp only[MVv] at hv;obtain⟨a,rfl⟩:=hv
       have:vs=[]:=by
        cases vs with
        |nil=>rfl
        |cons x r=>simp at hel
       subst this;exact⟨[],E,[],SrcOk.of_row (by simp) (.inl rfl),IntoL.plain hm (vs:=[]) (by simp only[PVcs])⟩
     |own id path off len g =>
       simp only[elems] at hel;split at hel
       . rename_i g' z0 l hvec;split at hel
         . rename_i hc;obtain ⟨rfl,hle⟩:=hc;simp only [Option.some.injEq] at hel;obtain ⟨an,lA,hvA,rfl,rfl⟩:=hm.vec hvec;have hB:=hm.vecB hvA;have hnode:=A1E hvA;simp only [MVv] at hv;obtain ⟨_,a,cap,rfl,hlc,hh⟩:=hv;have hdr:=hh an z0 hnode rfl;rw [List.length_map] at hle;have hel':((lA.drop off).take len).map (T.mapA An.g)=vs.map .p:=by rw [← hel];simp
           obtain⟨vs',hvs'⟩:=B4S (l:=(lA.drop off).take len) (by rw[hel'];exact hpl)
           have hvv:vs'=vs:=by
            rw[hvs',List.map_map] at hel'
            have:(vs'.map (T.p (α:=Nat)))=vs.map .p:=hel'
            have:=congrArg A1h this
            rw[A7x,A7x] at this;exact Option.some.inj this
           subst hvv;have hlenv:vs'.length=len:=by
            have:=congrArg List.length hvs'
            simp at this;omega
           simp only[VB] at hB;cases hb:an.b with
           |none =>
             simp only[hb] at hB
             have:len=0:=by have:=hB.1;subst this;simp at hle;omega
             subst this
             have:vs'=[]:=List.eq_nil_of_length_eq_zero hlenv
             subst this;exact⟨[],E,[],SrcOk.of_row (by simp) (.inl rfl),IntoL.plain hm (vs:=[]) (by simp only[PVcs])⟩
           |some b =>
             simp only[hb] at hB;obtain⟨_,_,hzz,hat⟩:=hB;have hsub:=C2G hat hzz hle;rw[hvs'] at hsub;obtain⟨cs,h2,h3⟩:=(TsAt_p.1 hsub).tc;simp only[TC,PVc] at h2;refine⟨cs,E,_,?_,IntoL.plain hm h2⟩;rw[List.length_map,hlenv];refine SrcOk.of_row (by have:=hlen h2;rwa [List.length_map,hlenv] at this) ?_
             simp only[A0I,hb] at hdr;rcases hdr.2 with⟨h5,_⟩ | h5
             . exact .inl h5
             . exact .inr ⟨b,off*z0,h5,h3⟩
         . cases hel
       . cases hel
     |ptr=>simp only[elems,reduceCtorEq] at hel
     |mref=>simp only[elems,reduceCtorEq] at hel
     |agg=>simp only[elems,reduceCtorEq] at hel
     |fn=>simp only[elems,reduceCtorEq] at hel
     |tup=>simp only[elems,reduceCtorEq] at hel
     |dead=>simp only[elems,reduceCtorEq] at hel
   . split at ht
     . rename_i id len g;split at ht
       . rename_i g1 z1 l hid;split at ht
         . rename_i hc;obtain ⟨rfl,hsol⟩:=hc;simp only [Option.some.injEq,Prod.mk.injEq] at ht;obtain ⟨rfl,rfl⟩:=ht;simp only [elems] at hel;split at hel
           . rename_i g' z0 l2 hvec;split at hel
             . rename_i hc;obtain ⟨rfl,hle⟩:=hc;simp only [Option.some.injEq] at hel;obtain ⟨an,lA,hEid,rfl,hll,hmr,hvb,hnd,hown,hsub⟩:=hm.takeRoot hid;have hvec2:A0D (h id) []=some (an.g,z1,l):=by rw [hid];rfl
               rw[hvec2] at hvec;simp only[Option.some.injEq,Prod.mk.injEq] at hvec;obtain⟨rfl,rfl,rfl⟩:=hvec;rw[List.drop_zero,List.take_length] at hel;subst hel;have hnode:A0h (E id) (some [])=some (an,some z1):=by rw[hEid];rfl
               simp only[MVv] at hv;obtain⟨_,a,cap,rfl,hlc,hh⟩:=hv;have hdr:=hh an z1 hnode rfl;have hst:=hm.st id _ hEid;simp only[Obj.st] at hst;have hvb0:VB w A (upd E id (some .gone)) nx an z1 lA:=hvb.frame (NSub.fr (NSub.gone E id) (Stp.le_refl nx)) (λ_ _=>rfl)
               have hlz:(T.mapAs An.g lA)=lA.map (T.mapA An.g):=T.mapAs_eq _ _;have hcs:∃news,TCs w A (upd E id (some .gone)) nx lA news∧(l.length=0∨∃b o,a=some ⟨b,o,none⟩∧Row w b o news):=by
                simp only[VB] at hvb0;cases hb:an.b with
                |none =>
                  simp only[hb] at hvb0;have h0:=hvb0.1;subst h0;refine⟨[],by simp only[TCs],.inl (by rw[hll];rfl)⟩
                |some b =>
                  simp only[hb] at hvb0;obtain⟨cs,h2,h3⟩:=hvb0.2.2.2.tc;refine⟨cs,h2,?_⟩;simp only[A0I,hb] at hdr;rcases hdr.2 with⟨h5,_⟩ | h5
                  . exact .inl h5
                  . exact .inr ⟨b,0,by rw[h5,Nat.zero_mul],h3⟩
               obtain⟨news,hnews,hrow⟩:=hcs;refine⟨news,upd E id (some .gone),T.mapAs (A0Q γ) lA,SrcOk.of_row (by rw[hnews.len,←T.css_map An.g,hlz,←hll,C0J hz]) hrow,?_⟩
               constructor
               . rw[←T.mapAs_eq,A4R,hlz,←hll]
               . exact hmr
               . exact A9K γ hnews
               . rw[A2t];exact(List.nodup_append.1 hnd).2.1
               . rw[A2t];exact λb hb=>hown b (by simp[hb])
               . exact hsub
               . exact A4Q nx γ lA
               . exact NSub.gone E id
               . intro i t ht q y hy;rw [T.mapAs_eq,List.getElem?_map] at ht;cases hl:lA[i]? with
                 |none=>simp[hl] at ht
                 |some u =>
                   simp only[hl,Option.map_some,Option.some.injEq] at ht;subst ht;exact A7O hy
               . exact TCs.one (by rw[hlz,←hll];exact hsol) hnews
               . exact LSub.gone E id
             . cases hel
           . cases hel
         . cases ht
       . cases ht
     . cases ht
end
end Go.Mid
/- Append: the operation. -/
namespace Go.Mid
set_option linter.unusedSimpArgs false
set_option linter.unusedVariables false
open Go.RowKit
section
variable {w w':World}{A:Nat->Prop}{E Eb:A0f An}{nx:Stp}{γ:Nat}{h hb:A0b}
theorem B58 (hγ:¬ nx γ)(m:MR w A E h nx)(mb:MR w A Eb hb nx)(hsub:∀ b,A0B Eb b->A0B E b)(hnE:NSt nx E Eb){an:An}{z len n capn cap' d:Nat}{a':Option Addr}{bo:Option Nat}{cs:List Value}{l:List (T An)}
 (k:AppW w w' an γ z len n a' cap' bo capn cs) (hlen:l.length=len+n) (hz:∀t∈l,t.cs=z) (htc:TCs w A Eb nx l cs)
 (hnd:(T.blks l).Nodup) (hown:∀b∈T.blks l,A0B E b∧(∀j o,j≠d->Eb j=some o->b∉o.blk)∧an.b≠some b)
 (han:∀b,an.b=some b->A0B E b∧∀j o,j≠d->Eb j=some o->b∉o.blk) (hst:T.sts (nx.add γ) l)
 (hnew:∀(i:Nat) (t:T An),l[i]?=some t->∀q y,ndT t q=some y->nx y.1.g->A0h (Eb d) (some (i::q))=some y) :
 ∃E2,MR w' A E2 (upd hb d (some (.vec γ z (l.map (T.mapA An.g))))) (nx.add γ)∧Go1 w A E nx w' A E2∧MVv w' A E2 (nx.add γ) (.own d [] 0 (len+n) γ) (.slice a' (len+n) cap'):=by
 have hbn:∀b,bo=some b->(an.b=some b∨b=w.heap.size∧b<w'.heap.size):=λb hb=>(k.som b hb).1
 have hns:∀np y,A0h (some (.vec ⟨γ,bo,capn⟩ z l)) np=some y->nx y.1.g->A0h (Eb d) np=some y:=by
  intro np y hy hg;cases np with
  |none=>simp[A0h] at hy
  |some q =>
    have hy0:=hy;rw[A1F] at hy;cases q with
    |nil =>
      simp only[Obj.asT,ndT,A0e,Option.some.injEq] at hy;subst hy;exact(hγ hg).elim
    |cons i r =>
      simp only[Obj.asT,A7y] at hy;cases hl:l[i]? with
      |none=>simp[hl] at hy
      |some t=>simp only[hl,Option.bind_some] at hy;exact hnew i t hl r y hy hg
 have hblk:∀b∈(Obj.vec ⟨γ,bo,capn⟩ z l).blk,bo=some b∨b∈T.blks l:=by
  intro b hb;simp only[Obj.blk,List.mem_append,Option.mem_toList] at hb;exact hb
 have hltb:∀b,A0B E b->b<w.heap.size∧¬A b:=m.lt;have s:Set2 w w' A Eb nx (nx.add γ) d (.vec ⟨γ,bo,capn⟩ z l):=by
  refine⟨nx.le_add γ,k.size,?_,hns,?_,?_,?_,⟨nx.mem_add γ,hst⟩⟩
  . intro b hb hor;refine k.keep b hb (λe=>?_)
    rcases hor with hA | ⟨j,o,hj,ho,hbo⟩
    . exact(hltb b (han b e).1).2 hA
    . exact(han b e).2 j o hj ho hbo
  . intro b hb;rcases hblk b hb with hb | hb
    . rcases hbn b hb with e | ⟨rfl,h2⟩
      . have:=hltb b (han b e).1;exact⟨Nat.lt_of_lt_of_le this.1 k.size,this.2⟩
      . exact⟨h2,λhA=>absurd (m.im _ hA) (by omega)⟩
    . have:=hltb b (hown b hb).1;exact⟨Nat.lt_of_lt_of_le this.1 k.size,this.2⟩
  . simp only [Obj.blk];cases hbo:bo with
    |none=>simpa using hnd
    |some b =>
      simp only[Option.toList,List.cons_append,List.nil_append];refine List.nodup_cons.2 ⟨λhb=>?_,hnd⟩
      rcases hbn b hbo with e | ⟨rfl,_⟩
      . exact(hown b hb).2.2 e
      . have:=(hltb _ (hown _ hb).1).1;omega
  . intro b hb j o hj ho hbo;rcases hblk b hb with hb | hb
    . rcases hbn b hb with e | ⟨rfl,_⟩
      . exact(han b e).2 j o hj ho hbo
      . have:=(mb.notA ho hbo).1;omega
    . exact(hown b hb).2.1 j o hj ho hbo
 have f:=s.fr mb;have hch:∀x∈T.blks l,w'.heap[x]?=w.heap[x]?:=λx hx=>k.keep x (hltb x (hown x hx).1).1 (hown x hx).2.2
 have htc':=htc.frame f hch;have hat:OAt w' A (upd Eb d (some (.vec ⟨γ,bo,capn⟩ z l))) (nx.add γ) (.vec ⟨γ,bo,capn⟩ z l):=by
  simp only[OAt,VB];cases hbo:bo with
  |none =>
    have:=k.non hbo
    refine⟨List.eq_nil_of_length_eq_zero (by omega),this.2⟩
  |some b =>
    obtain⟨_,h2,h3,h4⟩:=k.som b hbo;rw[hbo] at htc';exact⟨h2,by omega,hz,htc'.at_ h4⟩
 refine⟨upd Eb d (some (.vec ⟨γ,bo,capn⟩ z l)),?_,?_,?_⟩
 . have:=mb.set2 s hat
   simpa only[Obj.mapA,T.mapAs_eq] using this
 . refine Go1.of (E1:=Eb) ⟨k.os,k.tape,k.output⟩ k.size (λb hb ho=>k.keep b hb (λe=>ho (han b e).1)) ?_ hnE f.hE
   intro b hlt ho;rcases A4P ho with h1 | ⟨i,oi,hi,hoi,hbi⟩
   . rcases hblk b h1 with h2 | h2
     . rcases hbn b h2 with e | ⟨rfl,_⟩
       . exact(han b e).1
       . omega
     . exact(hown b h2).1
   . exact hsub b ⟨i,oi,hoi,hbi⟩
 . simp only [MVv];refine ⟨nx.mem_add γ,_,_,rfl,k.le,λan' z' hn _=>?_⟩
   rw[A0L] at hn;simp only[A0h,Option.some.injEq,Prod.mk.injEq] at hn;obtain⟨rfl,rfl⟩:=hn;exact k.hdr
end
section
variable {P:Program}{o:Oper}{a:Act}{w:World}{A:Nat->Prop}{E:A0f An}{nx:Stp}{γ:Nat}{v:MV}{h h':A0b}{s:A0o}{K:A0w}{d:Option Nat}
theorem B3A {c:Call}{t:TypeId}{x y:Operand}(ho:o.op=.call c)(hc1:c.callee=.builtin .append)(hc2:c.args=#[x,y])(hc3:c.argTypes=#[t,t]) :
 (execOp a.eval o).run P w=match (Builtin.append_ #[t,t] o.type #[a.eval x,a.eval y]).run P w with | .ok v w'=>.ok (.value v) w' | .halt e w'=>.halt e w':=by
 rw[A30 ho hc1];simp only[builtin,hc2,hc3];simp only[Sem.run_bind,Sem.run_pure];have e:Array.map a.eval #[x,y]=#[a.eval x,a.eval y]:=by simp
 rw[e];cases (Builtin.append_ #[t,t] o.type #[a.eval x,a.eval y]).run P w<;>rfl
theorem C44 {an:An}{z len:Nat}{l:List (T An)}(k:VB w A E nx an z l)(hl:len<=l.length):∃ olds,TCs w A E nx (l.take len) olds∧olds.length=len*z∧(∀ t∈l.take len,t.cs=z) ∧
 (an.b=none->an.cap=0)∧∀b,an.b=some b->Blk w b (an.cap*z)∧len<=an.cap∧Row w b 0 olds:=by
 simp only[VB] at k;cases hb:an.b with
 |none =>
   simp only[hb] at k;obtain⟨rfl,k2⟩:=k;simp only[List.length_nil,Nat.le_zero] at hl;subst hl;exact⟨[],by simp only[List.take_nil,TCs],by simp,by simp,λ_=>k2,by simp⟩
 |some b =>
   simp only[hb] at k;obtain⟨k1,k2,k3,k4⟩:=k;have h1:=C2G k4 k3 (off:=0) (len:=len) (by omega)
   rw[List.drop_zero,Nat.zero_mul] at h1;obtain⟨olds,h2,h3⟩:=h1.tc;have hz:∀t∈l.take len,t.cs=z:=λt ht=>k3 t (List.mem_of_mem_take ht)
   refine⟨olds,h2,?_,hz,by simp,λb' hb'=>?_⟩
   . rw [h2.len]
     have:=A5U (l:=l) (i:=len) k3 hl
     exact this
   . cases hb';exact⟨k1,by omega,h3⟩
theorem C0K {l:List (T An)}{n:Nat}:∃rest,T.blks l=T.blks (l.take n)++rest:=⟨T.blks (l.drop n),by rw[←A18,List.take_append_drop]⟩
theorem D1R (hm:MR w A E h nx)(hγ:¬ nx γ){t e:TypeId}{xv yv:MV}{vx vy:Value}(ht:P.underlying t=some (.slice e))(hc0:P.cellsOf e≠0)(hb0:P.bytesOf e≠0)(hz:(A42 P e).map List.length=some (P.cellsOf e))
 (hx:MVv w A E nx xv vx) (hy:MVv w A E nx yv vy) (he:A3y γ d h (P.cellsOf e) (P.bytesOf e) xv yv=some (v,h')) (ty:TypeId) :
 ∃val w' E2,(Builtin.append_ #[t,t] ty #[vx,vy]).run P w=.ok val w'∧MR w' A E2 h' (nx.add γ)∧Go1 w A E nx w' A E2∧MVv w' A E2 (nx.add γ) v val:=by
 cases hzc:A42 P e with
 |none=>simp[hzc] at hz
 |some zc =>
   simp only[hzc,Option.map_some,Option.some.injEq] at hz;obtain⟨zv,_,hzcells,i,hi,hiz⟩:=A5C hzc w;have hbytes:P.bytesOf e=i.bytes:=by simp[Program.bytesOf,hi]
   have hcells:P.cellsOf e=i.size:=by simp[Program.cellsOf,hi]
   have hzs:zv.cells.size=i.size:=by rw[hzcells,←hcells];simpa using hz
   rw[hcells] at he hc0;rw[hbytes] at he hb0;unfold A3y at he;split at he
   . cases he
   . rename_i ts h1 hte;split at he
     . cases he
     . rename_i hcs;have hcs':A2j i.size ts=true:=by simpa using hcs
       obtain⟨news,E1,lA,hsrc,kA⟩:=B0g (P:=P) (γ:=γ) hm hy hte hcs';have hlA:lA.length=ts.length:=by
        have:=congrArg List.length kA.er
        simp only[List.length_map,A0N] at this;rw[this]
        have:∀l:List (T Nat),(A0H (λv=>v) (λ_=>γ) l).length=l.length:=by
         intro l;induction l with
         |nil=>rfl
         |cons x r ih=>simp only[A0H,List.length_cons,ih]
        exact this ts
       have hzA:∀t∈lA,t.cs=i.size:=by
        have h2:A2j i.size (lA.map (T.mapA An.g))=true:=by
         rw[kA.er]
         have:∀l:List (T Nat),A2j i.size l=true->A2j i.size (A0N γ l)=true:=by
          intro l;have hcst:∀t:T Nat,(A0R (λv=>v) (λ_=>γ) t).cs=t.cs:=by
           have key:(∀t:T Nat,(A0R (λv=>v) (λ_=>γ) t).cs=t.cs):=by
            intro t;refine T.rec (motive_1:=λt=>(A0R (λv=>v) (λ_=>γ) t).cs=t.cs) (motive_2:=λl=>T.css (A0H (λv=>v) (λ_=>γ) l)=T.css l) ?_ ?_ ?_ ?_ ?_ ?_ ?_ ?_ t
            . intro v;rfl
            . intro v;rfl
            . intro l ih;simp only[A0R,T.cs];exact ih
            . intro a z l n ih;rfl
            . intro a ks vs ih;rfl
            . intro n;rfl
            . rfl
            . intro hd tl h1 h2;simp only[A0H,T.css,h1,h2]
           exact key
          induction l with
          |nil=>intro _;rfl
          |cons x r ih =>
            intro hl;simp only[A2j,List.all_cons,Bool.and_eq_true,beq_iff_eq,A0N,A0H] at hl ih ⊢;exact⟨by rw[hcst];exact hl.1,ih hl.2⟩
         exact this ts hcs'
        intro t ht;simp only[A2j,List.all_eq_true,beq_iff_eq] at h2
        have:=h2 _ (List.mem_map_of_mem ht)
        rwa [T.cs_map] at this
       have hown1:∀b∈T.blks lA,∀(j:Nat) (o:Obj An),E1 j=some o->b∉o.blk:=λb hb j o ho hbo=>(kA.own b hb).2 ⟨j,o,ho,hbo⟩
       have hbytes1:1<=i.bytes:=Nat.pos_of_ne_zero hb0;have room63:∀k,k*i.bytes<=D8a->k<=D8a:=λk hk=>Nat.le_trans (Nat.le_mul_of_pos_right k hbytes1) hk
       split at he
       . -- nil
         split at he
         . rename_i hroom;cases d with
           |none=>simp[A0O] at he
           |some d =>
             simp only[A0O,Option.getD_some,Option.some.injEq,Prod.mk.injEq] at he;obtain⟨rfl,rfl⟩:=he;simp only[MVv] at hx;obtain⟨ax,rfl⟩:=hx;obtain⟨a',cap',w',bo,capn,hrun,k⟩:=B9F (ty:=ty) ht hi hiz hzs γ (an:=⟨γ,none,0⟩) (a:=ax) (len:=0) (cap:=0) (olds:=[]) ⟨rfl,rfl⟩ (Nat.le_refl _) (λ_=>rfl) (by simp) (by simp) hsrc kA.one (by rw[Nat.zero_add];exact room63 _ hroom) (by rw[Nat.zero_add];exact hroom)
             rw [List.nil_append] at k;obtain ⟨E2,k1,k2,k3⟩:=B58 (d:=d) hγ hm kA.mr kA.sub (kA.ns.nst nx) k (by rw [hlA,Nat.zero_add]) hzA kA.tc kA.nd (λb hb=>⟨(kA.own b hb).1,λj o _ ho=>hown1 b hb j o ho,by simp⟩) (by simp) kA.st
              (λj t hj q y hy hg=>by rw[kA.new j t hj q y hy] at hg;exact(hγ hg).elim)
             rw[kA.er] at k1;rw[Nat.zero_add] at hrun k3;exact⟨_,w',E2,hrun,k1,k2,k3⟩
         . cases he
       . rename_i id path off len g0;split at he
         . rename_i hoff;subst hoff;have hx1:=hx.frame (NSub.fr (w:=w) (A:=A) kA.ns (Stp.le_refl nx));simp only [MVv] at hx1;obtain ⟨hg0,ax,cap,rfl,hlc,hh⟩:=hx1;split at he
           . -- a root
             rename_i g1 z1 l hid;unfold A9o at he;split at he
             . rename_i hc;obtain ⟨rfl,rfl,hle,hroom⟩:=hc;simp only [Option.some.injEq,Prod.mk.injEq] at he;obtain ⟨rfl,rfl⟩:=he;rw [kA.mr.er id] at hid;cases hE1:E1 id with
               |none=>simp[hE1] at hid
               |some ob =>
                 cases ob<;>simp only[hE1,Option.map_some,Obj.mapA,reduceCtorEq,Option.some.injEq,Obj.vec.injEq] at hid;rename_i an z' l';obtain⟨rfl,rfl,rfl⟩:=hid;rw[T.mapAs_eq,List.length_map] at hle;have hdr:=hh an i.size (by rw[hE1];rfl) rfl
                 have hvb:VB w A E1 nx an i.size l':=by have:=kA.mr.at_ id _ hE1;simpa only[OAt] using this
                 obtain⟨olds,h2,h3,h4,h5,h6⟩:=C44 hvb hle;obtain⟨a',cap',w',bo,capn,hrun,k⟩:=B9F (ty:=ty) ht hi hiz hzs γ hdr hlc h5 h3 h6 hsrc kA.one (room63 _ hroom) hroom;obtain⟨rest,hrest⟩:=C0K (l:=l') (n:=len);have hndo:=kA.mr.nd id _ hE1;simp only[Obj.blk] at hndo;have hndl:=(List.nodup_append.1 hndo).2.1;rw[hrest] at hndl;have hmemt:∀b∈T.blks (l'.take len),b∈(Obj.vec an i.size l').blk:=λb hb=>by simp only[Obj.blk,List.mem_append];exact .inr (by rw[hrest];simp[hb])
                 obtain ⟨E2,k1,k2,k3⟩:=B58 (d:=id) hγ hm kA.mr kA.sub (kA.ns.nst nx) k (l:=l'.take len++lA) (by rw [List.length_append,List.length_take,hlA,Nat.min_eq_left hle])
                  (λt ht=>(List.mem_append.1 ht).elim (h4 t) (hzA t)) (h2.append kA.tc)
                  (by
                    rw[A18];refine List.nodup_append.2 ⟨(List.nodup_append.1 hndl).1,kA.nd,?_⟩;rintro b hb _ hb' rfl;exact hown1 b hb' id _ hE1 (hmemt b hb))
                  (λb hb=>by
                    rw[A18] at hb;rcases List.mem_append.1 hb with hb | hb
                    . refine ⟨kA.sub b ⟨id,_,hE1,hmemt b hb⟩,λj o hj ho=>kA.mr.dj id j _ o (Ne.symm hj) hE1 ho b (hmemt b hb),λe=>?_⟩
                      rw[e] at hndo;exact(List.nodup_append.1 hndo).2.2 b (by simp) b (by rw[hrest];simp[hb]) rfl
                    . refine ⟨(kA.own b hb).1,λj o _ ho=>hown1 b hb j o ho,λe=>?_⟩
                      exact hown1 b hb id _ hE1 (by simp[Obj.blk,e]))
                  (λb e=>by
                    have hbm:b∈(Obj.vec an i.size l').blk:=by simp[Obj.blk,e]
                    exact⟨kA.sub b ⟨id,_,hE1,hbm⟩,λj o hj ho=>kA.mr.dj id j _ o (Ne.symm hj) hE1 ho b hbm⟩)
                  (by
                    have hst:=kA.mr.st id _ hE1;simp only[Obj.st] at hst;have h8:T.sts (nx.add γ) (l'.take len):=T.sts_mono (nx.le_add γ) (B9G (λt ht=>List.mem_of_mem_take ht) hst.2)
                    have:∀l m:List (T An),T.sts (nx.add γ) l->T.sts (nx.add γ) m->T.sts (nx.add γ) (l++m):=by
                     intro l m
                     induction l with
                     |nil=>intro _ h;exact h
                     |cons x r ih=>intro h1 h2;simp only[T.sts,List.cons_append] at h1 ⊢;exact⟨h1.1,ih h1.2 h2⟩
                    exact this _ _ h8 kA.st)
                  (λj t hj q y hy hg=>by
                    by_cases hjl:j<(l'.take len).length
                    . rw [List.getElem?_append_left hjl] at hj;have hj':l'[j]?=some t:=by
                       rw[List.length_take] at hjl;rw[List.getElem?_take_of_lt (by omega)] at hj;exact hj
                      rw[hE1,A1F];simp only[Obj.asT,A7y,hj',Option.bind_some];exact hy
                    . rw [List.getElem?_append_right (by omega)] at hj
                      rw[kA.new _ t hj q y hy] at hg;exact(hγ hg).elim)
                 rw[List.map_append,kA.er,List.map_take,←T.mapAs_eq] at k1;exact⟨_,w',E2,hrun,k1,k2,k3⟩
             . cases he
           . -- a place
             unfold A5T at he;split at he
             . rename_i g1 z1 l n hsub;split at he
               . rename_i hc;obtain ⟨rfl,rfl,rfl,hle,hroom⟩:=hc;split at he
                 . rename_i oh hput;cases d with
                   |none=>simp[A0O] at he
                   |some d =>
                     simp only[A0O,Option.getD_some,Option.some.injEq,Prod.mk.injEq] at he;obtain⟨rfl,rfl⟩:=he;obtain⟨E1',an,l',hsubE,hnode,rfl,rfl,hmr,hvb,hnd,hown,hsub',hns,hls⟩:=kA.mr.takeOut hsub hput;rw[List.length_map] at hle;have hdr:=hh an i.size hnode rfl;have hvb':VB w A E1' nx an i.size l':=hvb.frame (NSub.fr hns (Stp.le_refl nx)) (λ_ _=>rfl)
                     have htA':=kA.tc.frame (NSub.fr (w:=w) (A:=A) hns (Stp.le_refl nx)) (λ_ _=>rfl)
                     obtain⟨olds,h2,h3,h4,h5,h6⟩:=C44 hvb' hle;obtain⟨a',cap',w',bo,capn,hrun,k⟩:=B9F (ty:=ty) ht hi hiz hzs γ hdr hlc h5 h3 h6 hsrc kA.one (room63 _ hroom) hroom;obtain⟨rest,hrest⟩:=C0K (l:=l') (n:=len);have hndl:=(List.nodup_append.1 hnd).2.1;rw[hrest] at hndl;have hmemt:∀b∈T.blks (l'.take len),b∈an.b.toList++T.blks l':=λb hb=>List.mem_append.2 (.inr (by rw[hrest];simp[hb]))
                     have hno:∀b,¬A0B E1' b->∀(j:Nat) (o:Obj An),E1' j=some o->b∉o.blk:=λb hb j o ho hbo=>hb ⟨j,o,ho,hbo⟩
                     obtain ⟨E2,k1,k2,k3⟩:=B58 (d:=d) hγ hm hmr (λb hb=>kA.sub b (hsub' b hb)) ((kA.ns.trans hns).nst nx) k (l:=T.mapAs (A0Q γ) (l'.take len)++lA)
                      (by rw[List.length_append,T.mapAs_eq,List.length_map,List.length_take,hlA,Nat.min_eq_left hle])
                      (λt ht=>(List.mem_append.1 ht).elim (λht=>by
                        rw[T.mapAs_eq] at ht;obtain⟨u,hu,rfl⟩:=List.mem_map.1 ht;rw[T.cs_map];exact h4 u hu) (hzA t)) ((A9K γ h2).append htA')
                      (by
                        rw[A18,A2t];refine List.nodup_append.2 ⟨(List.nodup_append.1 hndl).1,kA.nd,?_⟩;rintro b hb _ hb' rfl;exact(kA.own b hb').2 (hown b (hmemt b hb)).1)
                      (λb hb=>by
                        rw[A18,A2t] at hb;rcases List.mem_append.1 hb with hb | hb
                        . refine ⟨kA.sub b (hown b (hmemt b hb)).1,λj o _ ho=>hno b (hown b (hmemt b hb)).2 j o ho,λe=>?_⟩
                          rw[e] at hnd;exact(List.nodup_append.1 hnd).2.2 b (by simp) b (by rw[hrest];simp[hb]) rfl
                        . refine ⟨(kA.own b hb).1,λj o _ ho=>hno b (λhc=>(kA.own b hb).2 (hsub' b hc)) j o ho,λe=>?_⟩
                          exact(kA.own b hb).2 (hown b (by simp[e])).1)
                      (λb e=>by
                        have hbm:=hown b (show b∈an.b.toList++T.blks l' by simp[e])
                        exact⟨kA.sub b hbm.1,λj o _ ho=>hno b hbm.2 j o ho⟩)
                      (by
                        have:∀l m:List (T An),T.sts (nx.add γ) l->T.sts (nx.add γ) m->T.sts (nx.add γ) (l++m):=by
                         intro l m
                         induction l with
                         |nil=>intro _ h;exact h
                         |cons x r ih=>intro h1 h2;simp only[T.sts,List.cons_append] at h1 ⊢;exact⟨h1.1,ih h1.2 h2⟩
                        exact this _ _ (A4Q nx γ _) kA.st)
                      (λj t hj q y hy hg=>by
                        by_cases hjl:j<(T.mapAs (A0Q γ) (l'.take len)).length
                        . rw [List.getElem?_append_left hjl] at hj;rw [T.mapAs_eq,List.getElem?_map] at hj;cases hu:(l'.take len)[j]? with
                          |none=>simp[hu] at hj
                          |some u =>
                            simp only[hu,Option.map_some,Option.some.injEq] at hj;subst hj;rw[A7O hy] at hg;exact(hγ hg).elim
                        . rw [List.getElem?_append_right (by omega)] at hj
                          rw[kA.new _ t hj q y hy] at hg;exact(hγ hg).elim)
                     have e:(T.mapAs (A0Q γ) (l'.take len)++lA).map (T.mapA An.g)=A0N γ ((l'.map (T.mapA An.g)).take len++ts):=by
                      rw[List.map_append,kA.er,←T.mapAs_eq,A4R,T.mapAs_eq,List.map_take]
                      have:∀l m:List (T Nat),A0N γ l++A0N γ m=A0N γ (l++m):=by
                       intro l m
                       induction l with
                       |nil=>rfl
                       |cons x r ih=>simp only[A0N,A0H,List.cons_append] at ih ⊢;rw[ih]
                      exact this _ _
                     rw[e] at k1;exact⟨_,w',E2,hrun,k1,k2,k3⟩
                 . cases he
               . cases he
             . cases he
         . cases he
       . cases he
end
end Go.Mid
/- Pure snapshots of owned memory;a root that becomes immutable. -/
namespace Go.Mid
set_option linter.unusedSimpArgs false
set_option linter.unusedVariables false
open Go.RowKit
theorem B0s:∀ {l:List (T Nat)} {vs:List PV},A0J l=some vs->vs.length=l.length
 | [],vs,h=>by simp only[A0J,Option.some.injEq] at h;subst h;rfl
 |t::r,vs,h=>by
   simp only[A0J] at h;split at h
   . rename_i h1 h2;cases h;rw[List.length_cons,List.length_cons,B0s h2]
   . cases h
section
variable {w:World}{A A':Nat->Prop}{E:A0f An}{nx:Stp}{h:A0b}
theorem PVcs.append {l m:List PV}{cs ds:List Value}(h:PVcs w A l cs)(k:PVcs w A m ds):PVcs w A (l++m) (cs++ds):=by
 induction l generalizing cs with
 |nil=>simp only[PVcs] at h;subst h;exact k
 |cons t r ih =>
   simp only[PVcs,List.cons_append] at h ⊢;obtain⟨c,d,rfl,h1,h2⟩:=h;exact⟨c,d++ds,by simp,h1,ih h2⟩
mutual
theorem B3B (hA:∀ b,A b->A' b):∀ {t:T An} {v:PV} {b o:Nat},A4B (t.mapA An.g)=some v->(∀ x∈t.blk,A' x)->TAt w A E nx t b o->∃ cs,PVc w A' v cs∧cs.length=t.cs∧Row w b o cs
 |.p u,v,b,o,h,_,k=>by
   simp only[T.mapA,A4B,Option.some.injEq] at h;subst h;simp only[TAt] at k;obtain⟨cs,h1,h2⟩:=k;exact⟨cs,h1.frame hA (λ_ _=>rfl),h1.len,h2⟩
 |.m u,v,b,o,h,_,k=>by simp[T.mapA,A4B] at h
 |.agg l,v,b,o,h,hb,k=>by
   simp only[T.mapA,A4B] at h;split at h
   . rename_i vs hvs;cases h;simp only [TAt] at k;obtain ⟨cs,h1,h2,h3⟩:=B4T hA hvs (by simpa only [T.blk] using hb) k
     exact⟨cs,by simpa only[PVc] using h1,h2,h3⟩
   . cases h
 |.vec an z l n,v,b,o,h,hb,k=>by
   simp only[T.mapA,A4B] at h;split at h
   . rename_i vs hvs;cases h;simp only [TAt] at k;obtain ⟨a,cap,h1,h2,h3,h4⟩:=k;have hlen:vs.length=l.length:=by rw [B0s hvs,T.mapAs_eq,List.length_map]
     have hln:(vs.take n).length=n:=by rw[List.length_take];omega
     refine⟨[.slice a n cap],?_,rfl,h1⟩;simp only[PVc,hln];cases hbb:an.b with
     |none =>
       simp only[A0I,hbb] at h3;obtain⟨rfl,rfl⟩:=h3;exact⟨a,0,rfl,Nat.le_refl _,.inl (by simp)⟩
     |some b' =>
       simp only[hbb] at h4;simp only[A0I,hbb] at h3;refine⟨a,cap,rfl,by omega,?_⟩
       rcases h3.2 with⟨rfl,_⟩ | h5
       . exact .inl (by simp)
       . refine .inr ⟨b',0,z,by rw [h5,Nat.zero_mul],hb b' (by simp [T.blk,hbb]),?_⟩
         exact PVel.take n (B4U hA hvs (λx hx=>hb x (by simp[T.blk,hx])) h4.2.2.1 h4.2.2.2)
   . cases h
 |.mp ..,v,b,o,h,_,k=>by simp only[TAt] at k
 |.hole n,v,b,o,h,_,k=>by simp[T.mapA,A4B] at h
theorem B4T (hA:∀ b,A b->A' b):∀ {l:List (T An)} {vs:List PV} {b o:Nat},A0J (T.mapAs An.g l)=some vs->(∀ x∈T.blks l,A' x)->TsAt w A E nx l b o->∃ cs,PVcs w A' vs cs∧cs.length=T.css l∧Row w b o cs
 | [],vs,b,o,h,_,k=>by
   simp only[T.mapAs,A0J,Option.some.injEq] at h;subst h;exact⟨[],by simp only[PVcs],rfl,Row.nil⟩
 |t::r,vs,b,o,h,hb,k=>by
   simp only[T.mapAs,A0J] at h;split at h
   . rename_i v vs' h1 h2;cases h;simp only [TsAt] at k;simp only [T.blks,List.mem_append] at hb;obtain ⟨c,h3,h4,h5⟩:=B3B hA h1 (λx hx=>hb x (.inl hx)) k.1
     obtain⟨d,h6,h7,h8⟩:=B4T hA h2 (λx hx=>hb x (.inr hx)) k.2
     exact⟨c++d,by simp only[PVcs];exact⟨c,d,rfl,h3,h6⟩,by rw[List.length_append,h4,h7,T.css],Row.append.2 ⟨h5,by rw[h4];exact h8⟩⟩
   . cases h
theorem B4U (hA:∀ b,A b->A' b):∀ {l:List (T An)} {vs:List PV} {b o z:Nat},A0J (T.mapAs An.g l)=some vs->(∀ x∈T.blks l,A' x)->(∀ t∈l,t.cs=z)->TsAt w A E nx l b o->PVel w A' vs b o z
 | [],vs,b,o,z,h,_,_,k=>by
   simp only[T.mapAs,A0J,Option.some.injEq] at h;subst h;simp only[PVel]
 |t::r,vs,b,o,z,h,hb,hz,k=>by
   simp only[T.mapAs,A0J] at h;split at h
   . rename_i v vs' h1 h2;cases h;simp only [TsAt] at k;simp only [T.blks,List.mem_append] at hb;have ht:=hz t (by simp)
     obtain⟨c,h3,h4,h5⟩:=B3B hA h1 (λx hx=>hb x (.inl hx)) k.1
     have:=B4U hA h2 (λx hx=>hb x (.inr hx)) (λt ht=>hz t (by simp[ht])) k.2
     simp only[PVel];rw[ht] at this;exact⟨⟨c,h3,by rw[h4,ht],h5⟩,this⟩
   . cases h
end
theorem B9H (m:MR w A E h nx){id:Nat}{path:List Nat}{an:An}{z:Nat}{l:List (T An)}(hv:A0D (E id) path=some (an,z,l)):∃o,E id=some o∧∀b∈an.b.toList++T.blks l,b∈o.blk:=by
 rcases B1G hv with⟨rfl,he⟩ | ⟨n,hs⟩
 . exact⟨_,he,λb hb=>by simpa [Obj.blk] using hb⟩
 . obtain⟨ob,hE⟩:=m.some_of_sub hs;refine⟨ob,hE,?_⟩;rw[hE] at hs;obtain⟨_,_,_,_,_,h5,_⟩:=A5V hs (m.at_ id ob hE);exact λb hb=>h5 b (by simpa [T.blk] using hb)
mutual
theorem A6l (m:MR w A E h nx)(hA:∀ b,A b->A' b):∀ {x:MV} {v:PV} {val:Value},A1k h x=some v->(∀ i∈A0M x,∀ o,E i=some o->∀ b∈o.blk,A' b)->MVv w A E nx x val->PVv w A' v val
 |.p u,v,val,hp,_,hv=>by
   simp only[A1k,Option.some.injEq] at hp;subst hp;simp only[MVv] at hv;exact hv.frame hA (λ_ _=>rfl)
 |.nil _,v,val,hp,_,hv=>by
   simp only[A1k,Option.some.injEq] at hp;subst hp;simp only[MVv] at hv;obtain⟨a,rfl⟩:=hv;exact⟨[.slice a 0 0],by simp only[PVc];exact⟨a,0,rfl,Nat.le_refl _,.inl trivial⟩,rfl⟩
 |.own id path off len g,v,val,hp,hr,hv=>by
   simp only[A1k] at hp;split at hp
   . rename_i g' z l hvec;split at hp
     . rename_i hc;obtain ⟨rfl,hle⟩:=hc;split at hp
       . rename_i vs hvs;cases hp;obtain ⟨an,lA,hvA,rfl,rfl⟩:=m.vec hvec;have hB:=m.vecB hvA;obtain ⟨ob,hE,hblk⟩:=B9H m hvA;simp only [MVv] at hv;obtain ⟨_,a,cap,rfl,hlc,hh⟩:=hv;have hdr:=hh an z (A1E hvA) rfl;rw [← T.mapAs_eq] at hvs;have hlen:vs.length=lA.length:=by rw [B0s hvs,T.mapAs_eq,List.length_map]
         rw[List.length_map] at hle;have hln:((vs.drop off).take len).length=len:=by rw[List.length_take,List.length_drop];omega
         refine⟨[.slice a len cap],?_,rfl⟩;simp only[PVc,hln];simp only[VB] at hB;cases hb:an.b with
         |none =>
           simp only[A0I,hb] at hdr;obtain⟨rfl,rfl⟩:=hdr;exact⟨a,0,rfl,Nat.le_refl _,.inl (by simp)⟩
         |some b =>
           simp only[hb] at hB;simp only[A0I,hb] at hdr;refine⟨a,cap,rfl,hlc,?_⟩;rcases hdr.2 with⟨rfl,_⟩ | h5
           . exact .inl (by simp)
           . refine .inr ⟨b,off*z,z,h5,hr id (by simp [A0M]) ob hE b (hblk b (by simp [hb])),?_⟩
             have:=B4U hA hvs (λx hx=>hr id (by simp[A0M]) ob hE x (hblk x (by simp[hx]))) hB.2.2.1 hB.2.2.2
             have:=(this.drop off).take len
             rwa [Nat.zero_add] at this
       . cases hp
     . cases hp
   . cases hp
 |.ptr id np rp g o,v,val,hp,hr,hv=>by
   simp only[A1k] at hp;split at hp
   . rename_i t s' o' hl;split at hp
     . rename_i hc;obtain ⟨rfl,rfl⟩:=hc;split at hp
       . rename_i u hu;cases hp;obtain ⟨an,tA,hlA,rfl,rfl⟩:=m.look hl;obtain ⟨b,hb,hat⟩:=m.lookAt hlA;simp only [MVv] at hv;obtain ⟨_,ad,rfl,hadr⟩:=hv;obtain ⟨z,hn⟩:=A8q hlA;obtain ⟨b',hb',rfl⟩:=hadr an z hn rfl;rw [hb] at hb';cases hb';have hsub:=B3o hlA;obtain ⟨ob,hE⟩:=m.some_of_sub hsub;rw [hE] at hlA hsub;have hloc:=m.lookLoc hE hlA hb;obtain ⟨b2,o2,h1,h2,h3,h4,_⟩:=A5V hsub (m.at_ id ob hE);rw [hloc] at h1;cases h1;have hmem:=hr id (by simp [A0M]) ob hE
         obtain⟨cs,h5,_,h6⟩:=B3B hA hu (λx hx=>hmem x (h4 x hx)) hat
         exact⟨_,by simp only[PVc];exact⟨b,o',rfl,hmem b h3,cs,h5,h6⟩,rfl⟩
       . cases hp
     . cases hp
   . cases hp
 |.mref ..,v,val,hp,hr,hv=>by simp[A1k] at hp
 |.agg l,v,val,hp,hr,hv=>by
   simp only[A1k] at hp;split at hp
   . rename_i vs hvs;cases hp;simp only[MVv] at hv;obtain⟨cs,rfl,hv⟩:=hv;exact⟨cs,by simp only[PVc];exact C0L m hA hvs (by simpa only[A0M] using hr) hv,rfl⟩
   . cases hp
 |.fn f l,v,val,hp,hr,hv=>by
   simp only[A1k] at hp;split at hp
   . rename_i vs hvs;cases hp;simp only[MVv] at hv;obtain⟨ws,rfl,hv⟩:=hv;exact⟨_,by simp only[PVc];exact⟨ws,rfl,B1L m hA hvs (by simpa only[A0M] using hr) hv⟩,rfl⟩
   . cases hp
 |.tup _,v,val,hp,_,hv=>by simp only[A1k,reduceCtorEq] at hp
 |.dead _,v,val,hp,_,hv=>by simp only[A1k,reduceCtorEq] at hp
theorem C0L (m:MR w A E h nx)(hA:∀ b,A b->A' b):∀ {l:List MV} {vs:List PV} {cs:List Value},A2C h l=some vs->(∀ i∈A0W l,∀ o,E i=some o->∀ b∈o.blk,A' b)->MVcs w A E nx l cs->PVcs w A' vs cs
 | [],vs,cs,hp,_,hv=>by
   simp only[A2C,Option.some.injEq] at hp;subst hp;simpa only[MVcs,PVcs] using hv
 |x::r,vs,cs,hp,hr,hv=>by
   simp only[A2C] at hp;split at hp
   . rename_i v vs' h1 h2;cases hp;simp only [MVcs] at hv;obtain ⟨u,d,rfl,_,_,h5,h6⟩:=hv;simp only [A0W,List.mem_append] at hr;obtain ⟨c,h7,rfl⟩:=A6l m hA h1 (λi hi=>hr i (.inl hi)) h5
     have h8:=C0L m hA h2 (λi hi=>hr i (.inr hi)) h6
     simp only[PVcs];exact⟨c,d,by rw[h7.pk_cells],h7,h8⟩
   . cases hp
theorem B1L (m:MR w A E h nx)(hA:∀ b,A b->A' b):∀ {l:List MV} {vs:List PV} {ws:List Value},A2C h l=some vs->(∀ i∈A0W l,∀ o,E i=some o->∀ b∈o.blk,A' b)->MVvs w A E nx l ws->PVvs w A' vs ws
 | [],vs,cs,hp,_,hv=>by
   simp only[A2C,Option.some.injEq] at hp;subst hp;simpa only[MVvs,PVvs] using hv
 |x::r,vs,cs,hp,hr,hv=>by
   simp only[A2C] at hp;split at hp
   . rename_i v vs' h1 h2;cases hp;simp only [MVvs] at hv;obtain ⟨u,d,rfl,h5,h6⟩:=hv;simp only [A0W,List.mem_append] at hr;obtain ⟨c,h7,rfl⟩:=A6l m hA h1 (λi hi=>hr i (.inl hi)) h5
     have h8:=B1L m hA h2 (λi hi=>hr i (.inr hi)) h6
     simp only[PVvs];exact⟨c,d,rfl,h7,h8⟩
   . cases hp
end
theorem MR.froze (m:MR w A E h nx){id:Nat}{o:Obj An}(hE:E id=some o) :
 MR w (λb=>A b∨b∈o.blk) (upd E id (some .gone)) (upd h id (some .gone)) nx∧Go1 w A E nx w (λb=>A b∨b∈o.blk) (upd E id (some .gone)):=by
 have own:∀b,A0B (upd E id (some .gone)) b->b∉o.blk∧A0B E b:=by
  intro b hb;rcases A4P hb with h1 | ⟨i,oi,hi,hoi,hbi⟩
  . simp[Obj.blk] at h1
  . exact⟨λhbo=>m.dj id i o oi (Ne.symm hi) hE hoi b hbo hbi,i,oi,hoi,hbi⟩
 refine⟨(m.gone id).imm (λb hb=>.inl hb) ?_,?_⟩
 . rintro b (hb | hb)
   . exact⟨m.im b hb,λho=>(m.lt b (own b ho).2).2 hb⟩
   . exact⟨(m.notA hE hb).1,λho=>(own b ho).1 hb⟩
 . exact⟨rfl,rfl,rfl,Nat.le_refl _,λ_ _ _=>rfl,λb hb=>.inl hb,λb _ hb=>hb.imp (λh=>h) (λhb=>⟨id,o,hE,hb⟩),λb _ hb=>(own b hb).2,(NSub.gone E id).nst nx⟩
theorem MR.setA {w':World}{nx':Stp}(m:MR w A E h nx){A':Nat->Prop}{id:Nat}{o':Obj An}(s:SetOk w w' A E nx nx' id o')(hA:∀ b,A b->A' b)(hat:Fr w w' A A' E (upd E id (some o')) nx nx'->OAt w' A' (upd E id (some o')) nx' o')
 (hno:∀b,A0B (upd E id (some o')) b->¬A' b) (him:∀b,A' b->b<w'.heap.size):MR w' A' (upd E id (some o')) (upd h id (some (o'.mapA An.g))) nx':=by
 have f0:=s.fr m;have f:Fr w w' A A' E (upd E id (some o')) nx nx':=⟨hA,f0.hw,f0.hE,f0.hn⟩;constructor
 . intro i;by_cases e:i=id
   . subst e;simp[upd]
   . simp[upd,e,m.er i]
 . intro i o ho;by_cases e:i=id
   . subst e;rw[A0L] at ho;cases ho;exact hat f
   . rw[A0C E _ e] at ho;exact OAt.frame f (λx hx=>s.ch x (m.notA ho hx).1 (λo1 ho1 hx1=>m.dj i id o o1 e ho ho1 x hx hx1)) (m.at_ i o ho)
 . intro b hb;refine ⟨?_,hno b hb⟩;rcases A4P hb with h1 | ⟨i,oi,_,hoi,h1⟩
   . exact(s.lt b h1).1
   . exact Nat.lt_of_lt_of_le (m.notA hoi h1).1 s.sz
 . intro i o ho;by_cases e:i=id
   . subst e;rw[A0L] at ho;cases ho;exact s.nd
   . rw[A0C E _ e] at ho;exact m.nd i o ho
 . intro i j o o1 hij ho ho1 b hb hb1;by_cases e:i=id
   . subst e;rw[A0L] at ho;cases ho;rw[A0C E _ (Ne.symm hij)] at ho1;exact s.dj b hb j o1 (Ne.symm hij) ho1 hb1
   . rw [A0C E _ e] at ho;by_cases e':j=id
     . subst e';rw[A0L] at ho1;cases ho1;exact s.dj b hb1 i o e ho hb
     . rw[A0C E _ e'] at ho1;exact m.dj i j o o1 hij ho ho1 b hb hb1
 . exact him
 . intro i o ho;by_cases e:i=id
   . subst e;rw[A0L] at ho;cases ho;exact s.st
   . rw[A0C E _ e] at ho;exact Obj.st_mono s.hn (m.st i o ho)
theorem C0M {z:Nat}(hA:∀ b,A b->A' b):∀ {l:List (T An)} {vs:List PV} {b o:Nat},A0J (T.mapAs An.g l)=some vs->(∀ x∈T.blks l,A' x)->(∀ t∈l,t.cs=z)->TsAt w A E nx l b o->∀ v∈vs,v.cs=z
 | [],vs,b,o,h,_,_,k=>by
   simp only[T.mapAs,A0J,Option.some.injEq] at h;subst h;intro v hv;cases hv
 |t::r,vs,b,o,h,hb,hz,k=>by
   simp only[T.mapAs,A0J] at h;split at h
   . rename_i v vs' h1 h2;cases h;simp only [TsAt] at k;simp only [T.blks,List.mem_append] at hb;obtain ⟨c,h3,h4,_⟩:=B3B hA h1 (λx hx=>hb x (.inl hx)) k.1
     intro u hu;rcases List.mem_cons.1 hu with e | e
     . subst e;rw[←h3.len,h4];exact hz t (by simp)
     . exact C0M hA h2 (λx hx=>hb x (.inr hx)) (λt ht=>hz t (by simp[ht])) k.2 u e
   . cases h
theorem MR.nilOwn (m:MR w A E h nx){id γ z:Nat}(hγ:¬ nx γ)(hs:h id=none) :
 ∃E',MR w A E' (upd h id (some (.vec γ z []))) (nx.add γ)∧Go1 w A E nx w A E'∧A0h (E' id) (some [])=some (⟨γ,none,0⟩,some z):=by
 have s:SetOk w w A E nx (nx.add γ) id (.vec ⟨γ,none,0⟩ z []):=by
  refine⟨Stp.le_add _ _,Nat.le_refl _,λ_ _ _=>rfl,?_,by simp[Obj.blk,T.blks],by simp[Obj.blk,T.blks],by simp[Obj.blk,T.blks],⟨nx.mem_add γ,trivial⟩⟩
  intro np y hy hg;cases np with
  |none=>simp[A0h] at hy
  |some p =>
    cases p with
    |nil =>
      simp only[A0h,Option.some.injEq] at hy;subst hy;exact(hγ hg).elim
    |cons i r=>simp[A0h,A0j] at hy
 have f:=s.fr m;have hm:=m.set s (by simp only[OAt,VB];exact⟨trivial,trivial⟩)
 refine⟨_,hm,⟨rfl,rfl,rfl,Nat.le_refl _,λ_ _ _=>rfl,λ_ h=>h,λ_ _ h=>.inl h,λb _ hb=>?_,f.hE⟩,by rw[A0L];rfl⟩
 rcases A4P hb with h1 | ⟨i,oi,_,hoi,h1⟩
 . simp[Obj.blk,T.blks] at h1
 . exact⟨i,oi,hoi,h1⟩
theorem MR.touchCell (m:MR w A E h nx){id γ:Nat}(hγ:¬ nx γ){a:Nat}{t:T Nat}(hs:h id=some (.cell a t)) :
 ∃E',MR w A E' (upd h id (some (.cell a (A7L γ t)))) (nx.add γ)∧Go1 w A E nx w A E':=by
 rw[m.er id] at hs;cases hE:E id with
 |none=>simp[hE] at hs
 |some o =>
   cases o<;>simp only[hE,Option.map_some,Obj.mapA,reduceCtorEq,Option.some.injEq,Obj.cell.injEq] at hs;rename_i an t';obtain⟨rfl,rfl⟩:=hs;have hblk:(Obj.cell an (t'.mapA (A0Q γ))).blk=(Obj.cell an t').blk:=by simp only[Obj.blk,B6A]
   have s:SetOk w w A E nx (nx.add γ) id (.cell an (t'.mapA (A0Q γ))):=by
    refine⟨Stp.le_add _ _,Nat.le_refl _,λ_ _ _=>rfl,?_,?_,?_,?_,?_⟩
    . intro np y hy hg;rw [hE];cases np with
      |none=>simpa [A0h] using hy
      |some p =>
        rw[A1F] at hy
        have:=A7O (t:=t') hy
        rw[this] at hg;exact(hγ hg).elim
    . rw[hblk];exact λb hb=>m.notA hE hb
    . rw[hblk];exact m.nd id _ hE
    . rw[hblk];exact λb hb j oj hj hoj=>m.dj id j _ oj (Ne.symm hj) hE hoj b hb
    . exact⟨.inl (m.st id _ hE).1,B76 nx γ t'⟩
   have f:=s.fr m;have k:=OAt.frame f (λ_ _=>rfl) (m.at_ id _ hE)
   have hm:=m.set s (by
    simp only[OAt] at k ⊢;obtain⟨b,hb,k1,k2⟩:=k;exact⟨b,hb,by rw[T.cs_map];exact k1,B2h γ k2⟩)
   refine⟨_,?_,rfl,rfl,rfl,Nat.le_refl _,λ_ _ _=>rfl,λ_ h=>h,λ_ _ h=>.inl h,λb _ hb=>?_,f.hE⟩
   . have e:(Obj.cell an (t'.mapA (A0Q γ))).mapA An.g=.cell an.g (A7L γ (t'.mapA An.g)):=by simp only [Obj.mapA,B77]
     rw[e] at hm;exact hm
   . rcases A4P hb with h1 | ⟨i,oi,_,hoi,h1⟩
     . rw[hblk] at h1;exact⟨id,_,hE,h1⟩
     . exact⟨i,oi,hoi,h1⟩
theorem MR.touchAt (m:MR w A E h nx){id γ:Nat}(hγ:¬ nx γ){path:List Nat}{g z n:Nat}{l:List (T Nat)}{oh:Obj Nat}(hs:A0j (h id) path=some (.vec g z l n))(hp:Mid.put (h id) path (.vec g z (A0N γ l) n)=some oh) :
 ∃E',MR w A E' (upd h id (some oh)) (nx.add γ)∧Go1 w A E nx w A E':=by
 obtain⟨t',ht,he⟩:=m.sub hs;cases t'<;>simp only[T.mapA,reduceCtorEq,T.vec.injEq] at he;rename_i an z' l' n';obtain⟨rfl,rfl,rfl,rfl⟩:=he;cases hE:E id with
 |none=>rw[hE] at ht;cases path<;>simp[A0j] at ht
 |some o =>
   rw[hE] at ht;have hmap:(T.vec an.g z (A0N γ (T.mapAs An.g l')) n:T Nat)=(T.vec an z (T.mapAs (A0Q γ) l') n:T An).mapA An.g:=by
    simp only[T.mapA,A4R]
   rw[m.er id,hE,hmap,B0J] at hp;cases hp':Mid.put (some o) path (T.vec an z (T.mapAs (A0Q γ) l') n:T An) with
   |none=>simp[hp'] at hp
   |some o' =>
     simp only[hp',Option.map_some,Option.some.injEq] at hp;obtain⟨b1,o1,h1,h2,h3,h4,h5⟩:=A5V ht (m.at_ id o hE);obtain⟨rest,p1,_⟩:=A9u ht hp';have hndu:(an.b.toList++T.blks l').Nodup:=(List.nodup_append.1 (p1.nodup_iff.1 (m.nd id o hE))).1;have hvb:(T.vec an z (T.mapAs (A0Q γ) l') n:T An).blk=(T.vec an z l' n:T An).blk:=by simp only[T.blk,A2t]
     have hpo:PutOk w w A E nx (nx.add γ) id o path (.vec an z l' n) (.vec an z (T.mapAs (A0Q γ) l') n) b1 o1:=by
      refine⟨Stp.le_add _ _,Nat.le_refl _,hE,ht,h1,rfl,Wr.refl _ _ _ _ _,?_,?_,?_,?_,?_⟩
      . intro r y hy hg;cases r with
        |nil=>simpa [ndT,A0e] using hy
        |cons i r =>
          have e:∀(L:List (T An)),ndT (T.vec an z L n) (i::r)=match L[i]? with | some t=>ndT t r | none=>none:=λL=>by
           simp only[ndT,A0e];cases L[i]? <;> rfl
          rw[e,T.mapAs_eq,List.getElem?_map] at hy;cases hi:l'[i]? with
          |none=>simp[hi] at hy
          |some u =>
            simp only[hi,Option.map_some] at hy
            have:=A7O hy
            rw[this] at hg;exact(hγ hg).elim
      . intro b hb;rw[hvb] at hb;exact m.notA hE (h4 b hb)
      . rw[hvb];exact hndu
      . intro b hb;rw[hvb] at hb;exact .inl hb
      . have hst:(T.vec an z l' n:T An).st nx:=m.subSt (id:=id) (p:=path) (by rw [hE];exact ht)
        exact⟨.inl hst.1,A4Q nx γ l'⟩
     have s:=hpo.setOk m hp';refine⟨upd E id (some o'),?_,rfl,rfl,rfl,Nat.le_refl _,λ_ _ _=>rfl,λ_ h=>h,λ_ _ h=>.inl h,λb _ hb=>?_,(s.fr m).hE⟩
     . rw [← hp];refine m.put hpo hp' λf=>?_
       have k:=TAt.frame f rfl (λ_ _=>rfl) h2
       have k2:=B2h γ k;simp only[T.mapA] at k2;simp only[TAt] at k k2 ⊢;obtain⟨a,cap,q1,q2,q3,q4⟩:=k;obtain⟨_,_,_,r2,_,r4⟩:=k2;exact⟨a,cap,q1,r2,q3,r4⟩
     . rcases hpo.owned m hp' hb with k | k
       . rw[hvb] at k;exact⟨id,o,hE,h4 b k⟩
       . exact k.1
theorem MR.frzIn (m:MR w A E h nx){id:Nat}{path:List Nat}{g z n:Nat}{l:List (T Nat)}{vs:List PV}{oh:Obj Nat}(hs:A0j (h id) path=some (.vec g z l n))(hvs:A0J l=some vs)(hp:Mid.put (h id) path (.vec g z (vs.map .p) n)=some oh) :
 ∃A' E',MR w A' E' (upd h id (some oh)) nx∧Go1 w A E nx w A' E':=by
 obtain⟨t',ht,he⟩:=m.sub hs;cases t'<;>simp only[T.mapA,reduceCtorEq,T.vec.injEq] at he;rename_i an z' l' n';obtain⟨rfl,rfl,rfl,rfl⟩:=he;cases hE:E id with
 |none=>rw[hE] at ht;cases path<;>simp[A0j] at ht
 |some o =>
   rw[hE] at ht;have hmap:(T.vec an.g z (vs.map .p) n:T Nat)=(T.vec an z (vs.map .p) n:T An).mapA An.g:=by
    have:∀us:List PV,T.mapAs An.g (us.map .p:List (T An))=(us.map .p:List (T Nat)):=λus=>by
     induction us with
     |nil=>rfl
     |cons u r ih=>simp only[List.map_cons,T.mapAs,T.mapA,ih]
    simp only[T.mapA,this]
   rw[m.er id,hE,hmap,B0J] at hp;cases hp':Mid.put (some o) path (T.vec an z (vs.map .p) n:T An) with
   |none=>simp[hp'] at hp
   |some o' =>
     simp only[hp',Option.map_some,Option.some.injEq] at hp;obtain⟨b1,o1,h1,h2,h3,h4,h5⟩:=A5V ht (m.at_ id o hE);have hnd:=m.nd id o hE;obtain⟨rest,p1,_⟩:=A9u ht hp';have hndu:(an.b.toList++T.blks l').Nodup:=(List.nodup_append.1 (p1.nodup_iff.1 hnd)).1;have hvb:(T.vec an z (vs.map .p) n:T An).blk=an.b.toList:=by simp only[T.blk,B0X,List.append_nil]
     have hpo:PutOk w w A E nx nx id o path (.vec an z l' n) (.vec an z (vs.map .p) n) b1 o1:=by
      refine⟨Stp.le_refl _,Nat.le_refl _,hE,ht,h1,rfl,Wr.refl _ _ _ _ _,?_,?_,?_,?_,?_⟩
      . intro r y hy _;cases r with
        |nil=>simpa [ndT,A0e] using hy
        |cons i r =>
          simp only[ndT,A0e,List.getElem?_map] at hy;cases hi:vs[i]? with
          |none=>simp[hi] at hy
          |some v =>
            simp only[hi,Option.map_some] at hy
            have:∀(r:List Nat) (v:PV),ndT (T.p v:T An) r=none:=by
             intro r
             induction r with
             |nil=>intro v;rfl
             |cons j r ih =>
               intro v;cases v with
               |agg l =>
                 simp only[ndT,A0e];cases l[j]? with
                 |none=>rfl
                 |some u=>exact ih u
               |_=>rfl
            have h0:=this r v;simp only[ndT] at h0;rw[h0] at hy;cases hy
      . intro b hb;rw[hvb] at hb;exact m.notA hE (h4 b (by simp[T.blk,hb]))
      . rw[hvb];exact(List.nodup_append.1 hndu).1
      . intro b hb;rw[hvb] at hb;exact .inl (by simp[T.blk,hb])
      . have hst:(T.vec an z l' n:T An).st nx:=m.subSt (id:=id) (p:=path) (by rw [hE];exact ht)
        exact⟨hst.1,C11 vs⟩
     have s:=hpo.setOk m hp';have hA:∀b,A b->(A b∨b∈T.blks l'):=λb hb=>.inl hb
     have hbl:∀b∈T.blks l',b∈o.blk:=λb hb=>h4 b (by simp[T.blk,hb])
     refine⟨λb=>A b∨b∈T.blks l',upd E id (some o'),?_,rfl,rfl,rfl,Nat.le_refl _,λ_ _ _=>rfl,hA,λb _ hb=>hb.imp (λh=>h) λhb=>⟨id,o,hE,hbl b hb⟩,λb _ hb=>?_,(s.fr m).hE⟩
     . rw [← hp];refine m.setA s hA (λf=>OAt.put f ht hp' h1 rfl (Wr.refl _ _ _ _ _) hnd (λy hy=>(m.notA hE hy).1) (m.at_ id o hE) ?_) ?_ ?_
       . simp only [TAt] at h2 ⊢;obtain ⟨a,cap,k1,k2,k3,k4⟩:=h2;have hlen:vs.length=l'.length:=by rw [B0s hvs,T.mapAs_eq,List.length_map]
         refine⟨a,cap,k1,by rw[List.length_map,hlen];exact k2,k3,?_⟩
         cases hb:an.b with
         |none =>
           simp only[hb] at k4
           have:vs=[]:=by
            rw[k4.1] at hlen;exact List.length_eq_zero_iff.1 hlen
           exact⟨by rw[this];rfl,k4.2⟩
         |some b' =>
           simp only[hb] at k4;obtain⟨k5,k6,k7,k8⟩:=k4;obtain⟨cs,k9,_,k10⟩:=B4T hA hvs (λx hx=>.inr hx) k8
           refine⟨k5,by rw[List.length_map,hlen];exact k6,λt ht=>?_,TsAt_p.2 ⟨cs,by simpa only[PVc] using k9,k10⟩⟩
           obtain⟨v,hv,rfl⟩:=List.mem_map.1 ht;exact C0M hA hvs (λx hx=>.inr hx) k7 k8 v hv
       . intro b hb;rcases hpo.owned m hp' hb with k | k
         . rw [hvb] at k;rintro (e | e)
           . exact(m.notA hE (h4 b (by simp[T.blk,k]))).2 e
           . exact(List.nodup_append.1 hndu).2.2 b k b e rfl
         . rintro (e | e)
           . exact(m.lt b k.1).2 e
           . exact k.2 (by simp[T.blk,e])
       . rintro b (e | e)
         . exact m.im b e
         . exact(m.notA hE (hbl b e)).1
     . rcases hpo.owned m hp' hb with k | k
       . rw[hvb] at k;exact⟨id,o,hE,h4 b (by simp[T.blk,k])⟩
       . exact k.1
end
section
variable {P:Program}{o:Oper}{a:Act}{w:World}{A:Nat->Prop}{E:A0f An}{nx:Stp}{γ:Nat}{v:MV}{h h':A0b}{s:A0o}{K:A0w}{d:Option Nat}
 (hs:SlR P w A E nx s a) (hm:MR w A E h nx) (hγ:¬nx γ)
include hs hm hγ
theorem D1S {c:Call}{t e:TypeId}{x y:Operand}{x' y':Opd}{t1 t2:TypeId}{pz:Bool}(ho:o.op=.call c)(hc1:c.callee=.builtin .append)(hc2:c.args=#[x,y])(hc3:c.argTypes=#[t,t])(hx:A0r P t1 x=some x')(hy:A0r P t2 y=some y')
 (ht:P.underlying t=some (.slice e)) (hc0:P.cellsOf e≠0) (hb0:P.bytesOf e≠0) (hz:(A42 P e).map List.length=some (P.cellsOf e))
 (he:A0a K γ d s h (.app pz (P.cellsOf e) (P.bytesOf e) x' y')=some (v,h')):OpOk P o a w A E nx γ v h':=by
 simp only[A0a] at he;split at he
 . rename_i id off0 len g1 h1 hap;obtain ⟨val,w',E2,h2,h3,h4,h5⟩:=D1R hm hγ ht hc0 hb0 hz (A0l hs hx) (A0l hs hy) hap o.type;have hr:(execOp a.eval o).run P w=.ok (.value val) w':=by rw [B3A ho hc1 hc2 hc3,h2]
   split at he
   . split at he
     . rename_i u hu;simp only [Option.some.injEq,Prod.mk.injEq] at he;obtain ⟨rfl,rfl⟩:=he;have hex:∃ o',E2 id=some o':=by
        simp only[A1k] at hu;split at hu
        . rename_i hvec;obtain⟨an,l',hvA,_⟩:=h3.vec hvec;obtain⟨o',ho',_⟩:=B9H h3 hvA;exact⟨o',ho'⟩
        . cases hu
       obtain⟨o',hE2⟩:=hex;obtain⟨k1,k2⟩:=h3.froze hE2;refine⟨val,w',_,_,.inl hr,?_,k1,h4.trans k2 (nx.le_add γ)⟩;simp only[MVv];refine A6l h3 (λb hb=>.inl hb) hu ?_ h5
       intro i hi o1 ho1 b hb;simp only[A0M,List.mem_singleton] at hi;subst hi;rw[hE2] at ho1;cases ho1;exact .inr hb
     . cases he
   . simp only[Option.some.injEq,Prod.mk.injEq] at he;obtain⟨rfl,rfl⟩:=he;exact⟨val,w',A,E2,.inl hr,h5,h3,h4⟩
 . cases he
theorem C9U {t e:TypeId}{n:Nat}{parts:Array (Nat×Operand)}{zc:List Value}{l:List Opd}(ho:o.op=.buildSlice t n parts)(hu:P.underlying t=some (.slice e))(hc0:P.cellsOf e≠0)(hbig:n*P.cellsOf e<=16777216)
 (hz:A42 P e=some zc) (hzl:zc.length=P.cellsOf e) (hok:A6T n parts.toList=true) (hl:A6K P parts.toList (List.replicate n e) 0 (List.replicate n zc).flatten=some l)
 (he:A0a K γ d s h (.bslp (P.cellsOf e) l)=some (v,h')):OpOk P o a w A E nx γ v h':=by
 simp only[A0a] at he;split at he
 . rename_i hb;split at he
   . rename_i ts h1 hi;split at he
     . rename_i hcs;split at he
       . rename_i h2 hal;split at he
         . rename_i u hpu;simp only [Option.some.injEq,Prod.mk.injEq] at he;obtain ⟨rfl,rfl⟩:=he;have hb':A0a K γ d s h (.bsl true (P.cellsOf e) l)=some (.own (d.getD 0) [] 0 ts.length γ,h2):=by
            simp only[A0a,if_pos hb,if_true,hi,if_pos hcs,hal]
           obtain⟨val,w',A1,E2,hr,h5,h3,h4⟩:=C43 hs hm hγ ho hu hc0 hbig hz hzl hok hl (λ_=>rfl) hb'
           have hex:∃o',E2 (d.getD 0)=some o':=by
            simp only[A1k] at hpu;split at hpu
            . rename_i hvec;obtain⟨an,l',hvA,_⟩:=h3.vec hvec;obtain⟨o',ho',_⟩:=B9H h3 hvA;exact⟨o',ho'⟩
            . cases hpu
           obtain⟨o',hE2⟩:=hex;obtain⟨k1,k2⟩:=h3.froze hE2;refine⟨val,w',_,_,hr,?_,k1,h4.trans k2 (nx.le_add γ)⟩;simp only[MVv];refine A6l h3 (λb hb=>.inl hb) hpu ?_ h5
           intro i hi o1 ho1 b hb;simp only[A0M,List.mem_singleton] at hi;subst hi;rw[hE2] at ho1;cases ho1;exact .inr hb
         . cases he
       . cases he
     . cases he
   . cases he
 . cases he
end
end Go.Mid
