/- Ranges over maps: the operations of a round. -/
import Derived.Test.YthegpbgejckjlaaGreatDoorM5
import Derived.Maps.RangeRun
import Derived.ProofKit
import Derived.OpenShut
import Derived.Carry
import Derived.SizedLaws
set_option linter.unusedSimpArgs false
set_option linter.unusedVariables false
set_option maxHeartbeats 1000000
open Array renaming getElem?_setIfInBounds_ne->dQ,toList_filter->aS8,getElem?_toList->kB,replicate->iA,getD_eq_getD_getElem?->fK
open Bool renaming false_eq_true->aI,true_or->tB,not_false->auI,and_eq_true->aj
open Go renaming Obj->aBL,wp_seq->yl,wp_region->aBK,wp_cond_false->uc,wp_cond_true->u6,heap_alloc_old->oF,heap_alloc_new->sP
open Go.DataW renaming weightsAll->rk,trod->gJ,weights->pt,TrodAll->eE,weightsEach->ee
open Go.Exit renaming inBlock->Gr
open Go.Result renaming andThen_ok->aU
open Go.Sem renaming run_bind->bn,run_pure->bL
open Go.Value renaming cells->de,okWide->nJ
open List renaming cons_append->aS,nodup_cons->bZ,mem_of_getElem?->bH,map_cons->aF,filter_eq_self->jx,mem_map_of_mem->dY,drop_zero->fh,mem_singleton->aX,range'->mJ,isEmpty_nil->n6,append_nil->bD,nil_append->a7,mem_cons->aG,append_of_mem->e9,range->bA,range_eq_range'->lr,perm_middle->vc,mem_filterMap->dr,foldr_nil->aB4,mem_range->cu,mem_append->az,all_eq_true->bB,mem_map->bp,mem_cons_self->dS,map_map->sk,mapM_cons->me,getElem?_map->aL,getElem?_eq_none->bJ,take_append_drop->bM,getElem?_of_mem->lq,Perm->aBs
open List.cons renaming injEq->jN
open Nat renaming lt_of_lt_of_le->br,le_trans->dF,strongRecOn->lI,le_refl->ay,lt_irrefl->ub,lt_succ_self->kS,zero_add->bS,le_succ->au6,le_of_eq->e7,add_zero->dG,le_add_right->fT,succ_mul->du,zero_le->dg,pos_of_ne_zero->ew,zero_mul->da,le_max_left->iB,le_max_right->gZ
open Option renaming map_some->ak,bind_none->ng,bind_some->ai
open Option.some renaming injEq->aa,inj->s8
open Prod.mk renaming injEq->ae
namespace Go.Mid
open Go.RowKit
open Go.ChangeMaps(setBlock)
section
variable{P:Program}{tC:tC}{nt:Nat}{ops:Array Oper}{is:List hH}{K:jm}{Q:Exit->Act->World->Prop}
theorem F40{i:Nat}{o:Oper}{v:Value}{a:Act}{w w':World}{next:Act->World->Prop}(ho:ops[i]?=some o)(hg:o.guard=none)(hr:(execOp a.eval o).run P w=.ok (.value v) w')(hn:next (a.put o.dst v) w'):wpOp P ops Q i next a w:=by unfold wpOp;simp only[ho];(have hw:Region.wanted o (yielded ops a.tmps)=true:=by unfold Region.wanted;rw[hg]);rw[if_pos hw];refine .inl ?_;unfold Oper.wp;rw[hr];exact hn
theorem E8F(hK:CE P K)(avE:EC P tC nt ops ops.toList=some is){ρ:List Nat}{n:Nat}{g0:Nat}{F:Nat->List Nat×Option Plc}:∀{π:List Nat}{a:Act}{w:World}{A:Nat->Prop}{E:dP An}{S:di}{s s':gB}{h h':cj},avD K g0 is F π s h s' h'->π.Nodup->(∀i∈π,i<ops.size/\i<n/\¬S (g0+i))->nt<=a.tmps.size->qM P w A E S s a->MR w A E h S->oR P K ops a w A E S g0 n s' h' (λ_ a' w'=>wpOps P ops Q ρ a' w')->wpOps P ops Q (π++ρ) a w|[],a,w,A,E,S,s,s',h,h',hr,_,_,_,hs,hm,hp=>by cases hr;exact hp a w A E S (S.le_refl) (λg hg=>.inl hg) hs hm (gC.refl w A E S) rfl ⟨rfl,λ_ _=>rfl⟩|i::r,a,w,A,E,S,s,s',h,h',hr,hn,hS,Aj,hs,hm,hp=>by cases hr with|cons hi hf hst hr=>rename_i ins s1 h1;obtain⟨h2,h2n,h3⟩:=hS i (by simp);obtain⟨o,ho⟩:∃o,ops[i]?=some o:=⟨ops[i],by simp[h2]⟩;obtain⟨TI,hi',hc⟩:=(OY avE).2 i o (by simpa using ho);rw[hi]at hi';cases hi';rw[aS,wpOps_cons];refine C5a hK ho hc Aj hs hm h3 hst ?_;intro a1 w1 A1 E1 q1 q2 q3 q4 q5;have rV:=bZ.1 hn;(have pE:o∈ops.toList:=by simpa using bH (l:=ops.toList) (i:=i) (by simpa using ho));refine E8F hK avE hr rV.2 (λj hj=>⟨(hS j (by simp[hj])).1,(hS j (by simp[hj])).2.1,λhc=>?_⟩) (by have:=q5.1;omega) q1 q2 (hp.step h2n q3 q4 ⟨q5.1,λk hk=>q5.2 k (hk o pE)⟩);rcases hc with hc|hc;exact(hS j (by simp[hj])).2.2 hc;(have:j=i:=by omega);exact rV.1 (this▸hj)
end
section
variable{P:Program}{w w':World}{A:Nat->Prop}{E:dP An}{nx:di}{h:cj}
theorem MR.same(m:MR w A E h nx)(hs:w.heap.size<=w'.heap.size)(hk:∀b,A b\/jr E b->w'.heap[b]?=w.heap[b]?):MR w' A E h nx where
 er:=m.er
 at_:=λi o ho=>(m.at_ i o ho).frame ⟨λ_ hb=>hb,λb hb=>hk b (.inl hb),pf.refl _ _,di.le_refl _⟩ (λx hx=>hk x (.inr ⟨i,o,ho,hx⟩))
 lt:=λb hb=>⟨br (m.lt b hb).1 hs,(m.lt b hb).2⟩
 nd:=m.nd
 dj:=m.dj
 im:=λb hb=>br (m.im b hb) hs
 st:=m.st
theorem gC.iter{w0:World}{A0:Nat->Prop}{E0:dP An}{S:di}(g:gC w0 A0 E0 S w A E){r:Nat}(hr:w0.heap.size<=r)(h1:w'.os=w.os)(h2:w'.tape=w.tape)(h3:w'.output=w.output/\w.drawn<=w'.drawn)(hs:w.heap.size<=w'.heap.size)(hk:∀b,b≠r->b<w.heap.size->w'.heap[b]?=w.heap[b]?):gC w0 A0 E0 S w' A E where
 os:=h1.trans g.os
 tape:=h2.trans g.tape
 output:=⟨h3.1.trans g.output.1,dF g.output.2 h3.2⟩
 size:=dF g.size hs
 aSO:=λb hb hn=>(hk b (by omega) (br hb g.size)).trans (g.aSO b hb hn)
 sub:=g.sub
 imm:=g.imm
 own:=g.own
 ns:=g.ns
theorem F03{w:World}{r b:Nat}{o:aBL}(h:b≠r):(setBlock w r o).heap[b]?=w.heap[b]?:=by simp[setBlock,dQ (Ne.symm h)]
theorem F0R{w:World}{r:Nat}{o:aBL}(h:r<w.heap.size):(setBlock w r o).heap[r]?=some o:=by simp[setBlock,h]
theorem F0S{w:World}{r:Nat}{o:aBL}:(setBlock w r o).heap.size=w.heap.size:=by simp[setBlock]
def PP(w:World)(A:Nat->Prop):List (PV×PV)->List MapEntry->Prop|[],[]=>True|p::l,e::r=>pD w A p.1 e.key/\pD w A p.2 e.val/\PP w A l r|_,_=>False
theorem PP.frame{A':Nat->Prop}(hA:∀b,A b->A' b)(hw:∀b,A b->w'.heap[b]?=w.heap[b]?):∀{l:List (PV×PV)}{r:List MapEntry},PP w A l r->PP w' A' l r|[],[],_=>trivial|[],_::_,h=>h.elim|_::_,[],h=>h.elim|_::_,_::_,h=>⟨h.1.frame hA hw,h.2.1.frame hA hw,PP.frame hA hw h.2.2⟩
theorem PP.zip:∀{ks vs:List PV}{r:List MapEntry},kM w A ks (r.map (·.key))->kM w A vs (r.map (·.val))->PP w A (ks.zip vs) r|[],_,[],_,_=>by simp[PP]|[],_,e::r,h,_=>by simp[kM]at h|k::ks,_,[],h,_=>by simp[kM]at h|k::ks,[],e::r,_,h=>by simp[kM]at h|k::ks,v::vs,e::r,h1,h2=>by simp only[kM,aF,jN]at h1 h2;obtain⟨c,d,⟨e1,rfl⟩,h3,h4⟩:=h1;obtain⟨c',d',⟨e2,rfl⟩,h5,h6⟩:=h2;exact⟨⟨c,h3,e1⟩,⟨c',h5,e2⟩,PP.zip h4 h6⟩
theorem PP.pick:∀{l:List (PV×PV)}{s t:List MapEntry}{e:MapEntry},PP w A l (s++e::t)->∃l1 p l2,l=l1++p::l2/\pD w A p.1 e.key/\pD w A p.2 e.val/\PP w A (l1++l2) (s++t)|[],[],t,e,h=>h.elim|[],_::_,t,e,h=>h.elim|p::l,[],t,e,h=>⟨[],p,l,rfl,h.1,h.2.1,h.2.2⟩|p::l,x::s,t,e,h=>by obtain⟨l1,q,l2,rfl,h1,h2,h3⟩:=PP.pick h.2.2;exact⟨p::l1,q,l2,rfl,h1,h2,h.1,h.2.1,h3⟩
theorem PP.nil{r:List MapEntry}(h:PP w A [] r):r=[]:=by cases r with|nil=>rfl|cons _ _=>exact h.elim
theorem PP.aFx{l:List (PV×PV)}(h:PP w A l []):l=[]:=by cases l with|nil=>rfl|cons _ _=>exact h.elim
theorem F3a{es:Array MapEntry}{seen:Array Nat}{s t:List MapEntry}{e:MapEntry}(hn:(es.toList.map (·.born)).Nodup)(hp:(s++e::t).Perm (leftOf es seen).toList):(s++t).Perm (leftOf es (seen.push e.born)).toList:=by(have h1:(leftOf es (seen.push e.born)).toList=(leftOf es seen).toList.filter (λx=>!(x.born==e.born)):=by unfold leftOf;rw[aS8,aS8,List.filter_filter];congr 1;funext x;rw[Array.contains_push,Bool.not_or,Bool.and_comm]);(have h2:((s++e::t).map (·.born)).Nodup:=by refine(hp.map _).nodup_iff.2 ?_;unfold leftOf;rw[aS8];exact hn.sublist (List.Sublist.map _ (List.filter_sublist)));(have h3:(s++e::t).filter (λx=>!(x.born==e.born))=s++t:=by rw[List.map_append,aF]at h2;have h4:=List.nodup_append.1 h2;have h5:=bZ.1 h4.2.1;rw[List.filter_append,List.filter_cons];(have e1:(!(e.born==e.born))=false:=by simp);rw[if_neg (by simp)];congr 1;refine jx.2 λx hx=>?_;have:=h4.2.2 x.born (dY hx) e.born (by simp);simpa using this;refine jx.2 λx hx=>?_;have:x.born≠e.born:=λh=>h5.1 (h▸dY hx);simpa using this);rw[h1,<-h3];exact hp.filter _
end
end Go.Mid
namespace Go.Mid
open Go.RowKit
open Go.ChangeMaps(setBlock)
structure xi (P:Program)(w:World)(A:Nat->Prop)(E:dP An)(nt:Nat)(σ:St)(a:Act):Prop where
 sl:qM P w A E (· < σ.nx) σ.s a
 mr:MR w A E σ.h (· < σ.nx)
 nx:1<=σ.nx
 df:a.defers=[]
 sz:nt<=a.tmps.size
def exM:Ex->Exit|.normal=>.normal|.exit id=>.exit id|.ret=>.ret
theorem C2S{P:Program}{c:Code}{Q:Exit->Act->World->Prop}(R:Nat->Act->World->Prop)(round:∀n a w,R n a w->c.wp P (Exit.then (λa' w'=>∃m,m<n/\R m a' w') Q) a w):∀n a w,R n a w->(Code.loop c).wp P Q a w:=by intro n a w h₀ b k cs;(have key:∀n a w,R n a w->∃e a' w',Q e a' w'/\Arrives P (lone (b.at a (.code c::.inLoop c::k)) cs w) b k cs e a' w':=by intro n;induction n using lI with|_ n ih=>intro a w hR;obtain⟨e,a₁,w₁,hq,tJ⟩:=round n a w hR b (.inLoop c::k) cs;cases e with|normal=>obtain⟨m,eC,hm⟩:=hq;obtain⟨e₂,a₂,w₂,hq₂,KZ⟩:=ih m eC a₁ w₁ hm;exact⟨e₂,a₂,w₂,hq₂,.of_steps (Steps.trans tJ (.one step_inLoop)) KZ⟩|exit id=>exact⟨_,a₁,w₁,hq,.pass (x:=.inLoop c) rfl (λ_ _=>.inl (by simp)) tJ⟩|goto l=>exact⟨_,a₁,w₁,hq,.pass (x:=.inLoop c) rfl (λ_ _=>.inl (by simp)) tJ⟩|ret=>exact⟨_,a₁,w₁,hq,.pass (x:=.inLoop c) rfl (λ_ _=>.inl (by simp)) tJ⟩|panic ch=>exact⟨_,a₁,w₁,hq,.pass (x:=.inLoop c) rfl (λ_ _=>.inl (by simp)) tJ⟩|outgrown=>exact⟨_,a₁,w₁,hq,.pass (x:=.inLoop c) rfl (λ_ _=>.inl (by simp)) tJ⟩);obtain⟨e,a',w',hq,tJ⟩:=key n a w h₀;exact⟨e,a',w',hq,.of_steps (.one step_loop) tJ⟩
section
variable{P:Program}{w:World}{A:Nat->Prop}{E:dP An}{nt:Nat}{σ:St}{a:Act}
theorem CF{n:Nat}(h:1<=n):S0.le (·<n):=by intro g hg;have:g=0:=hg;show g<n;omega
theorem DM(g:Nat):jz g<2:=by unfold jz;split<;>omega
theorem B03{g:Nat}(h:jz g=0):g=0:=by unfold jz at h;split at h;assumption;omega
theorem gC.weaken{w':World}{A':Nat->Prop}{E':dP An}{S S':di}(g:gC w A E S' w' A' E')(h:S.le S'):gC w A E S w' A' E':=⟨g.os,g.tape,g.output,g.size,g.aSO,g.sub,g.imm,g.own,λid np an z hn hg=>g.ns id np an z hn (h _ hg)⟩
theorem OZ(k:xi P w A E nt σ a)(ks ids:List Nat):∃E',xi P w A E' nt (A2D ks ids σ) a/\gC w A E S0 w A E':=by let bk:Nat->Option Nat:=λj=>if yp ids j then some j else none;(have hρ:∀i j,vl ids i=some j->bk j=some i:=by intro i j h;unfold vl at h;split at h;rename_i hk;cases h;simp only[bk,hk,if_true];cases h);(have uN:∀i j j',bk j=some i->bk j'=some i->j=j':=by intro i j j' h h';simp only[bk]at h h';split at h<;>split at h'<;>simp_all);have hm:=k.mr.clean (nx':=(·<2)) (ζ:=jz) (ζn:=λ_=>jz) hρ uN (λg _=>DM g) (λ_ g _=>DM g);(have hh:Bg σ.h (vl ids) jz (λ_=>jz) bk=(A2D ks ids σ).h:=by funext j;simp only[Bg,A2D,bk];split<;>rfl);rw[hh]at hm;refine⟨tG E σ.h (vl ids) jz (λ_=>jz) bk,⟨⟨?_,k.sl.gl⟩,hm,by simp[A2D],k.df,k.sz⟩,?_⟩;intro i;simp only[A2D];split;exact bR.clean (nx':=(·<2)) k.mr hρ (λg _=>DM g) (k.sl.sl i);simp only[bR];refine⟨rfl,rfl,⟨rfl,ay _⟩,ay _,λ_ _ _=>rfl,λ_ h=>h,λ_ _ h=>.inl h,λb _ h=>A8R h,?_⟩;intro id np an z hn hg;have Ae:an.g=0:=hg;by_cases hb:yp ids id=true;(have tg:bk id=some id:=by simp only[bk,hb,if_true]);rw[KB tg]at hn;(cases Cy:fc (E id) np with|none=>simp[Cy]at hn|some y=>simp only[Cy,ak,aa,ae]at hn;obtain⟨rfl,rfl⟩:=hn;have h0:=B03 Ae;obtain⟨⟨g,bb,cc⟩,z⟩:=y;simp only at h0;subst h0;rfl);(have:tG E σ.h (vl ids) jz (λ_=>jz) bk id=none:=by simp only[tG,bk,hb,aI,if_false,ng]);rw[this]at hn;cases np with|none=>cases hn|some p=>cases p<;>cases hn
theorem C6u{σ':St}{g:Gh}(k:xi P w A E nt σ a)(h:AN g σ=some σ'):∃A' E',xi P w A' E' nt σ' a/\gC w A E S0 w A' E':=by cases g with|aSO ks ids=>simp only[AN,aa]at h;subst h;obtain⟨E',h1,h2⟩:=OZ k ks ids;exact⟨A,E',h1,h2⟩|freeze t=>simp only[AN]at h;have hγ:¬(λg=>g<σ.nx) σ.nx:=ub _;(have Gs:di.add (·<σ.nx) σ.nx=(·<σ.nx+1):=by funext g;exact propext ⟨λhg=>by rcases hg with hg|hg<;>omega,λhg=>by rcases Nat.lt_or_eq_of_le (Nat.le_of_lt_succ hg)with e|e;exact .inl e;exact .inr e⟩);(have fin:∀{E':dP An}{h':cj},MR w A E' h' (di.add (·<σ.nx) σ.nx)->gC w A E (·<σ.nx) w A E'->xi P w A E' nt ⟨σ.s,h',σ.nx+1⟩ a:=by intro E' h' q1 q2;rw[Gs]at q1;exact⟨⟨λi=>(k.sl.sl i).go k.mr q2 (λg hg=>Nat.lt_succ_of_lt hg),k.sl.gl.frame q2.sub (λb hb=>q2.vL k.mr b hb)⟩,q1,by have:=k.nx;show 1<=σ.nx+1;omega,k.df,k.sz⟩);split at h;generalize t-5000000=s at h;split at h;rename_i id off len g0 hst;split at h;rename_i g1 z l gk;split at h;rename_i hg;cases h;subst hg;obtain⟨E',an,q1,q2,q3,q4,q5⟩:=k.mr.aXF hγ gk;have q:=fin q1 q2;have xj:=k.sl.sl s;rw[hst]at xj;simp only[bR]at xj;obtain⟨_,ad,cap,cE,hle,hn⟩:=xj;refine⟨A,E',⟨⟨λi=>?_,q.sl.gl⟩,q.mr,q.nx,q.df,q.sz⟩,q2.weaken (CF k.nx)⟩;show bR w A E' _ (cq σ.s s _ i) _;by_cases e:i=s;subst e;rw[nV];simp only[bR];refine⟨kS _,ad,cap,cE,hle,λrU z' rV ta=>?_⟩;rw[q5]at rV;cases rV;exact hn an _ q3 q4;rw[A0C _ _ e];exact q.sl.sl i;cases h;cases h;cases h;split at h;split at h;rename_i h' ht;cases h;simp only[FU]at ht;split at ht;rename_i a' t' gk;cases ht;obtain⟨E',q1,q2⟩:=k.mr.uv hγ gk;exact⟨A,E',fin q1 q2,q2.weaken (CF k.nx)⟩;cases ht;cases h;split at h;split at h;rename_i z hst gk;cases h;obtain⟨E',q1,q2,q3⟩:=k.mr.Gl (z:=z) hγ gk;have q:=fin q1 q2;have xj:=k.sl.sl (t%1000);rw[hst]at xj;simp only[bR]at xj;obtain⟨ad,cE⟩:=xj;refine⟨A,E',⟨⟨λi=>?_,q.sl.gl⟩,q.mr,q.nx,q.df,q.sz⟩,q2.weaken (CF k.nx)⟩;show bR w A E' _ (cq σ.s (t%1000) _ i) _;by_cases e:i=t%1000;subst e;rw[nV];simp only[bR];refine⟨kS _,ad,0,cE,ay _,λan z' hn hg=>?_⟩;rw[q3]at hn;cases hn;exact⟨rfl,rfl⟩;rw[A0C _ _ e];exact q.sl.sl i;cases h;cases h;exact⟨A,E,fin (k.mr.mono (di.eF _ _)) (gC.refl w A E _),gC.refl w A E _⟩;split at h;split at h;rename_i h' ht;cases h;unfold FU at ht;split at ht;rename_i id g o hst;split at ht;rename_i a' t' gk;cases ht;obtain⟨E',q1,q2⟩:=k.mr.uv hγ gk;exact⟨A,E',fin q1 q2,q2.weaken (CF k.nx)⟩;cases ht;rename_i id i0 p off len g hst;split at ht;rename_i g1 z l n dK;split at ht;rename_i o' eN;cases ht;obtain⟨E',q1,q2⟩:=k.mr.Dz hγ dK eN;exact⟨A,E',fin q1 q2,q2.weaken (CF k.nx)⟩;cases ht;cases ht;cases ht;cases h;(have set:∀{A':Nat->Prop}{E':dP An}{v:MV}{h':cj},gC w A E (·<σ.nx) w A' E'->MR w A' E' h' (·<σ.nx)->bR w A' E' (·<σ.nx) v (a.tmps.getD t undef)->xi P w A' E' nt ⟨cq σ.s t v,h',σ.nx⟩ a:=by intro A' E' v h' hg hm hv;refine⟨⟨λi=>?_,k.sl.gl.frame hg.sub (λb hb=>hg.vL k.mr b hb)⟩,hm,k.nx,k.df,k.sz⟩;show bR w A' E' _ (cq σ.s t v i) _;by_cases e:i=t;subst e;rw[nV];exact hv;rw[A0C _ _ e];exact(k.sl.sl i).go k.mr hg (di.le_refl _));have xj:=k.sl.sl t;split at h;rename_i id len g0 hst;split at h;rename_i g1 z l gk;split at h;rename_i hc;obtain⟨rfl,hlen⟩:=hc;split at h;rename_i vs fN;cases h;(cases hE:E id with|none=>rw[k.mr.er id,hE]at gk;cases gk|some o=>obtain⟨q1,q2⟩:=k.mr.froze hE;rw[hst]at xj;(have hp:mE σ.h (.own id [] 0 len g0)=some (.sl (vs.take len)):=by simp only[mE,gk,jq,bS,hlen,true_and,if_true,fN,fh]);have hv:=EU (A':=λb=>A b\/b∈o.blk) k.mr (λb hb=>.inl hb) hp (λi hi o1 nr b hb=>by simp only[va,aX]at hi;subst hi;rw[hE]at nr;cases nr;exact .inr hb) xj;exact⟨_,_,set q2 q1 (by simp only[bR];exact hv),q2.weaken (CF k.nx)⟩);cases h;cases h;cases h;rename_i id i0 p off len g0 hst;split at h;rename_i g1 z l n dK;split at h;rename_i vs fN;split at h;rename_i o' eN;cases h;obtain⟨A',E',q1,q2⟩:=k.mr.Kr dK fN eN;refine⟨A',E',⟨⟨λi=>(k.sl.sl i).go k.mr q2 (di.le_refl _),k.sl.gl.frame q2.sub (λb hb=>q2.vL k.mr b hb)⟩,q1,k.nx,k.df,k.sz⟩,q2.weaken (CF k.nx)⟩;cases h;cases h;cases h;rename_i id g0 hst;split at h;rename_i g1 u gk;split at h;rename_i hc;subst hc;split at h;rename_i v hv0;cases h;(cases hE:E id with|none=>rw[k.mr.er id,hE]at gk;cases gk|some o=>obtain⟨q1,q2⟩:=k.mr.froze hE;rw[hst]at xj;(have hp:mE σ.h (.ptr id none [] g0 0)=some (.ref v):=by simp only[mE,gk,look,GI,true_and,if_true,hv0]);have hv:=EU (A':=λb=>A b\/b∈o.blk) k.mr (λb hb=>.inl hb) hp (λi hi o1 nr b hb=>by simp only[va,aX]at hi;subst hi;rw[hE]at nr;cases nr;exact .inr hb) xj;exact⟨_,_,set q2 q1 (by simp only[bR];exact hv),q2.weaken (CF k.nx)⟩);cases h;cases h;cases h;rename_i v hst;cases h;refine⟨A,E,set (gC.refl w A E _) k.mr (by rw[<-hst];exact xj),gC.refl w A E _⟩;rename_i z hst;cases h;rw[hst]at xj;simp only[bR]at xj;obtain⟨ad,cE⟩:=xj;refine⟨A,E,set (gC.refl w A E _) k.mr ?_,gC.refl w A E _⟩;rw[cE];exact xD.2 ⟨ad,0,rfl,ay _,.inl rfl⟩;cases h
end
section
variable{P:Program}{Φ:lW}
def nE(c:Code)(a a':Act):Prop:=∀k,k∉E4W c->a'.tmps.getD k undef=a.tmps.getD k undef
theorem nE.trans{c d e:Code}{a a1 a2:Act}(h1:nE c a a1)(h2:nE d a1 a2)(hc:∀k,k∉E4W e->k∉E4W c)(hd:∀k,k∉E4W e->k∉E4W d):nE e a a2:=λk hk=>(h2 k (hd k hk)).trans (h1 k (hc k hk))
def O0(P:Program)(Φ:lW)(n:Nat):Prop:=∀(B:tC)(nt:Nat)(c:Code)(k:Nat)(mc:MC)(k':Nat),uq P B nt c k=some (mc,k')->∀(σ σ':St)(e:Ex),run Φ n mc σ=some (e,σ')->∀(Q:Exit->Act->World->Prop)(a:Act)(w:World)(A:Nat->Prop)(E:dP An),xi P w A E nt σ a->(∀a' w' A' E',xi P w' A' E' nt σ' a'->gC w A E S0 w' A' E'->nE c a a'->Q (exM e) a' w')->c.wp P Q a w
theorem C0Z{r:MC}{nt:Nat}:∀(l:List Nat)(n:Nat)(σ σ':St)(e:Ex),run Φ n (NW l r) σ=some (e,σ')->∀(a:Act)(w:World)(A:Nat->Prop)(E:dP An),xi P w A E nt σ a->∃m σ1 A1 E1,m<=n/\run Φ m r σ1=some (e,σ')/\xi P w A1 E1 nt σ1 a/\gC w A E S0 w A1 E1|[],n,σ,σ',e,hr,a,w,A,E,k=>⟨n,σ,A,E,ay n,hr,k,gC.refl w A E _⟩|t::l,n,σ,σ',e,hr,a,w,A,E,k=>by cases n with|zero=>simp[run]at hr|succ n=>have e0:NW (t::l) r=.seq (.gh (.freeze t)) (NW l r):=rfl;rw[e0]at hr;simp only[run]at hr;cases n with|zero=>simp[run]at hr|succ n=>cases hg:AN (.freeze t) σ with|none=>simp[run,hg]at hr|some σ1=>(have h1:run Φ (n+1) (.gh (.freeze t)) σ=some (.normal,σ1):=by simp only[run,hg]);rw[h1]at hr;simp only at hr;obtain⟨A1,E1,k1,g1⟩:=C6u k hg;obtain⟨m,σ2,A2,E2,q1,q2,q3,q4⟩:=C0Z l (n+1) σ1 σ' e hr a w A1 E1 k1;exact⟨m,σ2,A2,E2,by omega,q2,q3,g1.trans q4 (di.le_refl _)⟩
theorem F04{w:World}{A:Nat->Prop}{E:dP An}{nt:Nat}{σ:St}{a:Act}(k:xi P w A E nt σ a)(ks ids:List Nat):∃E',xi P w A E' nt (E6E ks ids σ) a/\gC w A E S0 w A E':=by obtain⟨E1,k1,g1⟩:=OZ k ks ids;have hnx:(A2D ks ids σ).nx=2:=rfl;let E':dP An:=λi=>if(E7l ids).contains i then E1 i else none;(have hE:∀i o,E' i=some o->E1 i=some o:=by intro i o h;simp only[E']at h;split at h;exact h;cases h);(have hN:∀S,pf S E1 E':=by intro S id np an z hn _;by_cases hc:(E7l ids).contains id=true;simp only[E',hc,if_true]at hn;exact hn;simp only[E',hc,aI,if_false]at hn;cases np with|none=>cases hn|some p=>cases p<;>cases hn);have hf:Fr w w A A E1 E' (·<(A2D ks ids σ).nx) (·<2):=⟨λ_ h=>h,λ_ _=>rfl,hN _,λ_ h=>h⟩;have ho:∀b,jr E' b->jr E1 b:=λb⟨i,o,h1,h2⟩=>⟨i,o,hE i o h1,h2⟩;refine⟨E',⟨⟨λi=>(k1.sl.sl i).frame hf,k1.sl.gl⟩,⟨λi=>?_,λi o h=>(k1.mr.at_ i o (hE i o h)).frame hf (λ_ _=>rfl),λb hb=>k1.mr.lt b (ho b hb),λi o h=>k1.mr.nd i o (hE i o h),λi j o o' hne h h'=>k1.mr.dj i j o o' hne (hE i o h) (hE j o' h'),k1.mr.im,λi o h=>k1.mr.st i o (hE i o h)⟩,by show 1<=2;omega,k1.df,k1.sz⟩,⟨rfl,rfl,⟨rfl,ay _⟩,ay _,λ_ _ _=>rfl,λ_ h=>h,λ_ _ h=>.inl h,λb hb h=>g1.own b hb (ho b h),λid np an z hn hg=>g1.ns id np an z (hN _ id np an z hn hg) hg⟩⟩;show(if(E7l ids).contains i then(A2D ks ids σ).h i else none)=(E' i).map _;by_cases hc:(E7l ids).contains i=true;simp only[E',hc,if_true];exact k1.mr.er i;simp only[E',hc,aI,if_false,Option.map_none]
theorem E8G(ls:List (Nat×Nat))(is:List hH):∀l:List Nat,E8u (NW l (.AE ls is))=NW l (.AE ls is.dropLast)|[]=>rfl|t::l=>by show MC.seq (.gh (.freeze t)) (E8u (NW l (.AE ls is)))=MC.seq (.gh (.freeze t)) (NW l (.AE ls is.dropLast));rw[E8G ls is l]
theorem E9D{a:Act}{d:Nat}{v:Value}(h:d<a.tmps.size):(a.put (some d) v).tmps.getD d undef=v:=by simp[Act.put,h]
theorem E7o{a:Act}{d k:Nat}{v:Value}(h:k≠d):(a.put (some d) v).tmps.getD k undef=a.tmps.getD k undef:=by simp[Act.put,dQ (Ne.symm h)]
theorem aS3{a:Act}{d:Option Nat}{v:Value}:(a.put d v).tmps.size=a.tmps.size:=by cases d<;>simp[Act.put]
theorem put_defers{a:Act}{d:Option Nat}{v:Value}:(a.put d v).defers=a.defers:=by cases d<;>rfl
theorem xi.other{w w':World}{A:Nat->Prop}{E:dP An}{nt:Nat}{σ:St}{a a':Act}(k:xi P w A E nt σ a)(hs:w.heap.size<=w'.heap.size)(hk:∀b,A b\/jr E b->w'.heap[b]?=w.heap[b]?)(hd:a'.defers=a.defers)(hz:a'.tmps.size=a.tmps.size)(ht:∀i,a'.tmps.getD i undef=a.tmps.getD i undef\/σ.s i=.dead 0):xi P w' A E nt σ a':=by have hf:Fr w w' A A E E (·<σ.nx) (·<σ.nx):=⟨λ_ h=>h,λb hb=>hk b (.inl hb),pf.refl _ _,di.le_refl _⟩;refine⟨⟨λi=>?_,k.sl.gl.frame (λ_ h=>h) λb hb=>hk b (.inl hb)⟩,k.mr.same hs hk,k.nx,hd.trans k.df,by rw[hz];exact k.sz⟩;rcases ht i with h|h;rw[h];exact(k.sl.sl i).frame hf;rw[h];simp only[bR]
def F3L(w:World)(A:Nat->Prop)(r:Nat)(el:List MapEntry):Prop:=(∃bm es clock seen c0,w.heap[r]?=some (.mapIter (some bm) clock seen c0)/\clock<=c0/\A bm/\w.heap[bm]?=some (.map es clock)/\F0W es clock/\el.Perm (leftOf es seen).toList)\/(∃s c,w.heap[r]?=some (.mapIter none s #[] c)/\el=[])
end
end Go.Mid
namespace Go.Mid
open Go.RowKit
open Go.ChangeMaps(setBlock)
section
variable{P:Program}{Φ:lW}
def E6T(b:Nat)(e:Ex):Ex:=if e=.exit b then .normal else e
theorem F3b{N b1:Nat}{Pa:List hH}{c:MC}{σ σ':St}{e:Ex}(h:run Φ N (.block b1 (.seq (.AE [] Pa) c)) σ=some (e,σ')):∃m σ1 e1,m<=N/\tx (og Φ (run Φ m)) [] Pa σ=some σ1/\run Φ (m+1) c σ1=some (e1,σ')/\m+1<=N/\e=E6T b1 e1:=by cases N with|zero=>simp[run]at h|succ n=>cases n with|zero=>simp[run]at h|succ n=>cases n with|zero=>simp[run]at h|succ n=>rw[run]at h;(have e0:run Φ (n+1+1) (.seq (.AE [] Pa) c) σ=match tx (og Φ (run Φ n)) [] Pa σ with|some σ1=>run Φ (n+1) c σ1|none=>none:=by rw[run,run];cases tx (og Φ (run Φ n)) [] Pa σ<;>rfl);rw[e0]at h;cases hr:tx (og Φ (run Φ n)) [] Pa σ with|none=>rw[hr]at h;cases h|some σ1=>rw[hr]at h;simp only at h;cases hc:run Φ (n+1) c σ1 with|none=>rw[hc]at h;cases h|some y=>obtain⟨e1,σ2⟩:=y;rw[hc]at h;refine⟨n,σ1,e1,by omega,hr,?_,by omega,?_⟩;rw[hc];(cases e1 with|exit j=>simp only at h;split at h<;>cases h<;>rfl|normal=>cases h;rfl|ret=>cases h;rfl);cases e1 with|exit j=>simp only at h;split at h;rename_i hj;cases h;simp[E6T,hj];rename_i hj;cases h;simp[E6T,hj]|normal=>cases h;simp[E6T]|ret=>cases h;simp[E6T]
theorem E97{ops:Array Oper}{Q:Exit->Act->World->Prop}{a:Act}{w:World}{next:List Nat}{i:Nat}{o:Oper}{v:Value}{w':World}(ho:ops[i]?=some o)(hg:o.guard=none)(hr:(execOp a.eval o).run P w=.ok (.value v) w')(hn:wpOps P ops Q next (a.put o.dst v) w'):wpOps P ops Q (i::next) a w:=by rw[wpOps_cons];exact F40 ho hg hr hn
theorem F4m{N:Nat}{B:tC}{nt:Nat}{ops:Array Oper}{i0:hH}{Pa:List hH}{Q:Exit->Act->World->Prop}(hK:CE P (og Φ (run Φ N)))(avE:EC P B nt ops ops.toList=some (i0::Pa)){σ σ':St}(hσ:σ.nx=2)(hr:tx (og Φ (run Φ N)) [] Pa σ=some σ'){a:Act}{w:World}{A:Nat->Prop}{E:dP An}(k:xi P w A E nt σ a)(hn:∀a' w' A' E',xi P w' A' E' nt σ' a'->gC w A E S0 w' A' E'->F0X ops a a'->Q .normal a' w'):wpOps P ops Q (mJ 1 Pa.length) a w:=by unfold tx at hr;split at hr;rename_i s1 h1 hst;simp only[n6,tB,if_true,aa]at hr;subst hr;(have hlen:Pa.length+1=ops.size:=by have:=(OY avE).1;simpa using this);let F:Nat->List Nat×Option Plc:=λi=>match(vK (og Φ (run Φ N)) 2 Pa σ.s σ.h)[i-1]? with|some (x,_,p)=>(x,p)|none=>([],none);rw[hσ]at hst;(have Bs:avD (og Φ (run Φ N)) 1 (i0::Pa) F (mJ 1 Pa.length) σ.s σ.h s1 h1:=by refine B46 Pa 1 σ.s s1 σ.h h1 rfl hst ?_;intro k x hx;(have:1+k-1=k:=by omega);simp only[F,this,hx]);(have hS:∀i∈mJ 1 Pa.length,i<ops.size/\i<ops.size/\¬(λg=>g<σ.nx) (1+i):=by intro i hi;have:=List.mem_range'_1.1 hi;refine⟨by omega,by omega,?_⟩;show¬(1+i<σ.nx);omega);rw[<-bD (mJ 1 Pa.length)];refine E8F hK avE Bs (List.nodup_range' (h:=Nat.one_pos)) hS k.sz k.sl k.mr ?_;intro a' w' A' E' S' q1 q2 q3 q4 q5 q6 q7;(have hle:di.le S' (·<σ.nx+Pa.length):=by intro g hg;rcases q2 g hg with h|⟨i,hi,rfl⟩;have:g<σ.nx:=h;show g<σ.nx+Pa.length;omega;show 1+i<σ.nx+Pa.length;omega);exact hn a' w' A' E' ⟨⟨λk=>(q3.sl k).frame (Fr.same w' A' E' hle),q3.gl⟩,q4.mono hle,by show 1<=σ.nx+Pa.length;omega,q6.trans k.df,by rw[q7.1];exact k.sz⟩ (q5.weaken (CF k.nx)) q7;cases hr
theorem E70{ks ids:List Nat}{σ:St}{i:Nat}(h:ks.contains i=false):(A2D ks ids σ).s i=.dead 0:=by simp only[A2D,h,aI,if_false]
theorem nE.put{c:Code}{a0 a:Act}{d:Nat}{v:Value}(h:nE c a0 a)(hd:d∈E4W c):nE c a0 (a.put (some d) v):=λk hk=>(E7o (k:=k) (d:=d) (λe=>hk (by rw[e];exact hd))).trans (h k hk)
theorem F05{pr it nx:Nat}{ty1 ty2:TypeId}{ps1 ps2:String}{af1 af2:Array Edge}{Q:Exit->Act->World->Prop}{a:Act}{w w':World}{vs:Array Value}{b:Bool}{r:Nat}(hp:pr<a.tmps.size)(hit:a.tmps.getD it undef=.pointer (some ⟨r,0,none⟩))(auU:(Instr.next (.pointer (some ⟨r,0,none⟩)) false ty1).run P w=.ok (.tuple vs) w')(hb:vs[0]?=some (.bool b))(hw:Q .normal ((a.put (some pr) (.tuple vs)).put (some nx) (.bool b)) w'):wpOps P #[⟨some pr,.next (.tmp it) false,ty1,ps1,af1,none⟩,⟨some nx,.extract (.tmp pr) 0,ty2,ps2,af2,none⟩] Q [0,1] a w:=by refine E97 (o:=⟨some pr,.next (.tmp it) false,ty1,ps1,af1,none⟩) (v:=.tuple vs) (w':=w') rfl rfl ?_ ?_;simp only[execOp,Act.eval,hit,bn,auU,aU,bL];refine E97 (o:=⟨some nx,.extract (.tmp pr) 0,ty2,ps2,af2,none⟩) (v:=.bool b) (w':=w') rfl rfl ?_ ?_;have:(a.put (some pr) (.tuple vs)).tmps.getD pr undef=.tuple vs:=E9D hp;simp only[execOp,Act.eval,this,Instr.extract,hb,bn,bL,aU];exact hw
theorem F2s{N:Nat}(ih:∀m,m<=N->O0 P Φ m)(Bj:∀m,m<=N->CE P (og Φ (run Φ m))){B:tC}{nt:Nat}{aBf AB:Array Oper}{body:Code}{i1 i2 b0 b1 pr it nx pe:Nat}{ty1 ty2 ty3:TypeId}{ps1 ps2 ps3:String}{af1 af2 af3:Array Edge}{rest:List Oper}(aDY:aBf.toList=[⟨some pr,.next (.tmp it) false,ty1,ps1,af1,none⟩,⟨some nx,.extract (.tmp pr) 0,ty2,ps2,af2,none⟩])(aDh:AB.toList=⟨some pe,.entry (.tmp it),ty3,ps3,af3,none⟩::rest){i0:hH}{Pa:List hH}(avE:EC P B nt AB AB.toList=some (i0::Pa)){kk kk':Nat}{c:MC}(wa:uq P B nt body kk=some (c,kk')){ks ids:List Nat}(h1:pr<nt)(h2:nx<nt)(h3:pe<nt)(h4:it≠pr)(h5:it≠nx)(h6:it≠pe)(h7:pr≠nx)(k1:ks.contains pr=false)(k2:ks.contains nx=false)(k3:ks.contains pe=false)(hit:it∉rest.filterMap (·.dst)++E4W body){w0:World}{A0:Nat->Prop}{E0:dP An}{a0:Act}{r:Nat}(hr0:w0.heap.size<=r)(aFz:a0.tmps.getD it undef=.pointer (some ⟨r,0,none⟩)){Q:Exit->Act->World->Prop}{G:Ex->St->Prop}(hG:∀e σ',G e σ'->∀a' w' A' E',xi P w' A' E' nt σ' a'->gC w0 A0 E0 S0 w' A' E'->nE (.seq (.region i1 aBf false) (.seq (.cond (.tmp nx) .skip (.exit b0)) (.block b1 (.seq (.region i2 AB false) body)))) a0 a'->Q (match e with|.normal=>.exit b0|e=>exM e) a' w'):∀(n:Nat)(a:Act)(w:World),(∃rem el σ A E,rem.length=n/\xi P w A E nt σ a/\gC w0 A0 E0 S0 w A E/\nE (.seq (.region i1 aBf false) (.seq (.cond (.tmp nx) .skip (.exit b0)) (.block b1 (.seq (.region i2 AB false) body)))) a0 a/\r<w.heap.size/\¬A r/\¬jr E r/\F3L w A r el/\PP w A rem el/\(∀l':List (PV×PV),l'.Perm rem->∃e σ',E4M (run Φ N (.block b1 (.seq (.AE [] Pa) c))) pe ks ids l' σ=some (e,σ')/\G e σ'))->(Code.loop (.seq (.region i1 aBf false) (.seq (.cond (.tmp nx) .skip (.exit b0)) (.block b1 (.seq (.region i2 AB false) body))))).wp P Q a w:=by(have hnA:aBf=#[⟨some pr,.next (.tmp it) false,ty1,ps1,af1,none⟩,⟨some nx,.extract (.tmp pr) 0,ty2,ps2,af2,none⟩]:=by cases aBf;simp only at aDY;subst aDY;rfl);subst hnA;generalize hD:Code.seq (.region i1 #[⟨some pr,.next (.tmp it) false,ty1,ps1,af1,none⟩,⟨some nx,.extract (.tmp pr) 0,ty2,ps2,af2,none⟩] false) (.seq (.cond (.tmp nx) .skip (.exit b0)) (.block b1 (.seq (.region i2 AB false) body)))=D at hG|-;(have hDd:E4W D=[pr,nx]++((pe::rest.filterMap (·.dst))++E4W body):=by rw[<-hD];simp only[E4W,aDh,List.filterMap_cons,List.filterMap_nil,a7]);(have dpr:pr∈E4W D:=by rw[hDd];simp);(have dnx:nx∈E4W D:=by rw[hDd];simp);(have dpe:pe∈E4W D:=by rw[hDd];simp);(have aFA:it∉E4W D:=by rw[hDd];simp only[aS,a7,aG,not_or];exact⟨h4,h5,h6,hit⟩);refine C2S _ ?_;rintro n a w⟨rem,el,σ,A,E,hlen,k,g,t,hrs,hrA,hrO,hI,hP,hF⟩;have aDZ:a.tmps.getD it undef=.pointer (some ⟨r,0,none⟩):=(t it aFA).trans aFz;have hJ:=k.sz;obtain⟨E1,kf,gf⟩:=OZ k ks ids;have aDD:¬jr E1 r:=λh=>hrO (gf.own r hrs h);rw[<-hD];refine yl (aBK ?_);show wpOps P _ _ [0,1] a w;(have aD0:∀{v1 v2:Value}(i:Nat),((a.put (some pr) v1).put (some nx) v2).tmps.getD i undef=a.tmps.getD i undef\/(A2D ks ids σ).s i=.dead 0:=λi=>by by_cases e1:i=nx;subst e1;exact .inr (E70 k2);by_cases e2:i=pr;subst e2;exact .inr (E70 k1);exact .inl ((E7o e1).trans (E7o e2)));(have nxv:∀{v1:Value}{b:Bool},((a.put (some pr) v1).put (some nx) (.bool b)).eval (.tmp nx)=.bool b:=λ{v1 b}=>by show((a.put (some pr) v1).put (some nx) (.bool b)).tmps.getD nx undef=_;exact E9D (by rw[aS3];omega));(have atEnd:∀R:Act->World->Prop,rem=[]->(Instr.next (.pointer (some ⟨r,0,none⟩)) false ty1).run P w=.ok (.tuple #[.bool false]) w->wpOps P #[⟨some pr,.next (.tmp it) false,ty1,ps1,af1,none⟩,⟨some nx,.extract (.tmp pr) 0,ty2,ps2,af2,none⟩] (Exit.then ((Code.seq (.cond (.tmp nx) .skip (.exit b0)) (.block b1 (.seq (.region i2 AB false) body))).wp P (Exit.then R Q)) (Exit.then R Q)) [0,1] a w:=λR zu auU=>by refine F05 (by omega) aDZ auU rfl (yl (uc nxv (wp_exit ?_)));obtain⟨e,σ',hfe,yG⟩:=hF [] (by rw[zu]);simp only[E4M,aa,ae]at hfe;obtain⟨rfl,rfl⟩:=hfe;exact hG .normal _ yG _ w A E1 (kf.other (ay _) (λ_ _=>rfl) (put_defers.trans put_defers) (aS3.trans aS3) aD0) (g.trans gf (di.le_refl _)) ((t.put dpr).put dnx));rcases hI with⟨bm,es,clock,seen,c0,e1,e2,e3,e4,e5,e6⟩|⟨s0,c0,e1,rfl⟩;rcases run_next_at w ty1 r bm clock c0 seen es clock e1 e4 (λx hx=>e5.1 x hx) e2 with⟨hz,auU⟩|⟨x,hx,w1,hw1,auU⟩;refine atEnd _ ?_ auU;(have:(leftOf es seen).toList=[]:=by apply List.eq_nil_of_length_eq_zero;simpa using hz);rw[this]at e6;rw[e6.eq_nil]at hP;exact hP.aFx;refine F05 (by omega) aDZ auU rfl ?_;generalize hw2:setBlock w1 r (.mapIter (some bm) clock (seen.push x.born) clock)=w2 at auU|-;(have s1:w1.heap=w.heap:=by rcases hw1 with rfl|rfl<;>rfl);(have s2:w2.heap.size=w.heap.size:=by rw[<-hw2,F0S,s1]);(have s3:∀b,b≠r->w2.heap[b]?=w.heap[b]?:=λb hb=>by rw[<-hw2,F03 hb,s1]);(have s4:w2.heap[r]?=some (.mapIter (some bm) clock (seen.push x.born) clock):=by rw[<-hw2];exact F0R (by rw[s1];exact hrs));have s5:∀b,A b\/jr E1 b->w2.heap[b]?=w.heap[b]?:=λb hb=>s3 b (λe=>by subst e;exact hb.elim hrA aDD);have g2:gC w0 A0 E0 S0 w2 A E1:=(g.trans gf (di.le_refl _)).iter hr0 (by rw[<-hw2];rcases hw1 with rfl|rfl<;>rfl) (by rw[<-hw2];rcases hw1 with rfl|rfl<;>rfl) (by rw[<-hw2];rcases hw1 with rfl|rfl<;>exact⟨rfl,by first|exact ay _|exact au6 _⟩) (e7 s2.symm) (λb hb _=>s3 b hb);have hbr:bm≠r:=λe=>hrA (e▸e3);generalize Ml:(a.put (some pr) (.tuple #[.bool true,x.key,x.val])).put (some nx) (.bool true)=a2;(have a2s:a2.tmps.size=a.tmps.size:=by rw[<-Ml];exact aS3.trans aS3);(have kk2:xi P w2 A E1 nt (A2D ks ids σ) a2:=by rw[<-Ml];exact kf.other (e7 s2.symm) s5 (put_defers.trans put_defers) (aS3.trans aS3) aD0);(have t2:nE D a0 a2:=by rw[<-Ml];exact(t.put dpr).put dnx);(have O3:a2.eval (.tmp nx)=.bool true:=by rw[<-Ml];exact nxv);have aFC:a2.tmps.getD it undef=.pointer (some ⟨r,0,none⟩):=(t2 it aFA).trans aFz;clear Ml;refine yl (u6 O3 (wp_skip ?_));refine wp_block (yl (aBK ?_));obtain⟨s,u,ia⟩:=e9 (e6.mem_iff.2 hx);subst ia;obtain⟨l1,p,l2,rfl,p1,p2,p3⟩:=hP.pick;(have aFD:AB.size=Pa.length+1:=by have:=(OY avE).1;simp at this;omega);(have aEo:bA AB.size=0::mJ 1 Pa.length:=by rw[aFD,lr,List.range'_succ]);rw[aEo];(have ho3:AB[0]?=some ⟨some pe,.entry (.tmp it),ty3,ps3,af3,none⟩:=by rw[<-kB,aDh];rfl);have b2:w2.heap[bm]?=some (.map es clock):=(s3 bm hbr).trans e4;have xe:x∈es.toList:=(mem_left hx).1;refine E97 ho3 rfl (v:=.tuple #[x.key,x.val]) (w':=w2) ?_ ?_;simp only[execOp,Act.eval,aFC,bn,run_entry_at w2 r bm clock seen es clock x s4 b2 xe e5.2.1,aU,bL];let σ3:St:=⟨cq (A2D ks ids σ).s pe (.eI [.p p.1,.p p.2]),(A2D ks ids σ).h,(A2D ks ids σ).nx⟩;(have kk3:xi P w2 A E1 nt σ3 (a2.put (some pe) (.tuple #[x.key,x.val])):=by refine⟨⟨λi=>?_,kk2.sl.gl⟩,kk2.mr,kk2.nx,put_defers.trans kk2.df,by rw[aS3];exact kk2.sz⟩;show bR w2 A E1 _ (cq (A2D ks ids σ).s pe (.eI [.p p.1,.p p.2]) i) _;by_cases hi:i=pe;subst hi;rw[nV,E9D (by omega)];have hw:∀b,A b->w2.heap[b]?=w.heap[b]?:=λb hb=>s5 b (.inl hb);have q1:=p1.frame (λ_ h=>h) hw;have q2:=p2.frame (λ_ h=>h) hw;simp only[bR,c9];exact⟨[x.key,x.val],rfl,x.key,[x.val],rfl,q1,x.val,[],rfl,q2,rfl⟩;rw[A0C _ _ hi,E7o hi];exact kk2.sl.sl i);have t3:nE D a0 (a2.put (some pe) (.tuple #[x.key,x.val])):=t2.put dpe;have aD2:∀l'':List (PV×PV),E4M (run Φ N (.block b1 (.seq (.AE [] Pa) c))) pe ks ids (p::l'') σ=match run Φ N (.block b1 (.seq (.AE [] Pa) c)) σ3 with|some (.normal,σ')=>E4M (run Φ N (.block b1 (.seq (.AE [] Pa) c))) pe ks ids l'' σ'|q=>q:=λ_=>rfl;have axx:∀l'':List (PV×PV),l''.Perm (l1++l2)->(p::l'').Perm (l1++p::l2):=λl'' h=>(h.cons p).trans vc.symm;obtain⟨ef,σf,hf1,hf2⟩:=hF (p::(l1++l2)) (axx _ (.refl _));rw[aD2]at hf1;(cases CG:run Φ N (.block b1 (.seq (.AE [] Pa) c)) σ3 with|none=>rw[CG]at hf1;cases hf1|some y=>obtain⟨e1',σ4⟩:=y;obtain⟨m,σ5,e2',m1,m2,m3,m4,rfl⟩:=F3b CG;refine F4m (Bj m m1) avE rfl m2 kk3 ?_;intro a4 w4 A4 E4 k4 g4 t4;refine ih (m+1) m4 B nt body kk c kk' wa σ5 σ4 e2' m3 _ a4 w4 A4 E4 k4 ?_;intro a5 w5 A5 E5 k5 g5 t5;have g45:gC w2 A E1 S0 w5 A5 E5:=g4.trans g5 (di.le_refl _);have gg:gC w0 A0 E0 S0 w5 A5 E5:=g2.trans g45 (di.le_refl _);(have tt:nE D a0 a5:=λq hq=>by rw[t5 q (λh=>hq (by rw[hDd];simp[h]))];rw[t4.2 q ?_];exact t3 q hq;intro o ho e;refine hq ?_;rw[aDh]at ho;rw[hDd];rcases aG.1 ho with h|h;subst h;simp only[aa]at e;subst e;simp;have:q∈rest.filterMap (·.dst):=dr.2 ⟨o,h,e⟩;simp[this]);(have Iw:r<w2.heap.size:=by rw[s2];exact hrs);(have key:E6T b1 e2'=.normal->∃m,m<n/\∃rem el σ A E,rem.length=m/\xi P w5 A E nt σ a5/\gC w0 A0 E0 S0 w5 A E/\nE D a0 a5/\r<w5.heap.size/\¬A r/\¬jr E r/\F3L w5 A r el/\PP w5 A rem el/\(∀l':List (PV×PV),l'.Perm rem->∃e σ',E4M (run Φ N (.block b1 (.seq (.AE [] Pa) c))) pe ks ids l' σ=some (e,σ')/\G e σ'):=by intro hen;have hA5:∀b,A b->w5.heap[b]?=w2.heap[b]?:=λb hb=>g45.aSO b (kk2.mr.im b hb) (λho=>(kk2.mr.lt b ho).2 hb);refine⟨(l1++l2).length,?_,l1++l2,s++u,σ4,A5,E5,rfl,k5,gg,tt,br Iw g45.size,?_,?_,?_,?_,?_⟩;rw[<-hlen];simp;intro h;exact(g45.imm r Iw h).elim hrA aDD;intro h;exact aDD (g45.own r Iw h);refine .inl ⟨bm,es,clock,seen.push x.born,clock,(g45.aSO r Iw aDD).trans s4,ay _,g45.sub bm e3,(hA5 bm e3).trans b2,e5,F3a e5.2.1 e6⟩;exact p3.frame g45.sub λb hb=>(hA5 b hb).trans (s5 b (.inl hb));intro l' zj;obtain⟨e,σ',q1,q2⟩:=hF (p::l') (axx l' zj);rw[aD2,CG]at q1;rw[hen]at q1;exact⟨e,σ',q1,q2⟩);(have ax3:E6T b1 e2'≠.normal->G (E6T b1 e2') σ4:=by intro hen;rw[CG]at hf1;(have:some (E6T b1 e2',σ4)=some (ef,σf):=by rw[<-hf1];cases he:E6T b1 e2' with|normal=>exact(hen he).elim|exit j=>rfl|ret=>rfl);cases this;exact hf2);cases e2' with|normal=>have q:=key rfl;rw[<-hD]at q;exact q|ret=>have:=hG _ _ (ax3 (by simp[E6T])) a5 w5 A5 E5 k5 gg tt;exact this|exit j=>show Gr b1 _ (.exit j) a5 w5;by_cases hj:j=b1;subst hj;simp only[Gr,if_true];have q:=key (by simp[E6T]);rw[<-hD]at q;exact q;simp only[Gr,hj,if_false];(have hib:E6T b1 (.exit j)=.exit j:=by simp[E6T,hj]);have:=hG _ _ (ax3 (by rw[hib];simp)) a5 w5 A5 E5 k5 gg tt;rw[hib]at this;exact this);refine atEnd _ hP.aFx ?_;simp only[Instr.next,getObj,bn,Sem.run,e1,Result.andThen];rfl
end
end Go.Mid
namespace Go.Mid
open Go.RowKit
open Go.ChangeMaps(setBlock)
section
variable{P:Program}{Φ:lW}
theorem E8V{a:Code}{td:TypeId}{src it:Nat}(h:E7x a=some (td,src,it)):∃id ops ty ps af,a=.region id ops false/\ops.toList.getLast?=some ⟨some it,.range td (.tmp src),ty,ps,af,none⟩:=by unfold E7x at h;split at h;rename_i id ops;split at h;rename_i hl;simp only[aa,ae]at h;obtain⟨rfl,rfl,rfl⟩:=h;exact⟨id,ops,_,_,_,rfl,hl⟩;cases h;cases h
theorem F0B{b:Code}{r:RH}(h:E8Q b=some r):∃b1 i1 aBf i2 AB body ty1 ps1 af1 ty2 ps2 af2 ty3 ps3 af3 rest,b=.block r.b0 (.loop (.seq (.region i1 aBf false) (.seq (.cond (.tmp r.nx) .skip (.exit r.b0)) (.block b1 (.seq (.region i2 AB false) body)))))/\aBf.toList=[⟨some r.pr,.next (.tmp r.it) false,ty1,ps1,af1,none⟩,⟨some r.nx,.extract (.tmp r.pr) 0,ty2,ps2,af2,none⟩]/\AB.toList=⟨some r.pe,.entry (.tmp r.it),ty3,ps3,af3,none⟩::rest/\r.ds=rest.filterMap (·.dst)++E4W body/\E7x (.region i2 AB false)=none:=by unfold E8Q at h;split at h;split at h;rename_i h1 h2;split at h;rename_i hc;obtain⟨rfl,rfl,rfl,rfl,hn⟩:=hc;simp only[aa]at h;subst h;exact⟨_,_,_,_,_,_,_,_,_,_,_,_,_,_,_,_,rfl,h1,h2,rfl,by simpa using hn⟩;cases h;cases h;cases h
theorem F3c{B:tC}{nt b0 b0' i1 nx bb i2 n1 n2 b1:Nat}{aBf AB:Array Oper}{body:Code}{y c:MC}{ks ids:List Nat}{Pa:List hH}(h:uq P B nt (.block b0 (.loop (.seq (.region i1 aBf false) (.seq (.cond (.tmp nx) .skip (.exit b0')) (.block bb (.seq (.region i2 AB false) body)))))) n1=some (y,n2))(hr:E7x (.region i2 AB false)=none)(hm:E9d y=some (ks,ids,b1,Pa,c)):b1=bb/\∃i0 kk kk',EC P B nt AB AB.toList=some (i0::Pa)/\uq P B nt body kk=some (c,kk'):=by rw[uq]at h;split at h;rename_i x m hx;simp only[aa,ae]at h;obtain⟨rfl,_⟩:=h;rw[uq]at hx;split at hx;rename_i x2 m2 hx2;simp only[aa,ae]at hx;obtain⟨rfl,_⟩:=hx;rw[uq]at hx2;split at hx2;rename_i x3 m3 hx3;split at hx2;rename_i x4 m4 hx4;simp only[aa,ae]at hx2;obtain⟨rfl,_⟩:=hx2;(have e1:E8R P B nt (.region i1 aBf false) (.seq (.cond (.tmp nx) .skip (.exit b0')) (.block bb (.seq (.region i2 AB false) body))) x3 x4=.seq x3 x4:=by simp[E8R,E9C,E8Q]);rw[e1]at hm;rw[uq]at hx4;split at hx4;rename_i x5 m5 hx5;split at hx4;rename_i x6 m6 hx6;simp only[aa,ae]at hx4;obtain⟨rfl,_⟩:=hx4;(have e2:E8R P B nt (.cond (.tmp nx) .skip (.exit b0')) (.block bb (.seq (.region i2 AB false) body)) x5 x6=.seq x5 x6:=by simp[E8R,E9C,E7x]);rw[e2]at hm;rw[uq]at hx6;split at hx6;rename_i x7 m7 hx7;simp only[aa,ae]at hx6;obtain⟨rfl,_⟩:=hx6;rw[uq]at hx7;split at hx7;rename_i x8 m8 hx8;split at hx7;rename_i x9 m9 hx9;simp only[aa,ae]at hx7;obtain⟨rfl,_⟩:=hx7;(have e3:E8R P B nt (.region i2 AB false) body x8 x9=.seq x8 x9:=by simp[E8R,E9C,hr]);rw[e3]at hm;unfold E9d at hm;split at hm;rename_i heq;simp only[MC.block.injEq,MC.loop.injEq,MC.seq.injEq]at heq;obtain⟨rfl,rfl,rfl,_,_,rfl,h8,rfl⟩:=heq;simp only[aa,ae]at hm;obtain⟨rfl,rfl,rfl,rfl,rfl⟩:=hm;refine⟨rfl,?_⟩;rw[uq]at hx8;split at hx8;rename_i is his;simp only[auI,tB,if_true,aa,ae]at hx8;obtain⟨h9,_⟩:=hx8;rw[h8]at h9;generalize((B.fz.find? (·.1==i2)).elim [] (·.2))=fz at h9;(cases fz with|nil=>simp only[NW,aB4,aI,if_false,MC.AE.injEq,true_and]at h9;subst h9;exact⟨_,_,_,his,hx9⟩|cons f l=>simp[NW]at h9);cases hx8;cases hm;cases hx7;cases hx7;cases hx6;cases hx4;cases hx4;cases hx2;cases hx2;cases hx;cases h
end
end Go.Mid
namespace Go.Mid
open Go.RowKit
open Go.ChangeMaps(setBlock)
section
variable{P:Program}{Φ:lW}
theorem avD.mono{K:jm}{g0:Nat}{is is':List hH}{F:Nat->List Nat×Option Plc}(hi:∀(i:Nat)(x:hH),is[i]?=some x->is'[i]?=some x):∀{π:List Nat}{s s':gB}{h h':cj},avD K g0 is F π s h s' h'->avD K g0 is' F π s h s' h'|_,_,_,_,_,.nil s h=>.nil s h|_,_,_,_,_,.cons h1 h2 h3 h4=>.cons (hi _ _ h1) h2 h3 (avD.mono hi h4)
theorem E8o{ls:List (Nat×Nat)}{is:List hH}:∀(l:List Nat)(n:Nat)(σ σ':St)(e:Ex),run Φ n (NW l (.AE ls is)) σ=some (e,σ')->e=.normal|[],n,σ,σ',e,h=>(by cases n with|zero=>simp[run]at h|succ n=>simp only[NW,aB4,run]at h;split at h;cases h;rfl;cases h)|t::l,n,σ,σ',e,h=>by cases n with|zero=>simp[run]at h|succ n=>have e0:NW (t::l) (.AE ls is)=.seq (.gh (.freeze t)) (NW l (.AE ls is)):=rfl;rw[e0]at h;simp only[run]at h;cases n with|zero=>simp[run]at h|succ n=>cases hg:AN (.freeze t) σ with|none=>simp[run,hg]at h|some σ1=>(have h1:run Φ (n+1) (.gh (.freeze t)) σ=some (.normal,σ1):=by simp only[run,hg]);rw[h1]at h;exact E8o l (n+1) σ1 σ' e h
theorem F2t{R:St->Option (Ex×St)}{x d:Nat}{ks ids:List Nat}{σ:St}(hd:ks.contains d=false):∀l:List (PV×PV),E4M R x ks ids l ⟨cq σ.s d (.dead 0),σ.h,σ.nx⟩=E4M R x ks ids l σ:=by(have e:A2D ks ids ⟨cq σ.s d (.dead 0),σ.h,σ.nx⟩=A2D ks ids σ:=by unfold A2D;congr 1;funext k;split;rename_i hk;(have:k≠d:=λh=>by subst h;rw[hd]at hk;cases hk);simp only[A0C _ _ this];rfl);intro l;cases l with|nil=>simp only[E4M,e]|cons y r=>simp only[E4M,e]
theorem F2u(es:Array MapEntry):(leftOf es #[]).toList=es.toList:=by unfold leftOf;simp
theorem E8W(w:World)(o:aBL):(w.alloc o).heap.size=w.heap.size+1:=by show(w.heap.push o).size=_;simp
theorem F1I{N:Nat}(ih:∀m,m<=N->O0 P Φ m)(Bj:∀m,m<=N->CE P (og Φ (run Φ m))){B:tC}{nt:Nat}{a b:Code}{k n1 n2 td src it:Nat}{x y c:MC}{r:RH}{ks ids:List Nat}{b1:Nat}{Pa:List hH}(hx:uq P B nt a k=some (x,n1))(hy:uq P B nt b n1=some (y,n2))(hA:E7x a=some (td,src,it))(hL:E8Q b=some r)(hM:E9d y=some (ks,ids,b1,Pa,c))(zr:F0V P td=true)(kN:okR nt it ks r=true)(hne:it≠src){σ σ1:St}{act:Act}{w:World}{A:Nat->Prop}{E:dP An}(hk:xi P w A E nt σ act){M NF:Nat}(hMN:M<=N)(hNF:NF<=N){e0:Ex}(qX:run Φ M (E8u x) σ=some (e0,σ1)){G:Ex->St->Prop}{keys gR:List PV}(jD:cJ σ1.s (.t src)=.p (.mp keys gR))(hF:∀l':List (PV×PV),l'.Perm (keys.zip gR)->∃e σ',E4M (run Φ NF (.block b1 (.seq (.AE [] Pa) c))) r.pe ks ids l' σ1=some (e,σ')/\G e σ'){Q:Exit->Act->World->Prop}(hG:∀e σ',G e σ'->∀a' w' A' E',xi P w' A' E' nt σ' a'->gC w A E S0 w' A' E'->nE (.seq a b) act a'->Q (exM (if e=.exit r.b0 then .normal else e)) a' w'):(Code.seq a b).wp P Q act w:=by obtain⟨id,ops,ty,ps,af,rfl,awG⟩:=E8V hA;obtain⟨bb,i1,aBf,i2,AB,body,ty1,ps1,af1,ty2,ps2,af2,ty3,ps3,af3,rest,rfl,hn,he,hds,hre⟩:=F0B hL;obtain⟨rfl,i0,kk,kk',aFH,wa⟩:=F3c hy hre hM;unfold okR at kN;simp only[aj,decide_eq_true_eq,Bool.not_eq_true',List.contains_eq_mem,decide_eq_false_iff_not]at kN;obtain⟨⟨⟨⟨⟨⟨⟨⟨⟨⟨⟨⟨⟨o1,o2⟩,o3⟩,o4⟩,o5⟩,o6⟩,o7⟩,o8⟩,o9⟩,o10⟩,o11⟩,o12⟩,o13⟩,o14⟩:=kN;subst o1;(have cf:∀{d:Nat},d∉ks->ks.contains d=false:=λh=>by simpa using h);rw[uq]at hx;split at hx;rotate_left;cases hx;rename_i is his;simp only[auI,tB,if_true,aI,if_false,aa,ae]at hx;obtain⟨rfl,_⟩:=hx;rw[E8G]at qX;have Cy:=E8o _ _ _ _ _ qX;subst Cy;obtain⟨m,σ2,A1,E1,q1,q2,q3,q4⟩:=C0Z (P:=P) _ _ σ σ1 _ qX act w A E hk;cases m with|zero=>simp[run]at q2|succ m=>cases CG:tx (og Φ (run Φ m)) [] is.dropLast σ2 with|none=>simp[run,CG]at q2|some σ3=>simp only[run,CG,aa,ae,true_and]at q2;subst q2;(have hlen:is.length=ops.size:=by rw[(OY his).1];simp);(obtain⟨pre,pJ⟩:∃pre,ops.toList=pre++[⟨some r.it,.range td (.tmp src),ty,ps,af,none⟩]:=by(have hne:ops.toList≠[]:=λh=>by rw[h]at awG;cases awG);refine⟨ops.toList.dropLast,?_⟩;rw[List.getLast?_eq_some_getLast hne,aa]at awG;rw[<-awG];exact(List.dropLast_concat_getLast hne).symm);(have hJ:ops.size=pre.length+1:=by rw[<-Array.length_toList,pJ];simp);(have Hy:is.dropLast.length=pre.length:=by rw[List.length_dropLast,hlen,hJ];rfl);(have Kk:ops[pre.length]?=some ⟨some r.it,.range td (.tmp src),ty,ps,af,none⟩:=by rw[<-kB,pJ];simp);have hog:Oper.guard ⟨some r.it,.range td (.tmp src),ty,ps,af,none⟩=none:=rfl;unfold tx at CG;split at CG;rotate_left;cases CG;rename_i s1 h1 hst;simp only[n6,tB,if_true,aa]at CG;subst CG;let F:Nat->List Nat×Option Plc:=λi=>match(vK (og Φ (run Φ m)) σ2.nx is.dropLast σ2.s σ2.h)[i]? with|some (x,_,p)=>(x,p)|none=>([],none);(have Bs:avD (og Φ (run Φ m)) σ2.nx is F (bA pre.length) σ2.s σ2.h s1 h1:=by(have:avD (og Φ (run Φ m)) σ2.nx is.dropLast F (mJ 0 is.dropLast.length) σ2.s σ2.h s1 h1:=by refine B46 is.dropLast 0 σ2.s s1 σ2.h h1 rfl hst ?_;intro k x hx;rw[dG]at hx;simp only[F,bS,hx]);rw[Hy,<-lr]at this;refine this.mono λi x hx=>?_;rw[List.getElem?_dropLast]at hx;split at hx;exact hx;cases hx);refine yl (aBK ?_);rw[hJ,List.range_succ];refine E8F (n:=pre.length) (Bj m (by omega)) his Bs List.nodup_range (λi hi=>⟨by have:=cu.1 hi;omega,cu.1 hi,λh=>?_⟩) q3.sz q3.sl q3.mr ?_;have:σ2.nx+i<σ2.nx:=h;omega;intro a2 w2 A2 E2 S2 r1 r2 r3 r4 r5 r6 r7;(have hle:di.le S2 (·<σ2.nx+is.dropLast.length):=by intro g hg;rw[Hy];rcases r2 g hg with h|⟨i,hi,rfl⟩;have:g<σ2.nx:=h;show g<σ2.nx+pre.length;omega;show σ2.nx+i<σ2.nx+pre.length;omega);have YP:xi P w2 A2 E2 nt ⟨s1,h1,σ2.nx+is.dropLast.length⟩ a2:=⟨⟨λk=>(r3.sl k).frame (Fr.same w2 A2 E2 hle),r3.gl⟩,r4.mono hle,by have:=q3.nx;show 1<=σ2.nx+_;omega,r6.trans q3.df,by rw[r7.1];exact q3.sz⟩;have hg2:gC w A E S0 w2 A2 E2:=q4.trans (r5.weaken (CF q3.nx)) (di.le_refl _);(obtain⟨tk,te,zh⟩:∃tk te,P.underlying td=some (.map tk te):=by unfold F0V at zr;split at zr;rename_i tk te h;exact⟨tk,te,h⟩;cases zr);have xj:=YP.sl.sl src;have Qp:s1 src=.p (.mp keys gR):=jD;have xj:bR w2 A2 E2 _ (s1 src) (a2.tmps.getD src undef):=xj;rw[Qp]at xj;simp only[bR,pD,dU]at xj;obtain⟨cv,Cp,cE⟩:=xj;have Du:∀{o:aBL},gC w A E S0 (w2.alloc o) A2 E2:=λ{o}=>hg2.iter (r:=w2.heap.size) hg2.size rfl rfl ⟨rfl,ay _⟩ (by rw[E8W];omega) (λb _ hb=>oF w2 o hb);have hrA:¬A2 w2.heap.size:=λh=>ub _ (YP.mr.im _ h);have hrO:¬jr E2 w2.heap.size:=λh=>ub _ (YP.mr.lt _ h).1;have aIJ:r.it<a2.tmps.size:=br o2 YP.sz;(have hk3:∀{o:aBL},xi P (w2.alloc o) A2 E2 nt ⟨cq s1 r.it (.dead 0),h1,σ2.nx+is.dropLast.length⟩ (a2.put (some r.it) (.pointer (some ⟨w2.heap.size,0,none⟩))):=λ{o}=>by(have k':xi P w2 A2 E2 nt ⟨cq s1 r.it (.dead 0),h1,σ2.nx+is.dropLast.length⟩ a2:=by refine⟨⟨λi=>?_,YP.sl.gl⟩,YP.mr,YP.nx,YP.df,YP.sz⟩;show bR w2 A2 E2 _ (cq s1 r.it (.dead 0) i) _;by_cases hi:i=r.it;subst hi;rw[nV];simp only[bR];rw[A0C _ _ hi];exact YP.sl.sl i);refine k'.other (by rw[E8W];omega) (λb hb=>oF w2 o ?_) put_defers aS3 λi=>?_;rcases hb with h|h;exact YP.mr.im b h;exact(YP.mr.lt b h).1;by_cases hi:i=r.it;subst hi;exact .inr (nV _ _ _);exact .inl (E7o hi));(have aFI:∀a':Act,nE (.seq (.region i1 aBf false) (.seq (.cond (.tmp r.nx) .skip (.exit r.b0)) (.block b1 (.seq (.region i2 AB false) body)))) (a2.put (some r.it) (.pointer (some ⟨w2.heap.size,0,none⟩))) a'->nE (.seq (.region id ops false) (.block r.b0 (.loop (.seq (.region i1 aBf false) (.seq (.cond (.tmp r.nx) .skip (.exit r.b0)) (.block b1 (.seq (.region i2 AB false) body))))))) act a':=by intro a' ha q hq;simp only[E4W,az,not_or]at hq;obtain⟨hq1,Qo⟩:=hq;(have h1:q≠r.it:=λe=>by subst e;refine hq1 (dr.2 ⟨⟨some r.it,.range td (.tmp src),ty,ps,af,none⟩,?_,rfl⟩);rw[pJ];simp);rw[ha q (by simp only[E4W,az,not_or];exact Qo),E7o h1];refine r7.2 q λo ho e=>hq1 (dr.2 ⟨o,ho,e⟩));(have main:∀(o:aBL)(el:List MapEntry),(Instr.range td (a2.tmps.getD src undef)).run P w2=.ok (.pointer (some ⟨w2.heap.size,0,none⟩)) (w2.alloc o)->F3L (w2.alloc o) A2 w2.heap.size el->PP w2 A2 (keys.zip gR) el->wpOps P ops (Exit.then ((Code.block r.b0 (.loop (.seq (.region i1 aBf false) (.seq (.cond (.tmp r.nx) .skip (.exit r.b0)) (.block b1 (.seq (.region i2 AB false) body)))))).wp P Q) Q) [pre.length] a2 w2:=by intro o el auU hI hP;refine E97 Kk hog (v:=.pointer (some ⟨w2.heap.size,0,none⟩)) (w':=w2.alloc o) ?_ ?_;simp only[execOp,Act.eval,bn,auU,aU,bL];show(Code.block r.b0 _).wp P Q (a2.put (some r.it) (.pointer (some ⟨w2.heap.size,0,none⟩))) (w2.alloc o);refine wp_block ?_;refine F2s (N:=NF) (λm h=>ih m (dF h hNF)) (λm h=>Bj m (dF h hNF)) hn he aFH wa (ks:=ks) (ids:=ids) o3 o4 o5 o11 o12 o13 o14 (cf o7) (cf o8) (cf o9) (by rw[<-hds];exact o10) (w0:=w) (A0:=A) (E0:=E) (a0:=a2.put (some r.it) (.pointer (some ⟨w2.heap.size,0,none⟩))) (r:=w2.heap.size) hg2.size (E9D aIJ) (G:=G) ?_ _ _ _ ⟨keys.zip gR,el,⟨cq s1 r.it (.dead 0),h1,σ2.nx+is.dropLast.length⟩,A2,E2,rfl,hk3,Du,λ_ _=>rfl,by rw[E8W];omega,hrA,hrO,hI,hP.frame (λ_ h=>h) (λb hb=>oF w2 o (YP.mr.im b hb)),?_⟩;intro e σ' yG a' w' A' E' t1 t2 t3;have:=hG e σ' yG a' w' A' E' t1 t2 (aFI a' t3);(cases e with|normal=>simp only[Gr,if_true];exact this|ret=>exact this|exit j=>simp only[exM,Gr];by_cases hj:j=r.b0;rw[if_pos hj];rw[hj,if_pos rfl]at this;exact this;rw[if_neg hj];rw[if_neg (λh=>hj (by cases h;rfl))]at this;exact this);intro l' zj;obtain⟨e,σ',p1,p2⟩:=hF l' zj;exact⟨e,σ',by rw[F2t (σ:=⟨s1,h1,σ2.nx+is.dropLast.length⟩) (cf o6)];exact p1,p2⟩);rcases Cp with⟨rfl,rfl,rfl⟩|⟨bm,es,clock,rfl,p1,p2,p3,VL,p4,p5,p6⟩;refine main (.mapIter none 0 #[] 0) [] ?_ (.inr ⟨0,0,sP w2 _,rfl⟩) (by simp[PP]);have:a2.tmps.getD src undef=.map none:=cE;rw[this];exact run_range_nilMap w2 td tk te zh;refine main (.mapIter (some bm) clock #[] clock) VL ?_ (.inl ⟨bm,es,clock,#[],clock,sP w2 _,ay _,p1,(oF w2 _ (YP.mr.im bm p1)).trans p2,p3,?_⟩) (PP.zip p5 p6);have:a2.tmps.getD src undef=.map (some bm):=cE;rw[this];exact run_range_map w2 td tk te bm es clock zh p2;rw[F2u];exact p4
end
end Go.Mid
namespace Go.Mid
open Go.RowKit
section
mutual
theorem E8X:∀{a b:PV},E6C a b=true↔a=b|.int k a,b=>by cases b<;>simp[E6C]|.bool a,b=>by cases b<;>simp[E6C]|.str a,b=>by cases b<;>simp[E6C]|.agg l,b=>(by cases b with|agg m=>simp only[E6C,E7b,PV.agg.injEq]|_=>simp[E6C])|.sl l,b=>(by cases b with|sl m=>simp only[E6C,E7b,PV.sl.injEq]|_=>simp[E6C])|.ref v,b=>(by cases b with|ref m=>simp only[E6C,E8X (a:=v),PV.ref.injEq]|_=>simp[E6C])|.fn f l,b=>(by cases b with|fn g m=>simp only[E6C,aj,decide_eq_true_eq,E7b,PV.fn.injEq]|_=>simp[E6C])|.mp k l,b=>(by cases b with|mp k' l'=>simp only[E6C,aj,E7b,PV.mp.injEq]|_=>simp[E6C])|.eM,b=>by cases b<;>simp[E6C]|.fa,b=>by cases b<;>simp[E6C]
theorem E7b:∀{a b:List PV},E7C a b=true↔a=b|[],b=>by cases b<;>simp[E7C]|x::r,b=>by cases b with|nil=>simp[E7C]|cons y q=>simp only[E7C,aj,E8X (a:=x),E7b (a:=r),jN]
end
mutual
theorem E8Y:∀{a b:MV},E7a a b=true↔a=b|.p v,b=>(by cases b with|p m=>simp only[E7a,E8X,MV.p.injEq]|_=>simp[E7a])|.nil z,b=>by cases b<;>simp[E7a]|.own i p o l g,b=>by cases b<;>simp[E7a,and_assoc]|.ptr i n r g o,b=>by cases b<;>simp[E7a,and_assoc]|.auG i p g,b=>by cases b<;>simp[E7a,and_assoc]|.agg l,b=>(by cases b with|agg m=>simp only[E7a,E8w (a:=l),MV.agg.injEq]|_=>simp[E7a])|.fn f l,b=>(by cases b with|fn g m=>simp only[E7a,aj,decide_eq_true_eq,E8w (a:=l),MV.fn.injEq]|_=>simp[E7a])|.eI l,b=>(by cases b with|eI m=>simp only[E7a,E8w (a:=l),MV.eI.injEq]|_=>simp[E7a])|.dead n,b=>by cases b<;>simp[E7a]
theorem E8w:∀{a b:List MV},E8t a b=true↔a=b|[],b=>by cases b<;>simp[E8t]|x::r,b=>by cases b with|nil=>simp[E8t]|cons y q=>simp only[E8t,aj,E8Y (a:=x),E8w (a:=r),jN]
end
mutual
theorem F12:∀{a b:T Nat},eqT a b=true↔a=b|.p v,b=>(by cases b with|p m=>simp only[eqT,E8X,T.p.injEq]|_=>simp[eqT])|.m v,b=>(by cases b with|m m=>simp only[eqT,E8Y,T.m.injEq]|_=>simp[eqT])|.agg l,b=>(by cases b with|agg m=>simp only[eqT,E8p (a:=l),T.agg.injEq]|_=>simp[eqT])|.vec a z l n,b=>(by cases b with|vec a' z' l' n'=>simp only[eqT,aj,decide_eq_true_eq,E8p (a:=l),T.vec.injEq];constructor;rintro⟨⟨⟨h1,h2⟩,h3⟩,h4⟩;exact⟨h1,h2,h4,h3⟩;rintro⟨h1,h2,h4,h3⟩;exact⟨⟨⟨h1,h2⟩,h3⟩,h4⟩|_=>simp[eqT])|.mp a ks l,b=>(by cases b with|mp a' JH l'=>simp only[eqT,aj,decide_eq_true_eq,E7b,E8p (a:=l),T.mp.injEq,and_assoc]|_=>simp[eqT])|.hole n,b=>by cases b<;>simp[eqT]
theorem E8p:∀{a b:List (T Nat)},E8D a b=true↔a=b|[],b=>by cases b<;>simp[E8D]|x::r,b=>by cases b with|nil=>simp[E8D]|cons y q=>simp only[E8D,aj,F12 (a:=x),E8p (a:=r),jN]
end
theorem F13{a b:Option (Obj Nat)}:eqO a b=true↔a=b:=by cases a with|none=>cases b<;>simp[eqO]|some a=>cases b with|none=>simp[eqO]|some b=>cases a<;>cases b<;>simp[eqO,F12,E8p,E7b,and_assoc]
theorem F3d{ks ids:List Nat}{σ τ:St}(h:F0Z ks ids (E6E ks ids σ) (E6E ks ids τ)=true):E6E ks ids σ=E6E ks ids τ:=by unfold F0Z at h;simp only[aj,bB]at h;obtain⟨h1,h2⟩:=h;(have e1:(E6E ks ids σ).s=(E6E ks ids τ).s:=by funext k;by_cases hk:ks.contains k=true;exact E8Y.1 (h1 k (by simpa using hk));(have nq:ks.contains k=false:=by simpa using hk);show(A2D ks ids σ).s k=(A2D ks ids τ).s k;rw[E70 nq,E70 nq]);(have e2:(E6E ks ids σ).h=(E6E ks ids τ).h:=by funext i;by_cases hi:(E7l ids).contains i=true;exact F13.1 (h2 i (by simpa using hi));show(if(E7l ids).contains i then(A2D ks ids σ).h i else none)=(if(E7l ids).contains i then(A2D ks ids τ).h i else none);rw[if_neg hi,if_neg hi]);show(⟨(E6E ks ids σ).s,(E6E ks ids σ).h,2⟩:St)=⟨(E6E ks ids τ).s,(E6E ks ids τ).h,2⟩;rw[e1,e2]
theorem F3e{ks ids:List Nat}{σ:St}:F0Z ks ids σ σ=true:=by unfold F0Z;simp only[aj,bB];exact⟨λ_ _=>E8Y.2 rfl,λ_ _=>F13.2 rfl⟩
theorem E98{α:Type}{x:α}:∀{s t:List α},s++x::t∈E7O x (s++t)|[],[]=>by simp[E7O]|[],y::t=>by simp[E7O]|y::s,t=>by simp only[aS,E7O,aG,bp];exact .inr ⟨_,E98,rfl⟩
theorem E9H{α:Type}{x:α}:∀{l m:List α},m∈E7O x l->m.Perm (x::l)|[],m,h=>by simp only[E7O,aX]at h;subst h;exact .refl _|y::r,m,h=>by simp only[E7O,aG,bp]at h;rcases h with rfl|⟨q,hq,rfl⟩;exact .refl _;exact((E9H hq).cons y).trans (List.Perm.swap x y r)
theorem E7L{α:Type}:∀{l m:List α},m∈E8g l↔m.Perm l|[],m=>by simp[E8g]|x::r,m=>by simp only[E8g,List.mem_flatMap];constructor;rintro⟨q,hq,hm⟩;exact(E9H hm).trans ((E7L.1 hq).cons x);intro h;obtain⟨s,t,rfl⟩:=e9 (h.mem_iff.2 (dS));exact⟨s++t,E7L.2 ((vc.symm.trans h).cons_inv),E98⟩
theorem F0C{k2 i2:List Nat}{l:List (Option (Ex×St))}{x:Ex×St}(h:E7m k2 i2 (l.map (E4U k2 i2))=some x):∀y∈l,E4U k2 i2 y=some x:=by cases l with|nil=>simp[E7m]at h|cons y r=>cases y with|none=>simp[E7m,E4U]at h|some y=>obtain⟨e,σ⟩:=y;simp only[aF,E4U,E7m]at h;split at h;rename_i kF;simp only[aa]at h;subst h;intro z hz;rcases aG.1 hz with rfl|hz;rfl;have:=bB.1 kF _ (dY hz);(cases z with|none=>simp[E4U,E9c]at this|some z=>obtain⟨e',τ⟩:=z;simp only[E4U,E9c,aj,decide_eq_true_eq]at this;simp only[E4U,this.1,F3d this.2]);cases h
theorem F1J{k2 i2:List Nat}{l:List (Option (Ex×St))}{x:Ex×St}(hl:l≠[])(h:∀y∈l,y=some x):E7m k2 i2 l=some x:=by cases l with|nil=>exact(hl rfl).elim|cons y r=>have:=h y (by simp);subst this;obtain⟨e,σ⟩:=x;simp only[E7m];rw[if_pos];refine bB.2 λz hz=>?_;have:=h z (by simp[hz]);subst this;simp[E9c,F3e]
end
end Go.Mid
namespace Go.Mid
open Go.RowKit
section
variable{P:Program}{Φ:lW}
theorem E9I{N:Nat}(ih:∀m,m<=N->O0 P Φ m)(Bj:∀m,m<=N->CE P (og Φ (run Φ m))){B:tC}{nt:Nat}{a b:Code}{k n1 n2 td src it:Nat}{x y c:MC}{r:RH}{ks ids:List Nat}{b1:Nat}{Pa:List hH}(hx:uq P B nt a k=some (x,n1))(hy:uq P B nt b n1=some (y,n2))(hA:E7x a=some (td,src,it))(hL:E8Q b=some r)(hM:E9d y=some (ks,ids,b1,Pa,c))(zr:F0V P td=true)(kN:okR nt it ks r=true)(hne:it≠src){σ σ':St}{e:Ex}{act:Act}{w:World}{A:Nat->Prop}{E:dP An}(hk:xi P w A E nt σ act){k2 i2:List Nat}{c2:MC}(hr:run Φ (N+1) (.seq (E8u x) (.aBh (.t src) r.pe ks ids k2 i2 r.b0 (.block b1 (.seq (.AE [] Pa) c)) c2)) σ=some (e,σ')){Q Q1:Exit->Act->World->Prop}{cr:Code}(pg:∀m,m<=N->∀σ0 σ2 e2,run Φ m c2 σ0=some (e2,σ2)->∀a' w' A' E',xi P w' A' E' nt σ0 a'->(∀a'' Yh Yi AR,xi P Yh Yi AR nt σ2 a''->gC w' A' E' S0 Yh Yi AR->nE cr a' a''->Q (exM e2) a'' Yh)->Q1 .normal a' w')(hq1:∀e a' w',e≠.normal->Q e a' w'->Q1 e a' w')(hQ:∀a' w' A' E',xi P w' A' E' nt σ' a'->gC w A E S0 w' A' E'->nE (.seq (.seq a b) cr) act a'->Q (exM e) a' w'):(Code.seq a b).wp P Q1 act w:=by rw[run]at hr;cases hd:run Φ N (E8u x) σ with|none=>rw[hd]at hr;cases hr|some z=>obtain⟨e0,σ1⟩:=z;(have Tv:∃l ls is,E8u x=NW l (.AE ls is):=by obtain⟨id,ops,ty,ps,af,rfl,awG⟩:=E8V hA;rw[uq]at hx;split at hx;rename_i is his;simp only[auI,tB,if_true,aa,ae]at hx;obtain⟨rfl,_⟩:=hx;exact⟨_,_,_,E8G _ _ _⟩;cases hx);obtain⟨gl,gls,gis,Tv⟩:=Tv;have Cy:e0=.normal:=E8o gl N σ σ1 e0 (by rw[<-Tv];exact hd);subst Cy;rw[hd]at hr;simp only at hr;cases N with|zero=>simp[run]at hr|succ N=>rw[run]at hr;split at hr;rename_i keys gR jD;have F2:=F0C (l:=(E8g (keys.zip gR)).map λl=>E41 (run Φ N c2) r.b0 (E4M (run Φ N (.block b1 (.seq (.AE [] Pa) c))) r.pe ks ids l σ1)) (by rw[sk];exact hr);refine F1I (N:=N+1) ih Bj hx hy hA hL hM zr kN hne hk (NF:=N) (ay _) (au6 _) hd (G:=λe0 σ0=>E4U k2 i2 (E41 (run Φ N c2) r.b0 (some (e0,σ0)))=some (e,σ')) jD ?_ ?_;intro l' zj;have h1:=F2 _ (dY (E7L.2 zj));(cases hf:E4M (run Φ N (.block b1 (.seq (.AE [] Pa) c))) r.pe ks ids l' σ1 with|none=>rw[hf]at h1;simp[E41,E4U]at h1|some z=>obtain⟨e0,σ0⟩:=z;refine⟨e0,σ0,rfl,?_⟩;rw[hf]at h1;exact h1);intro e0 σ0 hg a' w' A' E' s1 s2 s3;(have rest:∀{z:Option (Ex×St)},z=run Φ N c2 σ0->E4U k2 i2 z=some (e,σ')->Q1 .normal a' w':=by intro z hz nX;cases z with|none=>simp[E4U]at nX|some z=>obtain⟨e2,σ2⟩:=z;simp only[E4U,aa,ae]at nX;obtain⟨rfl,rfl⟩:=nX;refine pg N (au6 _) σ0 σ2 e2 hz.symm a' w' A' E' s1 ?_;intro a'' Yh Yi AR u1 u2 u3;obtain⟨E3,v1,v2⟩:=F04 u1 k2 i2;exact hQ a'' Yh Yi E3 v1 ((s2.trans u2 (di.le_refl _)).trans v2 (di.le_refl _)) (s3.trans u3 (λq hq=>by simp only[E4W,az,not_or]at hq|-;exact hq.1) (λq hq=>by simp only[E4W,az,not_or]at hq;exact hq.2)));(have stay:∀e1:Ex,e1≠.normal->E4U k2 i2 (some (e1,σ0))=some (e,σ')->Q1 (exM e1) a' w':=by intro e1 aN6 nX;simp only[E4U,aa,ae]at nX;obtain⟨rfl,rfl⟩:=nX;obtain⟨E3,v1,v2⟩:=F04 s1 k2 i2;refine hq1 _ _ _ (by cases e1<;>simp_all[exM]) (hQ a' w' A' E3 v1 (s2.trans v2 (di.le_refl _)) λq hq=>s3 q ?_);simp only[E4W,az,not_or]at hq|-;exact hq.1);(cases e0 with|normal=>rw[if_neg (by simp)];exact rest rfl hg|ret=>rw[if_neg (by simp)];exact stay .ret (by simp) hg|exit j=>by_cases hj:j=r.b0;subst hj;rw[if_pos rfl];simp only[E41,if_true]at hg;exact rest rfl hg;rw[if_neg (λh=>hj (by cases h;rfl))];simp only[E41,hj,if_false]at hg;exact stay (.exit j) (by simp) hg);cases hr
theorem C6v (xN:P.follows .mixedOrders=true)(n:Nat)(ih:∀ m,m<n->O0 P Φ m)(Bj:∀ m,m<n->CE P (og Φ (run Φ m))):O0 P Φ n:=by
 intro B nt c k mc k' hc σ σ' e hr Q a w A E hk hQ
 cases n with
 | zero=>simp [run] at hr
 | succ n =>
   cases c with
   | skip =>
     simp only [uq,aa,ae] at hc
     obtain ⟨rfl,_⟩:=hc
     simp only [run,aa,ae] at hr
     obtain ⟨rfl,rfl⟩:=hr
     exact wp_skip (hQ a w A E hk (gC.refl w A E _) λ_ _=>rfl)
   | ret =>
     simp only [uq,aa,ae] at hc
     obtain ⟨rfl,_⟩:=hc
     cases n with
     | zero=>simp [run] at hr
     | succ n =>
       simp only [run,AN,aa,ae] at hr
       obtain ⟨rfl,rfl⟩:=hr
       obtain ⟨E',h1,h2⟩:=OZ hk _ _
       exact wp_ret (hQ a w A E' h1 h2 λ_ _=>rfl)
   | exit id =>
     simp only [uq,aa,ae] at hc
     obtain ⟨rfl,_⟩:=hc
     cases n with
     | zero=>simp [run] at hr
     | succ n =>
       simp only [run,AN,aa,ae] at hr
       obtain ⟨rfl,rfl⟩:=hr
       obtain ⟨E',h1,h2⟩:=OZ hk _ _
       exact wp_exit (hQ a w A E' h1 h2 λ_ _=>rfl)
   | region id ops draw =>
     simp only [uq] at hc
     split at hc
     . rename_i is his
       split at hc
       . rename_i kG
         simp only [aa,ae] at hc
         obtain ⟨rfl,_⟩:=hc
         obtain ⟨m,σ1,A1,E1,q1,q2,q3,q4⟩:=C0Z _ _ σ σ' e hr a w A E hk
         cases m with
         | zero=>simp [run] at q2
         | succ m =>
           cases CG:tx (og Φ (run Φ m)) (if draw then Da ops is else []) is σ1 with
           | none=>simp [run,CG] at q2
           | some σ2 =>
             simp only [run,CG,aa,ae] at q2
             have hnx:σ2.nx=σ1.nx+is.length:=by
              clear q2 hQ hr
              generalize (if draw then Da ops is else [])=loose at CG
              unfold tx at CG
              split at CG
              . split at CG
                . cases CG;rfl
                . cases CG
              . cases CG
             obtain ⟨rfl,rfl⟩:=q2
             refine D3j (Bj m (by omega)) xN his kG CG q3.sz q3.sl q3.mr ?_ (λ_=>trivial)
             intro a' w' A' E' r1 r2 r3 r4 r5
             refine hQ a' w' A' E' ⟨r1,r2,by have:=q3.nx;omega,r4.trans q3.df,by rw [r5.1];exact q3.sz⟩ (q4.trans (r3.weaken (CF q3.nx)) (di.le_refl _)) ?_
             intro k YP
             refine r5.2 k λo ho e=>YP ?_
             exact dr.2 ⟨o,ho,e⟩
       . simp only [aa,ae] at hc
         obtain ⟨rfl,_⟩:=hc
         simp [run] at hr
     . cases hc
   | seq x y =>
     rw [uq] at hc
     split at hc
     . rename_i mx n1 hx
       split at hc
       . rename_i my n2 hy
         simp only [aa,ae] at hc
         obtain ⟨hmc,_⟩:=hc
         have ihn:∀ m,m<=n->O0 P Φ m:=λm hm=>ih m (by omega)
         have hcn:∀ m,m<=n->CE P (og Φ (run Φ m)):=λm hm=>Bj m (by omega)
         have plain:run Φ (n+1) (.seq mx my) σ=some (e,σ')->(Code.seq x y).wp P Q a w:=by
          intro hr
          simp only [run] at hr
          refine yl ?_
          split at hr
          . rename_i σ1 Ak
            refine ih n (by omega) B nt x k mx n1 hx σ σ1 .normal Ak _ a w A E hk ?_
            intro a1 w1 A1 E1 k1 g1 t1
            refine ih n (by omega) B nt y n1 my n2 hy σ1 σ' e hr Q a1 w1 A1 E1 k1 ?_
            intro a2 w2 A2 E2 k2 g2 t2
            exact hQ a2 w2 A2 E2 k2 (g1.trans g2 (di.le_refl _)) (t1.trans t2 (λk hk=>by simp only [E4W,az,not_or] at hk;exact hk.1) (λk hk=>by simp only [E4W,az,not_or] at hk;exact hk.2))
          . rename_i nu
            refine ih n (by omega) B nt x k mx n1 hx σ σ' e hr _ a w A E hk ?_
            intro a1 w1 A1 E1 k1 g1 t1
            have:=hQ a1 w1 A1 E1 k1 g1 (λk hk=>t1 k (by simp only [E4W,az,not_or] at hk;exact hk.1))
            cases e with
            | normal=>exact (nu _ hr).elim
            | exit id=>exact this
            | ret=>exact this
         unfold E8R at hmc
         split at hmc
         . -- a range
           rename_i m hf
           subst hmc
           unfold E9C at hf
           split at hf
           . rename_i td src it r ks ids b1 Pa c h1 h2 h3
             split at hf
             . rename_i dV
               simp only [aj,decide_eq_true_eq] at dV
               simp only [aa] at hf
               subst hf
               refine E9I ihn hcn hx hy h1 h2 h3 dV.1.1 dV.1.2 dV.2 hk hr (Q:=Q) (cr:=.skip) ?_ (λ_ _ _ _ h=>h) ?_
               . intro m hm σ0 σ2 e2 hs a' w' A' E' s1 s2
                 cases m with
                 | zero=>simp [run] at hs
                 | succ m =>
                   simp only [run,aa,ae] at hs
                   obtain ⟨rfl,rfl⟩:=hs
                   exact s2 a' w' A' E' s1 (gC.refl w' A' E' _) λ_ _=>rfl
               . intro a' w' A' E' s1 s2 s3
                 exact hQ a' w' A' E' s1 s2 λq hq=>s3 q (by simpa [E4W] using hq)
             . cases hf
           . cases hf
         . rename_i hf0
           split at hmc
           . rename_i x1 x2
             split at hmc
             . -- a range and what comes behind
               rename_i z1 z2 m h1 h2 h3
               subst hmc
               obtain ⟨td,src,it⟩:=z1
               rw [uq] at hx
               split at hx
               . rename_i m1 k1 w7
                 split at hx
                 . rename_i m2 k2 hx2
                   simp only [aa,ae] at hx
                   obtain ⟨RY,_⟩:=hx
                   unfold E8R at RY
                   split at RY
                   . rename_i m3 hf
                     subst RY
                     unfold E9C at hf
                     split at hf
                     . rename_i td' aN7 it' r ks ids b1 Pa c g1 g2 g3
                       split at hf
                       . rename_i dV
                         simp only [aj,decide_eq_true_eq] at dV
                         simp only [aa] at hf
                         subst hf
                         simp only [F2o] at h3
                         split at h3
                         . simp only [aa] at h3
                           subst h3
                           refine yl (E9I ihn hcn w7 hx2 g1 g2 g3 dV.1.1 dV.1.2 dV.2 hk hr (Q:=Q) (cr:=y) ?_ ?_ hQ)
                           . intro m hm σ0 σ2 e2 hs a' w' A' E' s1 s2
                             exact ihn m hm B nt y n1 my n2 hy σ0 σ2 e2 hs Q a' w' A' E' s1 s2
                           . intro e a' w' hne h
                             cases e with
                             | normal=>exact (hne rfl).elim
                             | _=>exact h
                         . cases h3
                       . cases hf
                     . cases hf
                   . -- no range there
                     exfalso
                     obtain ⟨id,ops,ty,ps,af,rfl,_⟩:=E8V h1
                     obtain ⟨bb,i1,aBf,i2,AB,body,ty1,ps1,af1,ty2,ps2,af2,ty3,ps3,af3,rest,rfl,_⟩:=F0B h2
                     simp only at RY
                     subst RY
                     rw [uq] at hx2
                     split at hx2
                     . simp only [aa,ae] at hx2
                       obtain ⟨rfl,_⟩:=hx2
                       simp [F2o] at h3
                     . cases hx2
                 . cases hx
               . cases hx
             . exact plain (by rw [hmc];exact hr)
           . exact plain (by rw [hmc];exact hr)
       . cases hc
     . cases hc
   | cond o x y =>
     simp only [uq] at hc
     split at hc
     . rename_i co mx n1 ho hx
       split at hc
       . rename_i my n2 hy
         simp only [aa,ae] at hc
         obtain ⟨rfl,_⟩:=hc
         simp only [run] at hr
         have hv:=jP hk.sl ho
         split at hr
         . rename_i hb
           rw [hb] at hv
           refine u6 (vM.1 hv) (ih n (by omega) B nt x k mx n1 hx σ σ' e hr Q a w A E hk λa1 w1 A1 E1 k1 g1 t1=>hQ a1 w1 A1 E1 k1 g1 λk hk=>t1 k (by simp only [E4W,az,not_or] at hk;exact hk.1))
         . rename_i hb
           rw [hb] at hv
           refine uc (vM.1 hv) (ih n (by omega) B nt y n1 my n2 hy σ σ' e hr Q a w A E hk λa1 w1 A1 E1 k1 g1 t1=>hQ a1 w1 A1 E1 k1 g1 λk hk=>t1 k (by simp only [E4W,az,not_or] at hk;exact hk.2))
         . cases hr
       . cases hc
     . cases hc
   | block id x =>
     simp only [uq] at hc
     split at hc
     . rename_i mx n1 hx
       simp only [aa,ae] at hc
       obtain ⟨rfl,_⟩:=hc
       simp only [run] at hr
       refine wp_block ?_
       split at hr
       . rename_i j σ1 Ak
         refine ih n (by omega) B nt x k mx n1 hx σ σ1 (.exit j) Ak _ a w A E hk ?_
         intro a1 w1 A1 E1 k1 g1 t1
         simp only [exM,Gr]
         split at hr
         . rename_i hj
           simp only [aa,ae] at hr
           obtain ⟨rfl,rfl⟩:=hr
           rw [if_pos hj]
           exact hQ a1 w1 A1 E1 k1 g1 t1
         . rename_i hj
           simp only [aa,ae] at hr
           obtain ⟨rfl,rfl⟩:=hr
           rw [if_neg hj]
           exact hQ a1 w1 A1 E1 k1 g1 t1
       . rename_i nu
         refine ih n (by omega) B nt x k mx n1 hx σ σ' e hr _ a w A E hk ?_
         intro a1 w1 A1 E1 k1 g1 t1
         have:=hQ a1 w1 A1 E1 k1 g1 t1
         cases e with
         | normal=>exact this
         | exit j=>exact (nu _ _ hr).elim
         | ret=>exact this
     . cases hc
   | loop x =>
     simp only [uq] at hc
     split at hc
     . rename_i mx n1 hx
       simp only [aa,ae] at hc
       obtain ⟨rfl,_⟩:=hc
       generalize hks:(B.aSO.getD k ([],[])).1=ks at hr
       generalize DH:(B.aSO.getD k ([],[])).2=ids at hr
       let R:Nat->Act->World->Prop:=λm a1 w1=>m<=n+1∧∃ σ1 A1 E1,run Φ m (.loop ks ids mx) σ1=some (e,σ')∧xi P w1 A1 E1 nt σ1 a1∧gC w A E S0 w1 A1 E1∧nE x a a1
       refine C2S R ?_ (n+1) a w ⟨ay _,σ,A,E,hr,hk,gC.refl w A E _,λ_ _=>rfl⟩
       rintro m a1 w1 ⟨hm,σ1,A1,E1,Ak,k1,g1,t1⟩
       cases m with
       | zero=>simp [run] at Ak
       | succ m =>
         simp only [run] at Ak
         obtain ⟨E2,k2,g2⟩:=OZ k1 ks ids
         split at Ak
         . rename_i σ2 Iw
           refine ih m (by omega) B nt x (k+1) mx n1 hx _ σ2 .normal Iw _ a1 w1 A1 E2 k2 ?_
           intro a3 w3 A3 E3 k3 g3 t3
           exact ⟨m,by omega,by omega,σ2,A3,E3,Ak,k3,(g1.trans g2 (di.le_refl _)).trans g3 (di.le_refl _),t1.trans t3 (λ_ h=>h) (λ_ h=>h)⟩
         . rename_i nu
           refine ih m (by omega) B nt x (k+1) mx n1 hx _ σ' e Ak _ a1 w1 A1 E2 k2 ?_
           intro a3 w3 A3 E3 k3 g3 t3
           have:=hQ a3 w3 A3 E3 k3 ((g1.trans g2 (di.le_refl _)).trans g3 (di.le_refl _)) (t1.trans t3 (λ_ h=>h) (λ_ h=>h))
           cases e with
           | normal=>exact (nu _ Ak).elim
           | exit j=>exact this
           | ret=>exact this
     . cases hc
   | _ =>
     simp only [uq,aa,ae] at hc
     obtain ⟨rfl,_⟩:=hc
     simp [run] at hr
end
end Go.Mid
namespace Go.Mid
open Go.RowKit
section
variable{P:Program}{w:World}{A A':Nat->Prop}{E:dP An}{nx:di}{h:cj}
theorem C6w(hm:MR w A E h nx){t:TypeId}(hU:rS P t=true){x u:MV}{val:Value}(dI:bR w A E nx x val)(hu:vF h (mW P t) (P.cellsOf t) x=some u):∃ad v,val=.pointer (some ad)/\(loadVar t ad).run P w=.ok v w/\bR w A E nx u v:=by unfold vF at hu;split at hu;rename_i pv;split at hu;rename_i hc;cases hu;obtain⟨b,o',cE,hA,cv,h1,h2⟩:=Cn.1 dI;refine⟨_,_,cE,N8 w hU (by rw[h1.len,hc.1]) h2 (λhg=>by rw[<-hc.2]at hg;obtain⟨_,rfl,_⟩:=h1.one hg;rfl),?_⟩;simp only[bR,pD];exact⟨cv,h1,by rw[hc.2]⟩;cases hu;rename_i id np rp g o';split at hu;rename_i t' s' oo hl;simp only at hu;split at hu;rename_i hc;obtain⟨rfl,rfl,eV⟩:=hc;split at hu;rename_i hagg;obtain⟨hagg,sw⟩:=hagg;cases hu;obtain⟨an,tA,om,hg,rfl⟩:=hm.look hl;obtain⟨b,hb,kV⟩:=hm.uH om;simp only[bR]at dI;obtain⟨_,ad,cE,sx⟩:=dI;obtain⟨z,hn⟩:=A8q om;obtain⟨b',js,rfl⟩:=sx an z hn hg;rw[hb]at js;cases js;obtain⟨cs,hrow,J4,hlen⟩:=RW hm tA (sZ np rp) b oo (N4 om) kV;rw[T.kb]at eV;refine⟨_,_,cE,N8 w hU (by rw[hlen,eV]) hrow ?_,?_⟩;intro ta;rw[<-hagg]at ta;rcases J4.2 with⟨n,hn⟩|⟨_,h2⟩;rw[hn]at sw;cases sw;obtain⟨x,rfl,_⟩:=h2 ta;rfl;rw[<-hagg];exact J4.val;cases hu;cases hu;cases hu;cases hu
def Iy (tmps:Array Value):ResultVar->Sem Value
 | .tmp t=>pure (tmps.getD t undef)
 | .cell b t=>do loadVar t (← asAddr (tmps.getD b undef))
theorem C6x (fn:Func)(tmps:Array Value):results fn tmps=(do let vs ← fn.results.mapM (Iy tmps);pure (if h:vs.size=1 then vs[0] else .tuple vs)):=by
 have:(λ| .tmp t=>pure (tmps.getD t undef) | .cell a t=>do loadVar t (← asAddr (tmps.getD a undef)):ResultVar->Sem Value)=Iy tmps:=by
  funext x;cases x<;>rfl
 unfold results
 rw [← this]
 rfl
theorem B6J{s:gB}{a:Act}(hs:qM P w A E nx s a)(hm:MR w A E h nx){nt:Nat}:∀{rs:List ResultVar}{vs:List RV}{l:List MV},ED P nt rs=some vs->zZ s h vs=some l->∃us:List Value,(rs.mapM (Iy a.tmps)).run P w=.ok us w/\c9 w A E nx l us|[],vs,l,hc,hr=>by simp only[ED,aa]at hc;subst hc;simp only[zZ,aa]at hr;subst hr;exact⟨[],by simp,by simp only[c9]⟩|x::rs,vs,l,hc,hr=>by simp only[ED]at hc;split at hc;rename_i v Ad h1 h2;simp only[aa]at hc;subst hc;simp only[zZ]at hr;split at hr;rename_i u us h3 h4;simp only[aa]at hr;subst hr;obtain⟨ws,h5,h6⟩:=B6J hs hm h2 h4;(cases x with|tmp t=>simp only[RI]at h1;split at h1;simp only[aa]at h1;subst h1;simp only[Ez,aa]at h3;subst h3;refine⟨a.tmps.getD t undef::ws,?_,by simp only[c9];exact⟨_,ws,rfl,hs.sl t,h6⟩⟩;rw[me];simp only[Iy,bn,bL,aU,h5];cases h1|cell b t=>simp only[RI]at h1;split at h1;rename_i dV;simp only[aa]at h1;subst h1;simp only[Ez]at h3;obtain⟨ad,v,cE,Bm,hv⟩:=C6w hm dV.2 (hs.sl b) h3;refine⟨v::ws,?_,by simp only[c9];exact⟨_,ws,rfl,hv,h6⟩⟩;rw[me];(have e:(Iy a.tmps (.cell b t)).run P w=.ok v w:=by simp only[Iy,bn,cE,asAddr,bL,aU,Bm]);simp only[bn,bL,aU,h5,e];cases h1);cases hr;cases hc
theorem C4J{s:gB}{a:Act}(hs:qM P w A E nx s a)(hm:MR w A E h nx){nt:Nat}{fn:Func}{vs:List RV}{l:List MV}(hc:ED P nt fn.results.toList=some vs)(hr:zZ s h vs=some l):∃v,(results fn a.tmps).run P w=.ok v w/\bR w A E nx (EA l) v:=by obtain⟨us,h1,h2⟩:=B6J hs hm hc hr;(have h3:(results fn a.tmps).run P w=.ok (if h:us.toArray.size=1 then us.toArray[0]else .tuple us.toArray) w:=by rw[C6x,Array.mapM_eq_mapM_toList];simp only[bn,Sem.run_map,h1,aU,bL]);refine⟨_,h3,?_⟩;cases l with|nil=>simp only[c9]at h2;subst h2;simp only[EA,bR];exact⟨[],rfl,by simp only[c9]⟩|cons x r=>cases r with|nil=>simp only[c9]at h2;obtain⟨u,d,rfl,h4,rfl⟩:=h2;exact h4|cons y q=>(have hl:us.length≠1:=by simp only[c9]at h2;obtain⟨u,d,rfl,_,u',d',rfl,_,_⟩:=h2;simp);rw[dif_neg (by simpa using hl)];show bR w A E nx (.eI (x::y::q)) _;simp only[bR];exact⟨us,rfl,h2⟩
theorem bR.zw{x:MV}{v:Value}{r:List MV}{d:List Value}{nx:di}(hv:bR w A E nx x v)(hl:tw x=true)(hr:dW w A E nx r d):dW w A E nx (x::r) (v.cells.toList++d):=(hv.vV hl).cons hr
mutual
theorem TP(m:MR w A E h nx){E0:dP An}(f:Fr w w A A' E E0 nx nx)(jC:∀i,A0P i=true->∀o,E i=some o->∀b∈o.blk,A' b):∀{v u:MV}{val:Value},sfM h v=some u->bR w A E nx v val->bR w A' E0 nx u val/\(tw v=true->tw u=true)/\(tw v=false->∃l,u=.eI l)|.p v,u,val,hp,hv=>by simp only[sfM,aa]at hp;subst hp;exact⟨hv.frame f,λh=>h,λh=>by simp[tw]at h⟩|.agg l,u,val,hp,hv=>by simp only[sfM]at hp;split at hp;rename_i vs fN;simp only[aa]at hp;subst hp;simp only[bR]at hv;obtain⟨cs,rfl,hv⟩:=hv;refine⟨N7 (C5c m f jC fN hv),λ_=>?_,λh=>by simp[tw]at h⟩;unfold wU;split<;>rfl;cases hp|.eI l,u,val,hp,hv=>by simp only[sfM]at hp;split at hp;rename_i vs fN;simp only[aa]at hp;subst hp;simp only[bR]at hv|-;obtain⟨ws,rfl,hv⟩:=hv;exact⟨⟨ws,rfl,C5d m f jC fN hv⟩,λh=>by simp[tw]at h,λ_=>⟨vs,rfl⟩⟩;cases hp|.own id path off len g,u,val,hp,hv=>O1 m f jC (by simp only[sfM]at hp;exact hp) hv rfl|.ptr id np rp g o,u,val,hp,hv=>O1 m f jC (by simp only[sfM]at hp;exact hp) hv rfl|.auG id path g,u,val,hp,hv=>O1 m f jC (by simp only[sfM]at hp;exact hp) hv rfl|.nil z,u,val,hp,hv=>O1 m f jC (by simp only[sfM]at hp;exact hp) hv rfl|.fn i l,u,val,hp,hv=>O1 m f jC (by simp only[sfM]at hp;exact hp) hv rfl|.dead n,u,val,hp,hv=>by simp[sfM,va,mE]at hp
theorem O1(m:MR w A E h nx){E0:dP An}(f:Fr w w A A' E E0 nx nx)(jC:∀i,A0P i=true->∀o,E i=some o->∀b∈o.blk,A' b){v u:MV}{val:Value}(hp:(if((va v).all (λi=>!A0P i)&&!(va v).isEmpty)=true then some v else match mE h v with|some w=>if(va v).all A0P=true then some (.p w)else none|none=>none)=some u)(hv:bR w A E nx v val)(hl:tw v=true):bR w A' E0 nx u val/\(tw v=true->tw u=true)/\(tw v=false->∃l,u=.eI l):=by refine⟨?_,λ_=>?_,λh=>by rw[hl]at h;cases h⟩;split at hp;simp only[aa]at hp;subst hp;exact hv.frame f;split at hp;rename_i w' hw;split at hp;rename_i kF;simp only[aa]at hp;subst hp;simp only[bR];refine EU m f.hA hw (λi hi o ho b hb=>jC i (bB.1 kF i hi) o ho b hb) hv;cases hp;cases hp;split at hp;simp only[aa]at hp;subst hp;exact hl;split at hp;split at hp;simp only[aa]at hp;subst hp;rfl;cases hp;cases hp
theorem C5c(m:MR w A E h nx){E0:dP An}(f:Fr w w A A' E E0 nx nx)(jC:∀i,A0P i=true->∀o,E i=some o->∀b∈o.blk,A' b):∀{l us:List MV}{cs:List Value},AO h l=some us->dW w A E nx l cs->dW w A' E0 nx us cs|[],us,cs,hp,hv=>by simp only[AO,aa]at hp;subst hp;simpa only[dW]using hv|x::r,us,cs,hp,hv=>by simp only[AO]at hp;split at hp;rename_i v vs h1 h2;simp only[aa]at hp;subst hp;simp only[dW]at hv;obtain⟨val,d,rfl,h3,h4,h5,h6⟩:=hv;obtain⟨q1,q2,q3⟩:=TP m f jC h1 h5;have hr:=C5c m f jC h2 h6;(cases hx:tw x with|true=>exact q1.zw (q2 hx) hr|false=>exfalso;obtain⟨l',rfl⟩:=q3 hx;cases x<;>simp only[tw,reduceCtorEq]at hx;simp only[bR]at h5;obtain⟨ws,rfl,_⟩:=h5;simp[MV.cs,de]at h3;simp[sfM,va,mE]at h1);cases hp
theorem C5d(m:MR w A E h nx){E0:dP An}(f:Fr w w A A' E E0 nx nx)(jC:∀i,A0P i=true->∀o,E i=some o->∀b∈o.blk,A' b):∀{l us:List MV}{vs:List Value},AO h l=some us->c9 w A E nx l vs->c9 w A' E0 nx us vs|[],us,vs,hp,hv=>by simp only[AO,aa]at hp;subst hp;simpa only[c9]using hv|x::r,us,vs,hp,hv=>by simp only[AO]at hp;split at hp;rename_i v Ad h1 h2;simp only[aa]at hp;subst hp;simp only[c9]at hv|-;obtain⟨val,d,rfl,h5,h6⟩:=hv;exact⟨val,d,rfl,(TP m f jC h1 h5).1,C5d m f jC h2 h6⟩;cases hp
end
end
end Go.Mid
namespace Go.Mid
open Go.RowKit
section
variable{P:Program}{w:World}{A:Nat->Prop}{E:dP An}{nt:Nat}{σ:St}{a:Act}
theorem B8m(n k:Nat):((bA n).map (ep+·))[k]?=if k<n then some (ep+k)else none:=by rw[aL];split;rename_i h;rw[List.getElem?_range h];rfl;rename_i h;rw[bJ (by simpa using h)];rfl
theorem C00{h:cj}{ρ:Nat->Option Nat}{ζ:Nat->Nat}{ζn:Nat->Nat->Nat}{bk:Nat->Option Nat}(hz:∀i j,bk j=some i->∀g,ζn i g=0->g=0/\i=j):pf S0 E (tG E h ρ ζ ζn bk):=by intro id np an z hn hg;have Ae:an.g=0:=hg;cases hb:bk id with|none=>((have:tG E h ρ ζ ζn bk id=none:=by simp only[tG,hb,ng]);rw[this]at hn;cases np with|none=>cases hn|some p=>cases p<;>cases hn)|some i=>rw[KB hb]at hn;cases Cy:fc (E i) np with|none=>simp[Cy]at hn|some y=>simp only[Cy,ak,aa,ae]at hn;obtain⟨rfl,rfl⟩:=hn;obtain⟨h0,rfl⟩:=hz i id hb _ Ae;rw[Cy];obtain⟨⟨g,bb,cc⟩,z⟩:=y;simp only at h0;subst h0;have:ζn i 0=0:=Ae;simp only[zA,this]
theorem B8n (k:xi P w A E nt σ a){fn:Func}{F:qR}{n:Nat}{r:MV}{ext dH:List (Obj Nat)}(n5:ED P fn.ntmps fn.results.toList=some F.res)(hf:z6 F n σ=some (r,ext,dH)) :
 ∃ v,(results fn a.tmps).run P w=.ok v w∧∃ A' E' nx',MR w A' E' (j4 ext dH) nx'∧gC w A E S0 w A' E'∧bR w A' E' nx' r v:=by
 unfold z6 at hf
 split at hf
 . cases hf
 . rename_i hn
   split at hf
   . cases hf
   . rename_i vs fN
     obtain ⟨v,auU,hv⟩:=C4J k.sl k.mr n5 fN
     refine ⟨v,auU,?_⟩
     dsimp only at hf
     split at hf
     . -- frozen
       split at hf
       . rename_i u ex hu hex
         simp only [aa,ae] at hf
         obtain ⟨rfl,rfl,rfl⟩:=hf
         let A':Nat->Prop:=λb=>A b∨∃ i o,A0P i=true∧E i=some o∧b∈o.blk
         let E0:dP An:=λi=>if A0P i then none else E i
         let h0:cj:=λi=>if A0P i then none else σ.h i
         have xO:∀ {i o},E0 i=some o->A0P i=false∧E i=some o:=by
          intro i o ho
          simp only [E0] at ho
          split at ho
          . cases ho
          . rename_i hl;exact ⟨by simpa using hl,ho⟩
         have E7:∀ i np y,fc (E0 i) np=some y->fc (E i) np=some y:=by
          intro i np y hy
          simp only [E0] at hy
          split at hy
          . cases np with
            | none=>cases hy
            | some p=>cases p<;>cases hy
          . exact hy
         have f:Fr w w A A' E E0 (· < σ.nx) (· < σ.nx):=⟨λb hb=>.inl hb,λ_ _=>rfl,λid np an z h _=>E7 id np _ h,di.le_refl _⟩
         have m0:MR w A' E0 h0 (· < σ.nx):=by
          constructor
          . intro i
            simp only [E0,h0]
            split
            . rfl
            . exact k.mr.er i
          . intro i o ho
            exact OAt.frame f (λ_ _=>rfl) (k.mr.at_ i o (xO ho).2)
          . rintro b ⟨i,o,ho,hb⟩
            obtain ⟨hl,ho⟩:=xO ho
            have:=k.mr.j6 ho hb
            refine ⟨this.1,λhA=>?_⟩
            rcases hA with hA | ⟨j,o',hj,oZ,js⟩
            . exact this.2 hA
            . have hne:i≠j:=λe=>by subst e;rw [hl] at hj;cases hj
              exact k.mr.dj i j o o' hne ho oZ b hb js
          . intro i o ho;exact k.mr.nd i o (xO ho).2
          . intro i j o o' hne ho oZ;exact k.mr.dj i j o o' hne (xO ho).2 (xO oZ).2
          . rintro b (hA | ⟨j,o',_,oZ,js⟩)
            . exact k.mr.im b hA
            . exact (k.mr.j6 oZ js).1
          . intro i o ho;exact k.mr.st i o (xO ho).2
         have hu0:=(TP k.mr f (λi hi o ho b hb=>.inr ⟨i,o,hi,ho,hb⟩) hu hv).1
         let bk:Nat->Option Nat:=λj=>if ep<=j∧j<ep+n then some j else none
         have hρ:∀ i j,qL n [] i=some j->bk j=some i:=by
          intro i j gM
          unfold qL at gM
          split at gM
          . split at gM
            . rename_i h1 h2
              simp only [aa] at gM
              subst gM
              simp only [bk];rw [if_pos ⟨h1,h2⟩]
            . cases gM
          . simp [pB] at gM
         have tg:∀ i j,bk j=some i->i=j∧ep<=j∧j<ep+n:=by
          intro i j h
          simp only [bk] at h
          split at h
          . rename_i hc;cases h;exact ⟨rfl,hc⟩
          . cases h
         have uN:∀ i j j',bk j=some i->bk j'=some i->j=j':=λi j j' h h'=>by rw [← (tg i j h).1,← (tg i j' h').1]
         have hm:=m0.clean (nx':=(· < 2)) (ζ:=jz) (ζn:=λ_=>jz) hρ uN (λg _=>DM g) (λ_ g _=>DM g)
         have Ij:=bR.clean (nx':=(· < 2)) (ζ:=jz) (ζn:=λ_=>jz) m0 hρ (λg _=>DM g) hu0
         have jC:∀ i j,qL n [] i=some j->h0 i=σ.h i:=by
          intro i j gM
          have:=hρ i j gM
          obtain ⟨rfl,h1,_⟩:=tg i j this
          simp only [h0]
          rw [if_neg]
          simp only [A0P,decide_eq_true_eq];omega
         have nX:jW h0 (qL n []) jz=jW σ.h (qL n []) jz:=funext λv=>To jC v
         have Bt:Bg h0 (qL n []) jz (λ_=>jz) bk=j4 (ex.map (kH (jW σ.h (qL n []) jz) jz)) []:=by
          funext j
          simp only [Bg,j4,bk,nX]
          by_cases h1:kI<=j
          . rw [if_pos h1,if_neg (by simp only [kI,ep] at *;omega)]
            simp
          . rw [if_neg h1]
            by_cases h2:ep<=j
            . rw [if_pos h2,aL,KG hex,B8m]
              by_cases h3:j<ep+n
              . rw [if_pos ⟨h2,h3⟩,if_pos (by omega),show ep+(j-ep)=j by omega]
                simp only [ai,h0]
                rw [if_neg]
                simp only [A0P,decide_eq_true_eq];omega
              . rw [if_neg (λh=>h3 h.2),if_neg (by omega)]
                rfl
            . rw [if_neg h2,if_neg (λh=>h2 h.1)]
              rfl
         rw [Bt] at hm
         rw [nX] at Ij
         refine ⟨A',_,_,hm,?_,Ij⟩
         refine ⟨rfl,rfl,⟨rfl,ay _⟩,ay _,λ_ _ _=>rfl,λb hb=>.inl hb,λb _ hb=>hb.imp (λh=>h) (λ⟨i,o,_,ho,lZ⟩=>⟨i,o,ho,lZ⟩),λb _ hb=>?_,?_⟩
         . obtain ⟨i,o,ho,lZ⟩:=A8R hb
           exact ⟨i,o,(xO ho).2,lZ⟩
         . have h1:pf S0 E0 (tG E0 h0 (qL n []) jz (λ_=>jz) bk):=C00 λi j hb g hg=>⟨B03 hg,(tg i j hb).1⟩
           exact λid np an z hh hg=>E7 id np _ (h1 id np an z hh hg)
       . cases hf
     . -- roots go out
       generalize DJ:(jd σ.h (jd σ.h (va (EA vs)++(bA n).map (ep + ·)))).filter A0P=es at hf
       have hnd:es.Nodup:=by
        rw [← DJ]
        exact List.Pairwise.filter _ (Tj _)
       have Bu:∀ i∈es,A0P i=true:=by
        intro i hi
        rw [← DJ] at hi
        exact (List.mem_filter.1 hi).2
       split at hf
       . rename_i ex eo hex heo
         simp only [aa,ae] at hf
         obtain ⟨rfl,rfl,rfl⟩:=hf
         let bk:Nat->Option Nat:=λj=>if kI<=j then es[j-kI]? else if ep<=j∧j<ep+n then some j else none
         let ζn:Nat->Nat->Nat:=λi=>if A0P i then λ_=>1 else jz
         have tg:∀ i j,bk j=some i->(kI<=j∧es[j-kI]?=some i∧A0P i=true)∨(i=j∧ep<=j∧j<ep+n∧¬ kI<=j):=by
          intro i j h
          simp only [bk] at h
          split at h
          . rename_i h1;exact .inl ⟨h1,h,Bu i (bH h)⟩
          . rename_i h1
            split at h
            . rename_i hc;cases h;exact .inr ⟨rfl,hc.1,hc.2,h1⟩
            . cases h
         have hρ:∀ i j,qL n es i=some j->bk j=some i:=by
          intro i j gM
          unfold qL at gM
          split at gM
          . split at gM
            . rename_i h1 h2
              simp only [aa] at gM
              subst gM
              simp only [bk]
              rw [if_neg (by simp only [kI,ep] at *;omega),if_pos ⟨h1,h2⟩]
            . cases gM
          . cases hi:pB es i with
            | none=>simp [hi] at gM
            | some m =>
              simp only [hi,ak,aa] at gM
              subst gM
              simp only [bk]
              rw [if_pos (fT _ _),Nat.add_sub_cancel_left]
              exact Gw hi
         have uN:∀ i j j',bk j=some i->bk j'=some i->j=j':=by
          intro i j j' h h'
          rcases tg i j h with ⟨h1,h2,h3⟩ | ⟨rfl,h2,h3,_⟩<;>rcases tg i j' h' with ⟨h4,h5,h6⟩ | ⟨e,h5,h6,_⟩
          . have e1:=Iq hnd h2
            have e2:=Iq hnd h5
            rw [e1] at e2
            have:=s8 e2
            omega
          . subst e;simp only [A0P,decide_eq_true_eq] at h3;omega
          . simp only [A0P,decide_eq_true_eq] at h6;omega
          . exact e
         have hm:=k.mr.clean (nx':=(· < 2)) (ζ:=jz) (ζn:=ζn) hρ uN (λg _=>DM g) (λi g _=>by
          simp only [ζn];split
          . show 1<2;omega
          . exact DM g)
         have Ij:=bR.clean (nx':=(· < 2)) (ζ:=jz) (ζn:=ζn) k.mr hρ (λg _=>DM g) hv
         have Bt:Bg σ.h (qL n es) jz ζn bk=j4 (ex.map (kH (jW σ.h (qL n es) jz) jz)) (eo.map (kH (jW σ.h (qL n es) jz) (λ_=>1))):=by
          funext j
          simp only [Bg,j4,bk]
          by_cases h1:kI<=j
          . rw [if_pos h1,if_pos h1,aL,KG heo]
            cases he:es[j-kI]? with
            | none=>rfl
            | some i =>
              have:=Bu i (bH he)
              simp only [ai,ζn,this,if_true]
          . rw [if_neg h1,if_neg h1]
            by_cases h2:ep<=j
            . rw [if_pos h2,aL,KG hex,B8m]
              by_cases h3:j<ep+n
              . rw [if_pos ⟨h2,h3⟩,if_pos (by omega),show ep+(j-ep)=j by omega]
                have hl:A0P j=false:=by simp only [A0P,decide_eq_false_iff_not];omega
                simp only [ai,ζn,hl,aI,if_false]
              . rw [if_neg (λh=>h3 h.2),if_neg (by omega)]
                rfl
            . rw [if_neg h2,if_neg (λh=>h2 h.1)]
              rfl
         rw [Bt] at hm
         refine ⟨A,_,_,hm,?_,Ij⟩
         refine ⟨rfl,rfl,⟨rfl,ay _⟩,ay _,λ_ _ _=>rfl,λ_ h=>h,λ_ _ h=>.inl h,λb _ hb=>A8R hb,C00 λi j hb g hg=>?_⟩
         rcases tg i j hb with ⟨_,_,h3⟩ | ⟨e,h2,_,_⟩
         . simp only [ζn,h3,if_true] at hg
           omega
         . have hl:A0P i=false:=by simp only [A0P,decide_eq_false_iff_not];omega
           simp only [ζn,hl,aI,if_false] at hg
           exact ⟨B03 hg,e⟩
       . cases hf
end
def Iz(P:Program)(f:Nat)(p:Prim):Prop:=∀args ext r ext' dH,xy p args ext=some (r,ext',dH)->Gy P f/\∀(w:World)(A:Nat->Prop)(E:dP An)(gR:List Value),GL P w A->c9 w A E S0 args gR->MR w A E (nn ext) S0->Calls P f gR.toArray w λe w'=>∃v,e=.returned v/\∃A' E' nx',MR w' A' E' (j4 ext' dH) nx'/\gC w A E S0 w' A' E'/\bR w' A' E' nx' r v
structure pj (P:Program)(Φ:lW):Prop where
 mix:P.follows .mixedOrders=true
 code:∀ f F,Φ f=some (.code F)->∃ fn B,P.funcs[f]?=some fn∧(fn.name == "runtime.NumGoroutine")=false∧RJ P B fn=some F
 qU:∀ f p,Φ f=some (.qU p)->Iz P f p
section
variable{P:Program}{Φ:lW}
theorem C2T{w:World}{A:Nat->Prop}{E:dP An}{S:di}:∀{l:List MV}{vs:List Value},c9 w A E S l vs->∀i,bR w A E S (l.getD i (.dead 0)) (vs.getD i undef)|[],vs,h,i=>by simp only[c9]at h;subst h;simp[bR]|x::r,vs,h,i=>by simp only[c9]at h;obtain⟨v,d,rfl,h1,h2⟩:=h;cases i with|zero=>exact h1|succ i=>simpa using C2T h2 i
theorem C2U(hT:pj P Φ)(n:Nat)(hc:O0 P Φ n):CE P (og Φ (run Φ n)):=by intro f args ext r ext' dH hk;unfold og at hk;split at hk;cases hk;rename_i p hp;exact hT.qU f p hp args ext r ext' dH hk;rename_i F hF;obtain⟨fn,B,zx,vN,xP⟩:=hT.code f F hF;unfold RJ at xP;split at xP;rename_i c wa;split at xP;rename_i mc k' rs K0 n5;simp only[aa]at xP;subst xP;refine⟨⟨fn,zx,vN,by rw[wa];rfl⟩,?_⟩;intro w A E gR tH hv hm;(have GN:xi P w A E fn.ntmps ⟨A2G args,nn ext,1⟩ {tmps:=gR.toArray++iA (fn.ntmps-gR.toArray.size) undef,defers:=[]}:=by have hle:S0.le (·<1):=CF (ay 1);refine⟨⟨λi=>?_,tH⟩,hm.mono hle,ay 1,rfl,?_⟩;have h1:=(C2T hv i).frame (Fr.same w A E hle);(have h2:(gR.toArray++iA (fn.ntmps-gR.toArray.size) undef).getD i undef=gR.getD i undef:=by by_cases hi:i<gR.length;simp only[fK];rw[Array.getElem?_append_left (by simpa using hi)];simp[hi,List.getD];simp only[fK];rw[Array.getElem?_append_right (by simpa using hi)];(have:gR.getD i undef=undef:=by simp[List.getD,bJ (Nat.le_of_not_lt hi)]);rw[this,Array.getElem?_replicate];split<;>rfl);rw[h2];exact h1;simp only[Array.size_append,List.size_toArray,Array.size_replicate];omega);refine calls_of_wp zx wa ?_;(have main:∀(e:Ex)(σ:St),(e=.normal\/e=.ret)->run Φ n mc ⟨A2G args,nn ext,1⟩=some (e,σ)->z6 ⟨mc,rs,B.FM⟩ ext.length σ=some (r,ext',dH)->c.wp P (bodyPost P fn λe w'=>∃v,e=.returned v/\∃A' E' nx',MR w' A' E' (j4 ext' dH) nx'/\gC w A E S0 w' A' E'/\bR w' A' E' nx' r v) {tmps:=gR.toArray++iA (fn.ntmps-gR.toArray.size) undef,defers:=[]} w:=by intro e σ he hr hf;refine hc B fn.ntmps c 0 mc k' K0 _ σ e hr _ _ w A E GN ?_;intro a' w' A' E' k1 g1 _;obtain⟨v,Cs,A2,E2,O3,q1,q2,q3⟩:=B8n k1 (F:=⟨mc,rs,B.FM⟩) n5 hf;have:k1.df=k1.df:=rfl;rcases he with rfl|rfl;exact⟨k1.df,v,Cs,v,rfl,A2,E2,O3,q1,g1.trans q2 (di.le_refl _),q3⟩;exact⟨k1.df,v,Cs,v,rfl,A2,E2,O3,q1,g1.trans q2 (di.le_refl _),q3⟩);split at hk;rename_i σ hr;exact main _ σ (.inl rfl) hr hk;rename_i σ hr;exact main _ σ (.inr rfl) hr hk;cases hk;cases xP;cases xP
theorem O4(hT:pj P Φ):∀n,O0 P Φ n:=by intro n;induction n using lI with|_ n ih=>exact C6v hT.mix n ih (λm hm=>C2U hT m (ih m hm))
theorem C5e(hT:pj P Φ)(n:Nat):CE P (og Φ (run Φ n)):=C2U hT n (O4 hT n)
end
end Go.Mid
namespace Go.Mid
set_option maxHeartbeats 1000000
open Go.RowKit
inductive l6 (P:Program):TypeId->PV->Prop where
 | int {t:TypeId} {k:IntKind} {n:Int} (h:P.underlying t=some (.int k)) (w:(Lit.int k n).wf=true):l6 P t (.int k n)
 | bool {t:TypeId} {b:Bool} (h:P.underlying t=some .bool):l6 P t (.bool b)
 | str {t:TypeId} {s:ByteArray} (h:P.underlying t=some .string) (w:s.size<=maxLen):l6 P t (.str s)
 | sl {t e:TypeId} {l:List PV} (h:P.underlying t=some (.slice e)) (w:l.length<=reachBytes) (el:∀ x∈l,l6 P e x):l6 P t (.sl l)
 | agg {t:TypeId} {fs:Array Field} {l:List PV} (h:P.underlying t=some (.struct fs)) (w:l.length=fs.size) (el:∀ (i:Nat) (f:Field) (x:PV),fs[i]?=some f->l[i]?=some x->l6 P f.type x):l6 P t (.agg l)
 | arr {t e:TypeId} {k:Nat} {l:List PV} (h:P.underlying t=some (.array k e)) (w:l.length=k) (el:∀ x∈l,l6 P e x):l6 P t (.agg l)
def yQ(P:Program):Nat->TypeId->Bool|0,_=>false|n+1,t=>match P.underlying t with|some (.int _)|some .bool|some .string=>P.cellsOf t==1|some (.slice e)=>P.cellsOf t==1&&P.cellsOf e !=0&&P.bytesOf e !=0&&yQ P n e|some (.struct fs)=>C9 P fs.toList 0&&(fs.toList.map λf=>P.cellsOf f.type).sum==P.cellsOf t&&fs.toList.all λf=>yQ P n f.type|some (.array k e)=>k*P.cellsOf e==P.cellsOf t&&yQ P n e|_=>false
section
variable{H:Type}{enc:TypeId×Value->H}{P:Program}{w:World}{sp:Nat->Bool}{held:Bool}
theorem K1{α β:Type}{f:α->Option β}:∀{l:List α}{r:List β},l.mapM f=some r->r.length=l.length/\∀(i:Nat)(x:α),l[i]?=some x->∃y,f x=some y/\r[i]?=some y|[],r,h=>by simp_all|x::l,r,h=>by rw[me]at h;cases hf:f x with|none=>simp_all|some y=>cases hl:l.mapM f with|none=>simp_all|some ys=>simp[hf,hl]at h;subst h;obtain⟨h1,h2⟩:=K1 hl;grind
theorem TQ{a:Addr}{n:Nat}{cs:List Value}(h:w.cells? 0 a n=some cs):cs.length=n/\∀j v,cs[j]?=some v->w.cell? (a.add j)=some v:=by unfold World.cells? at h;simp at h;obtain⟨h1,h2⟩:=K1 h;simp_all[List.getElem?_eq_some_iff]
theorem TR(a:Addr):a.add 0=a:=by rfl
theorem C8f{a:Addr}{n:Nat}{cs:List Value}(hn:0<n)(h:w.cells? 0 a n=some cs):a.block<w.heap.size:=by obtain⟨h1,h2⟩:=TQ h;have:=h2 0 cs[0] (by simp);simp_all[TR,World.block_lt_of_cell?]
theorem C01{A:Nat->Prop}:∀(fs:List Field)(cs:List Value)(o:Nat)(xs:List PV),C9 P fs o=true->cs.length=o+(fs.map λf=>P.cellsOf f.type).sum->xs.length=fs.length->(∀(i:Nat)(f:Field)(x:PV),fs[i]?=some f->xs[i]?=some x->dU w A x ((cs.drop f.offset).take (P.cellsOf f.type)))->cK w A xs (cs.drop o)|[],cs,o,xs,_,hl,hx,_=>by simp_all[cK]|f::fs,cs,o,xs,ho,hl,hx,h=>by cases xs with|nil=>grind|cons x xs=>simp[C9]at ho;obtain⟨⟨h1,_⟩,h2⟩:=ho;simp[cK];refine⟨(cs.drop o).take (P.cellsOf f.type),cs.drop (o+P.cellsOf f.type),?_,?_,?_⟩;rw[<-List.drop_drop,bM];have:=h 0 f x rfl rfl;simp_all;refine C01 fs cs (o+P.cellsOf f.type) xs h2 ?_ (by simp_all) (λi g y hg hy=>h (i+1) g y hg hy);grind
theorem C2V{A:Nat->Prop}(z:Nat):∀(xs:List PV)(cs:List Value),cs.length=xs.length*z->(∀(i:Nat)(x:PV),xs[i]?=some x->dU w A x ((cs.drop (i*z)).take z))->cK w A xs cs|[],cs,hl,_=>by simp_all[cK]|x::xs,cs,hl,h=>by simp[cK];refine⟨cs.take z,cs.drop z,(bM z cs).symm,?_,?_⟩;have:=h 0 x rfl;simp_all;refine C2V z xs (cs.drop z) (by simp_all[du]) (λi y hy=>?_);have:=h (i+1) y (by simp_all);simp_all[du,Nat.add_comm]
theorem TS{e:TypeId}:∀{ds:List (DataW H)}{d:DataW H},d∈ds->∀m∈d.weights P e,m∈rk P e ds|[],_,h,_,_=>by cases h|x::r,d,h,m,hm=>by simp[rk];rcases aG.1 h with rfl|h;simp_all;exact .inr (TS h m hm)
theorem C5f:∀(fuel n:Nat)(t:TypeId)(cs:List Value)(x:DataW H×List MemPlace),yQ P n t=true->gJ enc P w 0 sp held fuel t cs=some x->(∀m∈x.1.weights P t,m<=reachBytes)->∃pv,dU w (·<w.heap.size) pv cs/\l6 P t pv/\pv.isAgg=mW P t|0,n,t,cs,x,_,h,_=>by simp[gJ]at h|fuel+1,0,t,cs,x,hs,_,_=>by grind[yQ]|fuel+1,n+1,t,cs,x,hs,h,xh=>by have ih:=C5f fuel;simp only[yQ]at hs;cases hu:P.underlying t with|none=>simp_all|some d=>rw[hu]at hs;cases d<;>simp only[aI,aj,beq_iff_eq,bne_iff_ne,ne_eq]at hs;(case bool=>unfold gJ at h;rw[hu]at h;match cs,h with|[.bool b],_=>exact⟨.bool b,by rfl,.bool hu,by grind[PV.isAgg,mW]⟩);(case int k=>unfold gJ at h;rw[hu]at h;match cs,h with|[.int k' m],h=>simp only at h;split at h;rename_i hc;obtain⟨rfl,hw⟩:=hc;exact⟨.int k' m,by rfl,.int hu hw,by grind[PV.isAgg,mW]⟩;grind);(case string=>unfold gJ at h;rw[hu]at h;match cs,h with|[.string s],h=>simp only at h;split at h;rename_i hc;exact⟨.str s,by rfl,.str hu hc,by grind[PV.isAgg,mW]⟩;grind);(case slice e=>unfold gJ at h;rw[hu]at h;match cs,h with|[.slice none 0 0],_=>exact⟨.sl [],by simp_all[dU],.sl hu (dg _) (λx hx=>by cases hx),by grind[PV.isAgg,mW]⟩|[.slice (some a) len cap],h=>simp only at h;split at h;(. rename_i hc;obtain⟨_,nU,oq⟩:=hc;cases hm:(bA len).mapM (λi=>(w.cells? 0 (a.add (i*P.cellsOf e)) (P.cellsOf e)).bind (gJ enc P w 0 sp held fuel e))with|none=>simp_all|some elems=>obtain⟨hl,ia⟩:=K1 hm;rw[List.length_range]at hl;(obtain⟨rest,hx⟩:∃rest:List (DataW H×List MemPlace),x.1=.slice (elems.map (·.1)) (rest.map (·.1)):=by grind[Option.map_eq_some_iff]);rw[hx]at xh;simp only[pt,hu,aG,az]at xh;(have GO:len<=reachBytes:=by have h1:=xh _ (.inl rfl);simp[hl]at h1;have h2:0<P.bytesOf e:=ew hs.1.2;exact dF (dF (fT len rest.length) (Nat.le_mul_of_pos_right _ h2)) h1);(have each:∀i,i<len->∃pv c,w.cells? 0 (a.add (i*P.cellsOf e)) (P.cellsOf e)=some c/\dU w (·<w.heap.size) pv c/\l6 P e pv:=by intro i hi;obtain⟨y,hy,K3⟩:=ia i i (by grind);cases hc:w.cells? 0 (a.add (i*P.cellsOf e)) (P.cellsOf e)with|none=>simp_all|some c=>rw[hc]at hy;obtain⟨pv,q1,q2,_⟩:=ih n e c y hs.2 hy (λm xM=>xh m (.inr (.inl (TS (bp.2 ⟨y,bH K3,rfl⟩) m xM))));grind);have tK:0<P.cellsOf e:=ew hs.1.1.2;by_cases h0:len=0;subst h0;exact⟨.sl [],by simp_all[dU],.sl hu (dg _) (λx hx=>by cases hx),by grind[PV.isAgg,mW]⟩;. (have E8:a.spot=none:=by obtain⟨pv,c,hc,_⟩:=each 0 (by omega);have hb:=(TQ hc);have nX:=hb.2 0 c[0] (by simp);rw[da,TR,TR]at nX;unfold World.cell? at nX;split at nX;all_goals simp_all);obtain⟨b,o,s⟩:=a;simp at E8;subst E8;(have build:∀m,m<=len->∃l:List PV,l.length=m/\(∀x∈l,l6 P e x)/\fB w (·<w.heap.size) l b (o+(len-m)*P.cellsOf e) (P.cellsOf e):=by intro m;induction m with|zero=>simp_all[fB]|succ m TT=>intro hm;obtain⟨l,h1,h2,h3⟩:=TT (by omega);obtain⟨pv,c,hc,q1,q2⟩:=each (len-(m+1)) (by omega);rw[vQ]at hc;obtain⟨r1,r2⟩:=TQ hc;refine⟨pv::l,by simp[h1],λx hx=>(aG.1 hx).elim (λe=>e▸q2) (h2 x),?_⟩;simp[fB];refine⟨⟨c,q1,r1,λj v hj=>?_⟩,?_⟩;simp_all[vQ];(have e:o+(len-(m+1))*P.cellsOf e+P.cellsOf e=o+(len-m)*P.cellsOf e:=by rw[show len-m=(len-(m+1))+1 by omega,du];omega);simp_all);obtain⟨l,h1,h2,h3⟩:=build len (ay _);rw[Nat.sub_self,da,dG]at h3;(have iM:b<w.heap.size:=by obtain⟨pv,c,hc,_⟩:=each 0 (by omega);have:=C8f tK hc;simp_all[vQ]);refine⟨.sl l,?_,.sl hu (by omega) h2,by simp[PV.isAgg,mW,hu]⟩;simp only[dU,h1];exact⟨some ⟨b,o,none⟩,cap,rfl,nU,.inr ⟨b,o,P.cellsOf e,rfl,iM,h3⟩⟩);cases h);(case array k e=>unfold gJ at h;rw[hu]at h;simp only at h;split at h;rename_i nX;(cases hm:(bA k).mapM (λi=>gJ enc P w 0 sp held fuel e ((cs.drop (i*P.cellsOf e)).take (P.cellsOf e)))with|none=>rw[hm]at h;cases h|some xs=>obtain⟨hl,ia⟩:=K1 hm;(have hx:x.1=.agg (xs.map (·.1)):=by grind);rw[hx]at xh;simp[pt,hu]at xh;(have each:∀i,i<k->∃pv,dU w (·<w.heap.size) pv ((cs.drop (i*P.cellsOf e)).take (P.cellsOf e))/\l6 P e pv:=by intro i hi;obtain⟨y,hy,K3⟩:=ia i i (by grind);obtain⟨pv,q1,q2,_⟩:=ih n e _ y hs.2 hy (λm xM=>xh m (TS (bp.2 ⟨y,bH K3,rfl⟩) m xM));grind);(have build:∀m,m<=k->∃l:List PV,l.length=m/\∀(i:Nat)(x:PV),l[i]?=some x->dU w (·<w.heap.size) x ((cs.drop (i*P.cellsOf e)).take (P.cellsOf e))/\l6 P e x:=by intro m;induction m with|zero=>simp|succ m TT=>intro hm;obtain⟨l,h1,h2⟩:=TT (by omega);obtain⟨pv,q1,q2⟩:=each m (by omega);refine⟨l++[pv],by simp[h1],λi x hx=>?_⟩;grind);obtain⟨l,h1,h2⟩:=build k (ay _);refine⟨.agg l,?_,.arr hu h1 (λx hx=>?_),by grind[PV.isAgg,mW]⟩;simp only[dU];exact C2V (P.cellsOf e) l cs (by rw[nX,h1,hs.1]) (λi x hx=>(h2 i x hx).1);obtain⟨i,hi⟩:=lq hx;exact(h2 i x hi).2);cases h);case struct fs=>unfold gJ at h;rw[hu]at h;simp only at h;split at h;rename_i nX;(cases hm:fs.toList.mapM (λf=>gJ enc P w 0 sp held fuel f.type ((cs.drop f.offset).take (P.cellsOf f.type)))with|none=>rw[hm]at h;cases h|some xs=>obtain⟨hl,ia⟩:=K1 hm;(have hx:x.1=.agg (xs.map (·.1)):=by grind);rw[hx]at xh;simp[pt,hu]at xh;obtain⟨⟨lD,TU⟩,kF⟩:=hs;(have each:∀(i:Nat)(f:Field),fs.toList[i]?=some f->∃pv,dU w (·<w.heap.size) pv ((cs.drop f.offset).take (P.cellsOf f.type))/\l6 P f.type pv:=by intro i f hf;obtain⟨y,hy,K3⟩:=ia i f hf;obtain⟨pv,q1,q2,_⟩:=ih n f.type _ y (bB.1 kF f (bH hf)) hy (λm xM=>xh m (DataW.weights_mem_each (j:=i) (by simp_all) (by simp_all) m xM));grind);(have build:∀gs:List Field,(∀f∈gs,∃pv,dU w (·<w.heap.size) pv ((cs.drop f.offset).take (P.cellsOf f.type))/\l6 P f.type pv)->∃l:List PV,l.length=gs.length/\∀(i:Nat)(f:Field)(x:PV),gs[i]?=some f->l[i]?=some x->dU w (·<w.heap.size) x ((cs.drop f.offset).take (P.cellsOf f.type))/\l6 P f.type x:=by intro gs;induction gs with|nil=>simp|cons g gs ihg=>intro hg;obtain⟨pv,q1,q2⟩:=hg g (by simp);obtain⟨l,h1,h2⟩:=ihg (λf hf=>hg f (by simp[hf]));refine⟨pv::l,by simp[h1],λi f x hf hx=>?_⟩;grind);obtain⟨l,h1,h2⟩:=build fs.toList (λf hf=>by grind[lq]);have:=C01 (w:=w) (A:=(·<w.heap.size)) fs.toList cs 0 l lD (by omega) h1 (λi f x hf hx=>(h2 i f x hf hx).1);rw[fh]at this;refine⟨.agg l,by simp_all[dU],.agg hu (by omega) (λi f x hf hx=>(h2 i f x (by simp_all) hx).2),by grind[PV.isAgg,mW]⟩);grind
inductive pn (P:Program):List TypeId->List PV->Prop where
 | nil:pn P [] []
 | cons {t:TypeId} {ts:List TypeId} {v:PV} {vs:List PV} (h:l6 P t v) (r:pn P ts vs):pn P (t::ts) (v::vs)
theorem C4K{r:Reach}{base:Nat}{t:TypeId}{v:Value}{n:Nat}(hs:yQ P n t=true)(h:nJ P w r base t v):pk (mW P t) v.cells.toList=v:=by cases n with|zero=>grind[yQ]|succ n=>unfold nJ at h;simp only[yQ]at hs;cases hu:P.underlying t with|none=>simp_all|some d=>rw[hu]at hs h;cases d<;>simp only[aI]at hs;(case struct fs=>simp at h;obtain⟨cs,rfl,_⟩:=h;simp[pk,mW,hu,de]);(case array k e=>simp at h;obtain⟨cs,rfl,_⟩:=h;simp[pk,mW,hu,de]);all_goals simp at h;cases v<;>simp[Cell.okWide,Cell.ok,hu]at h<;>simp[pk,mW,hu,de]
theorem B6K{r:Reach}{base:Nat}{n:Nat}:∀{ts:List TypeId}{vs:List Value}{ds:List (DataW H)}{ps:List MemPlace},(∀t∈ts,yQ P n t=true)->(∀(j:Nat)(t:TypeId)(v:Value),ts[j]?=some t->vs[j]?=some v->nJ P w r base t v)->eE enc P w 0 sp held ts vs ds ps->(∀m∈ee P ts ds,m<=reachBytes)->ds.length=ts.length/\∃us:List PV,pn P ts us/\kM w (·<w.heap.size) us vs|[],vs,ds,ps,_,_,h,_=>by cases vs<;>cases ds<;>simp[eE]at h;exact⟨rfl,[],.nil,by rfl⟩|t::ts,vs,ds,ps,hs,hv,h,xh=>by cases vs with|nil=>simp_all[eE]|cons v vs=>cases ds with|nil=>simp_all[eE]|cons d ds=>simp only[eE]at h;obtain⟨p,q,⟨fuel,h1⟩,h2,_⟩:=h;simp only[ee,az]at xh;obtain⟨h3,us,h4,h5⟩:=B6K (λt ht=>hs t (by simp[ht])) (λj t v hj hvj=>hv (j+1) t v (by simpa using hj) (by simp_all)) h2 (λm hm=>xh m (.inr hm));obtain⟨pv,q1,q2,q3⟩:=C5f fuel n t _ (d,p) (hs t (by simp)) h1 (λm hm=>xh m (.inl hm));refine⟨by simp[h3],pv::us,.cons q2 h4,?_⟩;simp only[kM];refine⟨v.cells.toList,vs,?_,q1,h5⟩;rw[q3,C4K (hs t (by simp)) (hv 0 t v rfl rfl)]
theorem B4x{W W':World}{sp':Nat->Bool}(hl:laidOutB P=true)(E9:∀p,p.block<W.heap.size->W.sameAt W' p):∀{ts:List TypeId}{vs:List Value}{ds:List (DataW H)}{ps:List MemPlace},(∀t∈ts,P.readableRec t=true/\t<P.types.size)->eE enc P W 0 (λ_=>true) true ts vs ds ps->(∀p∈ps,p.block<W.heap.size/\sp' p.block=true)->eE enc P W' 0 sp' true ts vs ds ps|[],vs,ds,ps,_,h,_=>by grind[eE]|t::ts,vs,ds,ps,hr,h,hp=>by cases vs with|nil=>simp_all[eE]|cons v vs=>cases ds with|nil=>simp_all[eE]|cons d ds=>simp only[eE]at h|-;obtain⟨p,q,h1,h2,rfl⟩:=h;obtain⟨r1,r2⟩:=hr t (by simp);exact⟨p,q,WideElems.Trod_stays hl r1 r2 h1 (λx hx=>E9 x (hp x (by simp[hx])).1) (λx hx=>(hp x (by simp[hx])).2),B4x hl E9 (λt ht=>hr t (by simp[ht])) h2 (λx hx=>hp x (by simp[hx])),rfl⟩
end
def D1q(P:Program):Bool:=P.globals.toList.all λx=>x.name != "math/bits.deBruijn32tab"
theorem D1Y{P:Program}(h:D1q P=true)(w:World)(A:Nat->Prop):GL P w A:=by intro g v hg;unfold HZ at hg;split at hg;rename_i x hx;(have hm:x∈P.globals.toList:=by grind);have:=bB.1 h x hm;simp_all;simp_all
theorem B5a{H:Type}{P:Program}{m:Nat}:∀{ts us:List TypeId}{ds:List (DataW H)},m∈ee P ts ds->m∈ee P (ts++us) ds|[],_,[],h=>by grind[ee]|[],_,_::_,h=>by grind[ee]|_::_,_,[],h=>by grind[ee]|t::ts,us,d::ds,h=>by simp[ee]at h|-;exact h.imp id B5a
open Go.ChangeShapes in
theorem B5b{C:Checked}{k:Nat}{fn:Func}{H:Type}{enc:TypeId×Value->H}{s:ChangeSpec}(ux:s.vars=[])(laid:laidOutB C.prog=true)(Bv:fn.params.toList.all (λt=>yQ C.prog 12 t&&C.prog.readableRec t&&decide (t<C.prog.types.size))=true){tb:TypeId}(n5:fn.resultTypes=#[tb])(K4:C.prog.underlying tb=some .bool)(hs:∀ds:List (DataW H),ds.length=fn.params.toList.length->s.fn H ds={results:=[.lit (.bool true)],args:=ds}){Φ:lW}(hT:pj C.prog Φ)(auU:∀vs:List PV,pn C.prog fn.params.toList vs->∃n,og Φ (run Φ n) k (vs.map .p) []=some (.p (.bool true),[],[])){W:World}{base:Nat}{args:Array Value}{ds gs:List (DataW H)}{before:List MemPlace}(tH:GL C.prog W (·<W.heap.size))(cE:∀(j:Nat)t v,fn.params[j]?=some t->args[j]?=some v->nJ C.prog W .any base t v)(hW:DataW.Whole enc C.prog fn.params.toList s.vars false W args.toList ds gs before)(hJ:(ee C.prog (fn.params.toList++s.plain.varTypes C.prog) (ds++gs)).all (·<=reachBytes)=true):Calls C.prog k args W λe W'=>∃v,e=.returned v/\s.post enc C.prog fn false true false false W args v W':=by have hW':=hW;obtain⟨p,q,hA,hV,rfl,Fa,hnd⟩:=hW;rw[ux]at hV;obtain⟨rfl,rfl⟩:=trodVars_none hV;(have kF:∀t∈fn.params.toList,yQ C.prog 12 t=true/\C.prog.readableRec t=true/\t<C.prog.types.size:=by grind);obtain⟨hlen,us,h1,h2⟩:=B6K (n:=12) (λt ht=>(kF t ht).1) (λj t v hj hv=>cE j t v (by simp_all) (by simp_all)) hA (λm hm=>by simp_all[B5a]);obtain⟨n,hn⟩:=auU us h1;obtain⟨_,hc⟩:=C5e hT n _ _ _ _ _ _ hn;have hc:=hc W (·<W.heap.size) (λ_=>none) args.toList tH (AV.2 h2) (MR.none λb hb=>hb);(have tJ:args.toList.toArray=args:=by simp);rw[tJ]at hc;refine hc.mono ?_;rintro e W'⟨v,rfl,A',E',nx',_,g,hv⟩;have l5:=vM.1 hv;subst l5;refine⟨_,rfl,?_⟩;have hold:∀b,b<W.heap.size->W'.heap[b]?=W.heap[b]?:=λb hb=>g.aSO b hb Is;have Bw:Below W.heap.size W W':=⟨g.os,g.tape,g.output.1,g.size,λb hb=>hold b hb⟩;have TW:=hs ds hlen;refine⟨ds,[],p++[],[],p,[],hW',?_,?_,?_,Bw.frame _,λh=>by cases h⟩;rw[n5,bD,TW];exact trodAll_cons_mk (shut_bool K4 _) trodAll_mk0;rw[bD,TW];refine B4x laid (λx hx=>Bw.same hx) (λt ht=>(kF t ht).2) hA (λx hx=>?_);(have:x.block<W.heap.size:=by simpa using hW'.lt x (by simp_all));simp_all;rw[ux,bD,TW];rfl
open Go.ChangeShapes in
theorem D47{C:Checked}{os:Os}(own:ownKnob C.prog.godebug=none)(started:os.Started){k:Nat}{fn:Func}(xQ:C.prog.inits.idxOf? k=none)(zx:C.prog.funcs[k]?=some fn){H:Type}{enc:TypeId×Value->H}{s:ChangeSpec}{conds:List PathCond}(ux:s.vars=[])(laid:laidOutB C.prog=true)(Bv:fn.params.toList.all (λt=>yQ C.prog 12 t&&C.prog.readableRec t&&decide (t<C.prog.types.size))=true){tb:TypeId}(n5:fn.resultTypes=#[tb])(K4:C.prog.underlying tb=some .bool)(hs:∀ds:List (DataW H),ds.length=fn.params.toList.length->s.fn H ds={results:=[.lit (.bool true)],args:=ds})(witness:∃(w:World)(tape:Tape)(i:Input),w.os=os/\(w.forCall tape i).Shaped C.prog/\i.vars=[]/\Input.okWide C.prog (w.forCall tape i) .any w.heap.size k i/\s.pre6 enc C.prog fn conds false (w.forCall tape i).memory i.args/\({}:Assume).holds C.prog (lone (Frame.enter C.prog k i.args .normal) [] (w.forCall tape i)))(tH:D1q C.prog=true){Φ:lW}(hT:pj C.prog Φ)(auU:∀vs:List PV,pn C.prog fn.params.toList vs->∃n,og Φ (run Φ n) k (vs.map .p) []=some (.p (.bool true),[],[])):ReturnsInHanded {} C os k .any (s.pre6 enc C.prog fn conds false) (s.post enc C.prog fn false true false false):=by refine returnsInHanded_of_change_sized own started xQ zx witness ?_;intro W base args ds gs before cE hW _ hJ _;exact B5b ux laid Bv n5 K4 hs hT auU (D1Y tH _ _) cE hW hJ
end Go.Mid
namespace Go.Mid
def zy(K K':jm):Prop:=∀f args ext r,K f args ext=some r->K' f args ext=some r
theorem zy.refl(K:jm):zy K K:=λ_ _ _ _ h=>h
theorem zy.trans{K K' K'':jm}(h:zy K K')(k:zy K' K''):zy K K'':=λf a e r hr=>k f a e r (h f a e r hr)
theorem C4L{K K':jm}(hk:zy K K'){g:Nat}{d:Option Nat}{s:gB}{h:cj}{op:ui}{x:MV×cj}(he:cb K g d s h op=some x):cb K' g d s h op=some x:=by cases op with|call md f args=>simp[cb]at he|-;split at he;rename_i f0 cs hc;split at he;unfold AJ at he|-;split at he;rename_i vs fN;(cases hK:K f0 (vs.map .p) []with|none=>simp_all[zW]|some r=>rw[hK]at he;rw[hk _ _ _ _ hK];exact he);omega;unfold C4 at he|-;dsimp only at he|-;split at he;cases he;split at he;cases he;rename_i r ext dH hK;rw[hk _ _ _ _ hK];exact he;unfold Cd at he|-;split at he;rename_i vs fN;split at he;rename_i r dH hK;rw[hk _ _ _ _ hK];exact he;simp_all;omega;omega|_=>exact he
theorem B5c{K K':jm}(hk:zy K K'){g:Nat}{i:hH}{s:gB}{h:cj}{x:gB×cj}(he:oP K g i s h=some x):oP K' g i s h=some x:=by grind[oP,C4L]
theorem O5{K K':jm}(hk:zy K K'):∀{l:List hH}{g:Nat}{s:gB}{h:cj}{x:gB×cj},vH K g l s h=some x->vH K' g l s h=some x/\vK K' g l s h=vK K g l s h|[],g,s,h,x,he=>⟨he,rfl⟩|i::r,g,s,h,x,he=>by simp[vH]at he|-;split at he;rename_i s1 h1 hi;obtain⟨q1,q2⟩:=O5 hk he;grind[vK,B5c];simp_all
theorem B6L{K K':jm}(hk:zy K K'){loose:List (Nat×Nat)}{ops:List hH}{σ σ':St}(he:tx K loose ops σ=some σ'):tx K' loose ops σ=some σ':=by grind[tx,O5]
theorem TX{Φ:lW}{R R':MC->St->Option (Ex×St)}(h:∀c σ r,R c σ=some r->R' c σ=some r):zy (og Φ R) (og Φ R'):=by intro f args ext r hr;grind[og]
theorem E8h{R R':St->Option (Ex×St)}(h:∀σ r,R σ=some r->R' σ=some r){x:Nat}{ks ids:List Nat}:∀{l:List (PV×PV)}{σ:St}{r:Ex×St},E4M R x ks ids l σ=some r->E4M R' x ks ids l σ=some r|[],_,_,hr=>hr|y::l,σ,r,hr=>by simp[E4M]at hr|-;split at hr;rename_i σ' hs;rw[h _ _ hs];exact E8h h hr;grind
theorem F2v{R R':St->Option (Ex×St)}(h:∀σ r,R σ=some r->R' σ=some r){b0:Nat}{z:Option (Ex×St)}{r:Ex×St}(hr:E41 R b0 z=some r):E41 R' b0 z=some r:=by cases z with|none=>cases hr|some z=>obtain⟨e,σ⟩:=z;cases e<;>grind[E41]
theorem F2w{k2 i2:List Nat}{l:List (Option (Ex×St))}{x:Ex×St}(h:E7m k2 i2 l=some x):∀y∈l,∃z,y=some z:=by cases l with|nil=>simp|cons y r=>cases y with|none=>grind[E7m]|some y=>obtain⟨e,σ⟩:=y;simp only[E7m]at h;split at h;rename_i kF;intro z hz;rcases aG.1 hz with rfl|hz;simp;have:=bB.1 kF _ hz;cases z<;>simp_all[E9c];grind
theorem F2x{α:Type}{k2 i2:List Nat}{l:List α}{f g:α->Option (Ex×St)}(hfg:∀a r,f a=some r->g a=some r){x:Ex×St}(h:E7m k2 i2 (l.map f)=some x):E7m k2 i2 (l.map g)=some x:=by grind[List.map_congr_left,F2w,dY]
theorem F2y{k2 i2:List Nat}{y z:Option (Ex×St)}(h:∀r,y=some r->z=some r){r:Ex×St}(hr:E4U k2 i2 y=some r):E4U k2 i2 z=some r:=by cases y with|none=>cases hr|some y=>simp_all
theorem E8i{R R' R2 R2':St->Option (Ex×St)}(h:∀σ r,R σ=some r->R' σ=some r)(h2:∀σ r,R2 σ=some r->R2' σ=some r){x b0:Nat}{ks ids k2 i2:List Nat}{σ:St}{l:List (PV×PV)}{r:Ex×St}(hr:E4U k2 i2 (E41 R2 b0 (E4M R x ks ids l σ))=some r):E4U k2 i2 (E41 R2' b0 (E4M R' x ks ids l σ))=some r:=by refine F2y (λr1 h1=>?_) hr;cases hf:E4M R x ks ids l σ with|none=>rw[hf]at h1;cases h1|some z=>grind[E8h,F2v]
theorem C93{Φ:lW}:∀{n:Nat}{c:MC}{σ:St}{r:Ex×St},run Φ n c σ=some r->run Φ (n+1) c σ=some r:=by intro n;induction n with|zero=>simp_all[run]|succ n ih=>intro c σ r h;cases c with|AE loose ops=>(rw[run]at h|-;cases hr:tx (og Φ (run Φ n)) loose ops σ with|none=>simp_all|some σ'=>rw[hr]at h;rw[B6L (TX λc σ r=>ih) hr];exact h)|seq a b=>grind[run]|cond c a b=>grind[run]|block id c=>grind[run]|loop ks ids c=>grind[run]|aBh src x ks ids k2 i2 b0 c c2=>grind[run,F2x,E8i]|_=>rw[run]at h|-;exact h
theorem GQ{Φ:lW}{n m:Nat}(TY:n<=m){c:MC}{σ:St}{r:Ex×St}(h:run Φ n c σ=some r):run Φ m c σ=some r:=by induction TY<;>simp_all[C93]
theorem C02{Φ:lW}{n m:Nat}(TY:n<=m):zy (og Φ (run Φ n)) (og Φ (run Φ m)):=TX λ_ _ _ h=>GQ TY h
open Classical in
noncomputable def pK(Φ:lW)(c:MC)(σ:St):Option (Ex×St):=if h:∃n r,run Φ n c σ=some r then some h.choose_spec.choose else none
noncomputable def KI(Φ:lW):jm:=og Φ (pK Φ)
section
variable{Φ:lW}
theorem rF{c:MC}{σ:St}{r:Ex×St}:pK Φ c σ=some r↔∃n,run Φ n c σ=some r:=by unfold pK;constructor;(. intro h;split at h;all_goals grind);rintro⟨n,hn⟩;have hex:∃n r,run Φ n c σ=some r:=⟨n,r,hn⟩;rw[dif_pos hex];have h1:=hex.choose_spec.choose_spec;have h2:=GQ (iB hex.choose n) h1;grind[GQ,gZ]
theorem GR{α:Type}{x y:Option α}(h:∀r,x=some r↔y=some r):x=y:=by cases x with|none=>cases y<;>simp_all|some r=>grind
theorem TZ(n:Nat):zy (og Φ (run Φ n)) (KI Φ):=TX λc σ r h=>rF.2 ⟨n,h⟩
theorem O6{f:Nat}{args:List MV}{ext:List (Obj Nat)}{r:Es}(h:KI Φ f args ext=some r):∃n,og Φ (run Φ n) f args ext=some r:=by unfold KI og at h;split at h;cases h;simp_all[og];grind[rF,og]
theorem C6z{g:Nat}{d:Option Nat}{s:gB}{h:cj}{op:ui}{x:MV×cj}(he:cb (KI Φ) g d s h op=some x):∃n,cb (og Φ (run Φ n)) g d s h op=some x:=by cases op with|call md f args=>simp[cb]at he|-;split at he;(. rename_i f0 cs hc;split at he;unfold AJ at he;split at he;rename_i vs fN;cases hK:KI Φ f0 (vs.map .p) []<;>grind[zW,O6,AJ];simp_all;all_goals grind[C4,O6,Cd]);simp_all|_=>exact⟨0,he⟩
theorem B6M:∀{l:List hH}{g:Nat}{s:gB}{h:cj}{x:gB×cj},vH (KI Φ) g l s h=some x->∃n,vH (og Φ (run Φ n)) g l s h=some x|[],g,s,h,x,he=>⟨0,he⟩|i::r,g,s,h,x,he=>by simp[vH]at he;split at he;rename_i s1 h1 hi;obtain⟨m,hm⟩:=B6M he;(have rG:∃n,oP (og Φ (run Φ n)) g i s h=some (s1,h1):=by grind[oP,C6z]);obtain⟨n,hn⟩:=rG;refine⟨max n m,?_⟩;simp only[vH,B5c (C02 (iB n m)) hn];exact(O5 (C02 (gZ n m)) hm).1;simp_all
theorem C6A{loose:List (Nat×Nat)}{ops:List hH}{σ σ':St}(he:tx (KI Φ) loose ops σ=some σ'):∃n,tx (og Φ (run Φ n)) loose ops σ=some σ':=by grind[tx,B6M,O5,TZ]
theorem C03(σ:St):pK Φ .skip σ=some (.normal,σ):=rF.2 ⟨1,rfl⟩
theorem C2W(σ:St):pK Φ .ret σ=some (.ret,σ):=rF.2 ⟨1,rfl⟩
theorem C04(id:Nat)(σ:St):pK Φ (.exit id) σ=some (.exit id,σ):=rF.2 ⟨1,rfl⟩
theorem T0(g:Gh)(σ:St):pK Φ (.gh g) σ=match AN g σ with|some σ'=>some (.normal,σ')|none=>none:=by refine GR λr=>?_;rw[rF];constructor;rintro⟨n,hn⟩;cases n<;>grind[run];intro h;exact⟨1,h⟩
theorem C94(loose:List (Nat×Nat))(ops:List hH)(σ:St):pK Φ (.AE loose ops) σ=match tx (KI Φ) loose ops σ with|some σ'=>some (.normal,σ')|none=>none:=by refine GR λr=>?_;rw[rF];constructor;rintro⟨n,hn⟩;cases n<;>grind[run,B6L,TZ];intro h;cases hr:tx (KI Φ) loose ops σ with|none=>simp_all|some σ'=>rw[hr]at h;obtain⟨n,hn⟩:=C6A hr;exact⟨n+1,by simp_all[run]⟩
theorem C95(a b:MC)(σ:St):pK Φ (.seq a b) σ=match pK Φ a σ with|some (.normal,σ')=>pK Φ b σ'|r=>r:=by refine GR λr=>?_;rw[rF];constructor;rintro⟨n,hn⟩;cases n<;>grind[run,rF];intro h;cases ha:pK Φ a σ with|none=>simp_all|some x=>rw[ha]at h;obtain⟨n,hn⟩:=rF.1 ha;obtain⟨e,σ1⟩:=x;cases e with|normal=>obtain⟨m,hm⟩:=rF.1 h;refine⟨max n m+1,?_⟩;grind[run,GQ,gZ]|exit id=>exact⟨n+1,by grind[run]⟩|ret=>exact⟨n+1,by grind[run]⟩
theorem C8g(c:dJ)(a b:MC)(σ:St):pK Φ (.cond c a b) σ=match cJ σ.s c with|.p (.bool true)=>pK Φ a σ|.p (.bool false)=>pK Φ b σ|_=>none:=by refine GR λr=>?_;rw[rF];constructor;rintro⟨n,hn⟩;cases n<;>grind[run,rF];intro h;split at h;rename_i hc;obtain⟨n,hn⟩:=rF.1 h;exact⟨n+1,by simp_all[run]⟩;rename_i hc;obtain⟨n,hn⟩:=rF.1 h;exact⟨n+1,by simp_all[run]⟩;grind
theorem C6B(id:Nat)(c:MC)(σ:St):pK Φ (.block id c) σ=match pK Φ c σ with|some (.exit j,σ')=>if j=id then some (.normal,σ')else some (.exit j,σ')|r=>r:=by refine GR λr=>?_;rw[rF];constructor;rintro⟨n,hn⟩;cases n<;>grind[run,rF];intro h;cases ha:pK Φ c σ with|none=>simp_all|some x=>obtain⟨n,hn⟩:=rF.1 ha;rw[ha]at h;exact⟨n+1,by grind[run]⟩
open Classical in
noncomputable def E7F{α β:Type}(l:List α)(f:List α->Option β):Option β:=if h:∃r,∀l',aBs l' l->f l'=some r then some h.choose else none
theorem E7U{α β:Type}{l:List α}{f:List α->Option β}{r:β}:E7F l f=some r↔∀l',aBs l' l->f l'=some r:=by unfold E7F;constructor;(. intro h;split at h;all_goals grind);intro h;have hex:∃r,∀l',aBs l' l->f l'=some r:=⟨r,h⟩;rw[dif_pos hex];have h1:=hex.choose_spec l (.refl _);rw[h l (.refl _)]at h1;grind
theorem F0D{c:MC}{x:Nat}{ks ids:List Nat}:∀{l:List (PV×PV)}{σ:St}{r:Ex×St},E4M (pK Φ c) x ks ids l σ=some r->∃n,E4M (run Φ n c) x ks ids l σ=some r|[],_,_,hr=>⟨0,hr⟩|y::l,σ,r,hr=>by simp[E4M]at hr|-;split at hr;rename_i σ' hs;obtain⟨n,hn⟩:=rF.1 hs;obtain⟨m,hm⟩:=F0D hr;refine⟨max n m,?_⟩;grind[GQ,E8h,gZ];grind[rF]
theorem F3f{c c2:MC}{x b0:Nat}{ks ids k2 i2:List Nat}{σ:St}{l:List (PV×PV)}{r:Ex×St}(h:E4U k2 i2 (E41 (pK Φ c2) b0 (E4M (pK Φ c) x ks ids l σ))=some r):∃n,E4U k2 i2 (E41 (run Φ n c2) b0 (E4M (run Φ n c) x ks ids l σ))=some r:=by cases hf:E4M (pK Φ c) x ks ids l σ with|none=>simp_all[E41,E4U]|some z=>obtain⟨n,hn⟩:=F0D hf;rw[hf]at h;(have key:∀m,n<=m->E41 (run Φ m c2) b0 (some z)=E41 (pK Φ c2) b0 (some z)->∃n,E4U k2 i2 (E41 (run Φ n c2) b0 (E4M (run Φ n c) x ks ids l σ))=some r:=by grind[E8h,GQ]);(have tN:∀σ0,pK Φ c2 σ0≠none->∃m,n<=m/\run Φ m c2 σ0=pK Φ c2 σ0:=by intro σ0 hne;cases hr:pK Φ c2 σ0 with|none=>simp_all|some q=>obtain⟨m,hm⟩:=rF.1 hr;exact⟨max n m,iB n m,GQ (gZ n m) hm⟩);obtain⟨e,σ0⟩:=z;cases e with|normal=>obtain⟨m,hm,he⟩:=tN σ0 (λhn=>by simp_all[E41,E4U]);exact key m hm he|ret=>exact key n (ay _) rfl|exit j=>by_cases hj:j=b0;obtain⟨m,hm,he⟩:=tN σ0 (λhn=>by simp_all[E41,E4U]);grind[E41];grind[E41]
theorem F2z(src:dJ)(x:Nat)(ks ids k2 i2:List Nat)(b0:Nat)(c c2:MC)(σ:St):pK Φ (.aBh src x ks ids k2 i2 b0 c c2) σ=match cJ σ.s src with|.p (.mp keys gR)=>E7F (keys.zip gR) λl=>E4U k2 i2 (E41 (pK Φ c2) b0 (E4M (pK Φ c) x ks ids l σ))|_=>none:=by(have key:∀r,pK Φ (.aBh src x ks ids k2 i2 b0 c c2) σ=some r↔(match cJ σ.s src with|.p (.mp keys gR)=>E7F (keys.zip gR) λl=>E4U k2 i2 (E41 (pK Φ c2) b0 (E4M (pK Φ c) x ks ids l σ))|_=>none)=some r:=by intro r;rw[rF];constructor;rintro⟨n,hn⟩;(cases n with|zero=>grind[run]|succ n=>rw[run]at hn;split at hn;rename_i keys gR hs;rw[hs];refine E7U.2 ?_;intro l' hl;have:=F0C (l:=(E8g (keys.zip gR)).map λl=>E41 (run Φ n c2) b0 (E4M (run Φ n c) x ks ids l σ)) (by rw[sk];exact hn) _ (dY (E7L.2 hl));grind[E8i,rF];simp_all);intro h;split at h;rename_i keys gR hs;rw[E7U]at h;(have fin:∀L:List (List (PV×PV)),(∀l∈L,aBs l (keys.zip gR))->∃n,∀l∈L,E4U k2 i2 (E41 (run Φ n c2) b0 (E4M (run Φ n c) x ks ids l σ))=some r:=by intro L;induction L with|nil=>simp|cons l L ih=>intro hL;obtain⟨n,hn⟩:=ih λl hl=>hL l (List.mem_cons_of_mem _ hl);obtain⟨m,hm⟩:=F3f (h l (hL l (dS)));refine⟨max n m,λl' zj=>?_⟩;grind[E8i,GQ,gZ]);obtain⟨n,hn⟩:=fin (E8g (keys.zip gR)) λl hl=>E7L.1 hl;refine⟨n+1,?_⟩;rw[run,hs];refine F1J ?_ ?_;intro Bq;have:keys.zip gR∈E8g (keys.zip gR):=E7L.2 (.refl _);simp_all;simp_all;grind);cases hr:pK Φ (.aBh src x ks ids k2 i2 b0 c c2) σ with|none=>symm;cases hq:(match cJ σ.s src with|.p (.mp keys gR)=>E7F (keys.zip gR) λl=>E4U k2 i2 (E41 (pK Φ c2) b0 (E4M (pK Φ c) x ks ids l σ))|_=>none)<;>simp_all|some r=>grind
theorem C8h(ks ids:List Nat)(c:MC)(σ:St):pK Φ (.loop ks ids c) σ=match pK Φ c (A2D ks ids σ)with|some (.normal,σ')=>pK Φ (.loop ks ids c) σ'|r=>r:=by refine GR λr=>?_;constructor;intro h0;obtain⟨n,hn⟩:=rF.1 h0;cases n<;>grind[run,rF];intro h;refine rF.2 ?_;cases ha:pK Φ c (A2D ks ids σ)with|none=>simp_all|some x=>rw[ha]at h;obtain⟨n,hn⟩:=rF.1 ha;obtain⟨e,σ1⟩:=x;cases e with|normal=>obtain⟨m,hm⟩:=rF.1 h;refine⟨max n m+1,?_⟩;grind[run,GQ,gZ]|exit id=>exact⟨n+1,by grind[run]⟩|ret=>exact⟨n+1,by grind[run]⟩
theorem D1Z{f:Nat}{F:qR}(h:Φ f=some (.code F))(args:List MV)(ext:List (Obj Nat)):KI Φ f args ext=match pK Φ F.body ⟨A2G args,nn ext,1⟩with|some (.normal,σ)=>z6 F ext.length σ|some (.ret,σ)=>z6 F ext.length σ|_=>none:=by unfold KI og;grind
end
def rY:List (Nat×MV)->gB|[],_=>.dead 0|(j,v)::r,k=>if k=j then v else rY r k
def mo:List (Nat×Obj Nat)->cj|[],_=>none|(j,o)::r,k=>if k=j then some o else mo r k
def yR{α:Type}:List (Nat×α)->Nat->α->List (Nat×α)|[],k,v=>[(k,v)]|(j,u)::r,k,v=>if k=j then(k,v)::r else(j,u)::yR r k v
theorem D10(l:List (Nat×MV))(k:Nat)(v:MV):cq (rY l) k v=rY (yR l k v):=by funext i;induction l<;>grind[cq,rY,yR]
theorem C5g(l:List (Nat×Obj Nat))(k:Nat)(o:Obj Nat):cq (mo l) k (some o)=mo (yR l k o):=by funext i;induction l<;>grind[cq,mo,yR]
def CI(args:List MV):Nat->List (Nat×MV)|i=>match args with|[]=>[]|v::r=>(i,v)::CI r (i+1)
theorem C4M(args:List MV):A2G args=rY (CI args 0):=by(have key:∀(args:List MV)(i k:Nat),rY (CI args i) k=if i<=k then args.getD (k-i) (.dead 0)else .dead 0:=by intro args;induction args<;>grind[CI,rY]);grind[A2G]
def DN(ext:List (Obj Nat)):Nat->List (Nat×Obj Nat)|i=>match ext with|[]=>[]|o::r=>(i,o)::DN r (i+1)
theorem C6C(ext:List (Obj Nat)):nn ext=mo (DN ext ep):=by(have key:∀(ext:List (Obj Nat))(i k:Nat),mo (DN ext i) k=if i<=k then ext[k-i]? else none:=by intro ext;induction ext<;>grind[DN,mo]);funext k;rw[key];rfl
def DO(h:cj)(ids:List Nat)(s:gB)(ks:List Nat):List (Nat×MV):=ks.map λk=>(k,jW h (vl ids) jz (s k))
def Bx(h:cj)(ids:List Nat):List (Nat×Obj Nat)->List (Nat×Obj Nat)|[]=>[]|(i,o)::r=>if yp ids i then(i,kH (jW h (vl ids) jz) jz o)::Bx h ids r else Bx h ids r
theorem C05(ks ids:List Nat)(l:List (Nat×MV))(m:List (Nat×Obj Nat))(n:Nat):A2D ks ids ⟨rY l,mo m,n⟩=⟨rY (DO (mo m) ids (rY l) ks),mo (Bx (mo m) ids m),2⟩:=by unfold A2D;congr 1;funext k;simp only[DO];induction ks<;>grind[rY];funext i;(have:∀q:List (Nat×Obj Nat),mo (Bx (mo m) ids q) i=if yp ids i=true then(mo q i).map (kH (jW (mo m) (vl ids) jz) jz)else none:=by intro q;induction q<;>grind[Bx,mo]);simp_all
end Go.Mid
