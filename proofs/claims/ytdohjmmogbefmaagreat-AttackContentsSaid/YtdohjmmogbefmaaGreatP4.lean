/- Chapter 49: the matrix of attacks of the reference. -/
import Derived.Test.YtdohjmmogbefmaaGreatP3
import Derived.Test.YtdohjmmogbefmaaGreatM9
import Derived.Test.YtdohjmmogbefmaaGreatP1
import Derived.Test.YtdohjmmogbefmaaGreatP2
import Derived.KernelRfl
set_option linter.unusedSimpArgs false
set_option linter.unusedVariables false
set_option maxHeartbeats 1000000
open Bool renaming and_eq_true->aj,not_eq_true'->ed,eq_false_iff->aSQ,not_true->bO,not_false->auI,eq_iff_iff->c6
open ByteArray renaming mk->ir
open Classical renaming not_forall->vb,not_imp->aSS
open Go.IntKind renaming u32->cG,i64->ao
open Int renaming natCast_nonneg->aq,toNat_natCast->ar,lt_irrefl->ba,natCast_zero->av,eq_ofNat_of_zero_le->eB
open List renaming getElem?_eq_getElem->ah,any_eq_true->fV,range->bA,length_filter_le->dt,getElem?_set->dD,length_set->iy,getElem?_eq_some_iff->aJ,replicate->au,getElem?_replicate->jY,take_of_length_le->a6,length_append->aR,length_nil->cM,range_succ->jO,flatMap_append->pc,filter_append->eR,append_nil->bD,drop_drop->kp,findIdx?_isSome->aTc,getElem_of_mem->pd,length_take->aW,getElem_take->aBF,length_replicate->fZ,append_assoc->bg,mem_filter->cZ,mem_range->cu,mem_map->bp,length_map->aB,mem_flatMap->gY,mem_filterMap->qv,getElem_mem->aM,take_nil->gH,nil_append->a7,ext_getElem?->fy,getElem?_eq_none->bJ,range'->mJ,range_eq_range'->lr,range'_append_1->aTd,getD->aCf,getElem?_cons_zero->bQ,getElem?_cons_succ->bK,findIdx?_eq_none_iff->ave,map_take->bP,take_range->aTb,all_eq_true->bB,take_length->dM,take->aP
open Nat renaming le_trans->dF,lt_succ_iff_lt_or_eq->mV,le_refl->ay,ble->cQ,ble_eq_true_of_le->auP,succ_mul->du,mul_le_mul->aSZ,pow_le_pow_right->ez,and_le_left->fC,zero_add->bS
open Option renaming bind_some->ai,bind->bc,getD_some->bI
open Option.some renaming injEq->aa
open Prod.mk renaming injEq->ae
namespace Go.Mid
section
variable{keys:List (ByteArray×Int)}{head:List ByteArray}{l:List tI}(q:QV keys head l)
abbrev E8J(keys:List (ByteArray×Int))(head:List ByteArray)(l:List tI):Nat->Nat->Prop:=AG.att l.length (E5S (E4j keys head l)) (E50 (E4j keys head l))
abbrev F2Y(keys:List (ByteArray×Int))(head:List ByteArray)(l:List tI):Nat->ByteArray->Prop:=AG.plus l.length (E5S (E4j keys head l)) (E50 (E4j keys head l))
abbrev F1A(keys:List (ByteArray×Int))(head:List ByteArray)(l:List tI):Nat->Nat->Prop:=AG.Rch l.length (E5S (E4j keys head l)) (E50 (E4j keys head l))
def lk(keys:List (ByteArray×Int))(head:List ByteArray)(l:List tI)(p:List ByteArray)(a b:Nat):Prop:=∃x,E50 (E4j keys head l) a x/\E50 (E4j keys head l) b x/\x∉p
include q in
theorem F3D{a b:Nat}(ha:a<l.length)(hb:b<l.length){p:List ByteArray}(hp:p.length<=100000):∃t,E6B ((head,l),(a:Int),(b:Int),p)=some t/\(t=true↔lk keys head l p a b):=by obtain⟨u,e1,u1,u2⟩:=E85 q ha;obtain⟨v,e2,v1,v2⟩:=E85 q hb;refine⟨u.any λx=>E4Y v x&&!E4Y p x,?_,?_⟩;unfold E6B;have:=wo (f:=E5Y) u (λn=>(p,u,v,(n:Int))) (λx=>E4Y v x&&!E4Y p x) (.inl true) (.inr ()) (λn hn=>by(have rV:(n:Int)<u.length:=by omega);simp only[E5Y,rV,decide_true,cond_true,aq,ar,ah hn,ai,E7T v u[n] (by omega),E7T p u[n] (by omega),iQ (show n<9223372036854775807 by omega)];cases E4Y v u[n]<;>cases E4Y p u[n]<;>rfl) (by simp only[E5Y,ba,decide_false,cond_false]);simp only[av]at this;simp only[e1,e2,ai,this];cases u.any (λx=>E4Y v x&&!E4Y p x)<;>rfl;rw[fV];constructor;rintro⟨x,hx,h⟩;simp only[aj,ed]at h;exact⟨x,(u1.mem x).1 hx,(v1.has x).1 h.1,λm=>by rw[E5Q.2 m]at h;cases h.2⟩;rintro⟨x,h1,h2,h3⟩;refine⟨x,(u1.mem x).2 h1,?_⟩;simp only[aj,ed];exact⟨(v1.has x).2 h2,aSQ.2 λm=>h3 (E5Q.1 m)⟩
structure Mk (keys:List (ByteArray×Int))(head:List ByteArray)(l:List tI)(i:Nat)(s:List Bool):Prop where
 len:s.length=l.length
 st:s[i]?=some true
 rch:∀ k:Nat,s[k]?=some true->F1A keys head l i k
def leM(s t:List Bool):Prop:=∀k:Nat,s[k]?=some true->t[k]?=some true
noncomputable def E9B(N:Nat)(s:List Bool):Nat:=((bA N).filter λk=>s[k]?==some true).length
theorem F4W(N:Nat)(s:List Bool):E9B N s<=N:=by unfold E9B;exact dF (dt ..) (by simp)
theorem F2k{N:Nat}{s t:List Bool}(h:leM s t){k:Nat}(hk:k<N)(h1:t[k]?=some true)(h2:s[k]?≠some true):E9B N s<E9B N t:=by unfold E9B;refine E9A (λx _ hx=>?_) ⟨k,by simpa using hk,by rw[h1];rfl,?_⟩;rw[beq_iff_eq]at hx|-;exact h x hx;rw[beq_eq_false_iff_ne];exact h2
theorem E7h{s:List Bool}{b k:Nat}(hb:b<s.length):(s.set b true)[k]?=some true↔(k=b\/s[k]?=some true):=by rw[dD];by_cases e:b=k;subst e;simp[hb];rw[if_neg e];exact⟨.inr,λh=>h.elim (λh=>(e h.symm).elim) id⟩
include q in
theorem F2Z{i:Nat}(hi:i<l.length){p:List ByteArray}(hp:Lst p (F2Y keys head l i))(qN:p.length<=100000){s t:List Bool}(hst:leM s t)(ht:Mk keys head l i t){a:Nat}(ha:a<l.length)(n:Int):∃u,A0d E4T (((i:Int),p,l.length,n,(a:Int),(0:Int)),(head,l),t)=some (((i:Int),p,l.length,n,(a:Int)),(head,l),u)/\Mk keys head l i u/\leM t u/\(∀b,b<l.length->s[a]?=some true->lk keys head l p a b->u[b]?=some true):=by have hna:=q.na;have key:=V4 (f:=E4T) (S:=List Bool) l.length (λb u=>(((i:Int),p,l.length,n,(a:Int),(b:Int)),(head,l),u)) (λb u=>Mk keys head l i u/\leM t u/\∀b',b'<b->s[a]?=some true->lk keys head l p a b'->u[b']?=some true) (λo=>∃u,o=(((i:Int),p,l.length,n,(a:Int)),(head,l),u)/\Mk keys head l i u/\leM t u/\∀b',b'<l.length->s[a]?=some true->lk keys head l p a b'->u[b']?=some true) t ⟨ht,λ_ h=>h,λb hb=>by omega⟩ (λb u hb hu=>?_) (λu hu=>?_);obtain⟨o,h1,u,rfl,h2⟩:=key;exact⟨u,h1,h2⟩;left;obtain⟨h1,h2,h3⟩:=hu;(have js:(b:Int)<l.length:=by omega);(have hau:a<u.length:=by rw[h1.len];exact ha);(have hbu:b<u.length:=by rw[h1.len];exact hb);(cases hv:u[a]with|false=>refine⟨u,?_,h1,h2,λb' He Wi hl=>?_⟩;simp only[E4T,js,decide_true,cond_true,aq,ar,lB ha,ah hau,ai,hv,cond_false,iQ (show b<9223372036854775807 by omega)];have:=h2 a (hst a Wi);rw[ah hau,hv]at this;cases this|true=>obtain⟨c,e,hc⟩:=F3D q ha hb qN;cases vo:c with|false=>refine⟨u,?_,h1,h2,λb' He Wi hl=>?_⟩;simp only[E4T,js,decide_true,cond_true,aq,ar,lB ha,ah hau,ai,hv,e,vo,cond_false,iQ (show b<9223372036854775807 by omega)];rcases mV.1 He with He|rfl;exact h3 b' He Wi hl;rw[hc.2 hl]at vo;cases vo|true=>(have hR:F1A keys head l i b:=by obtain⟨x,x1,x2,x3⟩:=hc.1 vo;exact .step (h1.rch a (by rw[ah hau,hv])) hb x x1 x2 λm=>x3 ((hp.mem x).2 m));refine⟨u.set b true,?_,⟨by rw[iy];exact h1.len,(E7h hbu).2 (.inr h1.st),λk hk=>?_⟩,λk hk=>(E7h hbu).2 (.inr (h2 k hk)),λb' He Wi hl=>?_⟩;simp only[E4T,js,decide_true,cond_true,aq,ar,lB ha,lB hb,ah hau,ah hbu,ai,hv,e,vo,iQ (show b<9223372036854775807 by omega)];rcases(E7h hbu).1 hk with rfl|hk;exact hR;exact h1.rch k hk;rcases mV.1 He with He|rfl;exact(E7h hbu).2 (.inr (h3 b' He Wi hl));exact(E7h hbu).2 (.inl rfl));refine⟨_,?_,u,rfl,hu⟩;simp only[E4T,ba,decide_false,cond_false]
def E7N(keys:List (ByteArray×Int))(head:List ByteArray)(l:List tI)(p:List ByteArray)(s:List Bool):Prop:=∀a b,a<l.length->b<l.length->s[a]?=some true->lk keys head l p a b->s[b]?=some true
include q in
theorem F20{i:Nat}(hi:i<l.length){p:List ByteArray}(hp:Lst p (F2Y keys head l i))(qN:p.length<=100000){s:List Bool}(hs:Mk keys head l i s)(n:Int):∃u,A0d E5c (((i:Int),p,l.length,n,(0:Int)),(head,l),s)=some (((i:Int),p,l.length,n),(head,l),u)/\Mk keys head l i u/\leM s u/\(E7N keys head l p s\/E9B l.length s<E9B l.length u):=by have hna:=q.na;have key:=V4 (f:=E5c) (S:=List Bool) l.length (λa u=>(((i:Int),p,l.length,n,(a:Int)),(head,l),u)) (λa u=>Mk keys head l i u/\leM s u/\∀a',a'<a->∀b,b<l.length->s[a']?=some true->lk keys head l p a' b->u[b]?=some true) (λo=>∃u,o=(((i:Int),p,l.length,n),(head,l),u)/\Mk keys head l i u/\leM s u/\∀a',a'<l.length->∀b,b<l.length->s[a']?=some true->lk keys head l p a' b->u[b]?=some true) s ⟨hs,λ_ h=>h,λb hb=>by omega⟩ (λa u ha hu=>?_) (λu hu=>?_);obtain⟨o,h1,u,rfl,h2,h3,h4⟩:=key;refine⟨u,h1,h2,h3,?_⟩;by_cases hc:E7N keys head l p s;exact .inl hc;right;unfold E7N at hc;obtain⟨a,hc⟩:=vb.1 hc;obtain⟨b,hc⟩:=vb.1 hc;obtain⟨ha,hc⟩:=aSS.1 hc;obtain⟨hb,hc⟩:=aSS.1 hc;obtain⟨Wi,hc⟩:=aSS.1 hc;obtain⟨hl,hc⟩:=aSS.1 hc;exact F2k h3 hb (h4 a ha b hb Wi hl) hc;left;obtain⟨h1,h2,h3⟩:=hu;(have ha':(a:Int)<l.length:=by omega);obtain⟨v,e,v1,v2,v3⟩:=F2Z q hi hp qN h2 h1 ha n;refine⟨v,?_,v1,λk hk=>v2 k (h2 k hk),λa' Ml b hb Wi hl=>?_⟩;simp only[E5c,ha',decide_true,cond_true];refine(congrArg (λo=>bc o _) e).trans ?_;simp only[ai,iQ (show a<9223372036854775807 by omega)];rcases mV.1 Ml with Ml|rfl;exact v2 b (h3 a' Ml b hb Wi hl);exact v3 b hb Wi hl;refine⟨_,?_,u,rfl,hu⟩;simp only[E5c,ba,decide_false,cond_false]
theorem F0k{i:Nat}{p:List ByteArray}(hp:Lst p (F2Y keys head l i)){s:List Bool}(hs:Mk keys head l i s)(hc:E7N keys head l p s)(k:Nat):s[k]?=some true↔F1A keys head l i k:=by refine⟨hs.rch k,λh=>?_⟩;induction h with|refl=>exact hs.st|step h hb x h1 h2 h3 ih=>rename_i a b;(have ha:a<l.length:=by have:=(aJ.1 ih).1;rw[hs.len]at this;exact this);exact hc a b ha hb ih ⟨x,h1,h2,λm=>h3 ((hp.mem x).1 m)⟩
structure aDO (keys:List (ByteArray×Int))(head:List ByteArray)(l:List tI)(i:Nat)(s:List Bool):Prop where
 len:s.length=l.length
 att:∀ k:Nat,s[k]?=some true↔E8J keys head l i k
include q in
theorem F0x{i:Nat}(hi:i<l.length):∃s,E6g (keys,(head,l),(i:Int))=some s/\aDO keys head l i s:=by have hna:=q.na;obtain⟨p,e,p1,p2⟩:=F2X q hi;(have h0:Mk keys head l i ((au l.length false).set i true):=by(have hl:(au l.length false).length=l.length:=by simp);refine⟨by simp,(E7h (by rw[hl];exact hi)).2 (.inl rfl),λk hk=>?_⟩;rcases(E7h (by rw[hl];exact hi)).1 hk with rfl|hk;exact .refl;rw[jY]at hk;split at hk;simp at hk;cases hk);have key:=V4 (f:=E5B) (S:=List Bool) l.length (λn u=>(((i:Int),p,l.length,(n:Int)),(head,l),u)) (λn u=>Mk keys head l i u/\(E7N keys head l p u\/n+1<=E9B l.length u)) (λo=>∃u,o=(((i:Int),l.length),u)/\Mk keys head l i u/\E7N keys head l p u) ((au l.length false).set i true) ⟨h0,.inr (by have h1:leM (au l.length false) ((au l.length false).set i true):=λk hk=>(E7h (by simpa using hi)).2 (.inr hk);have:=F2k h1 hi h0.st (by rw[jY,if_pos hi];simp);omega)⟩ (λn u hn hu=>?_) (λu hu=>?_);obtain⟨o,h1,u,rfl,h2,h3⟩:=key;(have hiu:i<u.length:=by rw[h2.len];exact hi);refine⟨u.set i false,?_,by rw[iy];exact h2.len,λk=>?_⟩;unfold E6g;(have hg:(au l.length false)[i]?=some false:=by simp[hi]);simp only[e,ai,aq,Int.le_refl,decide_true,cond_true,ar,jE (show l.length*1<=140737488355328 by omega),lB hi,hg];refine(congrArg (λo=>bc o _) h1).trans ?_;simp only[ai,aq,decide_true,cond_true,ar,lB hi,ah hiu,iy,h2.len,jE (ay _)];rw[a6 (by rw[iy,h2.len];exact ay _)];have hr:=F0k p1 h2 h3 k;rw[dD];by_cases ei:i=k;subst ei;rw[if_pos rfl,if_pos hiu];exact⟨λh=>(by cases h),λh=>(h.2.2.1 rfl).elim⟩;rw[if_neg ei,hr];constructor;intro h;refine⟨hi,?_,λe=>ei e.symm,h⟩;have:=(aJ.1 (hr.2 h)).1;rw[h2.len]at this;exact this;exactλh=>h.2.2.2;left;obtain⟨h1,h2⟩:=hu;(have rV:(n:Int)<l.length:=by omega);obtain⟨v,ev,v1,v2,v3⟩:=F20 q hi p1 p2 h1 (n:Int);refine⟨v,?_,v1,?_⟩;simp only[E5B,rV,decide_true,cond_true];refine(congrArg (λo=>bc o _) ev).trans ?_;simp only[ai,iQ (show n<9223372036854775807 by omega)];(have aCP:E7N keys head l p u->E7N keys head l p v:=by intro hc a b ha hb EY hl;have hau:=(F0k p1 h1 hc a).2 (v1.rch a EY);exact v2 b (hc a b ha hb hau hl));rcases h2 with h2|h2;exact .inl (aCP h2);rcases v3 with v3|v3;exact .inl (aCP v3);exact .inr (by omega);obtain⟨h1,h2⟩:=hu;refine⟨_,?_,u,rfl,h1,?_⟩;simp only[E5B,ba,decide_false,cond_false];rcases h2 with h2|h2;exact h2;have:=F4W l.length u;omega
structure aEN (keys:List (ByteArray×Int))(head:List ByteArray)(l:List tI)(M:List (List Bool)):Prop where
 len:M.length=l.length
 row:∀ (i:Nat) r,M[i]?=some r->aDO keys head l i r
include q in
theorem F0P:∃M,E5V (keys,head,l)=some M/\aEN keys head l M:=by have hna:=q.na;have key:=V4 (f:=E5Z) (S:=List (List Bool)) l.length (λi M=>((keys,M.length,(i:Int)),(head,l),M)) (λi M=>M.length=i/\∀k r,M[k]?=some r->aDO keys head l k r) (λo=>∃M,o=(M.length,M)/\M.length=l.length/\∀k r,M[k]?=some r->aDO keys head l k r) [] ⟨rfl,λk r h=>by simp at h⟩ (λi M hi hM=>?_) (λM hM=>?_);obtain⟨o,h1,M,rfl,h2,h3⟩:=key;refine⟨M,?_,h2,h3⟩;unfold E5V;refine(congrArg (λo=>bc o _) h1).trans ?_;simp only[ai,jE (ay _),cond_true,pN];left;obtain⟨h1,h2⟩:=hM;(have hi':(i:Int)<l.length:=by omega);obtain⟨r,e,hr⟩:=F0x q hi;refine⟨M++[r],?_,by simp[h1],λk s hk=>?_⟩;simp only[E5Z,hi',decide_true,cond_true,e,ai,jE (ay _),jE (show(M.length+1)*24<=140737488355328 by omega),pN,iQ (show i<9223372036854775807 by omega),aR,List.length_cons,cM];by_cases YP:k<M.length;rw[List.getElem?_append_left YP]at hk;exact h2 k s hk;rw[List.getElem?_append_right (by omega)]at hk;(have hkk:k=i:=by have:=(aJ.1 hk).1;simp at this;omega);subst hkk;rw[h1,Nat.sub_self]at hk;simp at hk;subst hk;exact hr;obtain⟨h1,h2⟩:=hM;refine⟨_,?_,M,rfl,h1,h2⟩;simp only[E5Z,ba,decide_false,cond_false]
end
end Go.Mid
namespace Go.Mid
def E76(L:List (fb×fb))(o:fb)(a b:Nat):Bool:=match L[a]?,L[b]? with|some x,some y=>x.2.any λp=>D8V eqS p.1 false y.2&&!D8V eqS p.1 false o|_,_=>false
def E7i(L:List (fb×fb))(o:fb)(a n:Nat):List (Int×Int):=(bA n).filterMap λb=>if E76 L o a b then some ((a:Int),(b:Int))else none
theorem F1B(L:List (fb×fb))(o:fb)(a n:Nat):(E7i L o a n).length<=n:=by have:=List.length_filterMap_le (λb=>if E76 L o a b then some ((a:Int),(b:Int))else none) (bA n);rw[List.length_range]at this;exact this
theorem F3E(L:List (fb×fb))(o:fb)(a n:Nat):E7i L o a (n+1)=E7i L o a n++(if E76 L o a n then[((a:Int),(n:Int))]else[]):=by unfold E7i;rw[jO,List.filterMap_append];congr 1;by_cases h:E76 L o a n=true;simp[h];simp[h]
theorem F4b{L:List (fb×fb)}{o:fb}{a:Nat}(ha:a<L.length)(hL:L.length<=1000)(lo io src:Int)(E:List (Int×Int))(hE:E.length<=1000000):A0d E5F ((L,o,E.length,(a:Int),lo,io,(L.length:Int),(0:Int)),src,E)=some ((L,o,(E++E7i L o a L.length).length,lo,io),src,E++E7i L o a L.length):=by have key:=V4 (f:=E5F) (S:=List (Int×Int)) L.length (λi s=>((L,o,s.length,(a:Int),lo,io,(L.length:Int),(i:Int)),src,s)) (λi s=>s=E++E7i L o a i) (λb=>b=((L,o,(E++E7i L o a L.length).length,lo,io),src,E++E7i L o a L.length)) E (by simp[E7i]) (λi s hi hs=>?_) (λs hs=>?_);obtain⟨b,h1,h2⟩:=key;rw[h2]at h1;exact h1;left;refine⟨E++E7i L o a (i+1),?_,rfl⟩;subst hs;(have hi':(i:Int)<L.length:=by omega);(have hlk:E6i (L[a],L[i],o)=some (E76 L o a i):=by rw[E9v];simp only[E76,ah ha,ah hi]);have b1:cQ (E++E7i L o a i).length (E++E7i L o a i).length=true:=auP (ay _);(have b2:cQ (((E++E7i L o a i).length+1)*16) 140737488355328=true:=by refine auP ?_;have:=F1B L o a i;rw[aR];omega);simp only[E5F,hi',decide_true,cond_true,aq,ar,ah hi,ah ha,ai,hlk,iQ (show i<9223372036854775807 by omega),b1,b2];rw[F3E];cases E76 L o a i;simp;simp[a6];omega;subst hs;refine⟨_,?_,rfl⟩;simp only[E5F,ba,decide_false,cond_false]
def E5j(L:List (fb×fb))(o:fb)(n:Nat):List (Int×Int):=(bA n).flatMap λa=>E7i L o a L.length
theorem E9N(L:List (fb×fb))(o:fb)(n:Nat):E5j L o (n+1)=E5j L o n++E7i L o n L.length:=by unfold E5j;rw[jO,pc];simp
theorem E87(L:List (fb×fb))(o:fb):∀n,(E5j L o n).length<=n*L.length|0=>by simp[E5j]|n+1=>by rw[E9N,aR,du];have:=E87 L o n;have:=F1B L o n L.length;omega
theorem F21{L:List (fb×fb)}{o:fb}(hL:L.length<=1000)(src:Int):A0d E5G ((L,o,(0:Nat),(L.length:Int),(0:Int)),src,[])=some ((L,(E5j L o L.length).length),src,E5j L o L.length):=by have key:=V4 (f:=E5G) (S:=List (Int×Int)) L.length (λi s=>((L,o,s.length,(L.length:Int),(i:Int)),src,s)) (λi s=>s=E5j L o i) (λb=>b=((L,(E5j L o L.length).length),src,E5j L o L.length)) [] (by simp[E5j]) (λi s hi hs=>?_) (λs hs=>?_);obtain⟨b,h1,h2⟩:=key;rw[h2]at h1;exact h1;left;refine⟨E5j L o (i+1),?_,rfl⟩;subst hs;(have hi':(i:Int)<L.length:=by omega);(have hlen:(E5j L o i).length<=1000000:=by have:=E87 L o i;have:i*L.length<=1000*1000:=aSZ (by omega) hL;omega);have hr:=F4b (o:=o) hi hL (L.length:Int) (i:Int) src (E5j L o i) hlen;simp only[E5G,hi',decide_true,cond_true];refine(congrArg (λq=>bc q _) hr).trans ?_;simp only[ai,iQ (show i<9223372036854775807 by omega),E9N];subst hs;refine⟨_,?_,rfl⟩;simp only[E5G,ba,decide_false,cond_false]
end Go.Mid
namespace Go.Mid
theorem F1C(l:List Int)(a:Int)(hl:l.length<=1000000):E4D (l,a)=some (match l.findIdx? (λx=>x==a)with|some i=>(i:Int)|none=>-1):=by unfold E4D;have:=Ma (f:=E4y) l (λi=>(l,a,(l.length:Int),(i:Int))) (λ_ b=>b==a) (λi=>.inl (i:Int)) (.inr ()) (λi hi=>by(have hi':(i:Int)<l.length:=by omega);simp only[E4y,E5l,hi',decide_true,cond_true,aq,ar,ah hi,ai,iQ (show i<9223372036854775807 by omega)];cases l[i]==a<;>rfl) (by simp only[E4y,ba,decide_false,cond_false]);simp only[av]at this;rw[this,D86];cases l.findIdx? (λb=>b==a)<;>simp
def E7E(a:Int)(l:List Int):List Int:=l.filter λx=>x !=a
theorem F1Y{l:List Int}{a:Int}(hl:l.length<=1000000){y:Nat}(hy:y<l.length)(hya:l[y]=a)(hb:∀x∈l.take y,x≠a):∃(u:List Int)(w:Nat),A0d E4E ((l.length,(y:Int),((y+1:Nat):Int)),l,a)=some ((l.length,(w:Int)),u,a)/\u.length=l.length/\w<=l.length/\u.take w=E7E a l:=by have hk0:E7E a (l.take y)=l.take y:=List.filter_eq_self.2 λx hx=>bne_iff_ne.2 (hb x hx);(have Ic:E7E a (l.take (y+1))=l.take y:=by unfold E7E;rw[vz hy,eR,hya];simp only[List.filter_cons,bne_self_eq_false,Bool.false_eq_true,if_false,List.filter_nil,bD];exact hk0);have key:=C3H (f:=E4E) (S:=List Int×Nat) l.length (λj s=>((l.length,(s.2:Int),(j:Int)),s.1,a)) (λj s=>y<j/\s.1.length=l.length/\s.2<j/\s.1.take s.2=E7E a (l.take j)/\s.1.drop j=l.drop j) (λo=>∃u w,o=((l.length,((w:Nat):Int)),u,a)/\u.length=l.length/\w<=l.length/\u.take w=E7E a l) (λj s hj hs=>?_) (λs hs=>?_) (l.length-(y+1)) (y+1) (l,y) (by omega) ⟨by omega,rfl,by simp,Ic.symm,rfl⟩;obtain⟨o,h1,u,w,rfl,h2⟩:=key;exact⟨u,w,h1,h2⟩;left;obtain⟨h0,h1,h2,h3,h4⟩:=hs;(have Dy:(j:Int)<l.length:=by omega);(have hju:j<s.1.length:=by omega);(have hwu:s.2<s.1.length:=by omega);(have hg:s.1[j]=l[j]:=by have:=congrArg (·[0]?) h4;simp only[List.getElem?_drop,Nat.add_zero,ah hj,ah hju,aa]at this;exact this);(have N9:s.1.drop (j+1)=l.drop (j+1):=by rw[<-kp,h4,kp]);(have ht:E7E a (l.take (j+1))=E7E a (l.take j)++(if l[j]=a then[]else[l[j]]):=by unfold E7E;rw[vz hj,eR];congr 1;by_cases e:l[j]=a;simp[e];simp[e]);by_cases e:l[j]=a;refine⟨(s.1,s.2),?_,by omega,h1,by omega,by rw[ht,if_pos e,bD,h3],N9⟩;simp only[E4E,Dy,decide_true,cond_true,aq,ar,lB hj,ah hju,ai,E5l,hg,e,beq_self_eq_true,bO,cond_false,iQ (show j<9223372036854775807 by omega)];have hbe:(l[j]==a)=false:=beq_eq_false_iff_ne.2 e;refine⟨(s.1.set s.2 l[j],s.2+1),?_,by omega,by rw[iy];exact h1,by omega,?_,?_⟩;simp only[E4E,Dy,decide_true,cond_true,aq,ar,lB hj,ah hju,ai,E5l,hg,hbe,auI,lB (show s.2<l.length by omega),ah hwu,iQ (show j<9223372036854775807 by omega),iQ (show s.2<9223372036854775807 by omega)];rw[ht,if_neg e,<-h3];(have eC:s.2<(s.1.set s.2 l[j]).length:=by rw[iy];exact hwu);show(s.1.set s.2 l[j]).take (s.2+1)=_;rw[vz eC,List.getElem_set_self,List.take_set_of_le (ay _)];show(s.1.set s.2 l[j]).drop (j+1)=_;rw[List.drop_set_of_lt (by omega),N9];obtain⟨h0,h1,h2,h3,h4⟩:=hs;refine⟨_,?_,s.1,s.2,rfl,h1,by omega,by rw[h3,pN]⟩;simp only[E4E,ba,decide_false,cond_false]
theorem F0T{l:List Int}{a:Int}(hl:l.length<=1000000)(ha:a∈l):∃(u:List Int)(w:Nat),E46 (l.length,l,a)=some (w,u,a)/\w<=u.length/\u.take w=E7E a l:=by(have hs:(l.findIdx? λx=>x==a).isSome=true:=by rw[aTc,fV];exact⟨a,ha,by simp⟩);obtain⟨y,hy⟩:=Option.isSome_iff_exists.1 hs;obtain⟨hyl,hya,hyb⟩:=List.findIdx?_eq_some_iff_getElem.1 hy;obtain⟨u,w,h1,h2,h3,h4⟩:=F1Y (a:=a) hl hyl (by simpa using hya) (λx hx=>by obtain⟨j,hj,rfl⟩:=pd hx;rw[aW]at hj;have:=hyb j (by omega);rw[aBF];simpa using this);refine⟨A1x u (some w) (au (l.length-w) 0),w,?_,?_,?_⟩;unfold E46;have hi:=F1C l a hl;rw[hy]at hi;(have hne:((y:Int)==(-1:Int))=false:=by rw[beq_eq_false_iff_ne];omega);simp only[jE (ay _),pN,cond_true,hi,ai,hne,cond_false,iQ (show y<9223372036854775807 by omega)];refine(congrArg (λo=>bc o _) h1).trans ?_;simp only[ai,aq,decide_true,cond_true,ar,jE h3];rw[jE (by rw[fZ,h2];omega)];rfl;unfold A1x;simp only[aR,aW,fZ,List.length_drop];omega;unfold A1x;simp only;rw[bg,List.take_append_of_le_length (by rw[aW];omega),List.take_take,Nat.min_self,h4]
end Go.Mid
namespace Go.Mid
section
variable{keys:List (ByteArray×Int)}{head:List ByteArray}{l:List tI}(q:QV keys head l)
noncomputable def E91(keys:List (ByteArray×Int))(head:List ByteArray)(l:List tI)(i:Nat):List Nat:=by classical exact(bA l.length).filter λk=>decide (E8J keys head l i k)
noncomputable def E7j(keys:List (ByteArray×Int))(head:List ByteArray)(l:List tI)(i:Nat):List Int:=(E91 keys head l i).map λk:Nat=>(k:Int)
theorem F1D{i k:Nat}:k∈E91 keys head l i↔E8J keys head l i k:=by classical unfold E91;rw[cZ,cu,decide_eq_true_eq];exact⟨λh=>h.2,λh=>⟨h.2.1,h⟩⟩
theorem E92{i:Nat}{x:Int}:x∈E7j keys head l i↔∃k:Nat,x=(k:Int)/\E8J keys head l i k:=by unfold E7j;rw[bp];exact⟨λ⟨k,h,e⟩=>⟨k,e.symm,F1D.1 h⟩,λ⟨k,e,h⟩=>⟨k,F1D.2 h,e.symm⟩⟩
theorem F4d(i:Nat):(E91 keys head l i).Pairwise (·<·):=by classical unfold E91;exact List.Pairwise.filter _ List.pairwise_lt_range
theorem F4e(i:Nat):(E7j keys head l i).Pairwise (·<·):=by unfold E7j;rw[List.pairwise_map];exact(F4d i).imp λh=>by omega
theorem E93(i:Nat):(E7j keys head l i).length<=l.length:=by unfold E7j E91;rw[aB];exact dF (dt ..) (by simp)
theorem F4f:∀s∈E4j keys head l,SE s.2:=λs hs=>by unfold E4j at hs;obtain⟨a,_,rfl⟩:=bp.1 hs;exact(E9V keys head a).ok2
theorem F0Q{z:fb}(hz:SE z){a b:Nat}(ha:a<l.length)(hb:b<l.length):E76 (E4j keys head l) z a b=true↔∃x,E50 (E4j keys head l) a x/\E50 (E4j keys head l) b x/\x∉nb z:=by(have ha':a<(E4j keys head l).length:=by rw[E79];exact ha);(have js:b<(E4j keys head l).length:=by rw[E79];exact hb);obtain⟨t,h1,h2⟩:=F2S ha' js F4f hz;rw[E9v,aa]at h1;rw[<-h2,<-h1];unfold E76;simp only[ah ha',ah js]
theorem E88{z:fb}{N:Nat}(hN:(E4j keys head l).length=N){u w:Int}:(u,w)∈E5j (E4j keys head l) z N↔∃a b:Nat,u=(a:Int)/\w=(b:Int)/\a<N/\b<N/\E76 (E4j keys head l) z a b=true:=by unfold E5j E7i;rw[gY];constructor;rintro⟨a,ha,h⟩;obtain⟨b,hb,h⟩:=qv.1 h;split at h;rename_i hl;simp only[aa,ae]at h;exact⟨a,b,h.1.symm,h.2.symm,cu.1 ha,by rw[<-hN];exact cu.1 hb,hl⟩;cases h;rintro⟨a,b,rfl,rfl,ha,hb,hl⟩;refine⟨a,cu.2 ha,qv.2 ⟨b,cu.2 (by rw[hN];exact hb),?_⟩⟩;rw[if_pos hl]
include q in
theorem E9O{i:Nat}(hi:i<l.length):E6s (E4j keys head l,(i:Int))=some (E7j keys head l i):=by have hna:=q.na;have hL:=E79 (keys:=keys) (head:=head) (l:=l);(have hiL:i<(E4j keys head l).length:=by rw[hL];exact hi);obtain⟨z,e1,z1,z2⟩:=F4S (l:=E4j keys head l) (by omega) hiL;have aGp:=F21 (L:=E4j keys head l) (o:=z) (by omega) (i:Int);have aM6:=E87 (E4j keys head l) z (E4j keys head l).length;(have aKd:(E5j (E4j keys head l) z (E4j keys head l).length).length<=36:=by have:(E4j keys head l).length*(E4j keys head l).length<=6*6:=aSZ (by omega) (by omega);omega);(have CT:∀e∈E5j (E4j keys head l) z (E4j keys head l).length,HL ((E4j keys head l).length:Int) e=false:=by rintro⟨u,w⟩he;obtain⟨a,b,rfl,rfl,ha,hb,_⟩:=(E88 rfl).1 he;rw[aSQ];intro He;rw[XD]at He;simp only at He;omega);(have hvalid:JK ((E4j keys head l).length:Int) (E5j (E4j keys head l) z (E4j keys head l).length)=0:=by unfold JK;rw[if_neg (by omega),if_neg (by omega),if_neg (by omega),if_neg];rw[fV];rintro⟨e,he,hb⟩;rw[CT e he]at hb;cases hb);obtain⟨out,_,e2,r⟩:=F0y hvalid hiL (by omega);(have aKe:∀x:Int,x∈out↔∃k:Nat,x=(k:Int)/\k<l.length/\F1A keys head l i k:=by intro x;constructor;intro hx;refine r.min (λx=>∃k:Nat,x=(k:Int)/\k<l.length/\F1A keys head l i k) ⟨i,rfl,hi,.refl⟩ ?_ x hx;rintro u w⟨a,rfl,ha,hr⟩he;obtain⟨a',b,h1,rfl,_,hb,hl⟩:=(E88 rfl).1 he;(have:a'=a:=by omega);subst this;rw[hL]at hb;obtain⟨y,y1,y2,y3⟩:=(F0Q z1 ha hb).1 hl;exact⟨b,rfl,hb,.step hr hb y y1 y2 λm=>y3 ((z2 y).2 (by rw[hL];exact m))⟩;rintro⟨k,rfl,hk,hr⟩;induction hr with|refl=>exact r.st|step h hb y y1 y2 y3 ih=>rename_i a b;(have ha:a<l.length:=by obtain⟨s,h1,_⟩:=y1;have:=F4j h1;rw[hL]at this;exact this);refine r.cl _ (ih ha) _ ((E88 rfl).2 ⟨a,b,rfl,rfl,by omega,by omega,(F0Q z1 ha hb).2 ⟨y,y1,y2,λm=>y3 ?_⟩⟩);have:=(z2 y).1 m;rw[hL]at this;exact this);have aM7:=r.len;obtain⟨u,w,e3,w1,w2⟩:=F0T (l:=out) (a:=(i:Int)) (by omega) r.st;(have aKf:E7E (i:Int) out=E7j keys head l i:=by refine F5D (List.Pairwise.filter _ r.asc) (F4e i) λx=>?_;rw[E92,show E7E (i:Int) out=out.filter (λx=>x !=(i:Int))from rfl,cZ,aKe,bne_iff_ne];constructor;rintro⟨⟨k,rfl,hk,hr⟩,hne⟩;exact⟨k,rfl,hi,hk,by omega,hr⟩;rintro⟨k,rfl,h⟩;have YP:=h.2.1;have hne:=h.2.2.1;exact⟨⟨k,rfl,h.2.1,h.2.2.2⟩,by omega⟩);unfold E6s;simp only[aq,decide_true,cond_true,ar,ah hiL,ai,e1];refine(congrArg (λo=>bc o _) aGp).trans ?_;simp only[ai,jE (ay _),cond_true,pN,e2,e3,jE w1,w2,aKf]
noncomputable def E6y(keys:List (ByteArray×Int))(head:List ByteArray)(l:List tI)(n:Nat):List (Int×Int):=(bA n).flatMap λi=>(E7j keys head l i).map λk=>((i:Int),k)
theorem E8K(n:Nat):E6y keys head l (n+1)=E6y keys head l n++(E7j keys head l n).map λk=>((n:Int),k):=by unfold E6y;rw[jO,pc];simp
theorem E8n:∀n,(E6y keys head l n).length<=n*l.length|0=>by simp[E6y]|n+1=>by rw[E8K,aR,aB,du];have:=E8n n;have:=E93 (keys:=keys) (head:=head) (l:=l) n;omega
noncomputable abbrev E8c(keys:List (ByteArray×Int))(head:List ByteArray)(l:List tI):List (Int×Int):=E6y keys head l l.length
theorem F1E(hna:l.length<=6):(E8c keys head l).length<=36:=by have h1:=E8n (keys:=keys) (head:=head) (l:=l) l.length;have:l.length*l.length<=6*6:=aSZ (by omega) (by omega);exact dF h1 (by omega)
theorem F7m{u w:Int}:(u,w)∈E8c keys head l↔∃a b:Nat,u=(a:Int)/\w=(b:Int)/\E8J keys head l a b:=by unfold E8c E6y;rw[gY];constructor;rintro⟨a,_,h⟩;obtain⟨k,hk,h⟩:=bp.1 h;obtain⟨b,rfl,hb⟩:=E92.1 hk;simp only[ae]at h;exact⟨a,b,h.1.symm,h.2.symm,hb⟩;rintro⟨a,b,rfl,rfl,h⟩;exact⟨a,cu.2 h.1,bp.2 ⟨(b:Int),E92.2 ⟨b,rfl,h⟩,rfl⟩⟩
theorem F5G{L:List (fb×fb)}(y:List Int)(hy:y.length<=1000)(i n m:Int)(E:List (Int×Int))(hE:E.length<=1000):A0d E5r ((L,E.length,i,n,m,y,(y.length:Int),(0:Int)),E)=some ((L,(E++y.map λk=>(i,k)).length,n,m),E++y.map λk=>(i,k)):=by have key:=V4 (f:=E5r) (S:=List (Int×Int)) y.length (λj s=>((L,s.length,i,n,m,y,(y.length:Int),(j:Int)),s)) (λj s=>s=E++(y.take j).map λk=>(i,k)) (λb=>b=((L,(E++y.map λk=>(i,k)).length,n,m),E++y.map λk=>(i,k))) E (by simp) (λj s hj hs=>?_) (λs hs=>?_);obtain⟨b,h1,h2⟩:=key;rw[h2]at h1;exact h1;left;refine⟨_,?_,rfl⟩;(have Dy:(j:Int)<y.length:=by omega);(have hlen:s.length<=2000:=by rw[hs];simp;omega);simp only[E5r,Dy,decide_true,cond_true,aq,ar,ah hj,ai,jE (ay _),jE (show(s.length+1)*16<=140737488355328 by omega),pN,iQ (show j<9223372036854775807 by omega)];(have e:E++(y.take (j+1)).map (λk=>(i,k))=s++[(i,y[j])]:=by rw[hs,vz hj,List.map_append,bg];rfl);rw[e];simp;rw[pN]at hs;subst hs;refine⟨_,?_,rfl⟩;simp only[E5r,ba,decide_false,cond_false]
include q in
theorem F1F:E6F (E4j keys head l)=some ((E8c keys head l).length,E8c keys head l):=by have hna:=q.na;have hL:=E79 (keys:=keys) (head:=head) (l:=l);have key:=V4 (f:=E56) (S:=List (Int×Int)) l.length (λi s=>((E4j keys head l,s.length,((E4j keys head l).length:Int),(i:Int)),s)) (λi s=>s=E6y keys head l i) (λb=>b=((E8c keys head l).length,E8c keys head l)) [] (by simp[E6y]) (λi s hi hs=>?_) (λs hs=>?_);obtain⟨b,h1,h2⟩:=key;rw[h2]at h1;unfold E6F;refine(congrArg (λo=>bc o _) h1).trans ?_;rfl;left;refine⟨_,?_,rfl⟩;subst hs;(have hi':(i:Int)<((E4j keys head l).length:Int):=by rw[hL];omega);have Aw:=E93 (keys:=keys) (head:=head) (l:=l) i;(have Wn:(E6y keys head l i).length<=36:=by have:=E8n (keys:=keys) (head:=head) (l:=l) i;have:i*l.length<=6*6:=aSZ (by omega) (by omega);omega);have hr:=F5G (L:=E4j keys head l) (E7j keys head l i) (by omega) (i:Int) ((E4j keys head l).length:Int) (i:Int) (E6y keys head l i) (by omega);simp only[E56,hi',decide_true,cond_true,E9O q hi,ai];refine(congrArg (λo=>bc o _) hr).trans ?_;simp only[ai,iQ (show i<9223372036854775807 by omega),E8K];subst hs;refine⟨_,?_,rfl⟩;simp only[E56,hL,ba,decide_false,cond_false]
include q in
theorem F71:F7o (E4j keys head l)=some (E8c keys head l):=by have h:=F1F q;unfold E6F at h;unfold F7o;have e:F7x=E56:=rfl;rw[e];cases hx:A0d E56 ((E4j keys head l,0,((E4j keys head l).length:Int),(0:Int)),[])with|none=>rw[hx]at h;cases h|some v=>rw[hx]at h;simp only[ai,aa,ae]at h;simp only[ai,h.1,h.2,jE (ay _),cond_true,pN]
abbrev F4k(keys:List (ByteArray×Int))(head:List ByteArray)(l:List tI):Nat->Nat->Prop:=AG.aJU l.length (E5S (E4j keys head l)) (E50 (E4j keys head l))
include q in
theorem F4Y{i k:Nat}(hi:i<l.length)(hk:k<l.length):∃t,E73 (E4j keys head l,(i:Int),(k:Int))=some t/\E67 (keys,(head,l),(i:Int),(k:Int))=some t/\(t=true↔F4k keys head l i k):=by have hna:=q.na;have hL:=E79 (keys:=keys) (head:=head) (l:=l);(have hiL:i<(E4j keys head l).length:=by rw[hL];exact hi);(have hkL:k<(E4j keys head l).length:=by rw[hL];exact hk);(have kA:∀{j:Nat}(hj:j<(E4j keys head l).length)(z:ByteArray),z∈nb (E4j keys head l)[j].1↔E5S (E4j keys head l) j z:=λ{j}hj z=>by unfold E5S;rw[ah hj];exact⟨λh=>⟨_,rfl,h⟩,λ⟨a,e,h⟩=>by rw[aa]at e;subst e;exact h⟩);obtain⟨s,e1,s1,s2⟩:=F0i (L:=E4j keys head l) (v:=(E4j keys head l)[i].1) (but:=(-1:Int)) (by omega);(have eS:(λz=>z∈nb (E4j keys head l)[i].1)=E5S (E4j keys head l) i:=by funext z;exact propext (kA hiL z));(have s3:∀z,z∈nb s↔AG.D l.length (E5S (E4j keys head l)) (E50 (E4j keys head l)) none (E5S (E4j keys head l) i) z:=λz=>by rw[s2,F5B F1z,hL,eS]);obtain⟨ki,f1,i1,i2⟩:=E8A q hi;obtain⟨kk,f2,k1,k2⟩:=E8A q hk;obtain⟨t,f3,t1,t2⟩:=E9a q F1z i1.nd (by omega);(have eT:(λz=>z∈ki)=E5S (E4j keys head l) i:=by funext z;exact propext (i1.mem z));rw[eT]at t1;have hw:=D87 k1 t1;refine⟨kk.all (E4Y t),?_,?_,hw⟩;unfold E73;simp only[aq,decide_true,cond_true,ar,ah hiL,ah hkL,ai,e1];have hc:=E9u (a:=s) (b:=(E4j keys head l)[k].1) s1;rw[E7B]at hc|-;rw[ai];refine congrArg some ?_;rw[c6,hw];rw[aa]at hc;rw[hc];exact⟨λh z hz=>(s3 z).1 (h z ((kA hkL z).2 hz)),λh z hz=>(s3 z).2 (h z ((kA hkL z).1 hz))⟩;unfold E67;simp only[f1,f2,f3,ai,F0J (show kk.length<=1000000 by omega) (show t.length<=1000000 by omega)]
end
end Go.Mid
namespace Go.Mid
theorem F5H{c:E8l}(ok:OkC c)(h4:c.1.length<=4)(hf:F36 c){hd:List ByteArray}(h5:hd.length<=5):Sz (E5p c.1 c.1.length) (E5f c.1 c.1.length) hd (E4P c.1 c.1.length)where
 tb:=λt ht=>by unfold E5p at ht;obtain⟨i,hi,rfl⟩:=bp.1 ht;refine⟨λr hr=>(by cases hr),?_⟩;have:aB0.length=4:=rfl;simp only[aW];omega
 nk:=by rw[E9z];omega
 kr:=λk hk=>by unfold E5f at hk;obtain⟨i,hi,rfl⟩:=bp.1 hk;have hi:=cu.1 hi;have h1:=(ok.1 _ (aM hi)).2;rw[F2j hi]at h1;have hfi:=hf i hi;have hw:cG.wrap (atC c.1 i).2=(atC c.1 i).2:=F1s h1.1 (by omega);obtain⟨m,hm⟩:=eB h1.1;have hp:2^(atC c.1 i).1.length<=2^4:=ez (by omega) hfi;show 0<=pL cG (cG.wrap (atC c.1 i).2) _/\pL cG (cG.wrap (atC c.1 i).2) _<4294967296;rw[hw,hm,F2f (by unfold w32;omega) (by unfold w32;omega)];have:=@fC m (2^(atC c.1 i).1.length-1);omega
 nh:=by omega
 na:=by rw[E8m];omega
 nt:=λa ha=>by unfold E4P at ha;obtain⟨i,hi,rfl⟩:=bp.1 ha;have:=hf i (cu.1 hi);simp only[aB];omega
theorem F1G{keys:List (ByteArray×Int)}{head:List ByteArray}{ats:List tI}(q:QV keys head ats):E6D (keys,head,ats)=some (E4j keys head ats):=F3T keys head ats q.nk q.nh (by have:=q.na;omega) λa ha=>by have:=q.nt a ha;omega
section
variable{aSP:List E4Z}{keys:List (ByteArray×Int)}{head:List ByteArray}{ats:List tI}(z:Sz aSP keys head ats)
include z
theorem F23:E7t (aSP,keys,head,ats)=some (if E7w aSP keys head ats=0 then(E8c keys head ats,0)else([],E7w aSP keys head ats)):=by unfold E7t;simp only[F0N z,ai];by_cases h:E7w aSP keys head ats=0;have q:=F2T z h;have hl:=F1E (keys:=keys) (head:=head) q.na;rw[if_pos h];simp only[h,bne_self_eq_false,cond_false,F1G q,ai,F1F q,jE (ay _),cond_true,pN];rw[if_neg h];simp only[bne_iff_ne.2 h,cond_true,show cQ 0 0=true from rfl,gH]
end
theorem F1H(l:List Int)(a:Int)(hl:l.length<=1000000):A7r (l,a)=some (l.any λb=>a==b):=by unfold A7r MJ;have:=Ma (f:=QL) l (λi=>(l,a,(l.length:Int),(i:Int))) (λ_ b=>a==b) (λi=>.inl (i:Int)) (.inr ()) (λi hi=>by(have hi':(i:Int)<l.length:=by omega);simp only[QL,hi',decide_true,cond_true,aq,ar,ah hi,ai,iQ (show i<9223372036854775807 by omega)];cases a==l[i]<;>rfl) (by simp only[QL,ba,decide_false,cond_false]);simp only[av]at this;rw[this,<-Qm (λb=>a==b) l 0];cases tm (λ_ b=>a==b) l 0 with|none=>rfl|some i=>simp
section
variable{aSP:List E4Z}{keys:List (ByteArray×Int)}{head:List ByteArray}{ats:List tI}(z:Sz aSP keys head ats)
include z
end
theorem F1Z(l:List (Int×Int))(hl:l.length<=1000000):E5i (l,l)=some true:=by unfold E5i;simp only[bne_self_eq_false,cond_false];have:=wo (f:=E5a) l (λi=>(l,l,(l.length:Int),(i:Int))) (λ_=>false) (.inl false) (.inr ()) (λi hi=>by(have hi':(i:Int)<l.length:=by omega);simp only[E5a,hi',decide_true,cond_true,aq,ar,ah hi,ai,iQ (show i<9223372036854775807 by omega)];simp) (by simp only[E5a,ba,decide_false,cond_false]);simp only[av]at this;rw[this];simp
end Go.Mid
namespace Go.Mid
theorem F72(f:Nat->Nat->Bool)(k j:Nat):F7l f k k j=f k j:=by unfold F7l;cases f k j<;>cases f k k<;>rfl
theorem F73(f:Nat->Nat->Bool)(k i:Nat):F7l f k i k=f i k:=by unfold F7l;cases f i k<;>cases f k k<;>rfl
theorem F8d(F:Nat->Nat->Bool)(j i k x:Nat):F66 F j i k j x=F j x:=by unfold F66;split;exact F72 F j x;rfl
theorem F8e(F:Nat->Nat->Bool)(j i k x:Nat):F66 F j i k x j=F x j:=by unfold F66;split;exact F73 F j x;rfl
theorem F7L{F:Nat->Nat->Bool}{j i k:Nat}:(λa b=>if a=i/\b=k then F7l F j i k else F66 F j i k a b)=F66 F j i (k+1):=by funext a b;unfold F66;by_cases e:a=i/\b=k;obtain⟨rfl,rfl⟩:=e;rw[if_pos ⟨rfl,rfl⟩,if_pos (.inr ⟨rfl,by omega⟩)];rw[if_neg e];by_cases h:a<i\/(a=i/\b<k);rw[if_pos h,if_pos (by omega)];rw[if_neg h,if_neg (by omega)]
theorem F8j{n j i:Nat}{F:Nat->Nat->Bool}(hn:n<=1000)(hj:j<n)(hi:i<n):A0d F67 ((n,(j:Int),(i:Int),(0:Int)),mat n (F66 F j i 0))=some ((n,(j:Int),(i:Int)),mat n (F66 F j i n)):=by refine tQ (f:=F67) n (λk=>((n,(j:Int),(i:Int),(k:Int)),mat n (F66 F j i k))) ((n,(j:Int),(i:Int)),mat n (F66 F j i n)) (λk hk=>?_) ?_;(have nq:(k:Int)<(n:Int):=by omega);have gi:=F7p (f:=F66 F j i k) hi;have gj:=F7p (f:=F66 F j i k) hj;have rl:∀g:Nat->Bool,(BU n g).length=n:=λg=>Rr n g;have r1:=Rs (g:=F66 F j i k i) hj;have r2:=Rs (g:=F66 F j i k j) hk;have r3:=Rs (g:=F66 F j i k i) hk;rw[F8e]at r1;rw[F8d]at r2;(have old:F66 F j i k i k=F i k:=by unfold F66;rw[if_neg (by omega)]);(have same:F7l F j i k=F i k->mat n (F66 F j i (k+1))=mat n (F66 F j i k):=λh=>by rw[<-F7L];refine F7J λa b _ _=>?_;by_cases e:a=i/\b=k;obtain⟨rfl,rfl⟩:=e;rw[if_pos ⟨rfl,rfl⟩,h,old];rw[if_neg e]);(cases h1:F i j with|false=>rw[same (by unfold F7l;rw[h1];simp)];simp only[F67,nq,decide_true,cond_true,aq,ar,lB hi,gi,ai,rl,lB hj,r1,h1,cond_false,iQ (show k<9223372036854775807 by omega)]|true=>cases h2:F j k with|false=>rw[same (by unfold F7l;rw[h1,h2];simp)];simp only[F67,nq,decide_true,cond_true,aq,ar,lB hi,gi,gj,ai,rl,lB hj,lB hk,r1,r2,h1,h2,cond_false,iQ (show k<9223372036854775807 by omega)]|true=>(have hw:F7l F j i k=true:=by unfold F7l;rw[h1,h2];simp);(have sB:(mat n (F66 F j i k)).set i ((BU n (F66 F j i k i)).set k true)=mat n (F66 F j i (k+1)):=by rw[F8F hi hk,<-F7L,hw]);simp only[F67,nq,decide_true,cond_true,aq,ar,lB hi,gi,gj,ai,rl,lB hj,lB hk,r1,r2,r3,h1,h2,iy,beq_self_eq_true,sB,iQ (show k<9223372036854775807 by omega)]);simp only[F67,ba,decide_false,cond_false]
theorem F7O{F:Nat->Nat->Bool}{n j i:Nat}:mat n (F66 F j i n)=mat n (F66 F j (i+1) 0):=F7J λa b _ hb=>by unfold F66;by_cases h:a<i\/(a=i/\b<n);rw[if_pos h,if_pos (by omega)];rw[if_neg h,if_neg (by omega)]
theorem F8k{n j:Nat}{F:Nat->Nat->Bool}(hn:n<=1000)(hj:j<n):A0d F7d ((n,(j:Int),(0:Int)),mat n F)=some ((n,(j:Int)),mat n (F7l F j)):=by(have h0:mat n F=mat n (F66 F j 0 0):=F7J λa b _ _=>by unfold F66;rw[if_neg (by omega)]);(have h1:mat n (F7l F j)=mat n (F66 F j n 0):=F7J λa b ha _=>by unfold F66;rw[if_pos (.inl ha)]);rw[h0,h1];refine tQ (f:=F7d) n (λi=>((n,(j:Int),(i:Int)),mat n (F66 F j i 0))) ((n,(j:Int)),mat n (F66 F j n 0)) (λi hi=>?_) ?_;(have hi':(i:Int)<(n:Int):=by omega);simp only[F7d,hi',decide_true,cond_true];refine(congrArg (λo=>bc o _) (F8j hn hj hi)).trans ?_;simp only[ai,iQ (show i<9223372036854775807 by omega),F7O];simp only[F7d,ba,decide_false,cond_false]
theorem F8l{n:Nat}{F:Nat->Nat->Bool}(hn:n<=1000):A0d F7e ((n,(0:Int)),mat n F)=some (n,mat n (F7g F n)):=by refine tQ (f:=F7e) n (λj=>((n,(j:Int)),mat n (F7g F j))) (n,mat n (F7g F n)) (λj hj=>?_) ?_;(have Dy:(j:Int)<(n:Int):=by omega);simp only[F7e,Dy,decide_true,cond_true];refine(congrArg (λo=>bc o _) (F8k (F:=F7g F j) hn hj)).trans ?_;simp only[ai,iQ (show j<9223372036854775807 by omega)];rfl;simp only[F7e,ba,decide_false,cond_false]
theorem F8m{n:Nat}{F:Nat->Nat->Bool}(hn:n<=1000):A0d F7c ((mat n F,0,(0:Int)),[])=some (n,mat n F):=by have ht:(mat n F).take n=mat n F:=a6 (by rw[F7i];exact ay _);have key:=tQ (f:=F7c) n (λi=>((mat n F,i,(i:Int)),(mat n F).take i)) (n,(mat n F).take n) (λi hi=>?_) ?_;rw[ht]at key;exact key;(have hi':(i:Int)<((mat n F).length:Int):=by rw[F7i];omega);(have OD:i<(mat n F).length:=by rw[F7i];exact hi);have g:=F7p (f:=F) hi;(have hl:((mat n F).take i).length=i:=by rw[aW];omega);have hrl:=Rr n (F i);(have e:(mat n F).take (i+1)=(mat n F).take i++[BU n (F i)]:=by rw[vz OD];congr 2;have:=ah OD;rw[g,aa]at this;exact this.symm);rw[e];have t1:((mat n F).take i).take i=(mat n F).take i:=a6 (by rw[hl];exact ay _);simp only[F7c,hi',decide_true,cond_true,aq,ar,g,ai,show cQ 0 0=true from rfl,bS,hrl,jE (show n*1<=140737488355328 by omega),gH,a7,jE (ay n),show Nat.beq 0 0=true from rfl,show Nat.beq 1 1=true from rfl,jE (show i<=((mat n F).take i).length by rw[hl];exact ay _),jE (show(i+1)*24<=140737488355328 by omega),beq_self_eq_true,t1,iQ (show i<9223372036854775807 by omega)];simp only[F7c,F7i,ba,decide_false,cond_false]
theorem F8n{n:Nat}{F:Nat->Nat->Bool}(hn:n<=1000):F7t (mat n F)=some (mat n (F7g F n)):=by unfold F7t;refine(congrArg (λo=>bc o _) (F8m hn)).trans ?_;simp only[ai];refine(congrArg (λo=>bc o _) (F8l hn)).trans ?_;have ht:(mat n (F7g F n)).take n=mat n (F7g F n):=a6 (by rw[F7i];exact ay _);simp only[ai,F7i,jE (ay n),cond_true];exact congrArg some ((congrArg (λl:List (List Bool)=>List.map (uR (Ty.vec 1 Ty.bool)) l) ht).trans (F7N _))
section
variable{keys:List (ByteArray×Int)}{head:List ByteArray}{l:List tI}
noncomputable def F7h(keys:List (ByteArray×Int))(head:List ByteArray)(l:List tI):Nat->Nat->Bool:=by classical exactλi k=>decide (E8J keys head l i k)
theorem F7v{i k:Nat}:F7h keys head l i k=true↔E8J keys head l i k:=by classical unfold F7h;rw[decide_eq_true_eq]
theorem F82{M:List (List Bool)}(h:aEN keys head l M):M=mat l.length (F7h keys head l):=by apply fy;intro i;by_cases hi:i<l.length;(have hiM:i<M.length:=by rw[h.len];exact hi);rw[F7p hi,ah hiM,aa];have hr:=h.row i M[i] (ah hiM);apply fy;intro k;by_cases hk:k<l.length;(have hkr:k<M[i].length:=by rw[hr.len];exact hk);rw[Rs hk,ah hkr,aa,c6,F7v,<-hr.att k,ah hkr,aa];rw[bJ (by rw[hr.len];omega),bJ (by rw[Rr];omega)];rw[bJ (by rw[h.len];omega),bJ (by rw[F7i];omega)]
abbrev rcP(keys:List (ByteArray×Int))(head:List ByteArray)(l:List tI):Nat->Nat->Prop:=Rc (BX (E8c keys head l))
theorem F7q{a b:Nat}:BX (E8c keys head l) a b↔E8J keys head l a b:=by unfold BX;rw[F7m];constructor;rintro⟨a',b',h1,h2,h⟩;(have e1:a=a':=by omega);(have e2:b=b':=by omega);rw[e1,e2];exact h;exactλh=>⟨a,b,rfl,rfl,h⟩
theorem F8o{i k:Nat}:F7g (F7h keys head l) l.length i k=true↔∃b,E8J keys head l i b/\rcP keys head l b k:=by constructor;refine F7A (Q:=λi k=>∃b,E8J keys head l i b/\rcP keys head l b k) (λi j h=>⟨j,F7v.1 h,.refl⟩) (λi a j h1 h2=>?_) l.length i k;obtain⟨b,hb,hba⟩:=h1;obtain⟨c,hc,hcj⟩:=h2;exact⟨b,hb,(hba.trans (Rc.one (F7q.2 hc))).trans hcj⟩;rintro⟨b,hb,h⟩;induction h with|refl=>exact F7F (F7v.2 hb) _|tail h1 h2 ih=>have h3:=F7q.1 h2;exact F7z l.length i _ _ h3.1 ih (F7F (F7v.2 h3) _)
def F7H(keys:List (ByteArray×Int))(head:List ByteArray)(l:List tI)(i k:Nat):Prop:=E8J keys head l i k/\rcP keys head l k i
theorem F7U{i k:Nat}:(F7h keys head l i k=true/\F7g (F7h keys head l) l.length k i=true)↔F7H keys head l i k:=by rw[F7v,F8o];constructor;rintro⟨h,b,h1,h2⟩;exact⟨h,(Rc.one (F7q.2 h1)).trans h2⟩;rintro⟨h,h1⟩;refine⟨h,?_⟩;obtain⟨y,e1,e2⟩:=E1h h1 h.2.2.1;exact⟨y,F7q.1 e1,e2⟩
end
end Go.Mid
namespace Go.Mid
section
variable{keys:List (ByteArray×Int)}{head:List ByteArray}{l:List tI}(q:QV keys head l)
def Cls(Q S:Prop)(c:Int):Prop:=(S->c=3)/\(¬S->Q->c=2)/\(¬Q->c=1)
theorem Cls.uniq{Q S:Prop}{c d:Int}(h:Cls Q S c)(k:Cls Q S d):c=d:=by by_cases hS:S;rw[h.1 hS,k.1 hS];by_cases hQ:Q;rw[h.2.1 hS hQ,k.2.1 hS hQ];rw[h.2.2 hQ,k.2.2 hQ]
theorem Cls.val{Q S:Prop}{c:Int}(h:Cls Q S c):(c=1\/c=2\/c=3):=by by_cases hS:S;exact .inr (.inr (h.1 hS));by_cases hQ:Q;exact .inr (.inl (h.2.1 hS hQ));exact .inl (h.2.2 hQ)
theorem Cls.aBn{Q S Q' S':Prop}{c:Int}(h:Cls Q S c)(e1:Q↔Q')(e2:S↔S'):Cls Q' S' c:=⟨λs=>h.1 (e2.2 s),λs r=>h.2.1 (λx=>s (e2.1 x)) (e1.2 r),λr=>h.2.2 λx=>r (e1.1 x)⟩
def F7I(keys:List (ByteArray×Int))(head:List ByteArray)(l:List tI)(i k:Nat):Prop:=F7H keys head l i k/\¬F4k keys head l i k
def F7r(keys:List (ByteArray×Int))(head:List ByteArray)(l:List tI)(P:Nat->Nat->Prop):Prop:=∃i k,P i k/\F7H keys head l i k
def F7s(keys:List (ByteArray×Int))(head:List ByteArray)(l:List tI)(P:Nat->Nat->Prop):Prop:=∃i k,P i k/\F7I keys head l i k
theorem Cls.add{P P':Nat->Nat->Prop}{c:Int}(h:Cls (F7r keys head l P) (F7s keys head l P) c){i k:Nat}(hP:∀a b,P' a b↔(P a b\/(a=i/\b=k))):(¬F7H keys head l i k->Cls (F7r keys head l P') (F7s keys head l P') c)/\(F7I keys head l i k->Cls (F7r keys head l P') (F7s keys head l P') 3)/\(F7H keys head l i k->¬F7I keys head l i k->Cls (F7r keys head l P') (F7s keys head l P') (if 2>c then 2 else c)):=by(have eQ:F7r keys head l P'↔(F7r keys head l P\/F7H keys head l i k):=by constructor;rintro⟨a,b,h1,h2⟩;rcases(hP a b).1 h1 with h1|⟨rfl,rfl⟩;exact .inl ⟨a,b,h1,h2⟩;exact .inr h2;rintro(⟨a,b,h1,h2⟩|h2);exact⟨a,b,(hP a b).2 (.inl h1),h2⟩;exact⟨i,k,(hP i k).2 (.inr ⟨rfl,rfl⟩),h2⟩);(have eS:F7s keys head l P'↔(F7s keys head l P\/F7I keys head l i k):=by constructor;rintro⟨a,b,h1,h2⟩;rcases(hP a b).1 h1 with h1|⟨rfl,rfl⟩;exact .inl ⟨a,b,h1,h2⟩;exact .inr h2;rintro(⟨a,b,h1,h2⟩|h2);exact⟨a,b,(hP a b).2 (.inl h1),h2⟩;exact⟨i,k,(hP i k).2 (.inr ⟨rfl,rfl⟩),h2⟩);have hSQ:F7s keys head l P->F7r keys head l P:=λ⟨a,b,h1,h2⟩=>⟨a,b,h1,h2.1⟩;refine⟨λhc=>h.aBn ?_ ?_,λhs=>⟨λ_=>rfl,λn _=>(n (eS.2 (.inr hs))).elim,λn=>(n (eQ.2 (.inr hs.1))).elim⟩,λhc hs=>⟨λs=>?_,λn _=>?_,λn=>(n (eQ.2 (.inr hc))).elim⟩⟩;rw[eQ];exact⟨.inl,λx=>x.elim id λy=>(hc y).elim⟩;rw[eS];exact⟨.inl,λx=>x.elim id λy=>(hc y.1).elim⟩;have s':=(eS.1 s).resolve_right hs;rw[h.1 s'];rfl;have n':¬F7s keys head l P:=λx=>n (eS.2 (.inl x));by_cases hQ:F7r keys head l P;rw[h.2.1 n' hQ];rfl;rw[h.2.2 hQ];rfl
def before(N i k:Nat)(a b:Nat):Prop:=(a<i/\b<N)\/(a=i/\b<k)
include q in
theorem F8f{i:Nat}(hi:i<l.length){c:Int}(hc:Cls (F7r keys head l (before l.length i 0)) (F7s keys head l (before l.length i 0)) c):∃d,A0d F65 ((keys,mat l.length (F7h keys head l),mat l.length (F7g (F7h keys head l) l.length),c,(i:Int),(0:Int)),head,l)=some ((keys,mat l.length (F7h keys head l),mat l.length (F7g (F7h keys head l) l.length),d,(i:Int)),head,l)/\Cls (F7r keys head l (before l.length (i+1) 0)) (F7s keys head l (before l.length (i+1) 0)) d:=by have hna:=q.na;have key:=V4 (f:=F65) (S:=Int) l.length (λk c=>((keys,mat l.length (F7h keys head l),mat l.length (F7g (F7h keys head l) l.length),c,(i:Int),(k:Int)),head,l)) (λk c=>Cls (F7r keys head l (before l.length i k)) (F7s keys head l (before l.length i k)) c) (λb=>∃d,b=((keys,mat l.length (F7h keys head l),mat l.length (F7g (F7h keys head l) l.length),d,(i:Int)),head,l)/\Cls (F7r keys head l (before l.length (i+1) 0)) (F7s keys head l (before l.length (i+1) 0)) d) c hc (λk c hk hc=>?_) (λc hc=>?_);obtain⟨b,h1,d,rfl,h2⟩:=key;exact⟨d,h1,h2⟩;left;(have nq:(k:Int)<((mat l.length (F7h keys head l)).length:Int):=by rw[F7i];omega);have g1:=F7p (f:=F7h keys head l) hi;have g2:=F7p (f:=F7g (F7h keys head l) l.length) hk;have r1:=Rs (g:=F7h keys head l i) hk;have r2:=Rs (g:=F7g (F7h keys head l) l.length k) hi;obtain⟨t,_,w2,w3⟩:=F4Y q hi hk;have Gs:=hc.add (i:=i) (k:=k) (P':=before l.length i (k+1)) (λa b=>by unfold before;omega);(cases h1:F7h keys head l i k with|false=>refine⟨c,?_,Gs.1 λh=>by rw[F7v.2 h.1]at h1;cases h1⟩;simp only[F65,nq,decide_true,cond_true,aq,ar,g1,ai,r1,h1,cond_false,iQ (show k<9223372036854775807 by omega)]|true=>cases h2:F7g (F7h keys head l) l.length k i with|false=>refine⟨c,?_,Gs.1 λh=>by rw[(F7U.2 h).2]at h2;cases h2⟩;simp only[F65,nq,decide_true,cond_true,aq,ar,g1,g2,ai,r1,r2,h1,h2,cond_false,iQ (show k<9223372036854775807 by omega)]|true=>have XY:F7H keys head l i k:=F7U.1 ⟨h1,h2⟩;cases h3:t with|false=>refine⟨3,?_,Gs.2.1 ⟨XY,λh=>by rw[w3.2 h]at h3;cases h3⟩⟩;simp only[F65,nq,decide_true,cond_true,aq,ar,g1,g2,ai,r1,r2,h1,h2,w2,h3,auI,iQ (show k<9223372036854775807 by omega)]|true=>refine⟨if 2>c then 2 else c,?_,Gs.2.2 XY λh=>h.2 (w3.1 h3)⟩;simp only[F65,nq,decide_true,cond_true,aq,ar,g1,g2,ai,r1,r2,h1,h2,w2,h3,bO,cond_false,iQ (show k<9223372036854775807 by omega)]);(have e:∀a b,before l.length i l.length a b↔before l.length (i+1) 0 a b:=λa b=>by unfold before;omega);refine⟨_,?_,c,rfl,hc.aBn ⟨λ⟨a,b,h1,h2⟩=>⟨a,b,(e a b).1 h1,h2⟩,λ⟨a,b,h1,h2⟩=>⟨a,b,(e a b).2 h1,h2⟩⟩ ⟨λ⟨a,b,h1,h2⟩=>⟨a,b,(e a b).1 h1,h2⟩,λ⟨a,b,h1,h2⟩=>⟨a,b,(e a b).2 h1,h2⟩⟩⟩;simp only[F65,F7i,ba,decide_false,cond_false]
abbrev F7C(keys:List (ByteArray×Int))(head:List ByteArray)(l:List tI):Prop:=∃i k,F7H keys head l i k
abbrev D4P(keys:List (ByteArray×Int))(head:List ByteArray)(l:List tI):Prop:=∃i k,F7I keys head l i k
include q in
theorem F74:∃d,A0d F7f ((keys,mat l.length (F7h keys head l),mat l.length (F7g (F7h keys head l) l.length),(1:Int),(0:Int)),head,l)=some d/\Cls (F7C keys head l) (D4P keys head l) d:=by have hna:=q.na;have key:=V4 (f:=F7f) (S:=Int) l.length (λi c=>((keys,mat l.length (F7h keys head l),mat l.length (F7g (F7h keys head l) l.length),c,(i:Int)),head,l)) (λi c=>Cls (F7r keys head l (before l.length i 0)) (F7s keys head l (before l.length i 0)) c) (λd=>Cls (F7C keys head l) (D4P keys head l) d) 1 ?_ (λi c hi hc=>?_) (λc hc=>?_);exact key;refine⟨λ⟨a,b,h,_⟩=>?_,λ_⟨a,b,h,_⟩=>?_,λ_=>rfl⟩;unfold before at h;omega;unfold before at h;omega;left;(have hi':(i:Int)<((mat l.length (F7h keys head l)).length:Int):=by rw[F7i];omega);obtain⟨d,e,hd⟩:=F8f q hi hc;refine⟨d,?_,hd⟩;simp only[F7f,hi',decide_true,cond_true];refine(congrArg (λo=>bc o _) e).trans ?_;simp only[ai,iQ (show i<9223372036854775807 by omega)];refine⟨c,?_,hc.aBn ⟨λ⟨a,b,_,h2⟩=>⟨a,b,h2⟩,λ⟨a,b,h2⟩=>⟨a,b,.inl ⟨h2.1.1,h2.1.2.1⟩,h2⟩⟩ ⟨λ⟨a,b,_,h2⟩=>⟨a,b,h2⟩,λ⟨a,b,h2⟩=>⟨a,b,.inl ⟨h2.1.1.1,h2.1.1.2.1⟩,h2⟩⟩⟩;simp only[F7f,F7i,ba,decide_false,cond_false]
theorem F8p(hna:l.length<=6):Ej l.length (E8c keys head l):=by rintro⟨u,w⟩he;obtain⟨a,b,rfl,rfl,h⟩:=F7m.1 he;have h1:=h.1;have h2:=h.2.1;exact⟨by omega,by show((a:Nat):Int)<_;omega,by show(0:Int)<=((b:Nat):Int);omega,by show((b:Nat):Int)<_;omega⟩
theorem F8q{n:Nat}{E:oW}(hn:n<=1000)(hE:E.length<=1000)(h:Ej n E):JK (n:Int) E=0:=by unfold JK;rw[if_neg (by omega),if_neg (by omega),if_neg (by omega),if_neg];rw[fV];rintro⟨e,he,hb⟩;have:=h e he;rw[XD]at hb;omega
theorem F8r{n:Nat}{E:oW}(hr:Ej n E){s:Nat}{out:List Int}(r:aDp n E s out)(v:Nat):(v:Int)∈out↔Rc (BX E) s v:=by constructor;intro h;obtain⟨k,e,h2⟩:=r.min (λx=>∃k:Nat,x=(k:Int)/\Rc (BX E) s k) ⟨s,rfl,.refl⟩ (λu w hu he=>by obtain⟨k,rfl,hk⟩:=hu;obtain⟨m,hm⟩:=eB (hr _ he).2.2.1;simp only at hm;subst hm;exact⟨m,rfl,hk.tail he⟩) _ h;(have:v=k:=by omega);subst this;exact h2;intro h;induction h with|refl=>exact r.st|tail h1 h2 ih=>exact r.cl _ ih _ h2
include q in
theorem F75:∃ d,(do
 let v ← QS ((l.length:Int),E8c keys head l)
 bif !v.2 then some ((1:Int),(0:Int)) else (A0d F7b (E4j keys head l,E8c keys head l,E8c keys head l,((E8c keys head l).length:Int),(0:Int))).bind λs=>Sum.elim (λt=>some (t.1,t.2)) (λ_=>some ((2:Int),(0:Int))) s)=some (d,0)∧Cls (F7C keys head l) (D4P keys head l) d:=by
 have hna:=q.na
 have hE:=F1E (keys:=keys) (head:=head) hna
 have hr:=F8p (keys:=keys) (head:=head) hna
 have hv:=F8q (n:=l.length) (by omega) (by omega) hr
 have hL:=E79 (keys:=keys) (head:=head) (l:=l)
 obtain ⟨L,hs,r,e,hc⟩:=D99 E3Y hv (by omega) hr (by omega) (λe he=>by
  obtain ⟨u,w⟩:=e
  obtain ⟨a,b,rfl,rfl,h⟩:=F7m.1 he
  have:=h.2.2.1
  show ((a:Nat):Int)≠((b:Nat):Int)
  omega)
 have XY:(∃ C∈L,C.length≠1)↔F7C keys head l:=by
  constructor
  . rintro ⟨C,hC,h1⟩
    have hne:=hs.ne C hC
    have aRu:=hs.asc C hC
    obtain ⟨a,b,rest,rfl⟩:∃ a b rest,C=a::b::rest:=by
     match C,hne,h1 with
     | [],h,_=>exact absurd rfl h
     | [a],_,h=>exact absurd rfl h
     | a::b::rest,_,_=>exact ⟨a,b,rest,rfl⟩
    have uO:a<b:=(List.pairwise_cons.1 aRu).1 b (by simp)
    obtain ⟨_,hca⟩:=hs.cls _ hC a (by simp)
    have hb:=(hca b).1 (by simp)
    obtain ⟨y,EE,hy2⟩:=E1h hb.1 (by omega)
    exact ⟨a,y,F7q.1 EE,hy2.trans hb.2⟩
  . rintro ⟨i,k,h1,h2⟩
    obtain ⟨C,hC,hiC⟩:=hs.all i h1.1
    refine ⟨C,hC,λhl=>?_⟩
    have hk:k∈C:=((hs.cls C hC i hiC).2 k).2 ⟨Rc.one (F7q.2 h1),h2⟩
    match C,hl with
    | [x],_ =>
      rw [List.mem_singleton] at hk hiC
      exact h1.2.2.1 (by rw [hk,hiC])
 have Tb:(∀ C∈L,C.length=1)->¬ F7C keys head l:=λh hq=>by
  obtain ⟨C,hC,h1⟩:=XY.2 hq
  exact h1 (h C hC)
 show ∃ d,(QS ((l.length:Int),E8c keys head l)).bind _=some (d,0)∧_
 rw [e,ai]
 rcases hc with ⟨h1,h2⟩ | ⟨h1,h2⟩
 . rw [h1]
   simp only [bO,cond_false]
   have hQ:=XY.1 h2
   have hSt:∀ j (hj:j<(E8c keys head l).length),∃ a b:Nat,(E8c keys head l)[j]=((a:Int),(b:Int))∧E8J keys head l a b:=λj hj=>by
    have hm:=aM hj
    generalize (E8c keys head l)[j]=p at hm
    obtain ⟨u,w⟩:=p
    obtain ⟨a,b,rfl,rfl,h⟩:=F7m.1 hm
    exact ⟨a,b,rfl,h⟩
   have key:=V4 (f:=F7b) (S:=Unit) (E8c keys head l).length (λj _=>(E4j keys head l,E8c keys head l,E8c keys head l,((E8c keys head l).length:Int),(j:Int)))
    (λj _=>∀ m (hm:m<(E8c keys head l).length),m<j->∀ a b:Nat,(E8c keys head l)[m]=((a:Int),(b:Int))->¬ F7I keys head l a b)
    (λb=>(b=.inl (3,0)∧D4P keys head l)∨(b=.inr ()∧¬ D4P keys head l)) () (λm _ hm=>by omega) (λj _ hj hJ=>?_) (λ_ hJ=>?_)
   . obtain ⟨b,k1,k2⟩:=key
     simp only [av] at k1
     rw [k1,ai]
     rcases k2 with ⟨rfl,k2⟩ | ⟨rfl,k2⟩
     . exact ⟨3,rfl,λ_=>rfl,λn=>(n k2).elim,λn=>(n hQ).elim⟩
     . exact ⟨2,rfl,λn=>(k2 n).elim,λ_ _=>rfl,λn=>(n hQ).elim⟩
   . obtain ⟨a,b,hx,uO⟩:=hSt j hj
     have Dy:(j:Int)<((E8c keys head l).length:Int):=by omega
     obtain ⟨out,o1,_,o3⟩:=F0y hv uO.2.1 (by omega)
     have Kk:=o3.len
     have awK:=F1H out (a:Int) (by omega)
     obtain ⟨t,w1,_,w3⟩:=F4Y q uO.1 uO.2.1
     have pE:(out.any λx=>(a:Int)==x)=true↔rcP keys head l b a:=by
      show _↔Rc (BX (E8c keys head l)) b a
      rw [← F8r hr o3,fV]
      constructor
      . rintro ⟨x,h1,h2⟩
        rw [beq_iff_eq] at h2
        rw [h2];exact h1
      . exact λh=>⟨_,h,by simp⟩
     have next:¬ F7I keys head l a b->∀ m (hm:m<(E8c keys head l).length),m<j+1->∀ a b:Nat,(E8c keys head l)[m]=((a:Int),(b:Int))->¬ F7I keys head l a b:=λhn m hm hmj a' b' he=>by
      rcases mV.1 hmj with hmj | rfl
      . exact hJ m hm hmj a' b' he
      . rw [hx,ae] at he
        have e1:a=a':=by omega
        have e2:b=b':=by omega
        rw [← e1,← e2]
        exact hn
     have b1:Nat.blt 0 2=true:=rfl
     have b2:Nat.blt 1 2=true:=rfl
     cases h3:(out.any λx=>(a:Int)==x) with
     | false =>
       left
       refine ⟨(),?_,next λh=>by rw [pE.2 h.1.2] at h3;cases h3⟩
       simp only [F7b,Dy,decide_true,cond_true,aq,ar,ah hj,ai,hx,b1,b2,hL,o1,awK,h3,cond_false,iQ (show j<9223372036854775807 by omega)]
     | true =>
       cases h4:t with
       | true =>
         left
         refine ⟨(),?_,next λh=>h.2 (w3.1 h4)⟩
         simp only [F7b,Dy,decide_true,cond_true,aq,ar,ah hj,ai,hx,b1,b2,hL,o1,awK,h3,w1,h4,bO,cond_false,iQ (show j<9223372036854775807 by omega)]
       | false =>
         right
         refine ⟨.inl (3,0),?_,.inl ⟨rfl,a,b,⟨uO,pE.1 h3⟩,λh=>by rw [w3.2 h] at h4;cases h4⟩⟩
         simp only [F7b,Dy,decide_true,cond_true,aq,ar,ah hj,ai,hx,b1,b2,hL,o1,awK,h3,w1,h4,auI]
   . refine ⟨.inr (),?_,.inr ⟨rfl,?_⟩⟩
     . simp only [F7b,ba,decide_false,cond_false]
     . rintro ⟨i,k,h⟩
       obtain ⟨m,hm,he⟩:=pd (F7m.2 ⟨i,k,rfl,rfl,h.1.1⟩)
       exact hJ m hm hm i k he h
 . rw [h1]
   exact ⟨1,rfl,λ⟨i,k,h⟩=>(Tb h2 ⟨i,k,h.1⟩).elim,λ_ hq=>(Tb h2 hq).elim,λ_=>rfl⟩
end
section
variable{aSP:List E4Z}{keys:List (ByteArray×Int)}{head:List ByteArray}{ats:List tI}(z:Sz aSP keys head ats)
include z
theorem F76:∃w:Int×Int,F7u (aSP,keys,(head,ats))=some w/\F7B (aSP,keys,(head,ats))=some w/\(E7w aSP keys head ats=0->w.2=0/\Cls (F7C keys head ats) (D4P keys head ats) w.1)/\(E7w aSP keys head ats≠0->w=(0,E7w aSP keys head ats)):=by unfold F7u F7B;simp only[F0N z,E9M z,ai];by_cases h:E7w aSP keys head ats=0;have q:=F2T z h;have hna:=q.na;obtain⟨M,e,hM⟩:=F0P q;obtain⟨d,e1,hd⟩:=F75 q;obtain⟨d',e2,N9⟩:=F74 q;have:=hd.uniq N9;subst this;have hMe:=F82 hM;subst hMe;simp only[h,bne_self_eq_false,cond_false,F1G q,ai,F71 q,E79,e,F8n (show ats.length<=1000 by omega)];refine⟨(d,0),e1,?_,λ_=>⟨rfl,hd⟩,λn=>(n rfl).elim⟩;refine(congrArg (λo=>bc o _) e2).trans rfl;simp only[bne_iff_ne.2 h,cond_true];exact⟨_,rfl,rfl,λh0=>(h h0).elim,λ_=>rfl⟩
end
end Go.Mid
namespace Go.Mid
section
variable{keys:List (ByteArray×Int)}{head:List ByteArray}{l:List tI}
theorem F7M{P:Nat->Bool}{n v:Nat}(hv:v<n)(hp:P v=true)(h:∀u,u<v->P u=false):(bA n).find? P=some v:=by rw[List.find?_eq_some_iff_append];refine⟨hp,bA v,(mJ (v+1) (n-v-1)),?_,λa ha=>by rw[h a (cu.1 ha)];rfl⟩;rw[lr,lr];(have:n=v+(1+(n-v-1)):=by omega);rw[this,<-aTd,<-aTd];simp
end
section
variable{aSP:List E4Z}{keys:List (ByteArray×Int)}{head:List ByteArray}{ats:List tI}(z:Sz aSP keys head ats)
include z
end
end Go.Mid
namespace Go.Mid
theorem F7E{i j:Nat}(hi:i<4)(hj:j<4):Lv (nmT j) (nmT i)=decide (j=i):=by(have h:∀i j:Fin 4,decide (nmT j.1=nmT i.1)=decide (j.1=i.1):=by decide);rw[E9j];exact h ⟨i,hi⟩ ⟨j,hj⟩
theorem F83{i:Nat}(hi:i<4):E47 (nmT i)=true:=by(have h:∀i:Fin 4,(!decide (nmT i.1=⟨#[]⟩)&&decide ((nmT i.1).size<=24)&&!decide (nmT i.1=E82)&&(match(nmT i.1).data.toList with|[]=>false|c::r=>E4S c&&r.all λc=>E4S c||E5s c))=true:=by decide);unfold E47;rw[E9j,E9j];exact h ⟨i,hi⟩
theorem F8g{n:Nat}(hn:n<=4):E7M [] (aB0.take n)=true:=by(have nk:∀i:Fin 4,(!decide ((aB0.getD i.1 ⟨#[]⟩)=⟨#[]⟩)&&decide ((aB0.getD i.1 ⟨#[]⟩).size<=24)&&!decide ((aB0.getD i.1 ⟨#[]⟩)=E82)&&(match(aB0.getD i.1 ⟨#[]⟩).data.toList with|[]=>false|c::r=>E4S c&&r.all λc=>E4S c||E5s c))=true:=by decide);(have nk':∀i:Fin 4,E47 (aB0.getD i.1 ⟨#[]⟩)=true:=λi=>by unfold E47;rw[E9j,E9j];exact nk i);(have df:∀i j:Fin 4,Lv (aB0.getD i.1 ⟨#[]⟩) (aB0.getD j.1 ⟨#[]⟩)=decide (i=j):=λi j=>by(have:∀i j:Fin 4,decide ((aB0.getD i.1 ⟨#[]⟩)=(aB0.getD j.1 ⟨#[]⟩))=decide (i=j):=by decide);rw[E9j];exact this i j);have k0:=nk' 0;have k1:=nk' 1;have k2:=nk' 2;have k3:=nk' 3;have d01:=df 0 1;have d02:=df 0 2;have d03:=df 0 3;have d12:=df 1 2;have d13:=df 1 3;have d23:=df 2 3;simp only[aB0,aCf,bQ,bK,bI,Fin.val_zero,Fin.val_one,Fin.val_two]at k0 k1 k2 k3 d01 d02 d03 d12 d13 d23;have f3:((3:Fin 4).1)=3:=rfl;match n,hn with|0,_=>rfl|1,_=>simp[aB0,E7M,E5m,k0]|2,_=>simp[aB0,E7M,E5m,k0,k1,d01]|3,_=>simp[aB0,E7M,E5m,k0,k1,k2,d01,d02,d12]|4,_=>simp only[f3,bQ,bK,bI]at k3 d03 d13 d23;simp[aB0,E7M,E5m,k0,k1,k2,k3,d01,d02,d12,d03,d13,d23]
theorem F8I(c:Int)(h:0<=c):E47 (E86 c)=true/\E86 c≠⟨#[]⟩:=by(have nk:∀i:Fin 5,((!decide ((aCi.getD i.1 ⟨#[]⟩)=⟨#[]⟩)&&decide ((aCi.getD i.1 ⟨#[]⟩).size<=24)&&!decide ((aCi.getD i.1 ⟨#[]⟩)=E82)&&(match(aCi.getD i.1 ⟨#[]⟩).data.toList with|[]=>false|c::r=>E4S c&&r.all λc=>E4S c||E5s c))=true)/\(aCi.getD i.1 ⟨#[]⟩)≠⟨#[]⟩:=by decide);(have h1:(c.tmod 5).toNat<5:=by have:=Int.tmod_lt_of_pos c (show(0:Int)<5 by omega);omega);have e:E86 c=aCi.getD (c.tmod 5).toNat ⟨#[]⟩:=rfl;rw[e];refine⟨?_,(nk ⟨_,h1⟩).2⟩;unfold E47;rw[E9j,E9j];exact(nk ⟨_,h1⟩).1
theorem F8s(c:Int)(h:0<=c):E5t (E6L c)=true:=by unfold E6L E5t;by_cases h5:c<5;have hv:=F8I c h;have hne:Lv (E86 c) ⟨#[]⟩=false:=aSQ.2 λe=>hv.2 (E5K.1 e);simp only[h5,decide_true,cond_true,hne,cond_false,hv.1,beq_self_eq_true,show Lv (ir #[]) (ir #[])=true from E5K.2 rfl,Bool.and_self];simp only[h5,decide_false,cond_false,show Lv (ir #[]) (ir #[])=true from E5K.2 rfl,cond_true];unfold E4N;simp[show Lv (ir #[]) (ir #[])=true from E5K.2 rfl]
section
variable{c:E8l}(ok:OkC c)(h1:1<=c.1.length)(h4:c.1.length<=4)(hf:F36 c)
def F7D(l:List (List Int×Int))(i:Nat):E4Z:=(nmT i,aB0.take (atC l i).1.length,[])
theorem F7V{l:List (List Int×Int)}{n i:Nat}(hn:n<=4)(hi:i<n):(E5p l n).find? (λt=>Lv t.1 (nmT i))=some (F7D l i):=by unfold E5p;rw[List.find?_map];rw[F7M hi (by simp only[Function.comp_apply];rw[F7E (by omega) (by omega)];simp) (λu hu=>by simp only[Function.comp_apply];rw[F7E (by omega) (by omega)];simp;omega)];rfl
theorem F8t{l:List (List Int×Int)}{n i:Nat}(hn:n<=4)(hi:i<n):E6S ((E5p l n).take i) (nmT i)=none:=by unfold E6S E5p;rw[ave];intro t ht;rw[<-bP]at ht;obtain⟨j,hj,rfl⟩:=bp.1 ht;rw[aTb]at hj;have:=cu.1 hj;simp only;rw[F7E (by omega) (by omega)];simp;omega
theorem F8J{l:List (List Int×Int)}{n i:Nat}(hn:n<=4)(hi:i<n):((E5f l n).findIdx? λp=>Lv p.1 (nmT i)).isSome=true:=by rw[aTc,fV];refine⟨_,bp.2 ⟨i,cu.2 hi,rfl⟩,?_⟩;simp only;rw[F7E (by omega) (by omega)];simp
theorem F8u{l:List (List Int×Int)}{n i:Nat}(hn:n<=4)(hi:i<n):(E5O ((E5f l n).take i) (nmT i)).2=false:=by rw[F0j];(have:((E5f l n).take i).findIdx? (λp=>Lv p.1 (nmT i))=none:=by rw[ave];intro t ht;unfold E5f at ht;rw[<-bP]at ht;obtain⟨j,hj,rfl⟩:=bp.1 ht;rw[aTb]at hj;have:=cu.1 hj;simp only;rw[F7E (by omega) (by omega)];simp;omega);rw[this];rfl
theorem F8v{l:List (List Int×Int)}{i:Nat}(hi:i<4)(hl:(atC l i).1.length<=4):E8b (F7D l i)=0:=by unfold E8b F7D;(have e:(aB0.take (atC l i).1.length).length<=16:=by have:aB0.length=4:=rfl;rw[aW];omega);simp only[F83 hi,if_true,if_neg (show¬(aB0.take (atC l i).1.length).length>16 by omega),cM,if_neg (show¬0>1000 by omega),F8g hl,E8k]
include ok h1 h4 hf
theorem F8K{hd:List ByteArray}(hn:hd.Nodup)(hs:∀z∈hd,E9Z (E4P c.1 c.1.length) (E4P c.1 c.1.length).length z):E7w (E5p c.1 c.1.length) (E5f c.1 c.1.length) hd (E4P c.1 c.1.length)=0:=by have lT:=F0O c.1 c.1.length;have lK:=E9z c.1 c.1.length;have lA:=E8m c.1 c.1.length;(have gT:∀i(h:i<(E5p c.1 c.1.length).length),(E5p c.1 c.1.length)[i]=F7D c.1 i:=λi h=>by simp[E5p,F7D]);(have gK:∀i(h:i<(E5f c.1 c.1.length).length),(E5f c.1 c.1.length)[i]=(nmT i,pL cG (cG.wrap (atC c.1 i).2) ((2^(atC c.1 i).1.length-1:Nat):Int)):=λi h=>by simp[E5f]);(have gA:∀i(h:i<(E4P c.1 c.1.length).length),(E4P c.1 c.1.length)[i]=(nmT i,(atC c.1 i).1.map E6L):=λi h=>by simp[E4P]);(have hdb:dbE (E5p c.1 c.1.length)=0:=by unfold dbE;rw[if_neg (by omega),E7A];intro i hi;rw[bS,gT i hi];rw[lT]at hi;unfold E9X;rw[if_pos (F8v (by omega) (hf i hi)),show(F7D c.1 i).1=nmT i from rfl,F8t h4 hi];rfl);(have hA:E4I (E84 (E5p c.1 c.1.length)) (E4P c.1 c.1.length) 0=0:=by rw[E7A];intro i hi;rw[gA i hi];rw[lA]at hi;unfold E84;simp only[F7V h4 hi];have hfi:=hf i hi;(have e:(F7D c.1 i).2.1.length=((atC c.1 i).1.map E6L).length:=by have:aB0.length=4:=rfl;show(aB0.take (atC c.1 i).1.length).length=_;rw[aW,aB];omega);(have ht:((atC c.1 i).1.map E6L).all E5t=true:=by rw[bB];intro u hu;obtain⟨x,hx,rfl⟩:=bp.1 hu;have J1:=(ok.1 _ (aM hi)).1 x (by rw[F2j hi];exact hx);exact F8s x J1.1);rw[e,beq_self_eq_true,cond_true,ht];rfl);(have hH:E4I (E8s hd (E4P c.1 c.1.length)) hd 0=0:=by rw[F7Z];intro i hi;refine⟨hs _ (aM hi),λhm=>?_⟩;obtain⟨j,hj,e⟩:=pd hm;rw[aBF]at e;rw[aW]at hj;exact(List.pairwise_iff_getElem.1 hn j i (by omega) hi (by omega)) e);(have hq:E7g (E5p c.1 c.1.length) hd (E4P c.1 c.1.length)=0:=by unfold E7g;rw[if_pos hdb,if_neg (by omega),if_pos hA,if_pos hH]);(have hK:E4I (E8I (E5p c.1 c.1.length) (E5f c.1 c.1.length)) (E5f c.1 c.1.length) 0=0:=by rw[E7A];intro i hi;have hi':=hi;rw[lK]at hi';rw[bS,gK i hi];unfold E8I;simp only[F7V h4 hi'];have hfi:=hf i hi';(have e:(F7D c.1 i).2.1.length=(atC c.1 i).1.length:=by have:aB0.length=4:=rfl;show(aB0.take (atC c.1 i).1.length).length=_;rw[aW];omega);have hb:=(ok.1 _ (aM hi')).2;rw[F2j hi']at hb;have hw:cG.wrap (atC c.1 i).2=(atC c.1 i).2:=F1s hb.1 (by omega);obtain⟨m,hm⟩:=eB hb.1;(have yP:m<w32:=by unfold w32;omega);have hp:2^(atC c.1 i).1.length<=2^4:=ez (by omega) hfi;(have Bn:2^(atC c.1 i).1.length-1<w32:=by unfold w32;omega);(have hand:pL cG (cG.wrap (atC c.1 i).2) ((2^(atC c.1 i).1.length-1:Nat):Int)=((m&&&(2^(atC c.1 i).1.length-1):Nat):Int):=by rw[hw,hm,F2f yP Bn]);have hle:=@fC m (2^(atC c.1 i).1.length-1);have dK:=F32 (k:=((m&&&(2^(atC c.1 i).1.length-1):Nat):Int)) (by omega) (by unfold w32 at yP;omega) (n:=(atC c.1 i).1.length) (by omega);rw[F2f (by omega) Bn,Nat.and_assoc,Nat.and_self,beq_self_eq_true]at dK;rw[hand,e,<-dK,cond_true,F8u h4 hi'];rfl);(have hU:E4I (E9x (E4P c.1 c.1.length)) (E4P c.1 c.1.length) 0=0:=by rw[E7A];intro i hi;have hi':=hi;rw[lA]at hi';rw[bS,gA i hi];unfold E9x;(have:((E4P c.1 c.1.length).take i).any (λb=>Lv b.1 (nmT i))=false:=by rw[List.any_eq_false];intro t ht;unfold E4P at ht;rw[<-bP]at ht;obtain⟨j,hj,rfl⟩:=bp.1 ht;rw[aTb]at hj;have:=cu.1 hj;simp only;rw[F7E (by omega) (by omega)];simp;omega);simp only[this];rfl);(have hF:E4I (F0w (E5f c.1 c.1.length)) (E4P c.1 c.1.length) 0=0:=by rw[E7A];intro i hi;have hi':=hi;rw[lA]at hi';rw[gA i hi];unfold F0w;simp only[F0j,F8J h4 hi'];rfl);unfold E7w;rw[if_pos hq,if_pos hK,if_pos hU,hF]
end
end Go.Mid
namespace Go.Mid
namespace AG
variable{V:Type}{N:Nat}{key all:Nat->V->Prop}
theorem Way.snoc{n a b:Nat}(h:Way N key all n a b):∀{c:Nat},att N key all b c->Way N key all (n+1) a c:=by induction h with|one h=>exactλk=>.more h (.one k)|more h _ ih=>exactλk=>.more h (ih k)
end AG
section
variable{keys:List (ByteArray×Int)}{head:List ByteArray}{l:List tI}
end
section
variable{aSP:List E4Z}{keys:List (ByteArray×Int)}{head:List ByteArray}{ats:List tI}(z:Sz aSP keys head ats)(hv:E7w aSP keys head ats=0)
include z hv
end
end Go.Mid
namespace Go.Mid
def v0:F0q:=(0,0,⟨#[]⟩)
def G1l(r:List F0q):Prop:=∀v∈r,E4N v=true
def G0M(o:Option F0q):Prop:=∃v,o=some v/\E4N v=true
theorem G0T{c:Bool}{a b:Option F0q}(ha:G0M a)(hb:G0M b):G0M (bif c then a else b):=by cases c;exact hb;exact ha
theorem G0Q(y:Int):G0M (G0t y):=by unfold G0t;repeat(first|exact⟨_,rfl,by kernel_rfl⟩|refine G0T ⟨_,rfl,by kernel_rfl⟩ ?_)
noncomputable def ofV(y:Int):F0q:=(G0t y).getD v0
theorem G08(y:Int):G0t y=some (ofV y):=by obtain⟨v,h,_⟩:=G0Q y;unfold ofV;rw[h];rfl
theorem G1h(y:Int):E4N (ofV y)=true:=by obtain⟨v,h,hv⟩:=G0Q y;unfold ofV;rw[h];exact hv
noncomputable def G0z(l:List Int)(n:Nat):List F0q:=(bA n).map λk=>ofV (l.getD k 0)
theorem G0V(l:List Int)(n:Nat):G0z l (n+1)=G0z l n++[ofV (l.getD n 0)]:=by simp[G0z,jO]
theorem G0D(l:List Int)(n:Nat):(G0z l n).length=n:=by simp[G0z]
theorem G03(l:List Int)(n:Nat):G1l (G0z l n):=by intro v hv;obtain⟨k,_,rfl⟩:=bp.1 hv;exact G1h _
abbrev G0u:=Int×Int×List (List Int)
def G0v(x:G0u):Int:=1+x.2.1.tmod 3
noncomputable def G0C(x:G0u)(n i:Nat):F2L:=(1+(i:Int)*G0v x,G0z (x.2.2.getD i []) n)
noncomputable def G0A(x:G0u)(n i:Nat):List F2L:=(bA i).map (G0C x n)
theorem G0W(x:G0u)(n i:Nat):G0A x n (i+1)=G0A x n i++[G0C x n i]:=by simp[G0A,jO]
theorem G0I(x:G0u)(n i:Nat):(G0A x n i).length=i:=by simp[G0A]
def letters:List ByteArray:=[⟨#[97]⟩,⟨#[98]⟩,⟨#[99]⟩,⟨#[100]⟩,⟨#[101]⟩,⟨#[102]⟩,⟨#[103]⟩,⟨#[104]⟩]
noncomputable def G04(x:G0u)(n:Nat):E4Z:=(⟨#[114]⟩,letters.take n,G0A x n x.2.2.length)
theorem G0U{x:G0u}(h0:0<=x.2.1):1<=G0v x/\G0v x<=3:=by unfold G0v;rw[Int.tmod_eq_emod_of_nonneg h0];omega
theorem G0X{x:G0u}{n i:Nat}(hn:n<=8)(hi:i<x.2.2.length)(rX:i<1000)(Z:ByteArray×(List ByteArray×Nat)×List F2L×Nat)(Y:ByteArray×(List ByteArray×Nat)×List F2L×Nat)(id:Int):A0d G0o (((n:Int),(i:Int),(0:Int)),x,Z,Y,id,[],0)=some (((n:Int),(i:Int)),x,Z,Y,id,G0z x.2.2[i] n,n):=by have:A0d G0o (((n:Int),(i:Int),((0:Nat):Int)),x,Z,Y,id,G0z x.2.2[i] 0,0)=some (((n:Int),(i:Int)),x,Z,Y,id,G0z x.2.2[i] n,n):=tQ (f:=G0o) n (λk=>(((n:Int),(i:Int),(k:Int)),x,Z,Y,id,G0z x.2.2[i] k,k)) _ (λk hk=>by(have nq:(k:Int)<n:=by omega);have hl:=G0D x.2.2[i] k;rw[G0V];generalize hV:G0z x.2.2[i] k=V at hl;have b1:k.ble V.length=true:=jE (by omega);have b2:((k+1)*32).ble 140737488355328=true:=jE (by omega);have b3:(k+1).ble (V++[ofV (x.2.2[i].getD k 0)]).length=true:=jE (by simp;omega);(have t1:V.take k=V:=by rw[<-hl];exact dM);simp only[G0o,nq,decide_true,cond_true,aq,ar,ah hi,ai,beq_self_eq_true,iQ (show k<9223372036854775807 by omega)];by_cases hlen:(k:Int)<(x.2.2[i].length:Int);(have aXK:k<x.2.2[i].length:=by omega);(have hg:x.2.2[i].getD k 0=x.2.2[i][k]:=by rw[aCf,ah aXK];rfl);rw[hg]at b3|-;simp only[hlen,decide_true,cond_true,ah aXK,ai,G08,b1,b2,t1,b3];(have hg:x.2.2[i].getD k 0=0:=by rw[aCf,bJ (by omega)];rfl);rw[hg]at b3|-;simp only[hlen,decide_false,cond_false,G08,ai,b1,b2,t1,b3,cond_true]) (by simp only[G0o,ba,decide_false,cond_false]);exact this
theorem G1b{x:G0u}{i:Nat}(h0:0<=x.2.1)(hi:i<1000):ao.wrap ((1:Int)+ao.wrap ((i:Int)*ao.wrap ((1:Int)+ao.wrap (x.2.1.tmod (3:Int)))))=1+(i:Int)*G0v x:=by obtain⟨h1,h2⟩:=G0U h0;have e1:ao.wrap (x.2.1.tmod 3)=x.2.1.tmod 3:=E9S (by unfold G0v at h1;omega) (by unfold G0v at h2;omega);have e2:ao.wrap ((1:Int)+x.2.1.tmod 3)=G0v x:=E9S (by unfold G0v at h1;omega) (by unfold G0v at h2;omega);have F1:0<=(i:Int)*G0v x:=Int.mul_nonneg (by omega) (by omega);have yP:(i:Int)*G0v x<=1000*3:=Int.mul_le_mul (by omega) h2 (by omega) (by omega);rw[e1,e2,E9S (x:=(i:Int)*G0v x) (by omega) (by omega),E9S (by omega) (by omega)]
theorem G1c{x:G0u}{n:Nat}(h0:0<=x.2.1)(hn:n<=8)(hl:x.2.2.length<=1000):G0x (x,(n:Int))=some (G04 x n):=by unfold G0x;(have ht:(letters.take n).length=n:=by rw[aW];show min n 8=n;omega);show(bif decide ((0:Int)<=(n:Int))then bif n.ble 8 then bif cQ 0 0 then bif((0+(letters.take n).length)*16).ble 140737488355328 then bif(0+(letters.take n).length).ble (aP 0 []++letters.take n).length then _ else _ else _ else _ else _ else _)=_;(have loop:A0d G0p (((n:Int),(0:Int)),x,((⟨#[]⟩,([],0),[],0):ByteArray×(List ByteArray×Nat)×List F2L×Nat),⟨#[114]⟩,(aP 0 []++letters.take n,0+(letters.take n).length),[],0)=some ((⟨#[]⟩,([],0),[],0),⟨#[114]⟩,(aP 0 []++letters.take n,0+(letters.take n).length),G0A x n x.2.2.length,x.2.2.length):=by have:A0d G0p (((n:Int),((0:Nat):Int)),x,((⟨#[]⟩,([],0),[],0):ByteArray×(List ByteArray×Nat)×List F2L×Nat),⟨#[114]⟩,(aP 0 []++letters.take n,0+(letters.take n).length),G0A x n 0,0)=_:=tQ (f:=G0p) x.2.2.length (λi=>(((n:Int),(i:Int)),x,((⟨#[]⟩,([],0),[],0):ByteArray×(List ByteArray×Nat)×List F2L×Nat),⟨#[114]⟩,(aP 0 []++letters.take n,0+(letters.take n).length),G0A x n i,i)) ((⟨#[]⟩,([],0),[],0),⟨#[114]⟩,(aP 0 []++letters.take n,0+(letters.take n).length),G0A x n x.2.2.length,x.2.2.length) (λi hi=>by(have hi':(i:Int)<x.2.2.length:=by omega);have hw:=G0X (n:=n) hn hi (by omega) ((⟨#[]⟩,([],0),[],0):ByteArray×(List ByteArray×Nat)×List F2L×Nat) (⟨#[114]⟩,(aP 0 []++letters.take n,0+(letters.take n).length),G0A x n i,i) (1+(i:Int)*G0v x);have hV:=G0D x.2.2[i] n;have hR:=G0I x n i;(have hg:x.2.2.getD i []=x.2.2[i]:=by rw[aCf,ah hi];rfl);rw[G0W];(have hrow:G0C x n i=(1+(i:Int)*G0v x,G0z x.2.2[i] n):=by unfold G0C;rw[hg]);rw[hrow];generalize hRR:G0A x n i=R at hR hw;generalize hVV:G0z x.2.2[i] n=V at hV hw;(have t1:V.take n=V:=by rw[<-hV];exact dM);(have t2:R.take i=R:=by rw[<-hR];exact dM);have t3:aP 1 ([]++[((1+(i:Int)*G0v x,V):F2L)])=[((1+(i:Int)*G0v x,V):F2L)]:=rfl;simp only[G0p,hi',decide_true,cond_true,G1b h0 (show i<1000 by omega)];rw[hw];simp only[ai,beq_self_eq_true,cond_true,t1,t2,t3];rw[jE (show n<=V.length by omega),jE (show 1<=0+1 by omega),jE (show i<=R.length by omega),jE (show(i+1)*32<=140737488355328 by omega),jE (show i+1<=(R++[((1+(i:Int)*G0v x,V):F2L)]).length by simp;omega),iQ (show i<9223372036854775807 by omega)];rfl) (by simp only[G0p,ba,decide_false,cond_false]);exact this);rw[decide_eq_true (aq n),jE (show n<=8 from hn),jE (ay 0),jE (show(0+(letters.take n).length)*16<=140737488355328 by omega),jE (show 0+(letters.take n).length<=(aP 0 ([]:List ByteArray)++letters.take n).length by simp)];simp only[cond_true];have hR:=G0I x n x.2.2.length;refine(congrArg (λo=>bc o _) loop).trans ?_;simp only[ai];rw[jE (show 0+(letters.take n).length<=(aP 0 ([]:List ByteArray)++letters.take n).length by simp),jE (show x.2.2.length<=(G0A x n x.2.2.length).length by omega)];simp only[cond_true];unfold G04;congr 3;simp only[List.take_zero,a7,bS,pN];rw[a6 (by omega)]
theorem G0J(x:G0u)(n:Nat)(hg:1<=G0v x):∀(k s:Nat)(p:Int),p<1+(s:Int)*G0v x->E8k n p ((mJ s k).map (G0C x n))=0|0,s,p,_=>rfl|k+1,s,p,hp=>by simp only[List.range'_succ,List.map_cons,E8k];(have h1:¬(G0C x n s).1<=p:=by unfold G0C;simp only;omega);(have h2:¬(G0C x n s).2.length≠n:=by unfold G0C;simp[G0D]);have h3:(G0C x n s).2.all E4N=true:=bB.2 λv hv=>G03 _ _ v hv;rw[if_neg h1,if_neg h2,if_pos h3];refine G0J x n hg k (s+1) _ ?_;unfold G0C;simp only;(have:((s+1:Nat):Int)*G0v x=(s:Int)*G0v x+G0v x:=by rw[Int.natCast_add,Int.add_mul];simp);omega
theorem G0Y:∀n,n<=8->E7M [] (letters.take n)=true|0,_|1,_|2,_|3,_|4,_|5,_|6,_|7,_|8,_=>by kernel_rfl|n+9,h=>by omega
end Go.Mid
