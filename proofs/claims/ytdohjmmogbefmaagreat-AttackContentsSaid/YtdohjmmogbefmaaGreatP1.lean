/- Tools for plain laws: loops step by step, sums, bounds. -/
import Derived.Test.YtdohjmmogbefmaaGreatM9
import Derived.Test.YtdohjmmogbefmaaGreatM10
import Derived.Test.YtdohjmmogbefmaaGreatT2
set_option linter.unusedSimpArgs false
set_option linter.unusedVariables false
set_option maxHeartbeats 1000000
open Bool renaming not_true->bO,and_self->fR,eq_iff_iff->c6
open Go.IntKind renaming i64->ao
open Int renaming lt_irrefl->ba,toNat_natCast->ar,natCast_nonneg->aq,eq_ofNat_of_zero_le->eB,le_refl->lu,natCast_zero->av,toNat->lV
open List renaming take_length->dM,pairwise_cons->bN,mem_cons->aG,mem_cons_of_mem->bC,length_cons->bf,cons_append->aS,length_take->aW,length_append->aR,length_drop->cm,getElem?_append_right->bG,length->cz,length_nil->cM,getElem?_eq_getElem->ah,set_append_right->aBj,drop_eq_getElem_cons->bY,set_cons_zero->dR,take_of_length_le->a6,length_set->iy,set_set->nK,replicate->au,length_replicate->fZ,nodup_append->aT,getElem?_set->dD,mem_append->az,mem_singleton->aX,prefix_refl->aBM,getElem_mem->aM,prefix_append->aTg,mem_append_left->cV,getElem_of_mem->pd,map->fp,map_id->wR,range->bA,map_append->b9,ext_getElem?->fy,getElem?_eq_none->bJ,length_map->aB,mem_map->bp,mem_filter->cZ,drop_length->aBN,append_nil->bD,map_congr_left->eJ,mem_range->cu,take->aP,countP_cons->rz,nodup_cons->bZ,countP_append->p9,pairwise_append->cF,mem_append_right->kK,contains_iff_mem->bj,mem_cons_self->dS,map_cons->aF,Nodup->yo,pairwise_map->eG
open Nat renaming ble_eq_true_of_le->auP,le_trans->dF,min_eq_left->cX,le_refl->ay,sub_self->gx,add_assoc->bV,lt_succ_iff_lt_or_eq->mV,zero_le->dg,blt->cP,beq->iI,le_of_lt->fH,min_eq_right->jk,zero_add->bS
open Option renaming bind_some->ai
namespace Go.Mid
section
variable{A B:Type}{f:A->Option (A⊕B)}
theorem tQ(n:Nat)(T:Nat->A)(b:B)(h1:∀i,i<n->f (T i)=some (.inl (T (i+1))))(h2:f (T n)=some (.inr b)):A0d f (T 0)=some b:=by(have:∀k i,i+k=n->A0d f (T i)=some b:=by intro k;induction k with|zero=>intro i hi;(obtain rfl:i=n:=by omega);exact qc h2|succ k ih=>intro i hi;rw[vw (h1 i (by omega))];exact ih (i+1) (by omega));exact this n 0 (by omega)
end
theorem jE{a b:Nat}(h:a<=b):a.ble b=true:=auP h
theorem D9e{a b:Nat}(h:b<a):a.ble b=false:=by cases hc:a.ble b with|false=>rfl|true=>have:=Nat.le_of_ble_eq_true hc;omega
theorem lB{a b:Nat}(h:a<b):a.blt b=true:=auP h
theorem D9f{a b:Nat}(h:b<=a):a.blt b=false:=D9e (by omega)
theorem pN{α:Type}(l:List α):l.take l.length=l:=dM
theorem vz{α:Type}{l:List α}{i:Nat}(h:i<l.length):l.take (i+1)=l.take i++[l[i]]:=List.take_succ_eq_append_getElem h
section
variable{α β:Type}
end
end Go.Mid
namespace Go.Mid
def F7l(f:Nat->Nat->Bool)(k:Nat):Nat->Nat->Bool:=λi j=>f i j||(f i k&&f k j)
def F7g(f:Nat->Nat->Bool):Nat->Nat->Nat->Bool|0=>f|k+1=>F7l (F7g f k) k
theorem F7w{f:Nat->Nat->Bool}{k i j:Nat}:F7l f k i j=true↔f i j=true\/(f i k=true/\f k j=true):=by unfold F7l;rw[Bool.or_eq_true,Bool.and_eq_true]
theorem F7F{f:Nat->Nat->Bool}{i j:Nat}(h:f i j=true):∀k,F7g f k i j=true|0=>h|k+1=>F7w.2 (.inl (F7F h k))
theorem F7z{f:Nat->Nat->Bool}:∀k(i a j:Nat),a<k->F7g f k i a=true->F7g f k a j=true->F7g f k i j=true|0,_,_,_,h,_,_=>by omega|k+1,i,a,j,h,h1,h2=>by have h1:=F7w.1 h1;have h2:=F7w.1 h2;refine F7w.2 ?_;by_cases hk:a=k;subst hk;have vR:F7g f a i a=true:=h1.elim (λh=>h) (λh=>h.1);have sA:F7g f a a j=true:=h2.elim (λh=>h) (λh=>h.2);exact .inr ⟨vR,sA⟩;(have ha:a<k:=by omega);rcases h1 with h1|h1<;>rcases h2 with h2|h2;exact .inl (F7z k i a j ha h1 h2);exact .inr ⟨F7z k i a k ha h1 h2.1,h2.2⟩;exact .inr ⟨h1.1,F7z k k a j ha h1.2 h2⟩;exact .inr ⟨h1.1,h2.2⟩
theorem F7A{f:Nat->Nat->Bool}{Q:Nat->Nat->Prop}(hf:∀i j,f i j=true->Q i j)(ht:∀i a j,Q i a->Q a j->Q i j):∀k i j,F7g f k i j=true->Q i j|0,i,j,h=>hf i j h|k+1,i,j,h=>by rcases F7w.1 h with h|h;exact F7A hf ht k i j h;exact ht i k j (F7A hf ht k i k h.1) (F7A hf ht k k j h.2)
theorem F2l{R:Int->Int->Prop}(HK:∀a,¬R a a)(Nr:∀a b,R a b->R b a->False):∀{l m:List Int},l.Pairwise R->m.Pairwise R->(∀x,x∈l↔x∈m)->l=m|[],[],_,_,_=>rfl|[],b::m,_,_,h=>absurd ((h b).2 (by simp)) (by simp)|a::l,[],_,_,h=>absurd ((h a).1 (by simp)) (by simp)|a::l,b::m,hl,hm,h=>by have zj:=bN.1 hl;have xM:=bN.1 hm;(have uO:a=b:=by rcases aG.1 ((h a).1 (by simp))with e|e;exact e;rcases aG.1 ((h b).2 (by simp))with e2|e2;exact e2.symm;exact(Nr _ _ (zj.1 b e2) (xM.1 a e)).elim);subst uO;congr 1;refine F2l HK Nr zj.2 xM.2 λx=>?_;constructor;intro hx;rcases aG.1 ((h x).1 (bC _ hx))with e|e;subst e;exact(HK _ (zj.1 _ hx)).elim;exact e;intro hx;rcases aG.1 ((h x).2 (bC _ hx))with e|e;subst e;exact(HK _ (xM.1 _ hx)).elim;exact e
theorem F5D{l m:List Int}(hl:l.Pairwise (·<·))(hm:m.Pairwise (·<·))(h:∀x,x∈l↔x∈m):l=m:=F2l (λa=>ba a) (λa b h1 h2=>by omega) hl hm h
theorem Rn{l:List Int}{x:Int}:x∈A0K l↔x∈l:=(Me l).mem_iff
theorem C9l{l:List Int}(h:l.Nodup):(A0K l).Pairwise (·<·):=by have h1:=B5E l;have h2:(A0K l).Nodup:=(Me l).nodup_iff.2 h;exact(h1.and h2).imp λ⟨a,b⟩=>by omega
end Go.Mid
namespace Go.Mid
def jg:List Int->List Int|[]=>[]|[x]=>[x]|x::y::r=>if x=y then jg (y::r)else x::jg (y::r)
theorem Ro:∀(l:List Int)(x:Int),x∈jg l↔x∈l|[],x=>by simp[jg]|[a],x=>by simp[jg]|a::b::r,x=>by unfold jg;split;rename_i h;rw[Ro (b::r) x,h];simp;rw[aG,Ro (b::r) x];simp
theorem Ns:∀l:List Int,(jg l).length<=l.length|[]=>by simp[jg]|[a]=>by simp[jg]|a::b::r=>by unfold jg;have:=Ns (b::r);split<;>simp only[bf]at*<;>omega
theorem B62:∀ (l:List Int) (x:Int),l ≠ []->jg (l++[x])=if l.getLast?=some x then jg l else jg l++[x]
 | [],_,h=>absurd rfl h
 | [a],x,_=>by
   simp only [aS,List.nil_append,jg,List.getLast?_singleton,Option.some.injEq]
   by_cases h:a=x
   . simp [h]
   . simp [h]
 | a::b::r,x,_=>by
   have ih:=B62 (b::r) x (by simp)
   have e:(a::b::r).getLast?=(b::r).getLast?:=by simp
   rw [e]
   simp only [aS] at ih ⊢
   rw [jg,ih]
   conv=>rhs;rw [jg]
   by_cases h1:a=b<;>by_cases h2:(b::r).getLast?=some x<;>simp [h1,h2]
def pS(l:List Int)(m:Nat):List Int:=jg (l.take m)++l.drop (jg (l.take m)).length
theorem C1U(l:List Int)(m:Nat):(jg (l.take m)).length<=m:=dF (Ns _) (by rw[aW];omega)
theorem C4f(l:List Int)(m:Nat):(pS l m).length=l.length:=by unfold pS;have h1:=Ns (l.take m);rw[aW]at h1;rw[aR,cm];omega
theorem C4g{l:List Int}{m i:Nat}(h:(jg (l.take m)).length<=i):(pS l m)[i]?=l[i]?:=by unfold pS;rw[bG h,List.getElem?_drop];congr 1;omega
theorem C9m{l:List Int}{m:Nat}(h0:0<m)(h:m<=l.length):(l.take m).getLast?=l[m-1]?:=by rw[List.getLast?_eq_getElem?,aW,cX h,List.getElem?_take_of_lt (by omega)]
theorem JJ{l:List Int}{m:Nat}(h0:0<m)(h:m<l.length):jg (l.take (m+1))=if l[m]'h=l[m-1]'(by omega)then jg (l.take m)else jg (l.take m)++[l[m]'h]:=by(have hne:l.take m≠[]:=by intro e;have:=congrArg cz e;rw[aW,cM]at this;omega);rw[vz h,B62 _ _ hne,C9m h0 (by omega),ah (by omega:m-1<l.length)];simp only[Option.some.injEq];by_cases e:l[m]'h=l[m-1]'(by omega);rw[if_pos e.symm,if_pos e];rw[if_neg (λh=>e h.symm),if_neg e]
theorem D07{l:List Int}{m:Nat}(h0:0<m)(h:m<l.length)(hk:(jg (l.take m)).length<=m-1)(hne:l[m]'h≠l[m-1]'(by omega)):pS l (m+1)=(pS l m).set (jg (l.take m)).length (l[m]'h):=by unfold pS;rw[JJ h0 h,if_neg hne];generalize jg (l.take m)=D at hk;rw[aBj _ _ (ay _),gx,aR];(have:D.length<l.length:=by omega);rw[bY this,dR];simp
theorem B63{l:List Int}{m k:Nat}(JG:k<m)(hk:(jg (l.take m)).length<=m-1):∀j,m+j<=l.length->(jg (l.take (m+j))).length<=m+j-1|0,_=>by simpa using hk|j+1,h=>by have ih:=B63 JG hk j (by omega);rw[<-bV,JJ (by omega) (by omega)];split;omega;rw[aR];simp;omega
theorem C1V{LL:List (List Int)}{I N off:Nat}{l:List Int}(hI:I<LL.length)(hN:l.length=N)(hN2:N<=1000)(ho:0<off)(hoN:off<N)(hd:(jg (l.take (off+1))).length=off):A0d Jt (((I,N),(off:Int),(I,off,N-off),1),LL.set I (pS l (off+1)))=some (((I,N),((jg l).length:Int)),LL.set I (pS l N)):=by(have hall:jg (l.take N)=jg l:=by rw[a6 (by omega)]);have:A0d Jt (((I,N),((jg (l.take (off+1+0))).length:Int),(I,off,N-off),((0+1:Nat):Int)),LL.set I (pS l (off+1+0)))=_:=tQ (f:=Jt) (N-off-1) (λi=>(((I,N),((jg (l.take (off+1+i))).length:Int),(I,off,N-off),((i+1:Nat):Int)),LL.set I (pS l (off+1+i)))) (((I,N),((jg l).length:Int)),LL.set I (pS l N)) (λi hi=>by(have hm:off+1+i<l.length:=by omega);have hsm:=B63 (l:=l) (m:=off+1) (k:=off) (by omega) (by omega) i (by omega);have hk0:=C1U l (off+1+i);(have hj:((i+1:Nat):Int)<((N-off:Nat):Int):=by omega);(have EJ:(0:Int)<=((i+1:Nat):Int):=by omega);(have hw:ao.wrap (((i+1:Nat):Int)-1)=(i:Int):=by rw[E9S (by omega) (by omega)];omega);(have e1:(LL.set I (pS l (off+1+i)))[I]?=some (pS l (off+1+i)):=by simp[hI]);(have g1:(pS l (off+1+i))[off+(i+1)]?=some (l[off+1+i]'hm):=by rw[C4g (by omega),show off+(i+1)=off+1+i by omega,ah hm]);(have g2:(pS l (off+1+i))[off+i]?=some (l[off+i]'(by omega)):=by rw[C4g (by omega),ah (by omega)]);have hlen:=C4f l (off+1+i);have rG:=JJ (l:=l) (m:=off+1+i) (by omega) hm;(have Nt:off+1+i-1=off+i:=by omega);simp only[Nt]at rG;simp only[Jt,hj,decide_true,cond_true,e1,ai,EJ,ar,lB (show i+1<N-off by omega),g1,hw,aq,lB (show i<N-off by omega),g2];by_cases hne:l[off+1+i]'hm=l[off+i]'(by omega);rw[if_pos hne]at rG;(have hb:(l[off+1+i]'hm !=l[off+i]'(by omega))=false:=by simp[hne]);(have ha:pS l (off+1+(i+1))=pS l (off+1+i):=by rw[<-bV];unfold pS;rw[rG]);rw[ha,<-bV (off+1) i 1,rG];simp only[hb,cond_false,iQ (show i+1<9223372036854775807 by omega)];rw[if_neg hne]at rG;(have hb:(l[off+1+i]'hm !=l[off+i]'(by omega))=true:=by simpa using hne);have ha:=D07 (l:=l) (m:=off+1+i) (by omega) hm (by omega) (by simp only[Nt];exact hne);rw[<-bV (off+1) i 1,ha,rG];(have hDl:(jg (l.take (off+1+i))).length<(pS l (off+1+i)).length:=by omega);simp only[hb,cond_true,lB (show(jg (l.take (off+1+i))).length<N by omega),ah hDl,ai,beq_self_eq_true,iy,lB hI,nK,aR,bf,cM,iQ (show(jg (l.take (off+1+i))).length<9223372036854775807 by omega),iQ (show i+1<9223372036854775807 by omega)]) (by(have hm:off+1+(N-off-1)=N:=by omega);(have e1:(LL.set I (pS l N))[I]?=some (pS l N):=by simp[hI]);(have hj:¬((N-off-1+1:Nat):Int)<((N-off:Nat):Int):=by omega);rw[hm,hall];simp only[Jt,hj,decide_false,cond_false,e1,ai]);(have h0:((jg (l.take (off+1+0))).length:Int)=(off:Int):=by rw[Nat.add_zero,hd]);rw[h0]at this;exact this
theorem Xx{l:List Int}{k:Nat}(h:∀j(h0:0<j)(hj:j<k)(hl:j<l.length),l[j]≠l[j-1]'(by omega)):∀m,m<=k->m<=l.length->jg (l.take m)=l.take m|0,_,_=>by simp[jg]|1,_,hl=>by rw[vz (by omega:0<l.length)];simp[jg]|m+2,hk,hl=>by rw[JJ (by omega) (by omega:m+1<l.length),if_neg (h (m+1) (by omega) (by omega) (by omega)),Xx h (m+1) (by omega) (by omega),<-vz (by omega)]
theorem C7E{LL:List (List Int)}{I:Nat}{l:List Int}(hL:LL[I]?=some l)(hN2:l.length<=1000):∃l',QK ((I,l.length),LL)=some ((I,(jg l).length),LL.set I l')/\l'.take (jg l).length=jg l/\(jg l).length<=l'.length:=by have hI:=(List.getElem?_eq_some_iff.1 hL).1;unfold QK;by_cases h2:(l.length:Int)<2;(have hd:jg l=l:=by match l,h2 with|[],_=>rfl|[_],_=>rfl|_::_::_,h=>simp at h;omega);refine⟨l,?_,by rw[hd,pN],by rw[hd];exact ay _⟩;simp only[h2,decide_true,cond_true,hL,ai,hd,Xw hL];simp only[h2,decide_false,cond_false,hL,ai];(have key:∀n k,n+k=l.length->0<k->(∀j(h0:0<j)(hj:j<k)(hl:j<l.length),l[j]≠l[j-1]'(by omega))->∃b,A0d Ju (((I,l.length),(k:Int)),LL)=some b/\((∃l',b=.inl ((I,(jg l).length),LL.set I l')/\l'.take (jg l).length=jg l/\(jg l).length<=l'.length)\/(b=.inr ((I,l.length),LL)/\jg l=l)):=by intro n;induction n with|zero=>intro k hk h0 hp;(have zq:k=l.length:=by omega);refine⟨.inr ((I,l.length),LL),qc ?_,.inr ⟨rfl,?_⟩⟩;subst zq;simp only[Ju,ba,decide_false,cond_false,hL,ai];have:=Xx hp l.length (by omega) (ay _);rwa[pN]at this|succ n ih=>intro k hk h0 hp;(have zq:k<l.length:=by omega);(have nq:(k:Int)<(l.length:Int):=by omega);(have hw:ao.wrap ((k:Int)-1)=((k-1:Nat):Int):=by rw[E9S (by omega) (by omega)];omega);by_cases he:l[k]=l[k-1]'(by omega);have hd:jg (l.take k)=l.take k:=Xx hp k (ay _) (by omega);(have hd1:(jg (l.take (k+1))).length=k:=by rw[JJ h0 zq,if_pos he,hd,aW];omega);(have ha:pS l (k+1)=l:=by unfold pS;rw[hd1,JJ h0 zq,if_pos he,hd,List.take_append_drop]);have CT:=C1V (LL:=LL) (I:=I) (N:=l.length) (off:=k) (l:=l) hI rfl hN2 h0 zq hd1;rw[ha,Xw hL]at CT;have hle:=Ns l;(have hD:pS l l.length=jg l++l.drop (jg l).length:=by unfold pS;rw[pN]);have Xy:=C4f l l.length;refine⟨.inl ((I,(jg l).length),LL.set I (A1x (pS l l.length) (some (jg l).length) (au (l.length-(jg l).length) 0))),qc ?_,.inl ⟨_,rfl,?_,?_⟩⟩;(have e1:(LL.set I (pS l l.length))[I]?=some (pS l l.length):=by simp[hI]);(have e3:(A1x (pS l l.length) (some (jg l).length) (au (l.length-(jg l).length) 0)).length=(pS l l.length).length:=by unfold A1x;simp only[aR,aW,fZ,cm,Xy];omega);simp only[Ju,nq,decide_true,cond_true,hL,ai,aq,ar,lB zq,ah zq,hw,lB (show k-1<l.length by omega),ah (show k-1<l.length by omega),he,beq_self_eq_true,jE (show k<=l.length by omega)];refine(congrArg (λo=>Option.bind o _) CT).trans ?_;simp only[ai,e1,jE hle,aq,decide_true,cond_true,ar,beq_self_eq_true,iy,lB hI,e3,nK];rw[jE (by rw[fZ,Xy];omega)];rfl;unfold A1x;simp only;rw[hD,List.append_assoc,List.take_append_of_le_length (by rw[aW];simp),List.take_take,Nat.min_self,List.take_left' rfl];unfold A1x;simp only[aR,aW,fZ,cm,Xy];omega;(have hb:(l[k]==l[k-1]'(by omega))=false:=by simpa using he);obtain⟨b,h1,h3⟩:=ih (k+1) (by omega) (by omega) (λj a b c=>by by_cases e:j=k;subst e;exact he;exact hp j a (by omega) c);refine⟨b,?_,h3⟩;rw[<-h1];exact vw (by simp only[Ju,nq,decide_true,cond_true,hL,ai,aq,ar,lB zq,ah zq,hw,lB (show k-1<l.length by omega),ah (show k-1<l.length by omega),hb,cond_false,iQ (show k<9223372036854775807 by omega)]));obtain⟨b,h1,h3⟩:=key (l.length-1) 1 (by omega) (by omega) (λj a b c=>by omega);have h1:A0d Ju (((I,l.length),(1:Int)),LL)=some b:=h1;rw[h1];rcases h3 with⟨l',rfl,h4,h5⟩|⟨rfl,h4⟩;refine⟨l',?_,h4,h5⟩;(have e1:(LL.set I l')[I]?=some l':=by simp[hI]);simp only[ai,Sum.elim_inl,e1];refine⟨l,?_,by rw[h4,pN],by rw[h4];exact ay _⟩;simp only[ai,Sum.elim_inr,hL,h4,Xw hL]
end Go.Mid
namespace Go.Mid
structure VI (n:Nat)(Q:Int->Prop)(seen:List Bool)(out:List Int):Prop where
 sl:seen.length=n
 nd:out.Nodup
 mem:∀ v:Nat,v<n->(seen[v]?=some true↔(v:Int)∈out)
 yd:∀ v∈out,0<=v∧v<n
 q:∀ v∈out,Q v
 cnt:seen.count true=out.length
theorem VI.le{n:Nat}{Q:Int->Prop}{seen:List Bool}{out:List Int}(h:VI n Q seen out):out.length<=n:=by rw[<-h.cnt,<-h.sl];exact List.count_le_length
theorem VI.add{n:Nat}{Q:Int->Prop}{seen:List Bool}{out:List Int}(h:VI n Q seen out){w:Nat}(hw:w<n)(hs:seen[w]?=some false)(hq:Q w):VI n Q (seen.set w true) (out++[(w:Int)])where
 sl:=by rw[iy];exact h.sl
 nd:=by(have:(w:Int)∉out:=λhm=>by have:=(h.mem w hw).2 hm;rw[hs]at this;cases this);rw[aT];refine⟨h.nd,by simp,?_⟩;intro a ha b hb e;simp at hb;subst hb;subst e;exact this ha
 mem:=by intro v hv;rw[dD];by_cases e:w=v;subst e;simp[h.sl,hv];rw[if_neg e,h.mem v hv];simp only[az,aX];constructor;exact .inl;rintro(h1|h1);exact h1;omega
 yd:=by intro v hv;rcases az.1 hv with h1|h1;exact h.yd v h1;rw[aX]at h1;subst h1;omega
 q:=by intro v hv;rcases az.1 hv with h1|h1;exact h.q v h1;rw[aX]at h1;subst h1;exact hq
 cnt:=by(have eC:w<seen.length:=by rw[h.sl];exact hw);(have hg:seen[w]=false:=by rw[ah eC]at hs;exact Option.some.inj hs);rw[List.count_set eC,hg,h.cnt];simp
structure NB (n:Nat)(next:List (List Int)):Prop where
 len:next.length=n
 yd:∀ l∈next,∀ w∈l,0<=w∧w<n
 Rp:∀ l∈next,l.length<=1000
 small:n<=1000
theorem F1W{n:Nat}{Q:Int->Prop}{next:List (List Int)}(hN:NB n next){L:List Int}(hL:L∈next)(hQ:∀w∈L,Q w)(i0:Int)(seen:List Bool)(out:List Int)(h:VI n Q seen out):∃seen' out',A0d E5w ((next,n,out.length,i0,L,(L.length:Int),0),seen,out)=some ((next,n,out'.length,i0),seen',out')/\VI n Q seen' out'/\out<+:out'/\∀w∈L,w∈out':=by have hf:=hN.Rp L hL;have:=V4 (f:=E5w) L.length (λi(s:List Bool×List Int)=>((next,n,s.2.length,i0,L,(L.length:Int),(i:Int)),s.1,s.2)) (λi s=>VI n Q s.1 s.2/\out<+:s.2/\∀k(hk:k<L.length),k<i->L[k]∈s.2) (λb=>∃seen' out',b=((next,n,out'.length,i0),seen',out')/\VI n Q seen' out'/\out<+:out'/\∀w∈L,w∈out') (seen,out) ⟨h,aBM _,λk _ hk=>by omega⟩ (λi s hi hJ=>by obtain⟨hv,hp,hall⟩:=hJ;(have hi':(i:Int)<L.length:=by omega);obtain⟨w,hw⟩:∃w:Nat,L[i]=(w:Int):=eB (hN.yd L hL _ (aM hi)).1;(have Em:w<n:=by have:=(hN.yd L hL _ (aM hi)).2;rw[hw]at this;omega);have hle:=hv.le;have hsm:=hN.small;(have eC:w<s.1.length:=by rw[hv.sl];exact Em);left;by_cases hs:s.1[w]=true;refine⟨s,?_,hv,hp,λk hk Dp=>?_⟩;simp only[E5w,hi',decide_true,cond_true,aq,ar,ah hi,ai,hw,lB Em,ah eC,hs,bO,cond_false,iQ (show i<9223372036854775807 by omega)];rcases mV.1 Dp with h1|h1;exact hall k hk h1;subst h1;rw[hw];exact(hv.mem w Em).1 (by rw[ah eC,hs]);(have hs:s.1[w]=false:=by simpa using hs);refine⟨(s.1.set w true,s.2++[(w:Int)]),?_,hv.add Em (by rw[ah eC,hs]) (by rw[<-hw];exact hQ _ (aM hi)),hp.trans (aTg _ _),λk hk Dp=>?_⟩;simp only[E5w,hi',decide_true,cond_true,aq,ar,ah hi,ai,hw,lB Em,ah eC,hs,Bool.not_false,jE (ay _),pN,aR,bf,cM,iQ (show i<9223372036854775807 by omega)];rw[jE (show(s.2.length+1)*8<=140737488355328 by omega)];rfl;rcases mV.1 Dp with h1|h1;exact cV _ (hall k hk h1);subst h1;rw[hw];simp) (λs hJ=>by obtain⟨hv,hp,hall⟩:=hJ;refine⟨((next,n,s.2.length,i0),s.1,s.2),?_,s.1,s.2,rfl,hv,hp,λw hw=>?_⟩;simp only[E5w,ba,decide_false,cond_false];obtain⟨k,hk,rfl⟩:=pd hw;exact hall k hk hk);obtain⟨b,hb,seen',out',rfl,h1,h2,h3⟩:=this;exact⟨seen',out',hb,h1,h2,h3⟩
theorem F1X{n:Nat}{Q:Int->Prop}{next:List (List Int)}(hN:NB n next)(hQ:∀v:Nat,(hv:v<next.length)->Q v->∀w∈next[v],Q w)(seen:List Bool)(out:List Int)(h:VI n Q seen out):∃out',A0d E5x ((next,n,out.length,0),seen,out)=some (out'.length,out')/\(∃s,VI n Q s out')/\out<+:out'/\∀v∈out',∀(hv:v.toNat<next.length),∀w∈next[v.toNat],w∈out':=by have hsm:=hN.small;have:=C8K (f:=E5x) (λa=>∃(i:Nat)(seen':List Bool)(out':List Int),a=((next,n,out'.length,(i:Int)),seen',out')/\VI n Q seen' out'/\out<+:out'/\i<=out'.length/\∀k(hk:k<out'.length),k<i->∀(hv:(out'[k]).toNat<next.length),∀w∈next[(out'[k]).toNat],w∈out') (λb=>∃out',b=(out'.length,out')/\(∃s,VI n Q s out')/\out<+:out'/\∀v∈out',∀(hv:v.toNat<next.length),∀w∈next[v.toNat],w∈out') (λa=>n-a.1.2.2.2.toNat) (λa ha=>by obtain⟨i,seen',out',rfl,hv,hp,hi,hall⟩:=ha;have hle:=hv.le;by_cases rX:i<out'.length;left;(have hi':(i:Int)<(out'.length:Int):=by omega);obtain⟨u,hu⟩:∃u:Nat,out'[i]=(u:Int):=eB (hv.yd _ (aM rX)).1;(have XA:u<n:=by have:=(hv.yd _ (aM rX)).2;rw[hu]at this;omega);(have aEO:u<next.length:=by rw[hN.len];exact XA);obtain⟨s2,o2,e1,v2,p2,a2⟩:=F1W hN (aM aEO) (hQ u aEO (by rw[<-hu];exact hv.q _ (aM rX))) (i:Int) seen' out' hv;refine⟨((next,n,o2.length,((i+1:Nat):Int)),s2,o2),?_,⟨i+1,s2,o2,rfl,v2,hp.trans p2,dF rX p2.length_le,?_⟩,?_⟩;simp only[E5x,hi',decide_true,cond_true,aq,ar,lB rX,ah rX,ai,hu,ah aEO,e1,iQ (show i<9223372036854775807 by omega)];intro k hk Dp HP w hw;(have YP:k<out'.length:=by omega);have hg:o2[k]=out'[k]:=(List.IsPrefix.getElem p2 YP).symm;rcases mV.1 Dp with h1|h1;simp only[hg]at HP hw;exact p2.subset (hall k YP h1 HP w hw);subst h1;simp only[hg,hu,ar]at hw;exact a2 w hw;show n-(((i+1:Nat):Int)).toNat<n-((i:Int)).toNat;simp only[ar];omega;right;(have hie:i=out'.length:=by omega);refine⟨(out'.length,out'),?_,out',rfl,⟨_,hv⟩,hp,λv hvm hvn w hw=>?_⟩;(have eC:¬(i:Int)<(out'.length:Int):=by omega);simp only[E5x,eC,decide_false,cond_false];obtain⟨k,hk,rfl⟩:=pd hvm;exact hall k hk (by omega) hvn w hw) ((next,n,out.length,0),seen,out) ⟨0,seen,out,rfl,h,aBM _,dg _,λk _ hk=>by omega⟩;obtain⟨b,hb,out',rfl,h1,h2,h3⟩:=this;exact⟨out',hb,h1,h2,h3⟩
end Go.Mid
namespace Go.Mid
theorem C9n(x:List Int):uR (Ty.vec 1 (Ty.int ao)) x=x:=by show fp (uR (Ty.int ao)) x=x;(have:(uR (Ty.int ao):Int->Int)=id:=by funext y;rfl);exact(congrArg (λf=>fp f x) this).trans (wR x)
theorem B4A(l:List (List Int)):fp (uR (Ty.vec 1 (Ty.int ao))) l=l:=by(have:(uR (Ty.vec 1 (Ty.int ao)):List Int->List Int)=id:=by funext y;exact C9n y);exact(congrArg (λf=>fp f l) this).trans (wR l)
abbrev oW:=List (Int×Int)
def tgt(E:oW)(v:Nat):List Int:=(E.filter λe=>e.1==(v:Int)).map (·.2)
def zM(n:Nat)(E:oW):List (List Int):=(bA n).map (tgt E)
theorem Rq{n v:Nat}{E:oW}(h:v<n):(zM n E)[v]?=some (tgt E v):=by simp[zM,h]
theorem Nu(n:Nat)(E:oW):(zM n E).length=n:=by simp[zM]
theorem D08(E:oW)(e:Int×Int)(v:Nat):tgt (E++[e]) v=if e.1=(v:Int)then tgt E v++[e.2]else tgt E v:=by unfold tgt;rw[List.filter_append,b9];by_cases h:e.1=(v:Int)<;>simp[h]
theorem C9o{n:Nat}{E:oW}{u:Nat}{w:Int}(hu:u<n):zM n (E++[((u:Int),w)])=(zM n E).set u (tgt E u++[w]):=by apply fy;intro v;rw[dD,Nu];by_cases hv:v<n;rw[Rq hv,D08];by_cases e:u=v;subst e;simp[hv];(have:¬((u:Int)=(v:Int)):=by omega);simp[e,this,Rq hv];rw[bJ (by rw[Nu];omega)];(have:¬u=v:=by omega);rw[if_neg this,bJ (by rw[Nu];omega)]
theorem Xz(E:oW)(v:Nat):(tgt E v).length<=E.length:=by unfold tgt;rw[aB];exact List.length_filter_le ..
theorem C5V{E:oW}{v:Nat}{w:Int}:w∈tgt E v↔((v:Int),w)∈E:=by unfold tgt;rw[bp];constructor;rintro⟨⟨a,b⟩,h1,rfl⟩;rw[cZ]at h1;have:=h1.2;simp at this;rw[<-this];exact h1.1;intro h;exact⟨((v:Int),w),cZ.2 ⟨h,by simp⟩,rfl⟩
def Ej(n:Nat)(E:oW):Prop:=∀e∈E,0<=e.1/\e.1<n/\0<=e.2/\e.2<n
theorem D09{n:Nat}{E:oW}(hr:Ej n E)(hE:E.length<=1000):A0d MH ((n,E,(E.length:Int),0),au n [])=some (n,zM n E):=by(have h0:au n []=zM n (E.take 0):=by apply fy;intro v;by_cases hv:v<n;rw[Rq hv];simp[hv,tgt];rw[bJ (by simp;omega),bJ (by rw[Nu];omega)]);rw[h0];have:=tQ (f:=MH) E.length (λi=>((n,E,(E.length:Int),(i:Int)),zM n (E.take i))) (n,zM n E) (λi hi=>by(have hi':(i:Int)<E.length:=by omega);have he:=hr E[i] (aM hi);obtain⟨u,hu⟩:∃u:Nat,(E[i]).1=(u:Int):=eB he.1;(have XA:u<n:=by have:=he.2.1;rw[hu]at this;omega);have hei:E[i]=((u:Int),(E[i]).2):=Prod.ext hu rfl;rw[vz hi,hei,C9o XA];have hl:=Xz (E.take i) u;rw[aW]at hl;have b0:cP 0 2=true:=rfl;have b1:cP 1 2=true:=rfl;simp only[MH,hi',decide_true,cond_true,aq,ar,ah hi,ai,b0,b1,hu,lB XA,Rq XA,beq_self_eq_true,jE (ay _),Nu,pN,aR,bf,cM,iQ (show i<9223372036854775807 by omega)];rw[jE (show((tgt (E.take i) u).length+1)*8<=140737488355328 by omega)];rfl) (by simp only[MH,ba,decide_false,cond_false,pN]);simpa using this
def A2U(n:Nat)(E:oW):List (List Int):=(bA n).map λv=>jg (A0K (tgt E v))
def ye(n:Nat)(E:oW)(i:Nat):List (List Int):=(bA n).map λv=>if v<i then jg (A0K (tgt E v))else tgt E v
theorem XB{n v i:Nat}{E:oW}(h:v<n):(ye n E i)[v]?=some (if v<i then jg (A0K (tgt E v))else tgt E v):=by simp[ye,h]
theorem Nv(n i:Nat)(E:oW):(ye n E i).length=n:=by simp[ye]
theorem D1a{n i:Nat}{E:oW}(hi:i<n):ye n E (i+1)=(ye n E i).set i (jg (A0K (tgt E i))):=by apply fy;intro v;rw[dD,Nv];by_cases hv:v<n;rw[XB hv];by_cases e:i=v;subst e;simp[hv];rw[if_neg e,XB hv];by_cases h1:v<i;rw[if_pos h1,if_pos (by omega)];rw[if_neg h1,if_neg (by omega)];rw[bJ (by rw[Nv];omega)];(have:¬i=v:=by omega);rw[if_neg this,bJ (by rw[Nv];omega)]
theorem D2Z{LL:List (List Int)}{I:Nat}{l:List Int}(hL:LL[I]?=some l)(hl:l.length<=1000):QJ ((I,l.length),LL)=some (LL.set I (A0K l)):=by unfold QJ;(have h1:A1x l none (A0K l)=A0K l:=by unfold A1x;simp only;rw[Hv,aBN,bD]);simp only[hL,ai,pN,h1,Hv,jE (ay _),cond_true,beq_self_eq_true];rw[lB (by omega)];rfl
theorem D1b{n:Nat}{E:oW}(hn:n<=1000)(hE:E.length<=1000):A0d MI ((n,(n:Int),0),zM n E)=some (n,A2U n E):=by(have h0:zM n E=ye n E 0:=by simp[zM,ye]);(have h1:A2U n E=ye n E n:=by unfold A2U ye;apply eJ;intro v hv;rw[if_pos (cu.1 hv)]);rw[h0,h1];have:=tQ (f:=MI) n (λi=>((n,(n:Int),(i:Int)),ye n E i)) (n,ye n E n) (λi hi=>by(have hi':(i:Int)<n:=by omega);have hl:=Xz E i;(have g0:(ye n E i)[i]?=some (tgt E i):=by rw[XB hi,if_neg (Nat.lt_irrefl i)]);have hs:=D2Z g0 (by omega);have xj:(A0K (tgt E i)).length=(tgt E i).length:=Hv _;(have g1:((ye n E i).set i (A0K (tgt E i)))[i]?=some (A0K (tgt E i)):=by simp[Nv,hi]);obtain⟨l',c1,c2,c3⟩:=C7E g1 (by omega);(have g2:((ye n E i).set i l')[i]?=some l':=by simp[Nv,hi]);(have g3:(jg (A0K (tgt E i))).length=(aP (jg (A0K (tgt E i))).length l').length:=by rw[c2]);(have bq:iI i i=true:=by simp);simp only[MI,hi',decide_true,cond_true,aq,ar,lB hi,g0,ai,hs,g1,c1,g2,bq,jE c3,c2,beq_self_eq_true,nK,D1a hi,iQ (show i<9223372036854775807 by omega)]) (by simp only[MI,ba,decide_false,cond_false]);simpa using this
theorem XC(n:Nat)(E:oW):(A2U n E).length=n:=by simp[A2U]
theorem C1W{n:Nat}{E:oW}(hn:n<=1000)(hr:Ej n E)(hE:E.length<=1000):Jv ((n:Int),E)=some (A2U n E):=by unfold Jv;simp only[aq,decide_true,cond_true,ar,lu];rw[jE (show n*24<=140737488355328 by omega)];simp only[cond_true,D09 hr hE,ai,D1b hn hE];rw[jE (show n<=(A2U n E).length by rw[XC];exact ay _)];have e:aP n (A2U n E)=A2U n E:=a6 (by rw[XC];exact ay _);refine congrArg some ?_;refine Eq.trans ?_ (B4A (A2U n E));exact congrArg (λl:List (List Int)=>fp (uR (Ty.vec 1 (Ty.int ao))) l) e
theorem C1I{n v:Nat}{E:oW}(h:v<(A2U n E).length):(A2U n E)[v]=jg (A0K (tgt E v)):=by simp[A2U]
theorem C9p{n v:Nat}{E:oW}{w:Int}(h:v<(A2U n E).length):w∈(A2U n E)[v]↔((v:Int),w)∈E:=by rw[C1I h,Ro,Rn,C5V]
theorem D1c{n:Nat}{E:oW}(hn:n<=1000)(hr:Ej n E)(hE:E.length<=1000):NB n (A2U n E)where
 len:=XC n E
 yd:=by intro l hl w hw;obtain⟨v,hv,rfl⟩:=pd hl;have:=hr _ ((C9p hv).1 hw);exact this.2.2
 Rp:=by intro l hl;obtain⟨v,hv,rfl⟩:=pd hl;rw[C1I hv];have h1:=Ns (A0K (tgt E v));rw[Hv]at h1;have h2:=Xz E v;omega
 small:=hn
end Go.Mid
namespace Go.Mid
def HL(n:Int)(e:Int×Int):Bool:=decide (e.1<0)||decide (e.1>=n)||decide (e.2<0)||decide (e.2>=n)
def JK(n:Int)(l:List (Int×Int)):Int:=if n>1000 then 3 else if(l.length:Int)>20000 then 3 else if n<0 then 1 else if l.any (HL n)then 1 else 0
theorem D5Q:cP 0 2=true:=rfl
theorem D5R:cP 1 2=true:=rfl
theorem XD{n:Int}{e:Int×Int}:HL n e=true↔e.1<0\/e.1>=n\/e.2<0\/e.2>=n:=by simp[HL,or_assoc]
theorem C0t(n:Int)(l:List (Int×Int)):MG (n,l)=some (JK n l):=by unfold MG JK;simp only[gt_iff_lt];by_cases h1:1000<n;simp[h1];by_cases h2:(20000:Int)<l.length;simp[h1,h2];by_cases h3:n<0;simp[h1,h2,h3];simp only[h1,h2,h3,decide_false,cond_false,if_false];have:=wo (f:=QI) l (λi=>(n,l,(l.length:Int),(i:Int))) (HL n) (.inl 1) (.inr ()) (λi hi=>by(have hi':(i:Int)<l.length:=by omega);simp only[QI,hi',decide_true,cond_true,aq,ar,ah hi,ai,D5Q,D5R,iQ (show i<9223372036854775807 by omega)];generalize l[i]=e;by_cases hb:HL n e=true;rw[if_pos hb];rw[XD]at hb;by_cases c1:(if e.2<e.1 then e.2 else e.1)<0;simp only[c1,decide_true,cond_true];(have c2:(if e.2>e.1 then e.2 else e.1)>=n:=by split at c1<;>split<;>omega);simp only[c1,c2,decide_true,decide_false,cond_true,cond_false];rw[if_neg hb];rw[XD]at hb;(have c1:¬(if e.2<e.1 then e.2 else e.1)<0:=by split<;>omega);(have c2:¬(if e.2>e.1 then e.2 else e.1)>=n:=by split<;>omega);simp only[c1,c2,decide_false,cond_false]) (by simp only[QI,ba,decide_false,cond_false]);simp only[av]at this;rw[this];by_cases h4:l.any (HL n)=true;simp[h4];simp only[h4];rfl
theorem F22{n:Int}{l:List (Int×Int)}(h:JK n l=0):∃m:Nat,n=(m:Int)/\m<=1000/\l.length<=20000/\Ej m l:=by unfold JK at h;split at h;cases h;split at h;cases h;split at h;cases h;split at h;cases h;rename_i h1 h2 h3 h4;obtain⟨m,rfl⟩:=eB (show 0<=n by omega);refine⟨m,rfl,by omega,by omega,λe he=>?_⟩;have:¬HL m e=true:=λhb=>h4 (List.any_eq_true.2 ⟨e,he,hb⟩);rw[XD]at this;omega
theorem F4c{n:Nat}{Q:Int->Prop}{next:List (List Int)}(hN:NB n next)(hQ:∀v:Nat,(hv:v<next.length)->Q v->∀w∈next[v],Q w){s:Nat}(hs:s<n)(hq:Q s):∃out:List Int,E6j (next,(s:Int))=some (out.length,A0K out)/\out.length<=n/\out.Nodup/\(∀v∈out,0<=v/\v<n)/\(∀v∈out,Q v)/\(s:Int)∈out/\∀v∈out,∀(hv:v.toNat<next.length),∀w∈next[v.toNat],w∈out:=by have hsm:=hN.small;(have h0:VI n Q ((au n false).set s true) [(s:Int)]:=by have:VI n Q (au n false) []:={sl:=by simp,nd:=by simp,mem:=by intro v hv;simp[hv],yd:=by simp,q:=by simp,cnt:=by simp[List.count_replicate]};exact this.add hs (by simp[hs]) hq);obtain⟨out,e,⟨sn,hv⟩,hp,hc⟩:=F1X hN hQ _ _ h0;have hle:=hv.le;refine⟨out,?_,hle,hv.nd,hv.yd,hv.q,hp.subset (by simp),hc⟩;(have hg:(au n false)[s]?=some false:=by simp[hs]);have e':A0d E5x ((next,n,1,0),(au n false).set s true,[]++[(s:Int)])=some (out.length,out):=e;(have ho:A1x out none (A0K out)=A0K out:=by unfold A1x;simp only;rw[Hv,aBN,bD]);unfold E6j;simp only[hN.len,aq,lu,decide_true,cond_true,ar,jE (show n*1<=140737488355328 by omega),lB hs,hg,ai,e'];unfold QM;simp only[jE (ay out.length),pN,cond_true,lB (show out.length<4611686018427387904 by omega),ho,ai]
structure aDp (n:Nat)(E:oW)(s:Nat)(out:List Int):Prop where
 asc:out.Pairwise (· < ·)
 len:out.length<=n
 yd:∀ v∈out,0<=v∧v<n
 st:(s:Int)∈out
 cl:∀ u∈out,∀ w,(u,w)∈E->w∈out
 min:∀ Q:Int->Prop,Q s->(∀ u w,Q u->(u,w)∈E->Q w)->∀ v∈out,Q v
theorem aDp.uniq{n:Nat}{E:oW}{s:Nat}{o p:List Int}(ho:aDp n E s o)(hp:aDp n E s p):o=p:=F5D ho.asc hp.asc λx=>⟨ho.min (·∈p) hp.st (λu w hu hw=>hp.cl u hu w hw) x,hp.min (·∈o) ho.st (λu w hu hw=>ho.cl u hu w hw) x⟩
theorem E9F{n:Nat}{E:oW}(hn:n<=1000)(hr:Ej n E)(hE:E.length<=1000){s:Nat}(hs:s<n):∃out,E6j (A2U n E,(s:Int))=some (out.length,out)/\aDp n E s out:=by have hN:=D1c hn hr hE;obtain⟨out,e,h0,h1,h2,h3,h4,h5⟩:=F4c (Q:=λv=>∀Q:Int->Prop,Q s->(∀u w,Q u->(u,w)∈E->Q w)->Q v) hN (λv hv hq w hw Q q1 q2=>q2 v w (hq Q q1 q2) ((C9p hv).1 hw)) hs (λQ q1 _=>q1);refine⟨A0K out,by rw[e,Hv],C9l h1,by rw[Hv];exact h0,λv hv=>h2 v (Rn.1 hv),Rn.2 h4,λu hu w hw=>?_,λQ q1 q2 v hv=>h3 v (Rn.1 hv) Q q1 q2⟩;have hu:=Rn.1 hu;have hur:=h2 u hu;obtain⟨k,rfl⟩:=eB hur.1;(have hk:((k:Int)).toNat<(A2U n E).length:=by rw[XC,ar];omega);refine Rn.2 (h5 _ hu hk w ?_);simp only[ar];exact(C9p (by simpa using hk)).2 hw
theorem E8C(n v:Int):WE (n,v)=some (decide (0<=v)&&decide (v<n)):=by unfold WE;by_cases h:(0:Int)<=v<;>simp[h]
theorem F0y{n:Nat}{E:oW}{s:Nat}(h:JK n E=0)(hs:s<n)(hE:E.length<=1000):∃out,E9J ((n:Int),E,(s:Int))=some (out,0)/\E7D ((n:Int),E,(s:Int))=some ((out.length,0),out)/\aDp n E s out:=by obtain⟨m,e,hm,_,hr⟩:=F22 h;(have:n=m:=by omega);subst this;obtain⟨out,e1,h1⟩:=E9F hm hr hE hs;(have h2:(s:Int)<n:=by omega);refine⟨out,?_,?_,h1⟩;unfold E9J;simp only[C0t,ai,h,E8C,aq,h2,decide_true,fR,bne_self_eq_false,cond_false,bO,C1W hm hr hE,e1];rw[jE (ay _),pN];rfl;unfold E7D;simp only[C0t,ai,h,E8C,aq,h2,decide_true,fR,bne_self_eq_false,cond_false,bO,C1W hm hr hE,e1]
end Go.Mid
namespace Go.Mid
end Go.Mid
namespace Go.Mid
end Go.Mid
namespace Go.Mid
end Go.Mid
namespace Go.Mid
end Go.Mid
namespace Go.Mid
def BU(n:Nat)(g:Nat->Bool):List Bool:=(bA n).map g
theorem Rr(n:Nat)(g:Nat->Bool):(BU n g).length=n:=by simp[BU]
theorem Rs{n j:Nat}{g:Nat->Bool}(h:j<n):(BU n g)[j]?=some (g j):=by simp[BU,h]
theorem XE{n:Nat}{g h:Nat->Bool}(e:∀j,j<n->g j=h j):BU n g=BU n h:=eJ λj hj=>e j (cu.1 hj)
theorem C4h{n j:Nat}{g:Nat->Bool}(h:j<n)(x:Bool):(BU n g).set j x=BU n (λb=>if b=j then x else g b):=by apply fy;intro v;rw[dD,Rr];by_cases hv:v<n;rw[Rs hv];by_cases e:j=v;subst e;rw[Rs hv];simp[h];have:¬v=j:=λh=>e h.symm;simp[e,this,Rs hv];rw[bJ (by rw[Rr];omega),bJ (by rw[Rr];omega)];(have:¬j=v:=by omega);rw[if_neg this]
theorem D1d(n:Nat):au n false=BU n (λ_=>false):=by simp[BU,List.map_const']
end Go.Mid
namespace Go.Mid
end Go.Mid
namespace Go.Mid
theorem XF{α:Type}{p q:α->Bool}:∀{l:List α},(∀x∈l,p x=true->q x=true)->(∃x∈l,p x=false/\q x=true)->l.countP p<l.countP q|[],_,h=>by obtain⟨x,hx,_⟩:=h;cases hx|a::l,hm,h=>by have hle:l.countP p<=l.countP q:=List.countP_mono_left λx hx=>hm x (bC _ hx);have ha:=hm a (by simp);rw[rz,rz];obtain⟨x,hx,h1,h2⟩:=h;rcases aG.1 hx with e|e;subst e;simp only[h1,h2,if_true];simp;omega;have:=XF (λx hx=>hm x (bC _ hx)) ⟨x,e,h1,h2⟩;by_cases sg:p a=true;simp only[sg,ha sg,if_true];omega;rw[if_neg sg];omega
theorem Nw{α:Type}[DecidableEq α]:∀{l m:List α},l.Nodup->(∀x∈l,x∈m)->l.length<=m.length|[],_,_,_=>dg _|a::l,m,h,hs=>by have h':=bZ.1 h;have JL:=hs a (by simp);(have:=Nw (l:=l) (m:=m.erase a) h'.2 λx hx=>by have hne:x≠a:=λe=>h'.1 (e▸hx);exact(List.mem_erase_of_ne hne).2 (hs x (bC _ hx)));rw[List.length_erase_of_mem JL]at this;have:=List.length_pos_of_mem JL;simp only[bf];omega
end Go.Mid
namespace Go.Mid
def uX(n:Nat)(o:List Nat):List Bool:=BU n (λv=>o.contains v)
def jA(o:List Nat):List Int:=o.map λk:Nat=>(k:Int)
theorem CZ(o:List Nat):(jA o).length=o.length:=by simp[jA]
theorem C9q(o:List Nat)(v:Nat):jA (o++[v])=jA o++[(v:Int)]:=by simp[jA]
theorem C9r(n:Nat)(o:List Nat):(uX n o).length=n:=Rr ..
theorem C1J{n v:Nat}{o:List Nat}(h:v<n):(uX n o).set v true=uX n (o++[v]):=by unfold uX;rw[C4h h];refine XE λj _=>?_;by_cases e:j=v;subst e;simp;rw[if_neg e,c6];simp[e]
end Go.Mid
namespace Go.Mid
def BV(n:Nat)(g:Nat->Int):List Int:=(bA n).map g
theorem XG(n:Nat)(g:Nat->Int):(BV n g).length=n:=by simp[BV]
theorem Rt{n j:Nat}{g:Nat->Int}(h:j<n):(BV n g)[j]?=some (g j):=by simp[BV,h]
theorem D1e{n:Nat}{g h:Nat->Int}(e:∀j,j<n->g j=h j):BV n g=BV n h:=eJ λj hj=>e j (cu.1 hj)
theorem D1f{n j:Nat}{g:Nat->Int}(h:j<n)(x:Int):(BV n g).set j x=BV n (λb=>if b=j then x else g b):=by apply fy;intro v;rw[dD,XG];by_cases hv:v<n;rw[Rt hv];by_cases e:j=v;subst e;rw[Rt hv];simp[h];have:¬v=j:=λh=>e h.symm;simp[e,this,Rt hv];rw[bJ (by rw[XG];omega),bJ (by rw[XG];omega)];(have:¬j=v:=by omega);rw[if_neg this]
end Go.Mid
namespace Go.Mid
def tR(E:oW)(u:Nat):List Int:=jg (A0K (tgt E u))
theorem C5W{E:oW}{u:Nat}{w:Int}:w∈tR E u↔((u:Int),w)∈E:=by unfold tR;rw[Ro,Rn,C5V]
theorem XH{n u:Nat}{E:oW}(h:u<n):(A2U n E)[u]?=some (tR E u):=by simp[A2U,h,tR]
end Go.Mid
namespace Go.Mid
end Go.Mid
namespace Go.Mid
theorem XI{o:List Nat}{i:Nat}(h:i<o.length):(jA o)[i]?=some (o[i]:Int):=by simp[jA,h]
end Go.Mid
namespace Go.Mid
end Go.Mid
namespace Go.Mid
def D6D(E:oW)(u v:Nat):Bool:=E.any λe=>e.1==(u:Int)&&e.2==(v:Int)
def Nx(p:List Nat):Nat:=p.getLast?.getD 0
theorem B9r(p:List Nat)(v:Nat):Nx (p++[v])=v:=by simp[Nx]
def kZ(M:List (List Nat)):List (List Int):=M.map jA
theorem Ru(M:List (List Nat)):(kZ M).length=M.length:=by simp[kZ]
def JM(n:Nat)(S:Nat->Bool):Nat:=(bA n).countP S
structure LV (n:Nat)(S:Nat->Bool)(L:List (List Nat)):Prop where
 ne:∀ p∈L,p ≠ []
 yd:∀ p∈L,Nx p<n
 seen:∀ p∈L,S (Nx p)=true
 len:∀ p∈L,p.length<=JM n S
 Rp:L.length<=JM n S
theorem D20{n:Nat}{S S':Nat->Bool}(h:∀v,S v=true->S' v=true){v:Nat}(hv:v<n)(h1:S v=false)(h2:S' v=true):JM n S<JM n S':=XF (λx _ hx=>h x hx) ⟨v,cu.2 hv,h1,h2⟩
theorem LV.next{n:Nat}{E:oW}{S S':Nat->Bool}{L N:List (List Nat)}(h:LV n S L)(h2:∀v,S v=true->S' v=true)(h4:∀q∈N,∃p∈L,∃v,v<n/\q=p++[v]/\D6D E (Nx p) v=true/\S v=false/\S' v=true)(h5:JM n S'=JM n S+N.length):LV n S' N where
 ne:=λq hq=>by obtain⟨p,_,v,_,rfl,_⟩:=h4 q hq;simp
 yd:=λq hq=>by obtain⟨p,_,v,hv,rfl,_⟩:=h4 q hq;rw[B9r];exact hv
 seen:=λq hq=>by obtain⟨p,_,v,hv,rfl,_,_,e⟩:=h4 q hq;rw[B9r];exact e
 len:=λq hq=>by obtain⟨p,hp,v,hv,rfl,_,e1,e2⟩:=h4 q hq;have:=h.len p hp;have:=D20 h2 hv e1 e2;simp;omega
 Rp:=by omega
end Go.Mid
namespace Go.Mid
end Go.Mid
namespace Go.Mid
inductive Rc (Ed:Nat->Nat->Prop) (a:Nat):Nat->Prop
 | refl:Rc Ed a a
 | tail {b c:Nat}:Rc Ed a b->Ed b c->Rc Ed a c
section
variable{Ed:Nat->Nat->Prop}
theorem Rc.trans{a b c:Nat}(h:Rc Ed a b):Rc Ed b c->Rc Ed a c:=λh2=>by induction h2 with|refl=>exact h|tail _ e ih=>exact ih.tail e
theorem Rc.one{a b:Nat}(h:Ed a b):Rc Ed a b:=Rc.refl.tail h
theorem Rc.closed{P:Nat->Prop}(hP:∀a b,P a->Ed a b->P b){a b:Nat}(h:Rc Ed a b)(ha:P a):P b:=by induction h with|refl=>exact ha|tail _ e ih=>exact hP _ _ ih e
structure kP (Ed:Nat->Nat->Prop)(n:Nat)(G:List Nat)(ix:Nat->Nat)(oE:List Nat)(cnt:Nat)(out:List (List Nat)):Prop where
 cc:(bA n).countP (λv=>ix v != 0)=cnt
 FH:∀ v,ix v<=cnt
 yd:∀ v,ix v≠0->v<n
 inj:∀ u v,ix u≠0->ix u=ix v->u=v
 HM:oE.Pairwise (λa b=>ix a<ix b)
 qw:∀ v∈oE,ix v≠0
 JN:∀ g∈G,g∈oE
 Ny:∀ u w,ix u≠0->u∉oE->Ed u w->ix w≠0∧w∉oE
 blk:∀ u∈oE,u∉G->∀ w,Ed u w->ix w≠0
 i7:∀ u∈oE,∃ g∈G,ix g<=ix u∧Rc Ed u g
 i8:∀ g∈G,∀ u∈oE,ix g<=ix u->Rc Ed g u
 Nz:∀ v,ix v≠0->v∉oE->∃ C∈out,v∈C
 yf:∀ C∈out,C ≠ []∧C.Nodup∧∀ u∈C,(ix u≠0∧u∉oE)∧∀ w,(w∈C↔Rc Ed u w∧Rc Ed w u)
 JO:out.Pairwise (λC D=>∀ x∈C,x∉D)
def y6{α:Type}(f:Nat->α)(v:Nat)(x:α):Nat->α:=λb=>if b=v then x else f b
theorem A1C{α:Type}(f:Nat->α)(v:Nat)(x:α):y6 f v x v=x:=by simp[y6]
theorem yg{α:Type}{f:Nat->α}{v b:Nat}{x:α}(h:b≠v):y6 f v x b=f b:=by simp[y6,h]
theorem B64{ix:Nat->Nat}{v c:Nat}(h0:ix v=0)(hc:c≠0):∀m,(bA m).countP (λu=>y6 ix v c u !=0)=(bA m).countP (λu=>ix u !=0)+if v<m then 1 else 0|0=>by simp|m+1=>by rw[List.range_succ,p9,p9,B64 h0 hc m];by_cases e:m=v;subst e;(have h1:¬m<m:=by omega);(have h2:m<m+1:=by omega);simp[A1C,h0,hc];(have h3:v<m+1↔v<m:=by omega);simp only[List.countP_singleton,yg e,h3];omega
theorem kP.nil(n:Nat):kP Ed n [] (λ_=>0) [] 0 []where
 cc:=by simp
 FH:=by simp
 yd:=by simp
 inj:=by simp
 HM:=by simp
 qw:=by simp
 JN:=by simp
 Ny:=by simp
 blk:=by simp
 i7:=by simp
 i8:=by simp
 Nz:=by simp
 yf:=by simp
 JO:=by simp
theorem kP.XJ{n:Nat}{G:List Nat}{ix:Nat->Nat}{oE:List Nat}{cnt:Nat}{out:List (List Nat)}(h:kP Ed n G ix oE cnt out):oE.Nodup:=h.HM.imp λ{a b}uO e=>by subst e;omega
theorem kP.push{n:Nat}{G:List Nat}{ix:Nat->Nat}{oE:List Nat}{cnt:Nat}{out:List (List Nat)}(h:kP Ed n G ix oE cnt out){v:Nat}(hv:v<n)(h0:ix v=0)(hG:∀g∈G,Rc Ed g v):kP Ed n (v::G) (y6 ix v (cnt+1)) (oE++[v]) (cnt+1) out:=by have fN:v∉oE:=λhm=>h.qw v hm h0;have hne:∀u,ix u≠0->u≠v:=λu hu e=>hu (e▸h0);have zN:∀u,ix u≠0->y6 ix v (cnt+1) u=ix u:=λu hu=>yg (hne u hu);have FI:∀u∈oE,y6 ix v (cnt+1) u=ix u:=λu hu=>zN u (h.qw u hu);(have HN:∀u,y6 ix v (cnt+1) u≠0↔u=v\/ix u≠0:=λu=>by by_cases e:u=v;subst e;simp[A1C];simp[yg e,e]);refine⟨?_,?_,?_,?_,?_,?_,?_,?_,?_,?_,?_,?_,?_,h.JO⟩;rw[B64 h0 (by omega),h.cc,if_pos hv];intro u;by_cases e:u=v;subst e;rw[A1C];exact ay _;rw[yg e];have:=h.FH u;omega;intro u hu;rcases(HN u).1 hu with e|e;subst e;exact hv;exact h.yd u e;intro u w hu he;by_cases e1:u=v<;>by_cases e2:w=v;rw[e1,e2];subst e1;rw[A1C,yg e2]at he;have:=h.FH w;omega;subst e2;rw[A1C,yg e1]at he;have:=h.FH u;omega;rw[yg e1]at hu;rw[yg e1,yg e2]at he;exact h.inj u w hu he;rw[cF];refine⟨h.HM.imp_of_mem λ{a b}ha hb uO=>by rw[FI a ha,FI b hb];exact uO,by simp,λa ha b hb=>?_⟩;rw[aX]at hb;subst hb;rw[FI a ha,A1C];have:=h.FH a;omega;intro u hu;rw[HN];rcases az.1 hu with h1|h1;exact .inr (h.qw u h1);exact .inl (aX.1 h1);intro g hg;rcases aG.1 hg with e|e;subst e;simp;exact cV _ (h.JN g e);intro u w hu hs he;rcases(HN u).1 hu with e|e;subst e;exact(hs (by simp)).elim;obtain⟨a,b⟩:=h.Ny u w e (λhm=>hs (cV _ hm)) he;refine⟨(HN w).2 (.inr a),λhm=>?_⟩;rcases az.1 hm with h1|h1;exact b h1;rw[aX]at h1;exact hne w a h1;intro u hu hg w he;rcases az.1 hu with h1|h1;exact(HN w).2 (.inr (h.blk u h1 (λhm=>hg (bC _ hm)) w he));rw[aX]at h1;subst h1;exact(hg (by simp)).elim;intro u hu;rcases az.1 hu with h1|h1;obtain⟨g,hg,a,b⟩:=h.i7 u h1;exact⟨g,bC _ hg,by rw[FI g (h.JN g hg),FI u h1];exact a,b⟩;rw[aX]at h1;subst h1;exact⟨u,by simp,ay _,.refl⟩;intro g hg u hu hle;rcases az.1 hu with h1|h1;rcases aG.1 hg with e|e;subst e;rw[A1C,FI u h1]at hle;have:=h.FH u;omega;rw[FI g (h.JN g e),FI u h1]at hle;exact h.i8 g e u h1 hle;rw[aX]at h1;subst h1;rcases aG.1 hg with e|e;subst e;exact .refl;exact hG g e;intro u hu hs;rcases(HN u).1 hu with e|e;subst e;exact(hs (by simp)).elim;exact h.Nz u e λhm=>hs (cV _ hm);intro C hC;obtain⟨a,b,c⟩:=h.yf C hC;refine⟨a,b,λu hu=>?_⟩;obtain⟨⟨c1,c2⟩,c3⟩:=c u hu;refine⟨⟨(HN u).2 (.inr c1),λhm=>?_⟩,c3⟩;rcases az.1 hm with h1|h1;exact c2 h1;rw[aX]at h1;exact hne u c1 h1
theorem kP.stay{n:Nat}{G:List Nat}{ix:Nat->Nat}{oE:List Nat}{cnt:Nat}{out:List (List Nat)}{v:Nat}(h:kP Ed n (v::G) ix oE cnt out)(hall:∀w,Ed v w->ix w≠0){w:Nat}(hw:w∈oE)(eC:ix w<ix v)(XK:Rc Ed v w):kP Ed n G ix oE cnt out:=by refine⟨h.cc,h.FH,h.yd,h.inj,h.HM,h.qw,λg hg=>h.JN g (bC _ hg),h.Ny,λu hu hg x he=>?_,λu hu=>?_,λg hg=>h.i8 g (bC _ hg),h.Nz,h.yf,h.JO⟩;by_cases e:u=v;subst e;exact hall x he;exact h.blk u hu (λhm=>by rcases aG.1 hm with h1|h1;exact e h1;exact hg h1) x he;(have key:∃g∈G,ix g<=ix w/\Rc Ed w g:=by obtain⟨g,hg,a,b⟩:=h.i7 w hw;rcases aG.1 hg with e|e;subst e;omega;exact⟨g,e,a,b⟩);obtain⟨g,hg,a,b⟩:=h.i7 u hu;rcases aG.1 hg with e|e;subst e;obtain⟨k,hk,c,d⟩:=key;exact⟨k,hk,by omega,b.trans (XK.trans d)⟩;exact⟨g,e,a,b⟩
theorem kP.pop{n:Nat}{G:List Nat}{ix:Nat->Nat}{S0 T:List Nat}{cnt:Nat}{out:List (List Nat)}{v:Nat}(h:kP Ed n (v::G) ix (S0++v::T) cnt out)(hall:∀w,Ed v w->ix w≠0)(NA:∀g∈G,g∈S0)(XL:∀u∈v::T,∀w∈S0,¬Ed u w):kP Ed n G ix S0 cnt (out++[v::T]):=by have hp:=cF.1 h.HM;have JP:∀u,u∈S0->u∈S0++v::T:=λu hu=>cV _ hu;have hT:∀u,u∈v::T->u∈S0++v::T:=λu hu=>kK _ hu;(have lE:∀u∈v::T,u∉S0:=λu hu hs=>by have:=hp.2.2 u hs u hu;omega);(have XM:∀u∈v::T,ix v<=ix u:=λu hu=>by rcases aG.1 hu with e|e;subst e;exact ay _;exact fH ((bN.1 hp.2.1).1 u e));(have zN:∀u∈v::T,∀w,Ed u w->ix w≠0:=λu hu w he=>by by_cases e:u=v;subst e;exact hall w he;refine h.blk u (hT u hu) (λhm=>?_) w he;rcases aG.1 hm with h1|h1;exact e h1;exact lE u hu (NA u h1));(have HO:∀u w,(ix u≠0/\u∉S0)->Ed u w->(ix w≠0/\w∉S0):=by rintro u w⟨h1,h2⟩he;by_cases hu:u∈v::T;exact⟨zN u hu w he,λhs=>XL u hu w hs he⟩;obtain⟨a,b⟩:=h.Ny u w h1 (λhm=>by rcases az.1 hm with h3|h3;exact h2 h3;exact hu h3) he;exact⟨a,λhs=>b (JP w hs)⟩);have NC:∀u w,(ix u≠0/\u∉S0++v::T)->Ed u w->(ix w≠0/\w∉S0++v::T):=λu w h1 he=>h.Ny u w h1.1 h1.2 he;have lD:∀u∈v::T,ix u≠0/\u∉S0:=λu hu=>⟨h.qw u (hT u hu),lE u hu⟩;(have hto:∀u∈v::T,Rc Ed u v:=λu hu=>by obtain⟨g,hg,a,b⟩:=h.i7 u (hT u hu);rcases aG.1 hg with e|e;subst e;exact b;exact((b.closed HO (lD u hu)).2 (NA g e)).elim);have GA:∀u∈v::T,Rc Ed v u:=λu hu=>h.i8 v (by simp) u (hT u hu) (XM u hu);refine⟨h.cc,h.FH,h.yd,h.inj,hp.1,λu hu=>h.qw u (JP u hu),NA,λu w h1 h2 he=>HO u w ⟨h1,h2⟩ he,λu hu hg x he=>?_,λu hu=>?_,λg hg u hu=>h.i8 g (bC _ hg) u (JP u hu),λu hu hs=>?_,λC hC=>?_,?_⟩;refine h.blk u (JP u hu) (λhm=>?_) x he;rcases aG.1 hm with h1|h1;subst h1;exact lE u (by simp) hu;exact hg h1;obtain⟨g,hg,a,b⟩:=h.i7 u (JP u hu);rcases aG.1 hg with e|e;subst e;have:=hp.2.2 u hu g (by simp);omega;exact⟨g,e,a,b⟩;by_cases hm:u∈v::T;exact⟨v::T,by simp,hm⟩;(obtain⟨C,hC,h1⟩:=h.Nz u hu λhh=>by rcases az.1 hh with h3|h3;exact hs h3;exact hm h3);exact⟨C,cV _ hC,h1⟩;rcases az.1 hC with h1|h1;obtain⟨a,b,c⟩:=h.yf C h1;exact⟨a,b,λu hu=>⟨⟨(c u hu).1.1,λhs=>(c u hu).1.2 (JP u hs)⟩,(c u hu).2⟩⟩;rw[aX]at h1;subst h1;have hnd:=h.XJ;rw[aT]at hnd;refine⟨by simp,hnd.2.1,λu hu=>⟨lD u hu,λw=>⟨λhw=>⟨(hto u hu).trans (GA w hw),(hto w hw).trans (GA u hu)⟩,λ⟨h1,h2⟩=>?_⟩⟩⟩;obtain⟨a,b⟩:=h1.closed HO (lD u hu);refine Classical.byContradiction λnu=>?_;have:=h2.closed NC ⟨a,λhm=>by rcases az.1 hm with h3|h3;exact b h3;exact nu h3⟩;exact this.2 (hT u hu);rw[cF];refine⟨h.JO,by simp,λC hC D hD x hx hxD=>?_⟩;rw[aX]at hD;subst hD;exact((h.yf C hC).2.2 x hx).1.2 (hT x hxD)
theorem kP.fin{n:Nat}{ix:Nat->Nat}{oE:List Nat}{cnt:Nat}{out:List (List Nat)}(h:kP Ed n [] ix oE cnt out):oE=[]:=by cases oE with|nil=>rfl|cons a l=>obtain⟨g,hg,_⟩:=h.i7 a (by simp);cases hg
structure y7 (Ed:Nat->Nat->Prop)(n:Nat)(G:List Nat)(v:Nat)(ix lo:Nat->Nat)(S0:List Nat)(cnt:Nat)(out:List (List Nat))(hZ j5:Nat->Nat)(T:List Nat)(ju:Nat)(out':List (List Nat)):Prop where
 inv:kP Ed n G hZ (S0++T) ju out'
 aSO:∀ u,ix u≠0->hZ u=ix u∧j5 u=lo u
 XN:hZ v≠0
 new:∀ u,ix u=0->hZ u≠0->cnt<hZ u
 BW:j5 v<=hZ v
 zO:cnt<=ju
 tT:out <+: out'
 eds:∀ u∈T,∀ w∈S0,Ed u w->j5 v<=hZ w
 low:(T=[]∧j5 v=hZ v)∨(j5 v<hZ v∧∃ w∈S0,hZ w=j5 v∧Rc Ed v w)
structure jX (Ed:Nat->Nat->Prop)(n:Nat)(G:List Nat)(v:Nat)(ix lo:Nat->Nat)(S0:List Nat)(cnt:Nat)(out:List (List Nat))(D:List Nat)(hZ j5:Nat->Nat)(T:List Nat)(ju:Nat)(out':List (List Nat)):Prop where
 inv:kP Ed n (v::G) hZ (S0++v::T) ju out'
 aSO:∀ u,ix u≠0->hZ u=ix u∧j5 u=lo u
 C0:hZ v=cnt+1
 new:∀ u,ix u=0->hZ u≠0->cnt<hZ u
 zO:cnt+1<=ju
 tT:out <+: out'
 BW:j5 v<=hZ v
 uY:∀ x∈D,hZ x≠0
 wA:∀ x∈D,x∈S0->j5 v<=hZ x
 wC:∀ u∈T,∀ w∈S0,Ed u w->j5 v<=hZ w
 low:∃ w∈S0++v::T,hZ w=j5 v∧Rc Ed v w
theorem jX.start{n:Nat}{G:List Nat}{v:Nat}{ix lo:Nat->Nat}{S0:List Nat}{cnt:Nat}{out:List (List Nat)}(h:kP Ed n G ix S0 cnt out)(hv:v<n)(h0:ix v=0)(hG:∀g∈G,Rc Ed g v):jX Ed n G v ix lo S0 cnt out [] (y6 ix v (cnt+1)) (y6 lo v (cnt+1)) [] (cnt+1) out where
 inv:=h.push hv h0 hG
 aSO:=λu hu=>by have:u≠v:=λe=>hu (e▸h0);rw[yg this,yg this];exact⟨rfl,rfl⟩
 C0:=A1C ..
 new:=λu h1 h2=>by by_cases e:u=v;subst e;rw[A1C];omega;rw[yg e]at h2;exact(h2 h1).elim
 zO:=ay _
 tT:=aBM _
 BW:=by rw[A1C,A1C];exact ay _
 uY:=by simp
 wA:=by simp
 wC:=by simp
 low:=⟨v,by simp,by rw[A1C,A1C],.refl⟩
section
variable{n:Nat}{G:List Nat}{v:Nat}{ix lo:Nat->Nat}{S0:List Nat}{cnt:Nat}{out:List (List Nat)}{D:List Nat}{hZ j5:Nat->Nat}{T:List Nat}{ju:Nat}{out':List (List Nat)}
theorem jX.sv(h:jX Ed n G v ix lo S0 cnt out D hZ j5 T ju out'):∀u∈v::T,hZ v<=hZ u:=λu hu=>by have hp:=cF.1 h.inv.HM;rcases aG.1 hu with e|e;subst e;exact ay _;exact fH ((bN.1 hp.2.1).1 u e)
theorem jX.on(h:jX Ed n G v ix lo S0 cnt out D hZ j5 T ju out'){x:Nat}(hx:Ed v x)(hs:x∈S0++v::T)(hne:∀u,ix u≠0->u≠v):jX Ed n G v ix lo S0 cnt out (D++[x]) hZ (y6 j5 v (min (j5 v) (hZ x))) T ju out' where
 inv:=h.inv
 aSO:=λu hu=>⟨(h.aSO u hu).1,by rw[yg (hne u hu)];exact(h.aSO u hu).2⟩
 C0:=h.C0
 new:=h.new
 zO:=h.zO
 tT:=h.tT
 BW:=by rw[A1C];have:=h.BW;omega
 uY:=λy hy=>by rcases az.1 hy with h1|h1;exact h.uY y h1;rw[aX]at h1;subst h1;exact h.inv.qw y hs
 wA:=λy hy h2=>by rw[A1C];rcases az.1 hy with h1|h1;have:=h.wA y h1 h2;omega;rw[aX]at h1;subst h1;omega
 wC:=λu hu w hw he=>by rw[A1C];have:=h.wC u hu w hw he;omega
 low:=by rw[A1C];by_cases hc:j5 v<=hZ x;rw[cX hc];exact h.low;rw[jk (by omega)];exact⟨x,hs,rfl,.one hx⟩
theorem jX.off(h:jX Ed n G v ix lo S0 cnt out D hZ j5 T ju out'){x:Nat}(hv:hZ x≠0)(hs:x∉S0++v::T):jX Ed n G v ix lo S0 cnt out (D++[x]) hZ j5 T ju out' where
 inv:=h.inv
 aSO:=h.aSO
 C0:=h.C0
 new:=h.new
 zO:=h.zO
 tT:=h.tT
 BW:=h.BW
 uY:=λy hy=>by rcases az.1 hy with h1|h1;exact h.uY y h1;rw[aX]at h1;subst h1;exact hv
 wA:=λy hy h2=>by rcases az.1 hy with h1|h1;exact h.wA y h1 h2;rw[aX]at h1;subst h1;exact(hs (cV _ h2)).elim
 wC:=h.wC
 low:=h.low
theorem jX.call(h:jX Ed n G v ix lo S0 cnt out D hZ j5 T ju out'){x:Nat}(hx:Ed v x)(h0:hZ x=0)(hne:∀u,ix u≠0->u≠v){uZ tq:Nat->Nat}{T2:List Nat}{qx:Nat}{nc:List (List Nat)}(h2:y7 Ed n (v::G) x hZ j5 (S0++v::T) ju out' uZ tq T2 qx nc):jX Ed n G v ix lo S0 cnt out (D++[x]) uZ (y6 tq v (min (tq v) (tq x))) (T++T2) qx nc:=by(have yK:hZ v≠0:=by rw[h.C0];omega);have HP:=h2.aSO v yK;have hkS:∀u∈S0,uZ u=hZ u:=λu hu=>(h2.aSO u (h.inv.qw u (cV _ hu))).1;(have zN:∀u,ix u≠0->hZ u≠0:=λu hu=>by rw[(h.aSO u hu).1];exact hu);(have sL:S0++v::(T++T2)=(S0++v::T)++T2:=by simp);refine⟨by rw[sL];exact h2.inv,λu hu=>?_,by rw[HP.1];exact h.C0,λu h3 h4=>?_,by have:=h2.zO;have:=h.zO;omega,h.tT.trans h2.tT,?_,λy hy=>?_,λy hy hs=>?_,λu hu w hw he=>?_,?_⟩;rw[yg (hne u hu),(h2.aSO u (zN u hu)).1,(h2.aSO u (zN u hu)).2];exact h.aSO u hu;by_cases e:hZ u=0;have:=h2.new u e h4;have:=h.zO;omega;rw[(h2.aSO u e).1];exact h.new u h3 e;rw[A1C,HP.1,HP.2];have:=h.BW;omega;rcases az.1 hy with h1|h1;rw[(h2.aSO y (h.uY y h1)).1];exact h.uY y h1;rw[aX]at h1;subst h1;exact h2.XN;rw[A1C];rcases az.1 hy with h1|h1;rw[HP.2,hkS y hs];have:=h.wA y h1 hs;omega;rw[aX]at h1;subst h1;exact(h.inv.qw y (cV _ hs) h0).elim;rw[A1C];rcases az.1 hu with h1|h1;rw[HP.2,hkS w hw];have:=h.wC u h1 w hw he;omega;have:=h2.eds u h1 w (cV _ hw) he;omega;rw[A1C];by_cases hc:tq v<=tq x;rw[cX hc];obtain⟨w,a,b,c⟩:=h.low;exact⟨w,by rw[sL];exact cV _ a,by rw[(h2.aSO w (h.inv.qw w a)).1,HP.2];exact b,c⟩;rw[jk (by omega)];rcases h2.low with⟨h3,h4⟩|⟨h3,w,a,b,c⟩;have h5:=h2.new x h0 h2.XN;have h6:=h.BW;have h7:=h.zO;rw[HP.2,h4]at hc;have h8:=h.C0;omega;exact⟨w,by rw[sL];exact cV _ a,b,(Rc.one hx).trans c⟩
theorem jX.stay(h:jX Ed n G v ix lo S0 cnt out D hZ j5 T ju out')(hD:∀w,Ed v w->w∈D)(eC:j5 v<hZ v):y7 Ed n G v ix lo S0 cnt out hZ j5 (v::T) ju out':=by obtain⟨w,a,b,c⟩:=h.low;(have hw:w∈S0:=by rcases az.1 a with h1|h1;exact h1;have:=h.sv w h1;omega);refine⟨h.inv.stay (λx hx=>h.uY x (hD x hx)) a (by omega) c,h.aSO,by rw[h.C0];omega,h.new,h.BW,by have:=h.zO;omega,h.tT,λu hu x hx he=>?_,.inr ⟨eC,w,hw,b,c⟩⟩;rcases aG.1 hu with e|e;subst e;exact h.wA x (hD x he) hx;exact h.wC u e x hx he
theorem jX.pop(h:jX Ed n G v ix lo S0 cnt out D hZ j5 T ju out')(hD:∀w,Ed v w->w∈D)(heq:j5 v=hZ v)(NA:∀g∈G,g∈S0):y7 Ed n G v ix lo S0 cnt out hZ j5 [] ju (out'++[v::T]):=by have eC:∀w∈S0,hZ w<hZ v:=λw hw=>(cF.1 h.inv.HM).2.2 w hw v (by simp);refine⟨?_,h.aSO,by rw[h.C0];omega,h.new,h.BW,by have:=h.zO;omega,h.tT.trans (aTg _ _),by simp,.inl ⟨rfl,heq⟩⟩;rw[bD];refine h.inv.pop (λx hx=>h.uY x (hD x hx)) NA λu hu w hw he=>?_;have h1:=eC w hw;rcases aG.1 hu with e|e;subst e;have:=h.wA w (hD w he) hw;omega;have:=h.wC u e w hw he;omega
end
end
end Go.Mid
namespace Go.Mid
def BX(E:oW):Nat->Nat->Prop:=λu w=>((u:Int),(w:Int))∈E
def A5t(n:Nat)(f:Nat->Nat):List Int:=BV n λv=>((f v:Nat):Int)
theorem A5j{n j:Nat}{f:Nat->Nat}(h:j<n):(A5t n f)[j]?=some ((f j:Nat):Int):=Rt h
theorem Rv{n v c:Nat}{f:Nat->Nat}(h:v<n):(A5t n f).set v (c:Int)=A5t n (y6 f v c):=by unfold A5t;rw[D1f h];refine D1e λj _=>?_;by_cases e:j=v;subst e;simp[A1C];simp[e,yg e]
abbrev TSt:=List (List Int)×(List Int×Nat)×(List Int×Nat)×(List Bool×Nat)×(List Int×Nat)×Int×List (List Int)×Nat
def tU(n:Nat)(E:oW)(ix lo:Nat->Nat)(oE:List Nat)(cnt:Nat)(out:List (List Nat)):TSt:=(A2U n E,(A5t n ix,n),(A5t n lo,n),(uX n oE,n),(jA oE,oE.length),(cnt:Int),kZ out,out.length)
theorem C5X(a b:Nat):(if(b:Int)<(a:Int)then(b:Int)else(a:Int))=((min a b:Nat):Int):=by split<;>omega
theorem ND{n v:Nat}{o:List Nat}(h:v<n):(uX n o)[v]?=some (o.contains v):=Rs h
theorem B4B{o:List Nat}{v:Nat}(h:v∈o):o.contains v=true:=bj.2 h
theorem B3l{o:List Nat}{v:Nat}(h:v∉o):o.contains v=false:=by cases hc:o.contains v;rfl;exact(h (bj.1 hc)).elim
theorem C4i{n:Nat}{ix:Nat->Nat}{v:Nat}(hv:v<n)(h0:ix v=0):(bA n).countP (λu=>ix u !=0)<n:=by have h1:(bA n).countP (λu=>ix u !=0)<(bA n).countP (λ_=>true):=XF (λ_ _ _=>rfl) ⟨v,cu.2 hv,by simp[h0],rfl⟩;simpa using h1
theorem C7F{S0 T:List Nat}{v:Nat}(h:v∉S0)(hl:(S0++v::T).length<=1000000):MJ (jA (S0++v::T),(v:Int))=some (S0.length:Int):=by unfold MJ;have hL:(jA (S0++v::T)).length=(S0++v::T).length:=CZ _;(have hlen:S0.length<(S0++v::T).length:=by simp);have:=tQ (f:=QL) S0.length (λi=>(jA (S0++v::T),(v:Int),((S0++v::T).length:Int),(i:Int))) (.inl (S0.length:Int)) (λi hi=>by(have rX:i<(S0++v::T).length:=by omega);(have hi':(i:Int)<((S0++v::T).length:Int):=by omega);(have hg:(jA (S0++v::T))[i]?=some ((S0[i]:Nat):Int):=by rw[XI rX,List.getElem_append_left hi]);(have hne:(((v:Nat):Int)==((S0[i]:Nat):Int))=false:=by rw[beq_eq_false_iff_ne];intro e;(have:v=S0[i]:=by omega);exact h (this▸aM hi));simp only[QL,hi',decide_true,cond_true,aq,ar,hg,ai,hne,cond_false,iQ (show i<9223372036854775807 by omega)]) (by(have hi':(S0.length:Int)<((S0++v::T).length:Int):=by omega);(have hg:(jA (S0++v::T))[S0.length]?=some (v:Int):=by rw[XI hlen,List.getElem_append_right (ay _)];simp);simp only[QL,hi',decide_true,cond_true,aq,ar,hg,ai,beq_self_eq_true]);simp only[av]at this;simp only[hL,this,ai,Sum.elim_inl]
theorem D21{n:Nat}{E:oW}{ix lo:Nat->Nat}{S0 L st:List Nat}{cnt:Nat}{out:List (List Nat)}(hL:∀x∈L,x<n)(hnd:(S0++L).Nodup)(hl:L.length<=1000000):A0d MK ((L.length,L.length,(L.length:Int),0),jA L,A2U n E,(A5t n ix,n),(A5t n lo,n),(uX n (S0++L),n),(jA st,st.length),(cnt:Int),kZ out,out.length)=some (L.length,jA L,tU n E ix lo st cnt out|>.1,(A5t n ix,n),(A5t n lo,n),(uX n S0,n),(jA st,st.length),(cnt:Int),kZ out,out.length):=by have:=tQ (f:=MK) L.length (λi=>((L.length,L.length,(L.length:Int),(i:Int)),jA L,A2U n E,(A5t n ix,n),(A5t n lo,n),(uX n (S0++L.drop i),n),(jA st,st.length),(cnt:Int),kZ out,out.length)) (L.length,jA L,A2U n E,(A5t n ix,n),(A5t n lo,n),(uX n S0,n),(jA st,st.length),(cnt:Int),kZ out,out.length) (λi hi=>by(have hi':(i:Int)<(L.length:Int):=by omega);have hn:L[i]<n:=hL _ (aM hi);(have hg:(uX n (S0++L.drop i))[L[i]]?=some true:=by rw[ND hn,B4B];rw[bY hi];exact kK _ dS);(have sB:(uX n (S0++L.drop i)).set L[i] false=uX n (S0++L.drop (i+1)):=by unfold uX;rw[C4h hn];refine XE λj _=>?_;have Ek:(S0++L.drop i).Nodup:=hnd.sublist (List.Sublist.append_left (List.drop_sublist i L) S0);rw[bY hi]at Ek|-;by_cases e:j=L[i];subst e;rw[if_pos rfl,B3l];rw[aT]at Ek;intro hm;rcases az.1 hm with h1|h1;exact Ek.2.2 _ h1 _ dS rfl;exact(bZ.1 Ek.2.1).1 h1;rw[if_neg e,c6,bj,bj,az,az,aG];simp only[e,false_or]);simp only[MK,hi',decide_true,cond_true,aq,ar,lB hi,XI hi,ai,lB hn,hg,sB,iQ (show i<9223372036854775807 by omega)]) (by simp only[MK,ba,decide_false,cond_false,aBN,bD]);simpa[tU]using this
section
variable{n:Nat}{E:oW}
def C9s(n:Nat)(E:oW)(m:Nat):Prop:=∀(v:Nat)(ix lo:Nat->Nat)(S0:List Nat)(cnt:Nat)(out:List (List Nat))(G:List Nat),n-cnt<=m->kP (BX E) n G ix S0 cnt out->v<n->ix v=0->(∀g∈G,Rc (BX E) g v)->∃hZ j5 T ju out',(∀k,m<k->FA k ((v:Int),tU n E ix lo S0 cnt out)=some (tU n E hZ j5 (S0++T) ju out'))/\y7 (BX E) n G v ix lo S0 cnt out hZ j5 T ju out'
theorem Rw(hn:n<=1000)(hr:Ej n E)(hE:E.length<=1000){m:Nat}(IH:C9s n E m){v:Nat}(hv:v<n){ix lo:Nat->Nat}(h0:ix v=0){S0:List Nat}{cnt:Nat}{out:List (List Nat)}{G:List Nat}(hG:∀g∈G,Rc (BX E) g v)(hm:n-(cnt+1)<=m):∀(R:List Int)(i:Nat)(hZ j5:Nat->Nat)(T:List Nat)(ju:Nat)(out':List (List Nat)),(tR E v).drop i=R->i<=(tR E v).length->jX (BX E) n G v ix lo S0 cnt out (((tR E v).take i).map lV) hZ j5 T ju out'->∃uZ tq T2 qx nc,(∀k,m<k->A0d (Jw (FA k)) (((v:Int),tR E v,((tR E v).length:Int),(i:Int)),tU n E hZ j5 (S0++v::T) ju out')=some ((v:Int),tU n E uZ tq (S0++v::T2) qx nc))/\jX (BX E) n G v ix lo S0 cnt out ((tR E v).map lV) uZ tq T2 qx nc|[],i,hZ,j5,T,ju,out',hd,hi,h=>by(have hie:i=(tR E v).length:=by have:=congrArg cz hd;rw[cm]at this;simp at this;omega);subst hie;rw[dM]at h;refine⟨hZ,j5,T,ju,out',λk _=>qc ?_,h⟩;simp only[Jw,tU,ba,decide_false,cond_false]|x::R,i,hZ,j5,T,ju,out',hd,hi,h=>by(have rX:i<(tR E v).length:=by have:=congrArg cz hd;rw[cm]at this;simp at this;omega);(have hx:(tR E v)[i]=x/\(tR E v).drop (i+1)=R:=by rw[bY rX]at hd;exact List.cons.inj hd);have hN:=D1c hn hr hE;have pE:tR E v∈A2U n E:=List.mem_of_getElem? (XH hv);have hf:=hN.Rp _ pE;obtain⟨w,hw⟩:∃w:Nat,(tR E v)[i]=(w:Int):=eB (hN.yd _ pE _ (aM rX)).1;(have Em:w<n:=by have:=(hN.yd _ pE _ (aM rX)).2;rw[hw]at this;omega);have Rx:BX E v w:=C5W.1 (hw▸aM rX);(have BZ:((tR E v).take (i+1)).map lV=((tR E v).take i).map lV++[w]:=by rw[vz rX,b9,hw];rfl);have hne:∀u,ix u≠0->u≠v:=λu hu e=>hu (e▸h0);(have hi':(i:Int)<((tR E v).length:Int):=by omega);by_cases c0:hZ w=0;obtain⟨uZ,tq,T2,qx,nc,e1,hp⟩:=IH w hZ j5 (S0++v::T) ju out' (v::G) (by have:=h.zO;omega) h.inv Em c0 (λg hg=>by rcases aG.1 hg with e|e;subst e;exact .one Rx;exact(hG g e).trans (.one Rx));have h2:=h.call Rx c0 hne hp;rw[<-BZ]at h2;obtain⟨ix3,NG,T3,B0,B1,e3,h3⟩:=Rw hn hr hE IH hv h0 hG hm R (i+1) _ _ _ _ _ hx.2 rX h2;refine⟨ix3,NG,T3,B0,B1,λk hk=>?_,h3⟩;rw[<-e3 k hk];refine vw ?_;have e1:=e1 k hk;(have hz:(((hZ w:Nat):Int)==0)=true:=by rw[c0];rfl);(have sL:S0++v::(T++T2)=(S0++v::T)++T2:=by simp);rw[sL];simp only[tU]at e1|-;simp only[Jw,hi',decide_true,cond_true,aq,ar,ah rX,hw,ai,lB Em,lB hv,A5j Em,A5j hv,hz,e1,C5X,Rv hv,iQ (show i<9223372036854775807 by omega)];(have hz:(((hZ w:Nat):Int)==0)=false:=by rw[beq_eq_false_iff_ne];omega);by_cases c1:w∈S0++v::T;have h2:=h.on Rx c1 hne;rw[<-BZ]at h2;obtain⟨ix3,NG,T3,B0,B1,e3,h3⟩:=Rw hn hr hE IH hv h0 hG hm R (i+1) _ _ _ _ _ hx.2 rX h2;refine⟨ix3,NG,T3,B0,B1,λk hk=>?_,h3⟩;rw[<-e3 k hk];refine vw ?_;simp only[tU];simp only[Jw,hi',decide_true,cond_true,aq,ar,ah rX,hw,ai,lB Em,lB hv,A5j Em,A5j hv,hz,cond_false,ND Em,B4B c1,C5X,Rv hv,iQ (show i<9223372036854775807 by omega)];have h2:=h.off c0 c1;rw[<-BZ]at h2;obtain⟨ix3,NG,T3,B0,B1,e3,h3⟩:=Rw hn hr hE IH hv h0 hG hm R (i+1) _ _ _ _ _ hx.2 rX h2;refine⟨ix3,NG,T3,B0,B1,λk hk=>?_,h3⟩;rw[<-e3 k hk];refine vw ?_;simp only[tU];simp only[Jw,hi',decide_true,cond_true,aq,ar,ah rX,hw,ai,lB Em,lB hv,A5j Em,hz,cond_false,ND Em,B3l c1,iQ (show i<9223372036854775807 by omega)]
theorem kP.len{Ed:Nat->Nat->Prop}{G:List Nat}{ix:Nat->Nat}{oE:List Nat}{cnt:Nat}{out:List (List Nat)}(h:kP Ed n G ix oE cnt out):oE.length<=n:=by have:=Nw h.XJ (m:=bA n) λx hx=>cu.2 (h.yd x (h.qw x hx));simpa using this
theorem B65:∀{out:List (List Nat)},(∀C∈out,C≠[])->out.Pairwise (λC D=>∀x∈C,x∉D)->(out.map λC=>C.headD 0).Nodup|[],_,_=>by simp|C::r,h1,h2=>by have sA:=bN.1 h2;rw[aF,bZ];refine⟨λhm=>?_,B65 (λD hD=>h1 D (bC _ hD)) sA.2⟩;obtain⟨D,hD,e⟩:=bp.1 hm;(have hC:C.headD 0∈C:=by cases C with|nil=>exact(h1 [] (by simp) rfl).elim|cons a l=>simp);(have hD2:D.headD 0∈D:=by cases D with|nil=>exact(h1 [] (bC _ hD) rfl).elim|cons a l=>simp);rw[e]at hD2;exact sA.1 D hD _ hC hD2
theorem kP.B2{Ed:Nat->Nat->Prop}{G:List Nat}{ix:Nat->Nat}{oE:List Nat}{cnt:Nat}{out:List (List Nat)}(h:kP Ed n G ix oE cnt out):out.length<=n:=by have h1:=B65 (λC hC=>(h.yf C hC).1) h.JO;(have:=Nw h1 (m:=bA n) λx hx=>by obtain⟨C,hC,rfl⟩:=bp.1 hx;(have hm:C.headD 0∈C:=by cases C with|nil=>exact((h.yf [] hC).1 rfl).elim|cons a l=>simp);exact cu.2 (h.yd _ ((h.yf C hC).2.2 _ hm).1.1));simpa using this
theorem D22(hn:n<=1000)(hr:Ej n E)(hE:E.length<=1000):∀m,C9s n E m:=by intro m;induction m with|zero=>intro v ix lo S0 cnt out G hm h hv h0 hG;have:=C4i hv h0;rw[h.cc]at this;omega|succ m IH=>intro v ix lo S0 cnt out G hm h hv h0 hG;have hcn:=C4i hv h0;rw[h.cc]at hcn;have hst:=jX.start (lo:=lo) h hv h0 hG;obtain⟨uZ,tq,T2,qx,nc,e1,hL⟩:=Rw hn hr hE IH hv h0 hG (by omega) (tR E v) 0 _ _ _ _ _ rfl (dg _) hst;have hD:∀w,BX E v w->w∈(tR E v).map lV:=λw hw=>bp.2 ⟨(w:Int),C5W.2 hw,ar w⟩;have xj:=h.len;have arj:=hL.inv.len;have Kk:=hL.inv.B2;have OI:aP S0.length (jA S0)=jA S0:=a6 (by rw[CZ];exact ay _);have hwr:ao.wrap ((cnt:Int)+1)=((cnt+1:Nat):Int):=iQ (by omega);have hsn:jA S0++[(v:Int)]=jA (S0++[v]):=(C9q _ _).symm;(have ark:S0.length+1=(S0++[v]).length:=by simp);by_cases hc:tq v=uZ v;have hp:=hL.pop hD hc h.JN;refine⟨uZ,tq,[],qx,nc++[v::T2],λk hk=>?_,hp⟩;obtain⟨k',rfl⟩:∃k',k=k'+1:=⟨k-1,by omega⟩;have e1:=e1 k' (by omega);(have hb:(((tq v:Nat):Int)!=((uZ v:Nat):Int))=false:=by rw[hc];simp);have hvS:v∉S0:=λhs=>h.qw v hs h0;have Ct:=C7F (T:=T2) hvS (by omega);have tk1:aP (S0++v::T2).length (jA (S0++v::T2))=jA (S0++v::T2):=a6 (by rw[CZ];exact ay _);(have dr:List.drop S0.length (jA (S0++v::T2))=jA (v::T2):=by unfold jA;rw[<-List.map_drop,List.drop_left]);(have tk2:aP S0.length (jA (S0++v::T2))=jA S0:=by unfold jA;rw[<-List.map_take,List.take_left]);(have Dr:(S0++v::T2).length-S0.length=(v::T2).length:=by simp);have tk3:aP (v::T2).length (jA (v::T2))=jA (v::T2):=a6 (by rw[CZ];exact ay _);(have hlT:(v::T2).length<=1000:=by(have:(S0++v::T2).length=S0.length+(v::T2).length:=by simp);omega);(have nX:Ee 8 (jA (v::T2))=some ((v::T2).length,jA (v::T2)):=by unfold Ee;rw[CZ,jE (show(v::T2).length*8<=140737488355328 by omega)];rfl);have Aw:=D21 (n:=n) (E:=E) (ix:=uZ) (lo:=tq) (S0:=S0) (L:=v::T2) (st:=S0) (cnt:=qx) (out:=nc) (λx hx=>hL.inv.yd x (hL.inv.qw x (kK _ hx))) hL.inv.XJ (by omega);simp only[tU]at e1 Aw|-;have tk4:aP nc.length (kZ nc)=kZ nc:=a6 (by rw[Ru];exact ay _);(have qN:kZ nc++[jA (v::T2)]=kZ (nc++[v::T2]):=by simp[kZ]);have q1:iI 0 0=true:=rfl;have q2:iI 1 1=true:=rfl;show ML (FA k') _=_;have bb:Nat.ble (S0.length+(v::T2).length) (S0++v::T2).length=true:=jE (by simp);simp only[ML,aq,decide_true,cond_true,ar,lB hv,A5j hv,ai,beq_self_eq_true,CZ,jE (ay _),OI,aR,bf,cM,ND hv,XH hv,hwr,Rv hv,C1J hv,hsn];simp only[aR,bf,cM,av,bS]at e1 Ct bb Dr nX Aw tk1 tk3 hlT;rw[jE (show(S0.length+1)*8<=140737488355328 by omega)];simp only[cond_true,bS,jE (ay _),e1,ai,aq,decide_true,ar,lB hv,A5j hv,hb,cond_false,tk1,Ct,jE (Nat.le_add_right _ _),Dr,bb,dr,tk3,nX,tk2,Aw,CZ,bf,q1,q2,beq_self_eq_true,Ru,tk4,qN,bD];rw[jE (show(nc.length+1)*24<=140737488355328 by omega),jE (show S0.length+(T2.length+1)<=(S0++v::T2).length by simp)];rfl;(have eC:tq v<uZ v:=by have:=hL.BW;omega);have hp:=hL.stay hD eC;refine⟨uZ,tq,v::T2,qx,nc,λk hk=>?_,hp⟩;obtain⟨k',rfl⟩:∃k',k=k'+1:=⟨k-1,by omega⟩;have e1:=e1 k' (by omega);(have hb:(((tq v:Nat):Int)!=((uZ v:Nat):Int))=true:=by simp;omega);simp only[tU]at e1|-;show ML (FA k') _=_;simp only[ML,aq,decide_true,cond_true,ar,lB hv,A5j hv,ai,beq_self_eq_true,CZ,jE (ay _),OI,aR,bf,cM,ND hv,XH hv,hwr,Rv hv,C1J hv,hsn];simp only[aR,bf,cM,av,bS]at e1;rw[jE (show(S0.length+1)*8<=140737488355328 by omega)];simp only[cond_true,bS,jE (ay _),e1,ai,aq,decide_true,ar,lB hv,A5j hv,hb]
end
end Go.Mid
namespace Go.Mid
def kh(C:List Nat):Nat:=C.headD 0
theorem Ry{M:List (List Nat)}{j:Nat}:(kZ M)[j]?=(M[j]?).map jA:=by simp[kZ]
theorem C50{M:List (List Nat)}{j:Nat}{x:List Nat}:(kZ M).set j (jA x)=kZ (M.set j x):=by simp[kZ,List.map_set]
section
variable(q1:List (List Int))(rI:List Int)(rJ:Nat)(rK:List Int)(rL:Nat)(rM:List Bool)(rN:Nat)(rO:List Int)(rP:Nat)(q6:Int)(m:Nat)
end
end Go.Mid
namespace Go.Mid
def q9(C:List Nat):List Nat:=(A0K (jA C)).map lV
theorem Rz(C:List Nat):jA (q9 C)=A0K (jA C):=by unfold jA q9;rw[List.map_map];(have:∀l:List Int,(∀x∈l,0<=x)->l.map ((λk:Nat=>(k:Int))∘lV)=l:=by intro l h;induction l with|nil=>rfl|cons a l ih=>rw[aF,ih λx hx=>h x (bC _ hx)];have:=h a (by simp);simp only[Function.comp];congr 1;omega);refine this _ λx hx=>?_;have hx:=Rn.1 hx;obtain⟨k,_,rfl⟩:=bp.1 hx;omega
theorem C4m{C:List Nat}{v:Nat}:(v:Int)∈jA C↔v∈C:=by unfold jA;rw[bp];constructor;rintro⟨k,hk,e⟩;(have:k=v:=by omega);exact this▸hk;intro h;exact⟨v,h,rfl⟩
theorem JQ{C:List Nat}{v:Nat}:v∈q9 C↔v∈C:=by rw[<-C4m,Rz,Rn,C4m]
theorem C7G{C:List Nat}(h:C.Nodup):(jA C).Nodup:=by unfold jA;unfold yo at h|-;rw[eG];exact h.imp λh e=>h (by omega)
theorem D24{C:List Nat}(h:C.Nodup):(q9 C).Pairwise (·<·):=by have h1:=C9l (C7G h);rw[<-Rz]at h1;unfold jA at h1;rw[eG]at h1;exact h1.imp λh=>by omega
theorem RA{C:List Nat}(h:C≠[]):q9 C≠[]:=by cases C with|nil=>exact(h rfl).elim|cons a l=>have:a∈q9 (a::l):=JQ.2 (by simp);intro e;rw[e]at this;cases this
theorem XO{C:List Nat}(h:C≠[]):kh C∈C:=by cases C with|nil=>exact(h rfl).elim|cons a l=>simp[kh]
structure B3 (n:Nat)(Ed:Nat->Nat->Prop)(L:List (List Nat)):Prop where
 ne:∀ C∈L,C ≠ []
 asc:∀ C∈L,C.Pairwise (· < ·)
 hd:L.Pairwise (λC D=>kh C<kh D)
 cls:∀ C∈L,∀ u∈C,u<n∧∀ w,(w∈C↔Rc Ed u w∧Rc Ed w u)
 all:∀ v,v<n->∃ C∈L,v∈C
section
variable(q1:List (List Int))(rI:List Int)(rJ:Nat)(rK:List Int)(rL:Nat)(rM:List Bool)(rN:Nat)(rO:List Int)(rP:Nat)(q6:Int)
theorem C7H(M:List (List Nat))(hne:∀C∈M,C.length<=1000)(hl:M.length<=1000):A0d MP ((M.length,M.length,(M.length:Int),0),q1,(rI,rJ),(rK,rL),(rM,rN),(rO,rP),q6,kZ M,M.length)=some (M.length,q1,(rI,rJ),(rK,rL),(rM,rN),(rO,rP),q6,kZ (M.map q9),M.length):=by let T:Nat->List (List Nat):=λi=>(M.take i).map q9++M.drop i;(have hT0:T 0=M:=by simp[T]);(have hTn:T M.length=M.map q9:=by simp[T]);have:=tQ (f:=MP) M.length (λi=>((M.length,M.length,(M.length:Int),(i:Int)),q1,(rI,rJ),(rK,rL),(rM,rN),(rO,rP),q6,kZ (T i),M.length)) (M.length,q1,(rI,rJ),(rK,rL),(rM,rN),(rO,rP),q6,kZ (T M.length),M.length) (λi hi=>by(have hi':(i:Int)<(M.length:Int):=by omega);(have hTi:((M.take i).map q9).length=i:=by rw[aB,aW];omega);(have hg:(kZ (T i))[i]?=some (jA M[i]):=by rw[Ry];simp only[T];rw[bG (by omega),hTi,gx,bY hi];rfl);(have sB:(T i).set i (q9 M[i])=T (i+1):=by simp only[T];rw[aBj _ _ (by omega),hTi,gx,bY hi,dR,vz hi,b9];simp);have hlen:=hne _ (aM hi);have tk:aP (jA M[i]).length (jA M[i])=jA M[i]:=pN _;(have ov:A1x (jA M[i]) none (A0K (jA M[i]))=jA (q9 M[i]):=by unfold A1x;simp only;rw[Hv,aBN,bD,Rz]);(have hle:((jA M[i]).length==(jA (q9 M[i])).length)=true:=by rw[Rz,Hv];simp);(have hS:F7a ((i,(jA M[i]).length),q1,(rI,rJ),(rK,rL),(rM,rN),(rO,rP),q6,kZ (T i),M.length)=some (q1,(rI,rJ),(rK,rL),(rM,rN),(rO,rP),q6,kZ (T (i+1)),M.length):=by simp only[F7a,hg,ai,jE (ay _),cond_true,tk,ov,hle,C50,sB];rw[lB (by rw[CZ];omega)];rfl);simp only[MP,hi',decide_true,cond_true,aq,ar,lB hi,hg,ai,hS,iQ (show i<9223372036854775807 by omega)]) (by simp only[MP,ba,decide_false,cond_false]);rw[hT0,hTn]at this;exact this
end
theorem XP{n:Nat}{E:oW}(hn:n<=1000)(hr:Ej n E)(hE:E.length<=1000):∀(k i:Nat)(ix lo:Nat->Nat)(cnt:Nat)(out:List (List Nat)),i+k=n->kP (BX E) n [] ix [] cnt out->(∀v,v<i->ix v≠0)->∃hZ j5 ju out',A0d Jx (((n:Int),(i:Int)),tU n E ix lo [] cnt out)=some (tU n E hZ j5 [] ju out')/\kP (BX E) n [] hZ [] ju out'/\∀v,v<n->hZ v≠0|0,i,ix,lo,cnt,out,hk,h,hv=>by(have:i=n:=by omega);subst this;refine⟨ix,lo,cnt,out,qc ?_,h,hv⟩;simp only[Jx,tU,ba,decide_false,cond_false]|k+1,i,ix,lo,cnt,out,hk,h,hv=>by(have hi:i<n:=by omega);(have hi':(i:Int)<(n:Int):=by omega);by_cases c:ix i=0;obtain⟨hZ,j5,T,ju,out',e1,hp⟩:=D22 hn hr hE (n-cnt) i ix lo [] cnt out [] (ay _) h hi c (by simp);(have hT:T=[]:=by have:=hp.inv.fin;simpa using this);subst hT;have e2:=C5G (n-cnt+1) (λm hm=>e1 m (by omega));have e2:WA ((i:Int),tU n E ix lo [] cnt out)=some (tU n E hZ j5 [] ju out'):=e2;(obtain⟨uZ,tq,qx,nc,e3,h3,h4⟩:=XP hn hr hE k (i+1) hZ j5 ju out' (by omega) hp.inv λv xF=>by rcases mV.1 xF with e|e;rw[(hp.aSO v (hv v e)).1];exact hv v e;subst e;exact hp.XN);refine⟨uZ,tq,qx,nc,?_,h3,h4⟩;rw[<-e3];refine vw ?_;(have hz:(((ix i:Nat):Int)==0)=true:=by rw[c];rfl);simp only[tU]at e2|-;simp only[Jx,hi',decide_true,cond_true,aq,ar,lB hi,A5j hi,ai,hz,e2,iQ (show i<9223372036854775807 by omega)];(obtain⟨uZ,tq,qx,nc,e3,h3,h4⟩:=XP hn hr hE k (i+1) ix lo cnt out (by omega) h λv xF=>by rcases mV.1 xF with e|e;exact hv v e;subst e;exact c);refine⟨uZ,tq,qx,nc,?_,h3,h4⟩;rw[<-e3];refine vw ?_;(have hz:(((ix i:Nat):Int)==0)=false:=by rw[beq_eq_false_iff_ne];omega);simp only[tU];simp only[Jx,hi',decide_true,cond_true,aq,ar,lB hi,A5j hi,ai,hz,cond_false,iQ (show i<9223372036854775807 by omega)]
end Go.Mid
namespace Go.Mid
theorem B3.count{n:Nat}{Ed:Nat->Nat->Prop}{L:List (List Nat)}(h:B3 n Ed L):L.length<=n:=by(have h1:(L.map kh).Nodup:=by unfold yo;rw[eG];exact h.hd.imp λh=>Nat.ne_of_lt h);(have:=Nw h1 (m:=bA n) λx hx=>by obtain⟨C,hC,rfl⟩:=bp.1 hx;exact cu.2 (h.cls C hC _ (XO (h.ne C hC))).1);simpa using this
end Go.Mid
namespace Go.Mid
def OK{α:Type}(o:Option α)(P:α->Prop):Prop:=∃r,o=some r/\P r
namespace OK
variable{α β:Type}
theorem ret{P:α->Prop}{r:α}(h:P r):OK (some r) P:=⟨r,rfl,h⟩
theorem bind{o:Option α}{k:α->Option β}{P:β->Prop}(h:OK o λy=>OK (k y) P):OK (o.bind k) P:=by obtain⟨y,e,r,e2,h⟩:=h;exact⟨r,by rw[e];exact e2,h⟩
theorem mono{o:Option α}{P Q:α->Prop}(h:OK o P)(g:∀r,P r->Q r):OK o Q:=by obtain⟨y,e,h⟩:=h;exact⟨y,e,g y h⟩
theorem call{o:Option α}{Q:α->Prop}{k:α->Option β}{P:β->Prop}(h:OK o Q)(g:∀y,Q y->OK (k y) P):OK (o.bind k) P:=bind (h.mono g)
theorem dead{P:α->Prop}(h:False):OK none P:=h.elim
theorem dec{p:Prop}[Decidable p]{A B:Option α}{P:α->Prop}(h1:p->OK A P)(h2:¬p->OK B P):OK (bif decide p then A else B) P:=by by_cases h:p;rw[decide_eq_true h];exact h1 h;rw[decide_eq_false h];exact h2 h
theorem blt{a b:Nat}{A B:Option α}{P:α->Prop}(h1:a<b->OK A P)(h2:b<=a->OK B P):OK (bif a.blt b then A else B) P:=by by_cases h:a<b;rw[lB h];exact h1 h;rw[D9f (by omega)];exact h2 (by omega)
theorem ble{a b:Nat}{A B:Option α}{P:α->Prop}(h1:a<=b->OK A P)(h2:b<a->OK B P):OK (bif a.ble b then A else B) P:=by by_cases h:a<=b;rw[jE h];exact h1 h;rw[D9e (by omega)];exact h2 (by omega)
theorem beq{a b:Int}{A B:Option α}{P:α->Prop}(h1:a=b->OK A P)(h2:a≠b->OK B P):OK (bif a==b then A else B) P:=by by_cases h:a=b;rw[beq_iff_eq.2 h];exact h1 h;rw[beq_false_of_ne h];exact h2 h
theorem bne{a b:Int}{A B:Option α}{P:α->Prop}(h1:a≠b->OK A P)(h2:a=b->OK B P):OK (bif a !=b then A else B) P:=by by_cases h:a=b;subst h;rw[bne_self_eq_false];exact h2 rfl;rw[bne_iff_ne.2 h];exact h1 h
theorem nt{b:Bool}{A B:Option α}{P:α->Prop}(h:OK (bif b then B else A) P):OK (bif !b then A else B) P:=by cases b<;>exact h
theorem bo{b:Bool}{A B:Option α}{P:α->Prop}(h1:b=true->OK A P)(h2:b=false->OK B P):OK (bif b then A else B) P:=by cases b;exact h2 rfl;exact h1 rfl
theorem get{M:List α}{i:Nat}{k:α->Option β}{P:β->Prop}(hi:i<M.length)(h:∀y,M[i]?=some y->OK (k y) P):OK (M[i]?.bind k) P:=bind ⟨M[i],ah hi,h _ (ah hi)⟩
theorem loop{A B:Type}{f:A->Option (A⊕B)}(Inv:A->Prop)(μ:A->Nat){P:B->Prop}(st:∀a,Inv a->OK (f a) (Sum.elim (λb=>Inv b/\μ b<μ a) P)){a:A}(h:Inv a):OK (A0d f a) P:=by(have:∀n a,μ a<n->Inv a->OK (A0d f a) P:=by intro n;induction n with|zero=>intro a h;omega|succ n ih=>intro a hn ha;obtain⟨r,e,hr⟩:=st a ha;cases r with|inl b=>rw[vw e];exact ih b (by have:=hr.2;omega) hr.1|inr b=>exact⟨b,qc e,hr⟩);exact this _ a (Nat.lt_succ_self _) h
end OK
end Go.Mid
