/- Tools for plain laws: loops step by step, sums, bounds. -/
import Derived.Test.YtdohjmmogbefmaaGreatM9
import Derived.Test.YtdohjmmogbefmaaGreatT2
set_option linter.unusedSimpArgs false
set_option linter.unusedVariables false
open Bool renaming not_true → bO, not_false → auI, and_self → fR, and_eq_true → aj, or_eq_true → cn, false_eq_true → aI, eq_iff_iff → c6, eq_false_iff → aSQ, true_and → dm, false_and → sS, and_true → fQ, eq_false_or_eq_true → nv
open Go.ByteArray renaming toList_eq → avG
open Go.IntKind renaming i64 → ao, u32 → cG
open Go.Op renaming bytesLess → lP
open Int renaming lt_irrefl → ba, toNat_natCast → ar, natCast_nonneg → aq, eq_ofNat_of_zero_le → eB, le_refl → lu, natCast_zero → av
open List renaming take_length → dM, take_succ_eq_append_getElem → auR, pairwise_cons → bN, mem_cons → aG, mem_cons_of_mem → bC, length_cons → bf, cons_append → aS, length_take → aW, length_append → aR, length_drop → cm, length → cz, length_nil → cM, getElem?_eq_getElem → ah, drop_eq_getElem_cons → bY, take_of_length_le → a6, length_set → iy, set_set → nK, replicate → au, length_replicate → fZ, nodup_append → aT, getElem?_set → dD, mem_append → az, mem_singleton → aX, prefix_refl → aBM, getElem_mem → aM, mem_append_left → cV, getElem_of_mem → pd, map → fp, map_id → wR, range → bA, map_append → b9, ext_getElem? → fy, getElem?_eq_none → bJ, length_map → aB, mem_map → bp, mem_filter → cZ, drop_length → aBN, append_nil → bD, mem_range → cu, take → aP, any_eq_true → fV, countP_cons → rz, countP_append → p9, pairwise_append → cF, getElem_append_left → avk, contains_iff_mem → bj, getElem?_append_left → cN, map_cons → aF, foldl_cons → jM
open Nat renaming ble_eq_true_of_le → auP, le_trans → dF, min_eq_left → cX, le_refl → ay, sub_self → gx, add_assoc → bV, add_zero → dG, lt_succ_iff_lt_or_eq → mV, zero_le → dg, blt → cP, min_eq_right → jk, ble → cQ
open Option renaming bind_some → ai, bind → bc
open Option.some renaming injEq → aa, inj → s8
open Sum renaming elim_inl → vh, elim_inr → lS
namespace Go.Mid
section
variable {A B:Type}{f:A->Option (A ⊕ B)}
theorem tQ (n:Nat)(T:Nat->A)(b:B)(h1:∀ i,i<n->f (T i)=some (.inl (T (i+1))))(h2:f (T n)=some (.inr b)):A0d f (T 0)=some b:=by
 have:∀ k i,i+k=n->A0d f (T i)=some b:=by
  intro k
  induction k with
  | zero=>intro i hi;obtain rfl:i=n:=by omega
          exact qc h2
  | succ k ih=>intro i hi;rw [vw (h1 i (by omega))];exact ih (i+1) (by omega)
 exact this n 0 (by omega)
end
theorem jE {a b:Nat}(h:a<=b):a.ble b=true:=auP h
theorem D9e {a b:Nat}(h:b<a):a.ble b=false:=by
 cases hc:a.ble b with
 | false=>rfl
 | true=>have:=Nat.le_of_ble_eq_true hc;omega
theorem lB {a b:Nat}(h:a<b):a.blt b=true:=auP h
theorem D9f {a b:Nat}(h:b<=a):a.blt b=false:=D9e (by omega)
theorem pN {α:Type}(l:List α):l.take l.length=l:=dM
theorem vz {α:Type}{l:List α}{i:Nat}(h:i<l.length):l.take (i+1)=l.take i++[l[i]]:=auR h
section
variable {α β:Type}
end
end Go.Mid
namespace Go.Mid
theorem F2l {R:Int->Int->Prop}(HK:∀ a,¬ R a a)(Nr:∀ a b,R a b->R b a->False):∀ {l m:List Int},l.Pairwise R->m.Pairwise R->(∀ x,x∈l↔x∈m)->l=m
 | [],[],_,_,_=>rfl
 | [],b::m,_,_,h=>absurd ((h b).2 (by simp)) (by simp)
 | a::l,[],_,_,h=>absurd ((h a).1 (by simp)) (by simp)
 | a::l,b::m,hl,hm,h=>by
   have zj:=bN.1 hl;have xM:=bN.1 hm;have uO:a=b:=by
    rcases aG.1 ((h a).1 (by simp)) with e | e
    . exact e
    . rcases aG.1 ((h b).2 (by simp)) with e2 | e2
      . exact e2.symm
      . exact (Nr _ _ (zj.1 b e2) (xM.1 a e)).elim
   subst uO;congr 1;refine F2l HK Nr zj.2 xM.2 λx=>?_
   constructor
   . intro hx;rcases aG.1 ((h x).1 (bC _ hx)) with e | e
     . subst e;exact (HK _ (zj.1 _ hx)).elim
     . exact e
   . intro hx;rcases aG.1 ((h x).2 (bC _ hx)) with e | e
     . subst e;exact (HK _ (xM.1 _ hx)).elim
     . exact e
theorem F5D {l m:List Int}(hl:l.Pairwise (· < ·))(hm:m.Pairwise (· < ·))(h:∀ x,x∈l↔x∈m):l=m :=
 F2l (λa=>ba a) (λa b h1 h2=>by omega) hl hm h
theorem Rn {l:List Int}{x:Int}:x∈A0K l↔x∈l:=(Me l).mem_iff
theorem C9l {l:List Int}(h:l.Nodup):(A0K l).Pairwise (· < ·):=by
 have h1:=B5E l;have h2:(A0K l).Nodup:=(Me l).nodup_iff.2 h;exact (h1.and h2).imp λ⟨a,b⟩=>by omega
end Go.Mid
namespace Go.Mid
def jg:List Int->List Int
 | []=>[]
 | [x]=>[x]
 | x::y::r=>if x=y then jg (y::r) else x::jg (y::r)
theorem Ro:∀ (l:List Int) (x:Int),x∈jg l↔x∈l
 | [],x=>by simp [jg]
 | [a],x=>by simp [jg]
 | a::b::r,x=>by
   unfold jg;split
   . rename_i h;rw [Ro (b::r) x,h];simp
   . rw [aG,Ro (b::r) x];simp
theorem Ns:∀ l:List Int,(jg l).length<=l.length
 | []=>by simp [jg]
 | [a]=>by simp [jg]
 | a::b::r=>by
   unfold jg
   have:=Ns (b::r)
   split<;>simp only [bf] at * <;> omega
theorem B62:∀ (l:List Int) (x:Int),l ≠ []->jg (l++[x])=if l.getLast?=some x then jg l else jg l++[x]
 | [],_,h=>absurd rfl h
 | [a],x,_=>by
   simp only [aS,List.nil_append,jg,List.getLast?_singleton,aa];by_cases h:a=x
   . simp [h]
   . simp [h]
 | a::b::r,x,_=>by
   have ih:=B62 (b::r) x (by simp)
   have e:(a::b::r).getLast?=(b::r).getLast?:=by simp
   rw [e];simp only [aS] at ih ⊢;rw [jg,ih]
   conv=>rhs;rw [jg]
   by_cases h1:a=b<;>by_cases h2:(b::r).getLast?=some x<;>simp [h1,h2]
def pS (l:List Int)(m:Nat):List Int:=jg (l.take m)++l.drop (jg (l.take m)).length
theorem C1U (l:List Int)(m:Nat):(jg (l.take m)).length<=m:=dF (Ns _) (by rw [aW];omega)
theorem C4f (l:List Int)(m:Nat):(pS l m).length=l.length:=by
 unfold pS;have h1:=Ns (l.take m);rw [aW] at h1;rw [aR,cm];omega
theorem C4g {l:List Int}{m i:Nat}(h:(jg (l.take m)).length<=i):(pS l m)[i]?=l[i]?:=by
 unfold pS;rw [List.getElem?_append_right h,List.getElem?_drop];congr 1;omega
theorem C9m {l:List Int}{m:Nat}(h0:0<m)(h:m<=l.length):(l.take m).getLast?=l[m-1]?:=by
 rw [List.getLast?_eq_getElem?,aW,cX h,List.getElem?_take_of_lt (by omega)]
theorem JJ {l:List Int}{m:Nat}(h0:0<m)(h:m<l.length):jg (l.take (m+1))=if l[m]'h=l[m-1]'(by omega) then jg (l.take m) else jg (l.take m)++[l[m]'h]:=by
 have hne:l.take m ≠ []:=by
  intro e
  have:=congrArg cz e
  rw [aW,cM] at this;omega
 rw [vz h,B62 _ _ hne,C9m h0 (by omega),ah (by omega:m-1<l.length)]
 simp only [aa];by_cases e:l[m]'h=l[m-1]'(by omega)
 . rw [if_pos e.symm,if_pos e]
 . rw [if_neg (λh=>e h.symm),if_neg e]
theorem D07 {l:List Int}{m:Nat}(h0:0<m)(h:m<l.length)(hk:(jg (l.take m)).length<=m-1)(hne:l[m]'h≠l[m-1]'(by omega)):pS l (m+1)=(pS l m).set (jg (l.take m)).length (l[m]'h):=by
 unfold pS;rw [JJ h0 h,if_neg hne];generalize jg (l.take m)=D at hk;rw [List.set_append_right _ _ (ay _),gx,aR]
 have:D.length<l.length:=by omega
 rw [bY this,List.set_cons_zero];simp
theorem B63 {l:List Int}{m k:Nat}(JG:k<m)(hk:(jg (l.take m)).length<=m-1):∀ j,m+j<=l.length->(jg (l.take (m+j))).length<=m+j-1
 | 0,_=>by simpa using hk
 | j+1,h=>by
   have ih:=B63 JG hk j (by omega)
   rw [← bV,JJ (by omega) (by omega)]
   split
   . omega
   . rw [aR];simp;omega
theorem C1V {LL:List (List Int)}{I N off:Nat}{l:List Int}(hI:I<LL.length)(hN:l.length=N)(hN2:N<=1000)(ho:0<off)(hoN:off<N)(hd:(jg (l.take (off+1))).length=off) :
 A0d Jt (((I,N),(off:Int),(I,off,N-off),1),LL.set I (pS l (off+1)))=some (((I,N),((jg l).length:Int)),LL.set I (pS l N)):=by
 have hall:jg (l.take N)=jg l:=by rw [a6 (by omega)]
 have:A0d Jt (((I,N),((jg (l.take (off+1+0))).length:Int),(I,off,N-off),((0+1:Nat):Int)),LL.set I (pS l (off+1+0)))=_ :=
  tQ (f:=Jt) (N-off-1) (λi=>(((I,N),((jg (l.take (off+1+i))).length:Int),(I,off,N-off),((i+1:Nat):Int)),LL.set I (pS l (off+1+i)))) (((I,N),((jg l).length:Int)),LL.set I (pS l N)) (λi hi=>by
   have hm:off+1+i<l.length:=by omega
   have hsm:=B63 (l:=l) (m:=off+1) (k:=off) (by omega) (by omega) i (by omega)
   have hk0:=C1U l (off+1+i);have hj:((i+1:Nat):Int)<((N-off:Nat):Int):=by omega
   have EJ:(0:Int)<=((i+1:Nat):Int):=by omega
   have hw:ao.wrap (((i+1:Nat):Int)-1)=(i:Int):=by rw [E9S (by omega) (by omega)];omega
   have e1:(LL.set I (pS l (off+1+i)))[I]?=some (pS l (off+1+i)):=by simp [hI]
   have g1:(pS l (off+1+i))[off+(i+1)]?=some (l[off+1+i]'hm):=by
    rw [C4g (by omega),show off+(i+1)=off+1+i by omega,ah hm]
   have g2:(pS l (off+1+i))[off+i]?=some (l[off+i]'(by omega)):=by
    rw [C4g (by omega),ah (by omega)]
   have hlen:=C4f l (off+1+i);have rG:=JJ (l:=l) (m:=off+1+i) (by omega) hm
   have Nt:off+1+i-1=off+i:=by omega
   simp only [Nt] at rG;simp only [Jt,hj,decide_true,cond_true,e1,ai,EJ,ar,lB (show i+1<N-off by omega),g1,hw,aq,lB (show i<N-off by omega),g2]
   by_cases hne:l[off+1+i]'hm=l[off+i]'(by omega)
   . rw [if_pos hne] at rG;have hb:(l[off+1+i]'hm != l[off+i]'(by omega))=false:=by simp [hne]
     have ha:pS l (off+1+(i+1))=pS l (off+1+i):=by
      rw [← bV];unfold pS;rw [rG]
     rw [ha,← bV (off+1) i 1,rG];simp only [hb,cond_false,iQ (show i+1<9223372036854775807 by omega)]
   . rw [if_neg hne] at rG;have hb:(l[off+1+i]'hm != l[off+i]'(by omega))=true:=by simpa using hne
     have ha:=D07 (l:=l) (m:=off+1+i) (by omega) hm (by omega) (by simp only [Nt];exact hne)
     rw [← bV (off+1) i 1,ha,rG];have hDl:(jg (l.take (off+1+i))).length<(pS l (off+1+i)).length:=by omega
     simp only [hb,cond_true,lB (show (jg (l.take (off+1+i))).length<N by omega),ah hDl,ai,beq_self_eq_true,iy,lB hI,nK,aR,bf,cM,iQ (show (jg (l.take (off+1+i))).length<9223372036854775807 by omega),iQ (show i+1<9223372036854775807 by omega)]) (by
   have hm:off+1+(N-off-1)=N:=by omega
   have e1:(LL.set I (pS l N))[I]?=some (pS l N):=by simp [hI]
   have hj:¬ ((N-off-1+1:Nat):Int)<((N-off:Nat):Int):=by omega
   rw [hm,hall];simp only [Jt,hj,decide_false,cond_false,e1,ai])
 have h0:((jg (l.take (off+1+0))).length:Int)=(off:Int):=by rw [dG,hd]
 rw [h0] at this;exact this
theorem Xx {l:List Int}{k:Nat}(h:∀ j (h0:0<j) (hj:j<k) (hl:j<l.length),l[j]≠l[j-1]'(by omega)):∀ m,m<=k->m<=l.length->jg (l.take m)=l.take m
 | 0,_,_=>by simp [jg]
 | 1,_,hl=>by
   rw [vz (by omega:0<l.length)];simp [jg]
 | m+2,hk,hl=>by
   rw [JJ (by omega) (by omega:m+1<l.length),if_neg (h (m+1) (by omega) (by omega) (by omega)),Xx h (m+1) (by omega) (by omega),← vz (by omega)]
theorem C7E {LL:List (List Int)}{I:Nat}{l:List Int}(hL:LL[I]?=some l)(hN2:l.length<=1000) :
 ∃ l',QK ((I,l.length),LL)=some ((I,(jg l).length),LL.set I l')∧l'.take (jg l).length=jg l∧(jg l).length<=l'.length:=by
 have hI:=(List.getElem?_eq_some_iff.1 hL).1;unfold QK;by_cases h2:(l.length:Int)<2
 . have hd:jg l=l:=by
    match l,h2 with
    | [],_=>rfl
    | [_],_=>rfl
    | _::_::_,h=>simp at h;omega
   refine ⟨l,?_,by rw [hd,pN],by rw [hd];exact ay _⟩
   simp only [h2,decide_true,cond_true,hL,ai,hd,Xw hL]
 simp only [h2,decide_false,cond_false,hL,ai];have key:∀ n k,n+k=l.length->0<k->(∀ j (h0:0<j) (hj:j<k) (hl:j<l.length),l[j]≠l[j-1]'(by omega))->
  ∃ b,A0d Ju (((I,l.length),(k:Int)),LL)=some b ∧
   ((∃ l',b=.inl ((I,(jg l).length),LL.set I l')∧l'.take (jg l).length=jg l∧(jg l).length<=l'.length)∨(b=.inr ((I,l.length),LL)∧jg l=l)):=by
  intro n
  induction n with
  | zero =>
    intro k hk h0 hp;have zq:k=l.length:=by omega
    refine ⟨.inr ((I,l.length),LL),qc ?_,.inr ⟨rfl,?_⟩⟩
    . subst zq;simp only [Ju,ba,decide_false,cond_false,hL,ai]
    . have:=Xx hp l.length (by omega) (ay _)
      rwa [pN] at this
  | succ n ih =>
    intro k hk h0 hp;have zq:k<l.length:=by omega
    have nq:(k:Int)<(l.length:Int):=by omega
    have hw:ao.wrap ((k:Int)-1)=((k-1:Nat):Int):=by rw [E9S (by omega) (by omega)];omega
    by_cases he:l[k]=l[k-1]'(by omega)
    . have hd:jg (l.take k)=l.take k:=Xx hp k (ay _) (by omega)
      have hd1:(jg (l.take (k+1))).length=k:=by
       rw [JJ h0 zq,if_pos he,hd,aW];omega
      have ha:pS l (k+1)=l:=by
       unfold pS;rw [hd1,JJ h0 zq,if_pos he,hd,List.take_append_drop]
      have CT:=C1V (LL:=LL) (I:=I) (N:=l.length) (off:=k) (l:=l) hI rfl hN2 h0 zq hd1;rw [ha,Xw hL] at CT;have hle:=Ns l;have hD:pS l l.length=jg l++l.drop (jg l).length:=by unfold pS;rw [pN]
      have Xy:=C4f l l.length;refine ⟨.inl ((I,(jg l).length),LL.set I (A1x (pS l l.length) (some (jg l).length) (au (l.length-(jg l).length) 0))),qc ?_,.inl ⟨_,rfl,?_,?_⟩⟩
      . have e1:(LL.set I (pS l l.length))[I]?=some (pS l l.length):=by simp [hI]
        have e3:(A1x (pS l l.length) (some (jg l).length) (au (l.length-(jg l).length) 0)).length=(pS l l.length).length:=by
         unfold A1x;simp only [aR,aW,fZ,cm,Xy];omega
        simp only [Ju,nq,decide_true,cond_true,hL,ai,aq,ar,lB zq,ah zq,hw,lB (show k-1<l.length by omega),ah (show k-1<l.length by omega),he,beq_self_eq_true,jE (show k<=l.length by omega)]
        refine (congrArg (λo=>bc o _) CT).trans ?_
        simp only [ai,e1,jE hle,aq,decide_true,cond_true,ar,beq_self_eq_true,iy,lB hI,e3,nK];rw [jE (by rw [fZ,Xy];omega)]
        rfl
      . unfold A1x;simp only;rw [hD,List.append_assoc,List.take_append_of_le_length (by rw [aW];simp),List.take_take,Nat.min_self,List.take_left' rfl]
      . unfold A1x;simp only [aR,aW,fZ,cm,Xy];omega
    . have hb:(l[k]==l[k-1]'(by omega))=false:=by simpa using he
      obtain ⟨b,h1,h3⟩:=ih (k+1) (by omega) (by omega) (λj a b c=>by
       by_cases e:j=k
       . subst e;exact he
       . exact hp j a (by omega) c)
      refine ⟨b,?_,h3⟩;rw [← h1];exact vw (by
       simp only [Ju,nq,decide_true,cond_true,hL,ai,aq,ar,lB zq,ah zq,hw,lB (show k-1<l.length by omega),ah (show k-1<l.length by omega),hb,cond_false,iQ (show k<9223372036854775807 by omega)])
 obtain ⟨b,h1,h3⟩:=key (l.length-1) 1 (by omega) (by omega) (λj a b c=>by omega)
 have h1:A0d Ju (((I,l.length),(1:Int)),LL)=some b:=h1;rw [h1];rcases h3 with ⟨l',rfl,h4,h5⟩ | ⟨rfl,h4⟩
 . refine ⟨l',?_,h4,h5⟩;have e1:(LL.set I l')[I]?=some l':=by simp [hI]
   simp only [ai,vh,e1]
 . refine ⟨l,?_,by rw [h4,pN],by rw [h4];exact ay _⟩
   simp only [ai,lS,hL,h4,Xw hL]
end Go.Mid
namespace Go.Mid
structure VI (n:Nat)(Q:Int->Prop)(seen:List Bool)(out:List Int):Prop where
 sl:seen.length=n
 nd:out.Nodup
 mem:∀ v:Nat,v<n->(seen[v]?=some true↔(v:Int)∈out)
 yd:∀ v∈out,0<=v∧v<n
 q:∀ v∈out,Q v
 cnt:seen.count true=out.length
theorem VI.le {n:Nat}{Q:Int->Prop}{seen:List Bool}{out:List Int}(h:VI n Q seen out):out.length<=n:=by
 rw [← h.cnt,← h.sl];exact List.count_le_length
theorem VI.add {n:Nat}{Q:Int->Prop}{seen:List Bool}{out:List Int}(h:VI n Q seen out){w:Nat}(hw:w<n)(hs:seen[w]?=some false)(hq:Q w):VI n Q (seen.set w true) (out++[(w:Int)]) where
 sl:=by rw [iy];exact h.sl
 nd:=by
  have:(w:Int)∉out:=λhm=>by
   have:=(h.mem w hw).2 hm
   rw [hs] at this;cases this
  rw [aT];refine ⟨h.nd,by simp,?_⟩
  intro a ha b hb e;simp at hb;subst hb;subst e;exact this ha
 mem:=by
  intro v hv;rw [dD];by_cases e:w=v
  . subst e;simp [h.sl,hv]
  . rw [if_neg e,h.mem v hv];simp only [az,aX];constructor
    . exact .inl
    . rintro (h1 | h1)
      . exact h1
      . omega
 yd:=by
  intro v hv;rcases az.1 hv with h1 | h1
  . exact h.yd v h1
  . rw [aX] at h1;subst h1;omega
 q:=by
  intro v hv;rcases az.1 hv with h1 | h1
  . exact h.q v h1
  . rw [aX] at h1;subst h1;exact hq
 cnt:=by
  have eC:w<seen.length:=by rw [h.sl];exact hw
  have hg:seen[w]=false:=by
   rw [ah eC] at hs;exact s8 hs
  rw [List.count_set eC,hg,h.cnt];simp
structure NB (n:Nat)(next:List (List Int)):Prop where
 len:next.length=n
 yd:∀ l∈next,∀ w∈l,0<=w∧w<n
 Rp:∀ l∈next,l.length<=1000
 small:n<=1000
theorem F1W {n:Nat}{Q:Int->Prop}{next:List (List Int)}(hN:NB n next){L:List Int}(hL:L∈next)(hQ:∀ w∈L,Q w)(i0:Int)(seen:List Bool)(out:List Int)(h:VI n Q seen out) :
 ∃ seen' out',A0d E5w ((next,n,out.length,i0,L,(L.length:Int),0),seen,out)=some ((next,n,out'.length,i0),seen',out')∧VI n Q seen' out'∧out <+: out'∧∀ w∈L,w∈out':=by
 have hf:=hN.Rp L hL
 have:=V4 (f:=E5w) L.length (λi (s:List Bool×List Int)=>((next,n,s.2.length,i0,L,(L.length:Int),(i:Int)),s.1,s.2)) (λi s=>VI n Q s.1 s.2∧out <+: s.2∧∀ k (hk:k<L.length),k<i->L[k]∈s.2)
  (λb=>∃ seen' out',b=((next,n,out'.length,i0),seen',out')∧VI n Q seen' out'∧out <+: out'∧∀ w∈L,w∈out') (seen,out) ⟨h,aBM _,λk _ hk=>by omega⟩ (λi s hi hJ=>by
    obtain ⟨hv,hp,hall⟩:=hJ;have hi':(i:Int)<L.length:=by omega
    obtain ⟨w,hw⟩:∃ w:Nat,L[i]=(w:Int):=eB (hN.yd L hL _ (aM hi)).1;have Em:w<n:=by have:=(hN.yd L hL _ (aM hi)).2;rw [hw] at this;omega
    have hle:=hv.le;have hsm:=hN.small;have eC:w<s.1.length:=by rw [hv.sl];exact Em
    left;by_cases hs:s.1[w]=true
    . refine ⟨s,?_,hv,hp,λk hk Dp=>?_⟩
      . simp only [E5w,hi',decide_true,cond_true,aq,ar,ah hi,ai,hw,lB Em,ah eC,hs,bO,cond_false,iQ (show i<9223372036854775807 by omega)]
      . rcases mV.1 Dp with h1 | h1
        . exact hall k hk h1
        . subst h1;rw [hw];exact (hv.mem w Em).1 (by rw [ah eC,hs])
    . have hs:s.1[w]=false:=by simpa using hs
      refine ⟨(s.1.set w true,s.2++[(w:Int)]),?_,hv.add Em (by rw [ah eC,hs]) (by rw [← hw];exact hQ _ (aM hi)),hp.trans (List.prefix_append _ _),λk hk Dp=>?_⟩
      . simp only [E5w,hi',decide_true,cond_true,aq,ar,ah hi,ai,hw,lB Em,ah eC,hs,auI,jE (ay _),pN,aR,bf,cM,iQ (show i<9223372036854775807 by omega)]
        rw [jE (show (s.2.length+1)*8<=140737488355328 by omega)]
        rfl
      . rcases mV.1 Dp with h1 | h1
        . exact cV _ (hall k hk h1)
        . subst h1;rw [hw];simp) (λs hJ=>by
    obtain ⟨hv,hp,hall⟩:=hJ;refine ⟨((next,n,s.2.length,i0),s.1,s.2),?_,s.1,s.2,rfl,hv,hp,λw hw=>?_⟩
    . simp only [E5w,ba,decide_false,cond_false]
    . obtain ⟨k,hk,rfl⟩:=pd hw;exact hall k hk hk)
 obtain ⟨b,hb,seen',out',rfl,h1,h2,h3⟩:=this;exact ⟨seen',out',hb,h1,h2,h3⟩
theorem F1X {n:Nat}{Q:Int->Prop}{next:List (List Int)}(hN:NB n next)(hQ:∀ v:Nat,(hv:v<next.length)->Q v->∀ w∈next[v],Q w)(seen:List Bool)(out:List Int)(h:VI n Q seen out) :
 ∃ out',A0d E5x ((next,n,out.length,0),seen,out)=some (out'.length,out')∧(∃ s,VI n Q s out')∧out <+: out'∧∀ v∈out',∀ (hv:v.toNat<next.length),∀ w∈next[v.toNat],w∈out':=by
 have hsm:=hN.small
 have:=C8K (f:=E5x) (λa=>∃ (i:Nat) (seen':List Bool) (out':List Int),a=((next,n,out'.length,(i:Int)),seen',out')∧VI n Q seen' out'∧out <+: out'∧i<=out'.length∧∀ k (hk:k<out'.length),k<i->∀ (hv:(out'[k]).toNat<next.length),∀ w∈next[(out'[k]).toNat],w∈out')
  (λb=>∃ out',b=(out'.length,out')∧(∃ s,VI n Q s out')∧out <+: out'∧∀ v∈out',∀ (hv:v.toNat<next.length),∀ w∈next[v.toNat],w∈out')
  (λa=>n-a.1.2.2.2.toNat) (λa ha=>by
    obtain ⟨i,seen',out',rfl,hv,hp,hi,hall⟩:=ha;have hle:=hv.le;by_cases rX:i<out'.length
    . left;have hi':(i:Int)<(out'.length:Int):=by omega
      obtain ⟨u,hu⟩:∃ u:Nat,out'[i]=(u:Int):=eB (hv.yd _ (aM rX)).1;have XA:u<n:=by have:=(hv.yd _ (aM rX)).2;rw [hu] at this;omega
      have aEO:u<next.length:=by rw [hN.len];exact XA
      obtain ⟨s2,o2,e1,v2,p2,a2⟩:=F1W hN (aM aEO) (hQ u aEO (by rw [← hu];exact hv.q _ (aM rX))) (i:Int) seen' out' hv
      refine ⟨((next,n,o2.length,((i+1:Nat):Int)),s2,o2),?_,⟨i+1,s2,o2,rfl,v2,hp.trans p2,dF rX p2.length_le,?_⟩,?_⟩
      . simp only [E5x,hi',decide_true,cond_true,aq,ar,lB rX,ah rX,ai,hu,ah aEO,e1,iQ (show i<9223372036854775807 by omega)]
      . intro k hk Dp HP w hw;have YP:k<out'.length:=by omega
        have hg:o2[k]=out'[k]:=(List.IsPrefix.getElem p2 YP).symm;rcases mV.1 Dp with h1 | h1
        . simp only [hg] at HP hw;exact p2.subset (hall k YP h1 HP w hw)
        . subst h1;simp only [hg,hu,ar] at hw;exact a2 w hw
      . show n-(((i+1:Nat):Int)).toNat<n-((i:Int)).toNat;simp only [ar];omega
    . right;have hie:i=out'.length:=by omega
      refine ⟨(out'.length,out'),?_,out',rfl,⟨_,hv⟩,hp,λv hvm hvn w hw=>?_⟩
      . have eC:¬ (i:Int)<(out'.length:Int):=by omega
        simp only [E5x,eC,decide_false,cond_false]
      . obtain ⟨k,hk,rfl⟩:=pd hvm;exact hall k hk (by omega) hvn w hw)
  ((next,n,out.length,0),seen,out) ⟨0,seen,out,rfl,h,aBM _,dg _,λk _ hk=>by omega⟩
 obtain ⟨b,hb,out',rfl,h1,h2,h3⟩:=this;exact ⟨out',hb,h1,h2,h3⟩
end Go.Mid
namespace Go.Mid
theorem C9n (x:List Int):uR (Ty.vec 1 (Ty.int ao)) x=x:=by
 show fp (uR (Ty.int ao)) x=x
 have:(uR (Ty.int ao):Int->Int)=id:=by funext y;rfl
 exact (congrArg (λf=>fp f x) this).trans (wR x)
theorem B4A (l:List (List Int)):fp (uR (Ty.vec 1 (Ty.int ao))) l=l:=by
 have:(uR (Ty.vec 1 (Ty.int ao)):List Int->List Int)=id:=by funext y;exact C9n y
 exact (congrArg (λf=>fp f l) this).trans (wR l)
abbrev oW:=List (Int×Int)
def eg (E:oW)(v:Nat):List Int:=(E.filter λe=>e.1==(v:Int)).map (·.2)
def zM (n:Nat)(E:oW):List (List Int):=(bA n).map (eg E)
theorem Rq {n v:Nat}{E:oW}(h:v<n):(zM n E)[v]?=some (eg E v):=by simp [zM,h]
theorem Nu (n:Nat)(E:oW):(zM n E).length=n:=by simp [zM]
theorem D08 (E:oW)(e:Int×Int)(v:Nat):eg (E++[e]) v=if e.1=(v:Int) then eg E v++[e.2] else eg E v:=by
 unfold eg;rw [List.filter_append,b9];by_cases h:e.1=(v:Int)<;>simp [h]
theorem C9o {n:Nat}{E:oW}{u:Nat}{w:Int}(hu:u<n):zM n (E++[((u:Int),w)])=(zM n E).set u (eg E u++[w]):=by
 apply fy;intro v;rw [dD,Nu];by_cases hv:v<n
 . rw [Rq hv,D08];by_cases e:u=v
   . subst e;simp [hv]
   . have:¬ ((u:Int)=(v:Int)):=by omega
     simp [e,this,Rq hv]
 . rw [bJ (by rw [Nu];omega)]
   have:¬ u=v:=by omega
   rw [if_neg this,bJ (by rw [Nu];omega)]
theorem Xz (E:oW)(v:Nat):(eg E v).length<=E.length:=by
 unfold eg;rw [aB];exact List.length_filter_le ..
theorem C5V {E:oW}{v:Nat}{w:Int}:w∈eg E v↔((v:Int),w)∈E:=by
 unfold eg;rw [bp];constructor
 . rintro ⟨⟨a,b⟩,h1,rfl⟩;rw [cZ] at h1
   have:=h1.2
   simp at this;rw [← this];exact h1.1
 . intro h;exact ⟨((v:Int),w),cZ.2 ⟨h,by simp⟩,rfl⟩
def Ej (n:Nat)(E:oW):Prop:=∀ e∈E,0<=e.1∧e.1<n∧0<=e.2∧e.2<n
theorem D09 {n:Nat}{E:oW}(hr:Ej n E)(hE:E.length<=1000):A0d MH ((n,E,(E.length:Int),0),au n [])=some (n,zM n E):=by
 have h0:au n []=zM n (E.take 0):=by
  apply fy;intro v;by_cases hv:v<n
  . rw [Rq hv];simp [hv,eg]
  . rw [bJ (by simp;omega),bJ (by rw [Nu];omega)]
 rw [h0]
 have:=tQ (f:=MH) E.length (λi=>((n,E,(E.length:Int),(i:Int)),zM n (E.take i))) (n,zM n E) (λi hi=>by
  have hi':(i:Int)<E.length:=by omega
  have he:=hr E[i] (aM hi);obtain ⟨u,hu⟩:∃ u:Nat,(E[i]).1=(u:Int):=eB he.1;have XA:u<n:=by have:=he.2.1;rw [hu] at this;omega
  have hei:E[i]=((u:Int),(E[i]).2):=Prod.ext hu rfl;rw [vz hi,hei,C9o XA];have hl:=Xz (E.take i) u;rw [aW] at hl;have b0:cP 0 2=true:=rfl;have b1:cP 1 2=true:=rfl;simp only [MH,hi',decide_true,cond_true,aq,ar,ah hi,ai,b0,b1,hu,lB XA,Rq XA,beq_self_eq_true,jE (ay _),Nu,pN,aR,bf,cM,iQ (show i<9223372036854775807 by omega)]
  rw [jE (show ((eg (E.take i) u).length+1)*8<=140737488355328 by omega)]
  rfl) (by
  simp only [MH,ba,decide_false,cond_false,pN])
 simpa using this
def A2U (n:Nat)(E:oW):List (List Int):=(bA n).map λv=>jg (A0K (eg E v))
def ye (n:Nat)(E:oW)(i:Nat):List (List Int):=(bA n).map λv=>if v<i then jg (A0K (eg E v)) else eg E v
theorem XB {n v i:Nat}{E:oW}(h:v<n):(ye n E i)[v]?=some (if v<i then jg (A0K (eg E v)) else eg E v):=by simp [ye,h]
theorem Nv (n i:Nat)(E:oW):(ye n E i).length=n:=by simp [ye]
theorem D1a {n i:Nat}{E:oW}(hi:i<n):ye n E (i+1)=(ye n E i).set i (jg (A0K (eg E i))):=by
 apply fy;intro v;rw [dD,Nv];by_cases hv:v<n
 . rw [XB hv];by_cases e:i=v
   . subst e;simp [hv]
   . rw [if_neg e,XB hv];by_cases h1:v<i
     . rw [if_pos h1,if_pos (by omega)]
     . rw [if_neg h1,if_neg (by omega)]
 . rw [bJ (by rw [Nv];omega)]
   have:¬ i=v:=by omega
   rw [if_neg this,bJ (by rw [Nv];omega)]
theorem D2Z {LL:List (List Int)}{I:Nat}{l:List Int}(hL:LL[I]?=some l)(hl:l.length<=1000):QJ ((I,l.length),LL)=some (LL.set I (A0K l)):=by
 unfold QJ;have h1:A1x l none (A0K l)=A0K l:=by
  unfold A1x;simp only;rw [Hv,aBN,bD]
 simp only [hL,ai,pN,h1,Hv,jE (ay _),cond_true,beq_self_eq_true];rw [lB (by omega)]
 rfl
theorem D1b {n:Nat}{E:oW}(hn:n<=1000)(hE:E.length<=1000):A0d MI ((n,(n:Int),0),zM n E)=some (n,A2U n E):=by
 have h0:zM n E=ye n E 0:=by simp [zM,ye]
 have h1:A2U n E=ye n E n:=by
  unfold A2U ye;apply List.map_congr_left;intro v hv;rw [if_pos (cu.1 hv)]
 rw [h0,h1]
 have:=tQ (f:=MI) n (λi=>((n,(n:Int),(i:Int)),ye n E i)) (n,ye n E n) (λi hi=>by
  have hi':(i:Int)<n:=by omega
  have hl:=Xz E i;have g0:(ye n E i)[i]?=some (eg E i):=by rw [XB hi,if_neg (Nat.lt_irrefl i)]
  have hs:=D2Z g0 (by omega)
  have xj:(A0K (eg E i)).length=(eg E i).length:=Hv _;have g1:((ye n E i).set i (A0K (eg E i)))[i]?=some (A0K (eg E i)):=by simp [Nv,hi]
  obtain ⟨l',c1,c2,c3⟩:=C7E g1 (by omega)
  have g2:((ye n E i).set i l')[i]?=some l':=by simp [Nv,hi]
  have g3:(jg (A0K (eg E i))).length=(aP (jg (A0K (eg E i))).length l').length:=by rw [c2]
  have bq:Nat.beq i i=true:=by simp
  simp only [MI,hi',decide_true,cond_true,aq,ar,lB hi,g0,ai,hs,g1,c1,g2,bq,jE c3,c2,beq_self_eq_true,nK,D1a hi,iQ (show i<9223372036854775807 by omega)]) (by
  simp only [MI,ba,decide_false,cond_false])
 simpa using this
theorem XC (n:Nat)(E:oW):(A2U n E).length=n:=by simp [A2U]
theorem C1W {n:Nat}{E:oW}(hn:n<=1000)(hr:Ej n E)(hE:E.length<=1000):Jv ((n:Int),E)=some (A2U n E):=by
 unfold Jv;simp only [aq,decide_true,cond_true,ar,lu];rw [jE (show n*24<=140737488355328 by omega)]
 simp only [cond_true,D09 hr hE,ai,D1b hn hE];rw [jE (show n<=(A2U n E).length by rw [XC];exact ay _)]
 have e:aP n (A2U n E)=A2U n E:=a6 (by rw [XC];exact ay _)
 refine congrArg some ?_;refine Eq.trans ?_ (B4A (A2U n E));exact congrArg (λl:List (List Int)=>fp (uR (Ty.vec 1 (Ty.int ao))) l) e
theorem C1I {n v:Nat}{E:oW}(h:v<(A2U n E).length):(A2U n E)[v]=jg (A0K (eg E v)):=by simp [A2U]
theorem C9p {n v:Nat}{E:oW}{w:Int}(h:v<(A2U n E).length):w∈(A2U n E)[v]↔((v:Int),w)∈E:=by
 rw [C1I h,Ro,Rn,C5V]
theorem D1c {n:Nat}{E:oW}(hn:n<=1000)(hr:Ej n E)(hE:E.length<=1000):NB n (A2U n E) where
 len:=XC n E
 yd:=by
  intro l hl w hw;obtain ⟨v,hv,rfl⟩:=pd hl
  have:=hr _ ((C9p hv).1 hw)
  exact this.2.2
 Rp:=by
  intro l hl;obtain ⟨v,hv,rfl⟩:=pd hl;rw [C1I hv];have h1:=Ns (A0K (eg E v));rw [Hv] at h1;have h2:=Xz E v;omega
 small:=hn
end Go.Mid
namespace Go.Mid
def HL (n:Int)(e:Int×Int):Bool:=decide (e.1<0) || decide (e.1 ≥ n) || decide (e.2<0) || decide (e.2 ≥ n)
def JK (n:Int)(l:List (Int×Int)):Int:=if n>1000 then 3 else if (l.length:Int)>20000 then 3 else if n<0 then 1 else if l.any (HL n) then 1 else 0
theorem D5Q:cP 0 2=true:=rfl
theorem D5R:cP 1 2=true:=rfl
theorem XD {n:Int}{e:Int×Int}:HL n e=true↔e.1<0∨e.1 ≥ n∨e.2<0∨e.2 ≥ n:=by
 simp [HL,or_assoc]
theorem C0t (n:Int)(l:List (Int×Int)):MG (n,l)=some (JK n l):=by
 unfold MG JK;simp only [gt_iff_lt];by_cases h1:1000<n
 . simp [h1]
 by_cases h2:(20000:Int)<l.length
 . simp [h1,h2]
 by_cases h3:n<0
 . simp [h1,h2,h3]
 simp only [h1,h2,h3,decide_false,cond_false,if_false]
 have:=wo (f:=QI) l (λi=>(n,l,(l.length:Int),(i:Int))) (HL n) (.inl 1) (.inr ()) (λi hi=>by
  have hi':(i:Int)<l.length:=by omega
  simp only [QI,hi',decide_true,cond_true,aq,ar,ah hi,ai,D5Q,D5R,iQ (show i<9223372036854775807 by omega)]
  generalize l[i]=e;by_cases hb:HL n e=true
  . rw [if_pos hb];rw [XD] at hb;by_cases c1:(if e.2<e.1 then e.2 else e.1)<0
    . simp only [c1,decide_true,cond_true]
    . have c2:(if e.2>e.1 then e.2 else e.1) ≥ n:=by
       split at c1<;>split<;>omega
      simp only [c1,c2,decide_true,decide_false,cond_true,cond_false]
  . rw [if_neg hb];rw [XD] at hb;have c1:¬ (if e.2<e.1 then e.2 else e.1)<0:=by split<;>omega
    have c2:¬ (if e.2>e.1 then e.2 else e.1) ≥ n:=by split<;>omega
    simp only [c1,c2,decide_false,cond_false]) (by
  simp only [QI,ba,decide_false,cond_false])
 simp only [av] at this;rw [this];by_cases h4:l.any (HL n)=true
 . simp [h4]
 . simp only [h4];rfl
theorem F22 {n:Int}{l:List (Int×Int)}(h:JK n l=0):∃ m:Nat,n=(m:Int)∧m<=1000∧l.length<=20000∧Ej m l:=by
 unfold JK at h;split at h
 . cases h
 split at h
 . cases h
 split at h
 . cases h
 split at h
 . cases h
 rename_i h1 h2 h3 h4;obtain ⟨m,rfl⟩:=eB (show 0<=n by omega)
 refine ⟨m,rfl,by omega,by omega,λe he=>?_⟩
 have:¬ HL m e=true:=λhb=>h4 (fV.2 ⟨e,he,hb⟩)
 rw [XD] at this;omega
theorem F4c {n:Nat}{Q:Int->Prop}{next:List (List Int)}(hN:NB n next)(hQ:∀ v:Nat,(hv:v<next.length)->Q v->∀ w∈next[v],Q w){s:Nat}(hs:s<n)(hq:Q s) :
 ∃ out:List Int,E6j (next,(s:Int))=some (out.length,A0K out)∧out.length<=n∧out.Nodup∧(∀ v∈out,0<=v∧v<n)∧(∀ v∈out,Q v)∧(s:Int)∈out∧∀ v∈out,∀ (hv:v.toNat<next.length),∀ w∈next[v.toNat],w∈out:=by
 have hsm:=hN.small;have h0:VI n Q ((au n false).set s true) [(s:Int)]:=by
  have:VI n Q (au n false) []:={
   sl:=by simp
   nd:=by simp
   mem:=by
    intro v hv;simp [hv]
   yd:=by simp
   q:=by simp
   cnt:=by simp [List.count_replicate] }
  exact this.add hs (by simp [hs]) hq
 obtain ⟨out,e,⟨sn,hv⟩,hp,hc⟩:=F1X hN hQ _ _ h0;have hle:=hv.le;refine ⟨out,?_,hle,hv.nd,hv.yd,hv.q,hp.subset (by simp),hc⟩
 have hg:(au n false)[s]?=some false:=by simp [hs]
 have e':A0d E5x ((next,n,1,0),(au n false).set s true,[]++[(s:Int)])=some (out.length,out):=e
 have ho:A1x out none (A0K out)=A0K out:=by
  unfold A1x;simp only;rw [Hv,aBN,bD]
 unfold E6j;simp only [hN.len,aq,lu,decide_true,cond_true,ar,jE (show n*1<=140737488355328 by omega),lB hs,hg,ai,e']
 unfold QM;simp only [jE (ay out.length),pN,cond_true,lB (show out.length<4611686018427387904 by omega),ho,ai]
structure aDp (n:Nat)(E:oW)(s:Nat)(out:List Int):Prop where
 asc:out.Pairwise (· < ·)
 len:out.length<=n
 yd:∀ v∈out,0<=v∧v<n
 st:(s:Int)∈out
 cl:∀ u∈out,∀ w,(u,w)∈E->w∈out
 min:∀ Q:Int->Prop,Q s->(∀ u w,Q u->(u,w)∈E->Q w)->∀ v∈out,Q v
theorem E9F {n:Nat}{E:oW}(hn:n<=1000)(hr:Ej n E)(hE:E.length<=1000){s:Nat}(hs:s<n):∃ out,E6j (A2U n E,(s:Int))=some (out.length,out)∧aDp n E s out:=by
 have hN:=D1c hn hr hE;obtain ⟨out,e,h0,h1,h2,h3,h4,h5⟩:=F4c (Q:=λv=>∀ Q:Int->Prop,Q s->(∀ u w,Q u->(u,w)∈E->Q w)->Q v) hN (λv hv hq w hw Q q1 q2=>q2 v w (hq Q q1 q2) ((C9p hv).1 hw)) hs (λQ q1 _=>q1)
 refine ⟨A0K out,by rw [e,Hv],C9l h1,by rw [Hv];exact h0,λv hv=>h2 v (Rn.1 hv),Rn.2 h4,λu hu w hw=>?_,λQ q1 q2 v hv=>h3 v (Rn.1 hv) Q q1 q2⟩
 have hu:=Rn.1 hu;have hur:=h2 u hu;obtain ⟨k,rfl⟩:=eB hur.1;have hk:((k:Int)).toNat<(A2U n E).length:=by rw [XC,ar];omega
 refine Rn.2 (h5 _ hu hk w ?_);simp only [ar];exact (C9p (by simpa using hk)).2 hw
theorem E8C (n v:Int):WE (n,v)=some (decide (0<=v)&&decide (v<n)):=by
 unfold WE;by_cases h:(0:Int)<=v<;>simp [h]
theorem F0y {n:Nat}{E:oW}{s:Nat}(h:JK n E=0)(hs:s<n)(hE:E.length<=1000):∃ out,E9J ((n:Int),E,(s:Int))=some (out,0)∧E7D ((n:Int),E,(s:Int))=some ((out.length,0),out)∧aDp n E s out:=by
 obtain ⟨m,e,hm,_,hr⟩:=F22 h
 have:n=m:=by omega
 subst this;obtain ⟨out,e1,h1⟩:=E9F hm hr hE hs;have h2:(s:Int)<n:=by omega
 refine ⟨out,?_,?_,h1⟩
 . unfold E9J;simp only [C0t,ai,h,E8C,aq,h2,decide_true,fR,bne_self_eq_false,cond_false,bO,C1W hm hr hE,e1];rw [jE (ay _),pN];rfl
 . unfold E7D;simp only [C0t,ai,h,E8C,aq,h2,decide_true,fR,bne_self_eq_false,cond_false,bO,C1W hm hr hE,e1]
end Go.Mid
namespace Go.Mid
end Go.Mid
namespace Go.Mid
end Go.Mid
namespace Go.Mid
end Go.Mid
namespace Go.Mid
end Go.Mid
namespace Go.Mid
end Go.Mid
namespace Go.Mid
end Go.Mid
namespace Go.Mid
theorem XF {α:Type}{p q:α->Bool}:∀ {l:List α},(∀ x∈l,p x=true->q x=true)->(∃ x∈l,p x=false∧q x=true)->l.countP p<l.countP q
 | [],_,h=>by obtain ⟨x,hx,_⟩:=h;cases hx
 | a::l,hm,h=>by
   have hle:l.countP p<=l.countP q:=List.countP_mono_left λx hx=>hm x (bC _ hx)
   have ha:=hm a (by simp)
   rw [rz,rz];obtain ⟨x,hx,h1,h2⟩:=h;rcases aG.1 hx with e | e
   . subst e;simp only [h1,h2,if_true];simp;omega
   . have:=XF (λx hx=>hm x (bC _ hx)) ⟨x,e,h1,h2⟩
     by_cases sg:p a=true
     . simp only [sg,ha sg,if_true];omega
     . rw [if_neg sg];omega
theorem Nw {α:Type} [DecidableEq α]:∀ {l m:List α},l.Nodup->(∀ x∈l,x∈m)->l.length<=m.length
 | [],_,_,_=>dg _
 | a::l,m,h,hs=>by
   have h':=List.nodup_cons.1 h;have JL:=hs a (by simp)
   have:=Nw (l:=l) (m:=m.erase a) h'.2 λx hx=>by
    have hne:x≠a:=λe=>h'.1 (e ▸ hx)
    exact (List.mem_erase_of_ne hne).2 (hs x (bC _ hx))
   rw [List.length_erase_of_mem JL] at this
   have:=List.length_pos_of_mem JL
   simp only [bf];omega
end Go.Mid
namespace Go.Mid
def jA (o:List Nat):List Int:=o.map λk:Nat=>(k:Int)
end Go.Mid
namespace Go.Mid
end Go.Mid
namespace Go.Mid
end Go.Mid
namespace Go.Mid
end Go.Mid
namespace Go.Mid
end Go.Mid
namespace Go.Mid
end Go.Mid
namespace Go.Mid
def D6D (E:oW)(u v:Nat):Bool:=E.any λe=>e.1==(u:Int)&&e.2==(v:Int)
def Nx (p:List Nat):Nat:=p.getLast?.getD 0
theorem B9r (p:List Nat)(v:Nat):Nx (p++[v])=v:=by simp [Nx]
def kZ (M:List (List Nat)):List (List Int):=M.map jA
def JM (n:Nat)(S:Nat->Bool):Nat:=(bA n).countP S
structure LV (n:Nat)(S:Nat->Bool)(L:List (List Nat)):Prop where
 ne:∀ p∈L,p ≠ []
 yd:∀ p∈L,Nx p<n
 seen:∀ p∈L,S (Nx p)=true
 len:∀ p∈L,p.length<=JM n S
 Rp:L.length<=JM n S
theorem D20 {n:Nat}{S S':Nat->Bool}(h:∀ v,S v=true->S' v=true){v:Nat}(hv:v<n)(h1:S v=false)(h2:S' v=true):JM n S<JM n S' :=
 XF (λx _ hx=>h x hx) ⟨v,cu.2 hv,h1,h2⟩
theorem LV.next {n:Nat}{E:oW}{S S':Nat->Bool}{L N:List (List Nat)}(h:LV n S L)(h2:∀ v,S v=true->S' v=true)
 (h4:∀ q∈N,∃ p∈L,∃ v,v<n∧q=p++[v]∧D6D E (Nx p) v=true∧S v=false∧S' v=true) (h5:JM n S'=JM n S+N.length):LV n S' N where
 ne:=λq hq=>by
  obtain ⟨p,_,v,_,rfl,_⟩:=h4 q hq;simp
 yd:=λq hq=>by
  obtain ⟨p,_,v,hv,rfl,_⟩:=h4 q hq;rw [B9r];exact hv
 seen:=λq hq=>by
  obtain ⟨p,_,v,hv,rfl,_,_,e⟩:=h4 q hq;rw [B9r];exact e
 len:=λq hq=>by
  obtain ⟨p,hp,v,hv,rfl,_,e1,e2⟩:=h4 q hq
  have:=h.len p hp
  have:=D20 h2 hv e1 e2
  simp;omega
 Rp:=by omega
end Go.Mid
namespace Go.Mid
end Go.Mid
namespace Go.Mid
inductive Rc (Ed:Nat->Nat->Prop) (a:Nat):Nat->Prop
 | refl:Rc Ed a a
 | tail {b c:Nat}:Rc Ed a b->Ed b c->Rc Ed a c
section
variable {Ed:Nat->Nat->Prop}
theorem Rc.trans {a b c:Nat}(h:Rc Ed a b):Rc Ed b c->Rc Ed a c:=λh2=>by
 induction h2 with
 | refl=>exact h
 | tail _ e ih=>exact ih.tail e
theorem Rc.one {a b:Nat}(h:Ed a b):Rc Ed a b:=Rc.refl.tail h
structure kP (Ed:Nat->Nat->Prop)(n:Nat)(G:List Nat)(ix:Nat->Nat)(oE:List Nat)(cnt:Nat)(out:List (List Nat)):Prop where
 cc:(bA n).countP (λv=>ix v != 0)=cnt
 FH:∀ v,ix v<=cnt
 yd:∀ v,ix v≠0->v<n
 inj:∀ u v,ix u≠0->ix u=ix v->u=v
 HM:oE.Pairwise (λa b=>ix a<ix b)
 qw:∀ v∈oE,ix v≠0
 JN:∀ g∈G,g∈oE
 Ny:∀ u w,ix u≠0->u∉oE->Ed u w->ix w≠0∧w∉oE
 blk:∀ u∈oE,u∉G->∀ w,Ed u w->ix w≠0
 i7:∀ u∈oE,∃ g∈G,ix g<=ix u∧Rc Ed u g
 i8:∀ g∈G,∀ u∈oE,ix g<=ix u->Rc Ed g u
 Nz:∀ v,ix v≠0->v∉oE->∃ C∈out,v∈C
 yf:∀ C∈out,C ≠ []∧C.Nodup∧∀ u∈C,(ix u≠0∧u∉oE)∧∀ w,(w∈C↔Rc Ed u w∧Rc Ed w u)
 JO:out.Pairwise (λC D=>∀ x∈C,x∉D)
def y6 {α:Type}(f:Nat->α)(v:Nat)(x:α):Nat->α:=λb=>if b=v then x else f b
theorem A1C {α:Type}(f:Nat->α)(v:Nat)(x:α):y6 f v x v=x:=by simp [y6]
theorem yg {α:Type}{f:Nat->α}{v b:Nat}{x:α}(h:b≠v):y6 f v x b=f b:=by simp [y6,h]
theorem B64 {ix:Nat->Nat}{v c:Nat}(h0:ix v=0)(hc:c≠0):∀ m,(bA m).countP (λu=>y6 ix v c u != 0)=(bA m).countP (λu=>ix u != 0)+if v<m then 1 else 0
 | 0=>by simp
 | m+1=>by
   rw [List.range_succ,p9,p9,B64 h0 hc m];by_cases e:m=v
   . subst e;have h1:¬ m<m:=by omega
     have h2:m<m+1:=by omega
     simp [A1C,h0,hc]
   . have h3:v<m+1↔v<m:=by omega
     simp only [List.countP_singleton,yg e,h3];omega
theorem kP.nil (n:Nat):kP Ed n [] (λ_=>0) [] 0 [] where
 cc:=by simp
 FH:=by simp
 yd:=by simp
 inj:=by simp
 HM:=by simp
 qw:=by simp
 JN:=by simp
 Ny:=by simp
 blk:=by simp
 i7:=by simp
 i8:=by simp
 Nz:=by simp
 yf:=by simp
 JO:=by simp
theorem kP.XJ {n:Nat}{G:List Nat}{ix:Nat->Nat}{oE:List Nat}{cnt:Nat}{out:List (List Nat)}(h:kP Ed n G ix oE cnt out):oE.Nodup :=
 h.HM.imp λ{a b} uO e=>by subst e;omega
theorem kP.push {n:Nat}{G:List Nat}{ix:Nat->Nat}{oE:List Nat}{cnt:Nat}{out:List (List Nat)}(h:kP Ed n G ix oE cnt out){v:Nat}(hv:v<n)(h0:ix v=0)(hG:∀ g∈G,Rc Ed g v) :
 kP Ed n (v::G) (y6 ix v (cnt+1)) (oE++[v]) (cnt+1) out:=by
 have fN:v∉oE:=λhm=>h.qw v hm h0
 have hne:∀ u,ix u≠0->u≠v:=λu hu e=>hu (e ▸ h0)
 have zN:∀ u,ix u≠0->y6 ix v (cnt+1) u=ix u:=λu hu=>yg (hne u hu)
 have FI:∀ u∈oE,y6 ix v (cnt+1) u=ix u:=λu hu=>zN u (h.qw u hu)
 have HN:∀ u,y6 ix v (cnt+1) u≠0↔u=v∨ix u≠0:=λu=>by
  by_cases e:u=v
  . subst e;simp [A1C]
  . simp [yg e,e]
 refine ⟨?_,?_,?_,?_,?_,?_,?_,?_,?_,?_,?_,?_,?_,h.JO⟩
 . rw [B64 h0 (by omega),h.cc,if_pos hv]
 . intro u;by_cases e:u=v
   . subst e;rw [A1C];exact ay _
   . rw [yg e];have:=h.FH u;omega
 . intro u hu;rcases (HN u).1 hu with e | e
   . subst e;exact hv
   . exact h.yd u e
 . intro u w hu he;by_cases e1:u=v<;>by_cases e2:w=v
   . rw [e1,e2]
   . subst e1;rw [A1C,yg e2] at he
     have:=h.FH w;omega
   . subst e2;rw [A1C,yg e1] at he
     have:=h.FH u;omega
   . rw [yg e1] at hu;rw [yg e1,yg e2] at he;exact h.inj u w hu he
 . rw [cF];refine ⟨h.HM.imp_of_mem λ{a b} ha hb uO=>by rw [FI a ha,FI b hb];exact uO,by simp,λa ha b hb=>?_⟩
   rw [aX] at hb;subst hb;rw [FI a ha,A1C]
   have:=h.FH a;omega
 . intro u hu;rw [HN];rcases az.1 hu with h1 | h1
   . exact .inr (h.qw u h1)
   . exact .inl (aX.1 h1)
 . intro g hg;rcases aG.1 hg with e | e
   . subst e;simp
   . exact cV _ (h.JN g e)
 . intro u w hu hs he;rcases (HN u).1 hu with e | e
   . subst e;exact (hs (by simp)).elim
   . obtain ⟨a,b⟩:=h.Ny u w e (λhm=>hs (cV _ hm)) he
     refine ⟨(HN w).2 (.inr a),λhm=>?_⟩
     rcases az.1 hm with h1 | h1
     . exact b h1
     . rw [aX] at h1;exact hne w a h1
 . intro u hu hg w he;rcases az.1 hu with h1 | h1
   . exact (HN w).2 (.inr (h.blk u h1 (λhm=>hg (bC _ hm)) w he))
   . rw [aX] at h1;subst h1;exact (hg (by simp)).elim
 . intro u hu;rcases az.1 hu with h1 | h1
   . obtain ⟨g,hg,a,b⟩:=h.i7 u h1;exact ⟨g,bC _ hg,by rw [FI g (h.JN g hg),FI u h1];exact a,b⟩
   . rw [aX] at h1;subst h1;exact ⟨u,by simp,ay _,.refl⟩
 . intro g hg u hu hle;rcases az.1 hu with h1 | h1
   . rcases aG.1 hg with e | e
     . subst e;rw [A1C,FI u h1] at hle
       have:=h.FH u;omega
     . rw [FI g (h.JN g e),FI u h1] at hle;exact h.i8 g e u h1 hle
   . rw [aX] at h1;subst h1;rcases aG.1 hg with e | e
     . subst e;exact .refl
     . exact hG g e
 . intro u hu hs;rcases (HN u).1 hu with e | e
   . subst e;exact (hs (by simp)).elim
   . exact h.Nz u e λhm=>hs (cV _ hm)
 . intro C hC;obtain ⟨a,b,c⟩:=h.yf C hC;refine ⟨a,b,λu hu=>?_⟩
   obtain ⟨⟨c1,c2⟩,c3⟩:=c u hu;refine ⟨⟨(HN u).2 (.inr c1),λhm=>?_⟩,c3⟩
   rcases az.1 hm with h1 | h1
   . exact c2 h1
   . rw [aX] at h1;exact hne u c1 h1
theorem kP.stay {n:Nat}{G:List Nat}{ix:Nat->Nat}{oE:List Nat}{cnt:Nat}{out:List (List Nat)}{v:Nat}(h:kP Ed n (v::G) ix oE cnt out)(hall:∀ w,Ed v w->ix w≠0)
 {w:Nat} (hw:w∈oE) (eC:ix w<ix v) (XK:Rc Ed v w):kP Ed n G ix oE cnt out:=by
 refine ⟨h.cc,h.FH,h.yd,h.inj,h.HM,h.qw,λg hg=>h.JN g (bC _ hg),h.Ny,λu hu hg x he=>?_,λu hu=>?_,λg hg=>h.i8 g (bC _ hg),h.Nz,h.yf,h.JO⟩
 . by_cases e:u=v
   . subst e;exact hall x he
   . exact h.blk u hu (λhm=>by
      rcases aG.1 hm with h1 | h1
      . exact e h1
      . exact hg h1) x he
 . have key:∃ g∈G,ix g<=ix w∧Rc Ed w g:=by
    obtain ⟨g,hg,a,b⟩:=h.i7 w hw;rcases aG.1 hg with e | e
    . subst e;omega
    . exact ⟨g,e,a,b⟩
   obtain ⟨g,hg,a,b⟩:=h.i7 u hu;rcases aG.1 hg with e | e
   . subst e;obtain ⟨k,hk,c,d⟩:=key;exact ⟨k,hk,by omega,b.trans (XK.trans d)⟩
   . exact ⟨g,e,a,b⟩
theorem kP.fin {n:Nat}{ix:Nat->Nat}{oE:List Nat}{cnt:Nat}{out:List (List Nat)}(h:kP Ed n [] ix oE cnt out):oE=[]:=by
 cases oE with
 | nil=>rfl
 | cons a l =>
   obtain ⟨g,hg,_⟩:=h.i7 a (by simp)
   cases hg
structure y7 (Ed:Nat->Nat->Prop)(n:Nat)(G:List Nat)(v:Nat)(ix lo:Nat->Nat)(S0:List Nat)(cnt:Nat)(out:List (List Nat))(hZ j5:Nat->Nat)(T:List Nat)(ju:Nat)(out':List (List Nat)):Prop where
 inv:kP Ed n G hZ (S0++T) ju out'
 aSO:∀ u,ix u≠0->hZ u=ix u∧j5 u=lo u
 XN:hZ v≠0
 new:∀ u,ix u=0->hZ u≠0->cnt<hZ u
 BW:j5 v<=hZ v
 zO:cnt<=ju
 tT:out <+: out'
 eds:∀ u∈T,∀ w∈S0,Ed u w->j5 v<=hZ w
 low:(T=[]∧j5 v=hZ v)∨(j5 v<hZ v∧∃ w∈S0,hZ w=j5 v∧Rc Ed v w)
structure jX (Ed:Nat->Nat->Prop)(n:Nat)(G:List Nat)(v:Nat)(ix lo:Nat->Nat)(S0:List Nat)(cnt:Nat)(out:List (List Nat))(D:List Nat)(hZ j5:Nat->Nat)(T:List Nat)(ju:Nat)(out':List (List Nat)):Prop where
 inv:kP Ed n (v::G) hZ (S0++v::T) ju out'
 aSO:∀ u,ix u≠0->hZ u=ix u∧j5 u=lo u
 C0:hZ v=cnt+1
 new:∀ u,ix u=0->hZ u≠0->cnt<hZ u
 zO:cnt+1<=ju
 tT:out <+: out'
 BW:j5 v<=hZ v
 uY:∀ x∈D,hZ x≠0
 wA:∀ x∈D,x∈S0->j5 v<=hZ x
 wC:∀ u∈T,∀ w∈S0,Ed u w->j5 v<=hZ w
 low:∃ w∈S0++v::T,hZ w=j5 v∧Rc Ed v w
section
variable {n:Nat}{G:List Nat}{v:Nat}{ix lo:Nat->Nat}{S0:List Nat}{cnt:Nat}{out:List (List Nat)}{D:List Nat}{hZ j5:Nat->Nat}{T:List Nat}{ju:Nat}{out':List (List Nat)}
theorem jX.sv (h:jX Ed n G v ix lo S0 cnt out D hZ j5 T ju out'):∀ u∈v::T,hZ v<=hZ u:=λu hu=>by
 have hp:=cF.1 h.inv.HM;rcases aG.1 hu with e | e
 . subst e;exact ay _
 . exact Nat.le_of_lt ((bN.1 hp.2.1).1 u e)
theorem jX.on (h:jX Ed n G v ix lo S0 cnt out D hZ j5 T ju out'){x:Nat}(hx:Ed v x)(hs:x∈S0++v::T)(hne:∀ u,ix u≠0->u≠v) :
 jX Ed n G v ix lo S0 cnt out (D++[x]) hZ (y6 j5 v (min (j5 v) (hZ x))) T ju out' where
 inv:=h.inv
 aSO:=λu hu=>⟨(h.aSO u hu).1,by rw [yg (hne u hu)];exact (h.aSO u hu).2⟩
 C0:=h.C0
 new:=h.new
 zO:=h.zO
 tT:=h.tT
 BW:=by rw [A1C];have:=h.BW;omega
 uY:=λy hy=>by
  rcases az.1 hy with h1 | h1
  . exact h.uY y h1
  . rw [aX] at h1;subst h1;exact h.inv.qw y hs
 wA:=λy hy h2=>by
  rw [A1C];rcases az.1 hy with h1 | h1
  . have:=h.wA y h1 h2;omega
  . rw [aX] at h1;subst h1;omega
 wC:=λu hu w hw he=>by
  rw [A1C]
  have:=h.wC u hu w hw he;omega
 low:=by
  rw [A1C];by_cases hc:j5 v<=hZ x
  . rw [cX hc];exact h.low
  . rw [jk (by omega)];exact ⟨x,hs,rfl,.one hx⟩
theorem jX.off (h:jX Ed n G v ix lo S0 cnt out D hZ j5 T ju out'){x:Nat}(hv:hZ x≠0)(hs:x∉S0++v::T) :
 jX Ed n G v ix lo S0 cnt out (D++[x]) hZ j5 T ju out' where
 inv:=h.inv
 aSO:=h.aSO
 C0:=h.C0
 new:=h.new
 zO:=h.zO
 tT:=h.tT
 BW:=h.BW
 uY:=λy hy=>by
  rcases az.1 hy with h1 | h1
  . exact h.uY y h1
  . rw [aX] at h1;subst h1;exact hv
 wA:=λy hy h2=>by
  rcases az.1 hy with h1 | h1
  . exact h.wA y h1 h2
  . rw [aX] at h1;subst h1;exact (hs (cV _ h2)).elim
 wC:=h.wC
 low:=h.low
theorem jX.call (h:jX Ed n G v ix lo S0 cnt out D hZ j5 T ju out'){x:Nat}(hx:Ed v x)(h0:hZ x=0)(hne:∀ u,ix u≠0->u≠v)
 {uZ tq:Nat->Nat} {T2:List Nat} {qx:Nat} {nc:List (List Nat)} (h2:y7 Ed n (v::G) x hZ j5 (S0++v::T) ju out' uZ tq T2 qx nc) :
 jX Ed n G v ix lo S0 cnt out (D++[x]) uZ (y6 tq v (min (tq v) (tq x))) (T++T2) qx nc:=by
 have yK:hZ v≠0:=by rw [h.C0];omega
 have HP:=h2.aSO v yK;have hkS:∀ u∈S0,uZ u=hZ u:=λu hu=>(h2.aSO u (h.inv.qw u (cV _ hu))).1
 have zN:∀ u,ix u≠0->hZ u≠0:=λu hu=>by rw [(h.aSO u hu).1];exact hu
 have sL:S0++v::(T++T2)=(S0++v::T)++T2:=by simp
 refine ⟨by rw [sL];exact h2.inv,λu hu=>?_,by rw [HP.1];exact h.C0,λu h3 h4=>?_,by have:=h2.zO;have:=h.zO;omega,h.tT.trans h2.tT,?_,λy hy=>?_,λy hy hs=>?_,λu hu w hw he=>?_,?_⟩
 . rw [yg (hne u hu),(h2.aSO u (zN u hu)).1,(h2.aSO u (zN u hu)).2];exact h.aSO u hu
 . by_cases e:hZ u=0
   . have:=h2.new u e h4;have:=h.zO;omega
   . rw [(h2.aSO u e).1];exact h.new u h3 e
 . rw [A1C,HP.1,HP.2]
   have:=h.BW;omega
 . rcases az.1 hy with h1 | h1
   . rw [(h2.aSO y (h.uY y h1)).1];exact h.uY y h1
   . rw [aX] at h1;subst h1;exact h2.XN
 . rw [A1C];rcases az.1 hy with h1 | h1
   . rw [HP.2,hkS y hs]
     have:=h.wA y h1 hs;omega
   . rw [aX] at h1;subst h1;exact (h.inv.qw y (cV _ hs) h0).elim
 . rw [A1C];rcases az.1 hu with h1 | h1
   . rw [HP.2,hkS w hw]
     have:=h.wC u h1 w hw he;omega
   . have:=h2.eds u h1 w (cV _ hw) he;omega
 . rw [A1C];by_cases hc:tq v<=tq x
   . rw [cX hc];obtain ⟨w,a,b,c⟩:=h.low;exact ⟨w,by rw [sL];exact cV _ a,by rw [(h2.aSO w (h.inv.qw w a)).1,HP.2];exact b,c⟩
   . rw [jk (by omega)]
     rcases h2.low with ⟨h3,h4⟩ | ⟨h3,w,a,b,c⟩
     . have h5:=h2.new x h0 h2.XN;have h6:=h.BW;have h7:=h.zO;rw [HP.2,h4] at hc;have h8:=h.C0;omega
     . exact ⟨w,by rw [sL];exact cV _ a,b,(Rc.one hx).trans c⟩
theorem jX.stay (h:jX Ed n G v ix lo S0 cnt out D hZ j5 T ju out')(hD:∀ w,Ed v w->w∈D)(eC:j5 v<hZ v) :
 y7 Ed n G v ix lo S0 cnt out hZ j5 (v::T) ju out':=by
 obtain ⟨w,a,b,c⟩:=h.low;have hw:w∈S0:=by
  rcases az.1 a with h1 | h1
  . exact h1
  . have:=h.sv w h1;omega
 refine ⟨h.inv.stay (λx hx=>h.uY x (hD x hx)) a (by omega) c,h.aSO,by rw [h.C0];omega,h.new,h.BW,by have:=h.zO;omega,h.tT,λu hu x hx he=>?_,.inr ⟨eC,w,hw,b,c⟩⟩
 rcases aG.1 hu with e | e
 . subst e;exact h.wA x (hD x he) hx
 . exact h.wC u e x hx he
end
end
end Go.Mid
namespace Go.Mid
def BX (E:oW):Nat->Nat->Prop:=λu w=>((u:Int),(w:Int))∈E
section
variable {n:Nat}{E:oW}
theorem kP.len {Ed:Nat->Nat->Prop}{G:List Nat}{ix:Nat->Nat}{oE:List Nat}{cnt:Nat}{out:List (List Nat)}(h:kP Ed n G ix oE cnt out):oE.length<=n:=by
 have:=Nw h.XJ (m:=bA n) λx hx=>cu.2 (h.yd x (h.qw x hx))
 simpa using this
end
end Go.Mid
namespace Go.Mid
def kh (C:List Nat):Nat:=C.headD 0
section
variable (q1:List (List Int))(rI:List Int)(rJ:Nat)(rK:List Int)(rL:Nat)(rM:List Bool)(rN:Nat)(rO:List Int)(rP:Nat)(q6:Int)(m:Nat)
end
end Go.Mid
namespace Go.Mid
theorem XO {C:List Nat}(h:C ≠ []):kh C∈C:=by
 cases C with
 | nil=>exact (h rfl).elim
 | cons a l=>simp [kh]
structure B3 (n:Nat)(Ed:Nat->Nat->Prop)(L:List (List Nat)):Prop where
 ne:∀ C∈L,C ≠ []
 asc:∀ C∈L,C.Pairwise (· < ·)
 hd:L.Pairwise (λC D=>kh C<kh D)
 cls:∀ C∈L,∀ u∈C,u<n∧∀ w,(w∈C↔Rc Ed u w∧Rc Ed w u)
 all:∀ v,v<n->∃ C∈L,v∈C
section
variable (q1:List (List Int))(rI:List Int)(rJ:Nat)(rK:List Int)(rL:Nat)(rM:List Bool)(rN:Nat)(rO:List Int)(rP:Nat)(q6:Int)
end
end Go.Mid
namespace Go.Mid
theorem B3.count {n:Nat}{Ed:Nat->Nat->Prop}{L:List (List Nat)}(h:B3 n Ed L):L.length<=n:=by
 have h1:(L.map kh).Nodup:=by
  unfold List.Nodup;rw [List.pairwise_map];exact h.hd.imp λh=>Nat.ne_of_lt h
 have:=Nw h1 (m:=bA n) λx hx=>by
  obtain ⟨C,hC,rfl⟩:=bp.1 hx;exact cu.2 (h.cls C hC _ (XO (h.ne C hC))).1
 simpa using this
end Go.Mid
namespace Go.Mid
def OK {α:Type}(o:Option α)(P:α->Prop):Prop:=∃ r,o=some r∧P r
namespace OK
variable {α β:Type}
theorem ret {P:α->Prop}{r:α}(h:P r):OK (some r) P:=⟨r,rfl,h⟩
theorem bind {o:Option α}{k:α->Option β}{P:β->Prop}(h:OK o λy=>OK (k y) P):OK (o.bind k) P:=by
 obtain ⟨y,e,r,e2,h⟩:=h;exact ⟨r,by rw [e];exact e2,h⟩
theorem mono {o:Option α}{P Q:α->Prop}(h:OK o P)(g:∀ r,P r->Q r):OK o Q:=by
 obtain ⟨y,e,h⟩:=h;exact ⟨y,e,g y h⟩
theorem call {o:Option α}{Q:α->Prop}{k:α->Option β}{P:β->Prop}(h:OK o Q)(g:∀ y,Q y->OK (k y) P):OK (o.bind k) P:=bind (h.mono g)
theorem dead {P:α->Prop}(h:False):OK none P:=h.elim
theorem dec {p:Prop} [Decidable p] {A B:Option α}{P:α->Prop}(h1:p->OK A P)(h2:¬ p->OK B P):OK (bif decide p then A else B) P:=by
 by_cases h:p
 . rw [decide_eq_true h];exact h1 h
 . rw [decide_eq_false h];exact h2 h
theorem blt {a b:Nat}{A B:Option α}{P:α->Prop}(h1:a<b->OK A P)(h2:b<=a->OK B P):OK (bif a.blt b then A else B) P:=by
 by_cases h:a<b
 . rw [lB h];exact h1 h
 . rw [D9f (by omega)];exact h2 (by omega)
theorem ble {a b:Nat}{A B:Option α}{P:α->Prop}(h1:a<=b->OK A P)(h2:b<a->OK B P):OK (bif a.ble b then A else B) P:=by
 by_cases h:a<=b
 . rw [jE h];exact h1 h
 . rw [D9e (by omega)];exact h2 (by omega)
theorem beq {a b:Int}{A B:Option α}{P:α->Prop}(h1:a=b->OK A P)(h2:a≠b->OK B P):OK (bif a==b then A else B) P:=by
 by_cases h:a=b
 . rw [beq_iff_eq.2 h];exact h1 h
 . rw [beq_false_of_ne h];exact h2 h
theorem bne {a b:Int}{A B:Option α}{P:α->Prop}(h1:a≠b->OK A P)(h2:a=b->OK B P):OK (bif a != b then A else B) P:=by
 by_cases h:a=b
 . subst h;rw [bne_self_eq_false];exact h2 rfl
 . rw [bne_iff_ne.2 h];exact h1 h
theorem nt {b:Bool}{A B:Option α}{P:α->Prop}(h:OK (bif b then B else A) P):OK (bif !b then A else B) P:=by cases b<;>exact h
theorem bo {b:Bool}{A B:Option α}{P:α->Prop}(h1:b=true->OK A P)(h2:b=false->OK B P):OK (bif b then A else B) P:=by
 cases b
 . exact h2 rfl
 . exact h1 rfl
theorem get {M:List α}{i:Nat}{k:α->Option β}{P:β->Prop}(hi:i<M.length)(h:∀ y,M[i]?=some y->OK (k y) P):OK (M[i]?.bind k) P :=
 bind ⟨M[i],ah hi,h _ (ah hi)⟩
theorem loop {A B:Type}{f:A->Option (A ⊕ B)}(Inv:A->Prop)(μ:A->Nat){P:B->Prop}(st:∀ a,Inv a->OK (f a) (Sum.elim (λb=>Inv b∧μ b<μ a) P)){a:A}(h:Inv a):OK (A0d f a) P:=by
 have:∀ n a,μ a<n->Inv a->OK (A0d f a) P:=by
  intro n
  induction n with
  | zero=>intro a h;omega
  | succ n ih =>
    intro a hn ha;obtain ⟨r,e,hr⟩:=st a ha;cases r with
    | inl b=>rw [vw e];exact ih b (by have:=hr.2;omega) hr.1
    | inr b=>exact ⟨b,qc e,hr⟩
 exact this _ a (Nat.lt_succ_self _) h
end OK
end Go.Mid
namespace Go.Mid
structure DI (n t:Nat)(R:oW)(i:Nat)(o:List Nat)(d:Nat->Int):Prop where
 nd:o.Nodup
 yd:∀ v∈o,v<n
 mem:∀ v,v<n->(0<=d v↔v∈o)
 low:∀ v,-1<=d v
 high:∀ v,d v<o.length
 zero:d t=0
 awm:∀ v,d v=0->v=t
 mono:∀ j k,j<=k->∀ (hj:j<o.length) (hk:k<o.length),d o[j]<=d o[k]
 eD:∀ (hi:i<o.length) k (hk:k<o.length),d o[k]<=d o[i]+1
 done:∀ k (hk:k<o.length),k<i->∀ w:Nat,((o[k]:Int),(w:Int))∈R->0<=d w∧d w<=d o[k]+1
 par:∀ a∈o,0<d a->∃ b∈o,((b:Int),(a:Int))∈R∧d b=d a-1
theorem DI.le {n t:Nat}{R:oW}{i:Nat}{o:List Nat}{d:Nat->Int}(h:DI n t R i o d):o.length<=n:=by
 have:=Nw h.nd (m:=bA n) λx hx=>cu.2 (h.yd x hx)
 simpa using this
theorem DI.add {n t:Nat}{R:oW}{i:Nat}{o:List Nat}{d:Nat->Int}(h:DI n t R i o d)(hi:i<o.length){w:Nat}(hw:w<n)(hd:d w<0)(hR:((o[i]:Int),(w:Int))∈R) :
 DI n t R i (o++[w]) (λb=>if b=w then d o[i]+1 else d b):=by
 have hwo:w∉o:=λhm=>by
  have:=(h.mem w hw).2 hm;omega
 have yG:∀ k (hk:k<o.length),0<=d o[k]:=λk hk=>(h.mem _ (h.yd _ (aM hk))).2 (aM hk)
 have hne:∀ k (hk:k<o.length),o[k]≠w:=λk hk e=>hwo (e ▸ aM hk)
 have hlen:(o++[w]).length=o.length+1:=by simp
 have hl:∀ k (hk:k<(o++[w]).length),k<o.length->∃ YP:k<o.length,(o++[w])[k]=o[k]:=λk hk h1=>⟨h1,avk h1⟩
 have awG:∀ (hk:o.length<(o++[w]).length),(o++[w])[o.length]=w:=λhk=>by simp
 refine ⟨?_,?_,?_,?_,?_,?_,?_,?_,?_,?_,?_⟩
 . rw [aT];exact ⟨h.nd,by simp,λa ha b hb e=>by simp at hb;subst hb;subst e;exact hwo ha⟩
 . intro v hv;rcases az.1 hv with h1 | h1
   . exact h.yd v h1
   . simp at h1;subst h1;exact hw
 . intro v hv;by_cases e:v=w
   . subst e
     have:=yG i hi
     simp;omega
   . simp only [e,if_false,az,aX,or_false];exact h.mem v hv
 . intro v
   have:=yG i hi
   have h2:=h.low v;split<;>omega
 . intro v;have h1:=h.high v;have h2:=h.high o[i];rw [hlen];split<;>omega
 . have:t≠w:=λe=>by
    have:=h.zero;rw [e] at this;omega
   simp only [this,if_false];exact h.zero
 . intro v hv;split at hv
   . have:=yG i hi;omega
   . exact h.awm v hv
 . intro j k hjk hj hk;rw [hlen] at hj hk;by_cases c1:k<o.length
   . obtain ⟨_,e1⟩:=hl k (by omega) c1
     obtain ⟨_,e2⟩:=hl j (by omega) (by omega)
     simp only [e1,e2,hne k c1,hne j (by omega),if_false]
     exact h.mono j k hjk (by omega) c1
   . have ek:k=o.length:=by omega
     subst ek;simp only [awG (by omega),if_true]
     by_cases c2:j<o.length
     . obtain ⟨_,e2⟩:=hl j (by omega) c2
       simp only [e2,hne j c2,if_false];exact h.eD hi j c2
     . have ej:j=o.length:=by omega
       subst ej;simp only [awG (by omega),if_true]
       exact lu _
 . intro rX k hk;obtain ⟨_,e0⟩:=hl i rX hi;simp only [e0,hne i hi,if_false];by_cases c1:k<o.length
   . obtain ⟨_,e1⟩:=hl k (by omega) c1
     simp only [e1,hne k c1,if_false];exact h.eD hi k c1
   . have ek:k=o.length:=by rw [hlen] at hk;omega
     subst ek;simp only [awG (by omega),if_true]
     exact lu _
 . intro k hk Dp x hx;have c1:k<o.length:=by omega
   obtain ⟨_,e1⟩:=hl k hk c1;simp only [e1] at hx;simp only [e1,hne k c1,if_false];obtain ⟨a1,a2⟩:=h.done k c1 Dp x hx
   have:x≠w:=λe=>by subst e;omega
   simp only [this,if_false];exact ⟨a1,a2⟩
 . intro a ha h0;rcases az.1 ha with h1 | h1
   . have XV:a≠w:=λe=>hwo (e ▸ h1)
     simp only [XV,if_false] at h0 ⊢;obtain ⟨b,hb,b1,b2⟩:=h.par a h1 h0
     have:b≠w:=λe=>hwo (e ▸ hb)
     exact ⟨b,cV _ hb,b1,by simp only [this,if_false];exact b2⟩
   . simp at h1;subst h1;refine ⟨o[i],cV _ (aM hi),hR,?_⟩;simp only [hne i hi,if_false,if_true];omega
end Go.Mid
namespace Go.Mid
structure awW (n:Nat)(Ed:Nat->Nat->Prop)(L:List (List Nat)):Prop where
 ne:∀ C∈L,C ≠ []
 asc:∀ C∈L,C.Pairwise (· < ·)
 cls:∀ C∈L,∀ u∈C,u<n∧∀ w,(w∈C↔Rc Ed u w∧Rc Ed w u)
 all:∀ v,v<n->∃ C∈L,v∈C
 len:L.length<=n
 size:∀ C∈L,C.length<=n
def D8Q:Prop:=∀ (q1:List (List Int)) (rI:List Int) (rJ:Nat) (rK:List Int) (rL:Nat) (rM:List Bool) (rN:Nat) (rO:List Int) (rP:Nat) (q6:Int) (m:Nat) (M:List (List Nat)),M.length<=14->(∀ C∈M,C ≠ [])->(M.map λC=>C.headD 0).Nodup->
 ∃ M':List (List Nat),MO ((M.length,()),q1,(rI,rJ),(rK,rL),(rM,rN),(rO,rP),q6,kZ M,m)=some (q1,(rI,rJ),(rK,rL),(rM,rN),(rO,rP),q6,kZ M',m)∧M'.Perm M
section
variable (S:D8Q)(q1:List (List Int))(rI:List Int)(rJ:Nat)(rK:List Int)(rL:Nat)(rM:List Bool)(rN:Nat)(rO:List Int)(rP:Nat)(q6:Int)
include S
end
section
variable {n:Nat}{E:oW}{L:List (List Nat)}(hn:n<=14)(hE:E.length<=1000)(hr:Ej n E)(hv:JK n E=0)(hL:awW n (BX E) L)
include hn hE hr hv hL
end
end Go.Mid
namespace Go.Mid
end Go.Mid
namespace Go.Mid
end Go.Mid
namespace Go.Mid
def F7Q (E:oW)(o:List Nat)(v:Nat):Bool:=!o.contains v&&E.all λe=>!(e.2==(v:Int)) || o.contains e.1.toNat
theorem F8b {E:oW}{o:List Nat}{v:Nat}:F7Q E o v=true↔v∉o∧∀ e∈E,e.2=(v:Int)->e.1.toNat∈o:=by
 unfold F7Q;simp only [aj,Bool.not_eq_true',List.all_eq_true,cn,beq_eq_false_iff_ne,bj,ne_eq];constructor
 . rintro ⟨h1,h2⟩;refine ⟨λh=>?_,λe he h3=>(h2 e he).resolve_left λh=>h h3⟩
   rw [bj.2 h] at h1;cases h1
 . rintro ⟨h1,h2⟩;refine ⟨?_,λe he=>?_⟩
   . cases hc:o.contains v
     . rfl
     . exact (h1 (bj.1 hc)).elim
   . by_cases h3:e.2=(v:Int)
     . exact .inr (h2 e he h3)
     . exact .inl h3
def F7S (n:Nat)(E:oW)(o:List Nat):Option Nat:=(bA n).find? (F7Q E o)
structure TO (n:Nat)(E:oW)(o:List Nat):Prop where
 nd:o.Nodup
 yd:∀ v∈o,v<n
 ord:∀ (i:Nat) (hi:i<o.length),∀ e∈E,e.2=(o[i]:Int)->∃ j,j<i∧o[j]?=some e.1.toNat
theorem F7X {n:Nat}{E:oW}{o:List Nat}{v:Nat}(h:F7S n E o=some v):v<n∧F7Q E o v=true:=by
 unfold F7S at h;exact ⟨cu.1 (List.mem_of_find?_eq_some h),List.find?_some h⟩
theorem TO.add {n:Nat}{E:oW}{o:List Nat}{v:Nat}(h:TO n E o)(hv:F7S n E o=some v):TO n E (o++[v]):=by
 obtain ⟨hvn,hf⟩:=F7X hv;rw [F8b] at hf;refine ⟨?_,?_,?_⟩
 . rw [aT];refine ⟨h.nd,by simp,λa ha b hb e=>?_⟩
   simp at hb;subst hb;subst e;exact hf.1 ha
 . intro w hw;rcases az.1 hw with h1 | h1
   . exact h.yd w h1
   . rw [aX] at h1;subst h1;exact hvn
 . intro i hi e he h2;by_cases eC:i<o.length
   . rw [avk eC] at h2;obtain ⟨j,hj,ES⟩:=h.ord i eC e he h2;exact ⟨j,hj,by rw [cN (by omega)];exact ES⟩
   . have hie:i=o.length:=by simp at hi;omega
     subst hie;rw [List.getElem_append_right (ay _)] at h2;simp only [gx,List.getElem_cons_zero] at h2;obtain ⟨j,hj,e2⟩:=pd (hf.2 e he h2);exact ⟨j,hj,by rw [cN hj,ah hj,e2]⟩
end Go.Mid
namespace Go.Mid
end Go.Mid
namespace Go.Mid
theorem TO.pre {n:Nat}{E:oW}{o:List Nat}(h:TO n E o){b u:Nat}(hb:b∈o)(he:((u:Int),(b:Int))∈E):u∈o:=by
 obtain ⟨i,hi,e⟩:=pd hb;obtain ⟨j,_,hj⟩:=h.ord i hi _ he (by rw [e])
 exact List.mem_of_getElem? hj
end Go.Mid
namespace Go.Mid
theorem F0F:∀ x:List UInt8,lP x x=false
 | []=>rfl
 | a::x=>by simp [lP,F0F x]
theorem F1p:∀ {x y z:List UInt8},lP x y=true->lP y z=true->lP x z=true
 | [],[],_,h,_=>by simp [lP] at h
 | _::_,[],_,h,_=>by simp [lP] at h
 | [],_::_,[],_,h=>by simp [lP] at h
 | [],_::_,_::_,_,_=>by simp [lP]
 | _::_,_::_,[],_,h=>by simp [lP] at h
 | a::x,b::y,c::z,h,k=>by
   simp only [lP,cn,decide_eq_true_eq,aj,beq_iff_eq] at h k ⊢;rcases h with h | ⟨rfl,h⟩
   . rcases k with k | ⟨rfl,k⟩
     . exact .inl (UInt8.lt_trans h k)
     . exact .inl h
   . rcases k with k | ⟨rfl,k⟩
     . exact .inl k
     . exact .inr ⟨rfl,F1p h k⟩
theorem F3t:∀ (x y:List UInt8),x≠y->lP x y=false->lP y x=true
 | [],[],h,_=>(h rfl).elim
 | _::_,[],_,_=>by simp [lP]
 | [],_::_,_,h=>by simp [lP] at h
 | a::x,b::y,hne,h=>by
   simp only [lP,Bool.or_eq_false_iff,decide_eq_false_iff_not,Bool.and_eq_false_imp,beq_iff_eq] at h;simp only [lP,cn,decide_eq_true_eq,aj,beq_iff_eq];by_cases uO:a=b
   . subst uO;exact .inr ⟨rfl,F3t x y (λe=>hne (by rw [e])) (h.2 rfl)⟩
   . refine .inl ?_;rcases UInt8.lt_or_lt_of_ne uO with q | q
     . exact absurd q h.1
     . exact q
theorem toList_inj {x y:ByteArray}(h:x.toList=y.toList):x=y:=by
 rw [avG,avG] at h;exact ByteArray.ext (Array.toList_inj.1 h)
abbrev Txt:=ByteArray
abbrev fb:=List (Txt×Bool)
abbrev eqS:Txt->Txt->Bool:=eqK TD.str
abbrev ltS:Txt->Txt->Bool:=ltK TD.str
theorem E5z {x y:Txt}:eqS x y=true↔x=y:=by
 show (x.toList==y.toList)=true↔_;rw [beq_iff_eq];exact ⟨toList_inj,λh=>by rw [h]⟩
theorem F0c (x:Txt):ltS x x=false:=F0F _
theorem F0G {x y z:Txt}(h:ltS x y=true)(k:ltS y z=true):ltS x z=true:=F1p h k
theorem F4K {x y:Txt}(h:x≠y)(k:ltS x y=false):ltS y x=true:=F3t _ _ (λe=>h (toList_inj e)) k
def SE:fb->Prop
 | []=>True
 | p::r=>p.2=true∧(∀ q∈r,ltS p.1 q.1=true)∧SE r
def nb (l:fb):List Txt:=l.map (·.1)
theorem E9T {x z:Txt}:∀ {l:fb},z∈nb (aBy ltS x true l)↔z=x∨z∈nb l
 | []=>by simp [aBy,nb]
 | p::r=>by
   have ih:=E9T (x:=x) (z:=z) (l:=r);simp only [aBy];split
   . simp only [nb,aF,aG] at ih ⊢;rw [ih];constructor
     . rintro (h | h | h)<;>simp [h]
     . rintro (h | h | h)<;>simp [h]
   . simp [nb]
theorem E9U {x:Txt}:∀ {l:fb},D80 eqS x l=true↔x∈nb l
 | []=>by simp [D80,nb]
 | p::r=>by
   have ih:=E9U (x:=x) (l:=r);simp only [D80,nb,aF,aG];by_cases h:x=p.1
   . rw [if_pos (E5z.2 h)];simp [h]
   . rw [if_neg (λe=>h (E5z.1 e)),ih]
     simp [h,nb]
theorem SE.aBy {x:Txt}:∀ {l:fb},SE l->x∉nb l->SE (aBy ltS x true l)
 | [],_,_=>by simp [Mid.aBy,SE]
 | p::r,h,hx=>by
   simp only [nb,aF,aG,not_or] at hx;simp only [Mid.aBy];by_cases eC:ltS p.1 x=true
   . rw [if_pos eC];refine ⟨h.1,λq hq=>?_,SE.aBy h.2.2 hx.2⟩
     have:q.1∈nb (Mid.aBy ltS x true r):=List.mem_map_of_mem hq
     rcases E9T.1 this with e | e
     . rw [e];exact eC
     . obtain ⟨q',Z3,he⟩:=bp.1 e
       have:=h.2.1 q' Z3
       rw [he] at this;exact this
   . rw [if_neg eC];have hxp:ltS x p.1=true:=F4K (λe=>hx.1 e.symm) (by simpa using eC)
     refine ⟨rfl,λq hq=>?_,h⟩
     rcases aG.1 hq with rfl | hq
     . exact hxp
     . exact F0G hxp (h.2.1 q hq)
theorem E9g {x:Txt}:∀ {l:fb},SE l->E9f eqS x true l=l
 | [],_=>rfl
 | p::r,h=>by
   simp only [E9f];by_cases e:x=p.1
   . rw [if_pos (E5z.2 e)];obtain ⟨a,b⟩:=p;have h1:b=true:=h.1;subst h1;subst e;rfl
   . rw [if_neg (λq=>e (E5z.1 q)),E9g h.2.2]
theorem SE.put {x:Txt}{l:fb}(h:SE l):SE (D8N eqS ltS x true l):=by
 unfold D8N;split
 . rw [E9g h];exact h
 . rename_i hx;exact h.aBy λe=>hx (E9U.2 e)
theorem F0p {x z:Txt}{l:fb}(h:SE l):z∈nb (D8N eqS ltS x true l)↔z=x∨z∈nb l:=by
 unfold D8N;split
 . rename_i hx;rw [E9g h];exact ⟨.inr,λe=>e.elim (λe=>by rw [e];exact E9U.1 hx) id⟩
 . exact E9T
theorem E7J {x:Txt}:∀ {l:fb},SE l->(D8V eqS x false l=true↔x∈nb l)
 | [],_=>by simp [D8V,nb]
 | p::r,h=>by
   have ih:=E7J (x:=x) h.2.2;simp only [D8V,nb,aF,aG];by_cases e:x=p.1
   . rw [if_pos (E5z.2 e)];simp [e,h.1]
   . rw [if_neg (λq=>e (E5z.1 q)),ih]
     simp [e,nb]
theorem SE.eq:∀ {l m:fb},SE l->SE m->(∀ z,z∈nb l↔z∈nb m)->l=m
 | [],[],_,_,_=>rfl
 | [],q::s,_,_,h=>by have:=(h q.1).2 (by simp [nb]);simp [nb] at this
 | p::r,[],_,_,h=>by have:=(h p.1).1 (by simp [nb]);simp [nb] at this
 | p::r,q::s,hl,hm,h=>by
   have le:∀ {p q:Txt×Bool} {r s:fb},SE (p::r)->SE (q::s)->(∀ z,z∈nb (p::r)↔z∈nb (q::s))->p.1=q.1∨ltS q.1 p.1=true:=by
    intro p q r s hl hm h
    have:p.1∈nb (q::s):=(h p.1).1 (by simp [nb])
    simp only [nb,aF,aG,bp] at this;rcases this with e | ⟨a,ha,e⟩
    . exact .inl e
    . right;rw [← e];exact hm.2.1 a ha
   have hpq:p.1=q.1:=by
    rcases le hl hm h with e | e
    . exact e
    rcases le hm hl (λz=>(h z).symm) with e' | e'
    . exact e'.symm
    have:=F0G e e'
    rw [F0c] at this;cases this
   have hp:p=q:=by
    obtain ⟨a,b⟩:=p;obtain ⟨c,d⟩:=q;have h1:b=true:=hl.1;have h2:d=true:=hm.1;subst h1;subst h2;have h3:a=c:=hpq;rw [h3]
   subst hp;have hne:∀ {r:fb},SE (p::r)->p.1∉nb r:=by
    intro r hr CT;obtain ⟨a,ha,e⟩:=bp.1 CT
    have:=hr.2.1 a ha
    rw [e,F0c] at this;cases this
   rw [SE.eq hl.2.2 hm.2.2 λz=>?_]
   have hz:=h z;simp only [nb,aF,aG] at hz;by_cases e:z=p.1
   . subst e;exact ⟨λq=>absurd q (hne hl),λq=>absurd q (hne hm)⟩
   . simp only [e,false_or] at hz;exact hz
theorem F0d {A B P:Type}(f:P->A->A):∀ (l:List P) (a:A),E5D (B:=B) (λp a=>some (.inl (f p a))) l a=some (.inl (l.foldl (λa p=>f p a) a))
 | [],_=>rfl
 | p::r,a=>by
   simp only [E5D,ai,vh,jM];exact F0d f r (f p a)
theorem E80 {A B P:Type}(c:P->A->Bool)(b:B)(a:A)(f:P->A->Option (A ⊕ B))(hf:∀ p,f p a=if c p a then some (.inr b) else some (.inl a)):∀ (l:List P),E5D f l a=some (if l.any (c · a) then .inr b else .inl a)
 | []=>rfl
 | p::r=>by
   simp only [E5D,hf p];by_cases h:c p a=true
   . simp [h]
   . have h:c p a=false:=by simpa using h
     simp only [h,aI,if_false,ai,vh];rw [E80 c b a f hf r];simp [h]
def E6O (m l:fb):fb:=l.foldl (λa p=>D8N eqS ltS p.1 true a) m
theorem SE.union:∀ {l m:fb},SE m->SE (E6O m l)
 | [],_,h=>h
 | p::r,m,h=>by
   show SE (E6O (D8N eqS ltS p.1 true m) r);exact SE.union h.put
theorem E7f {z:Txt}:∀ {l m:fb},SE m->(z∈nb (E6O m l)↔z∈nb m∨z∈nb l)
 | [],_,h=>by simp [E6O,nb]
 | p::r,m,h=>by
   show z∈nb (E6O (D8N eqS ltS p.1 true m) r)↔_;rw [E7f h.put,F0p h];simp only [nb,aF,aG];constructor
   . rintro ((h | h) | h)<;>simp [h]
   . rintro (h | h | h)<;>simp [h]
theorem F2J {l l' m:fb}(h:SE m)(hp:l'.Perm l):E6O m l'=E6O m l:=by
 refine SE.eq h.union h.union λz=>?_
 rw [E7f h,E7f h]
 have:z∈nb l'↔z∈nb l:=(hp.map _).mem_iff
 rw [this]
theorem F1q {α:Type}{l l':List α}(hp:l'.Perm l)(c:α->Bool):l'.any c=l.any c:=by
 rw [c6];simp only [fV,hp.mem_iff]
end Go.Mid
namespace Go.Mid
theorem E9h {a b:ByteArray}:Lv a b=eqS a b:=rfl
theorem F2K (a b:ByteArray):Lv a b=Lv b a:=by
 rw [c6,E9h,E9h,E5z,E5z];exact ⟨Eq.symm,Eq.symm⟩
def E4Y (l:List ByteArray)(a:ByteArray):Bool:=l.any λb=>Lv b a
theorem E5Q {l:List ByteArray}{a:ByteArray}:E4Y l a=true↔a∈l:=by
 simp only [E4Y,fV,E9h,E5z];exact ⟨λ⟨x,h,e⟩=>e ▸ h,λh=>⟨a,h,rfl⟩⟩
theorem E9i (l:List ByteArray)(a:ByteArray)(hl:l.length<=9223372036854775807):E4F (l,a)=some (E4Y l a):=by
 unfold E4F E5L E4Y
 have:=Ma (f:=E4L) l (λi=>(l,a,(l.length:Int),(i:Int))) (λ_ b=>Lv b a) (λi=>.inl (i:Int)) (.inr ()) (λi hi=>by
  have hi':(i:Int)<l.length:=by omega
  simp only [E4L,hi',decide_true,cond_true,aq,ar,ah hi,ai,F2K a,iQ (show i<9223372036854775807 by omega)]
  cases Lv l[i] a<;>rfl) (by
  simp only [E4L,ba,decide_false,cond_false])
 simp only [av] at this;rw [this,← Qm (λb=>Lv b a) l 0]
 cases tm (λ_ b=>Lv b a) l 0 with
 | none=>rfl
 | some i=>simp
abbrev E5b:=ByteArray×Int×Int×ByteArray
abbrev tI:=ByteArray×List E5b
def E7K (k:Int)(i:Nat):Bool:=pL cG (jK cG k (i:Int)) (1:Int)==(1:Int)
def E81 (head:List ByteArray)(k:Int)(i:Nat)(s:fb×fb)(u:E5b):fb×fb :=
 bif Lv u.1 { data:=#[] } then s else bif E4Y head u.1 then s else
  (bif E7K k i then D8N eqS ltS u.1 true s.1 else s.1,D8N eqS ltS u.1 true s.2)
theorem F1T (keys:List (ByteArray×Int))(n:Nat)(k:Int)(ats:List tI)(c d:Int)(terms:List E5b)(head:List ByteArray)(at2:List tI)(out:List (fb×fb))(hh:head.length<=9223372036854775807)(ht:terms.length<=1000000)(s:fb×fb) :
 A0d E6q ((keys,n,k,ats,c,d,terms,(terms.length:Int),(0:Int)),(head,at2),out,s.1,s.2) =
  some ((λr:fb×fb=>((keys,n,ats,c,d),(head,at2),out,r.1,r.2)) ((terms.zipIdx).foldl (λs x=>E81 head k x.2 s x.1) s)):=by
 refine F0a (f:=E6q) terms (λi s=>((keys,n,k,ats,c,d,terms,(terms.length:Int),(i:Int)),(head,at2),out,s.1,s.2)) (λi s u=>E81 head k i s u) (λr:fb×fb=>((keys,n,ats,c,d),(head,at2),out,r.1,r.2)) (λi hi s=>?_) (λs=>?_) s
 . have hi':(i:Int)<terms.length:=by omega
   simp only [E6q,hi',decide_true,cond_true,aq,ar,ah hi,ai,E9i head _ hh,iQ (show i<9223372036854775807 by omega),E81]
   cases Lv terms[i].1 { data:=#[] }
   . cases E4Y head terms[i].1
     . have hb:(pL cG (jK cG k (i:Int)) (1:Int)==(1:Int))=E7K k i:=rfl;rw [hb];cases E7K k i<;>rfl
     . rfl
   . rfl
 . simp only [E6q,ba,decide_false,cond_false]
structure AtS (head:List ByteArray)(k:Int)(terms:List E5b)(n:Nat)(s:fb×fb):Prop where
 ok1:SE s.1
 ok2:SE s.2
 GG:∀ z,z∈nb s.1↔∃ i u,i<n∧terms[i]?=some u∧u.1=z∧z≠{ data:=#[] }∧z∉head∧E7K k i=true
 aEE:∀ z,z∈nb s.2↔∃ i u,i<n∧terms[i]?=some u∧u.1=z∧z≠{ data:=#[] }∧z∉head
theorem AtS.step {head:List ByteArray}{k:Int}{terms:List E5b}{n:Nat}{s:fb×fb}(h:AtS head k terms n s){u:E5b}(hu:terms[n]?=some u):AtS head k terms (n+1) (E81 head k n s u):=by
 have aGb:∀ z,(∃ i v,i<n+1∧terms[i]?=some v∧v.1=z∧z≠{ data:=#[] }∧z∉head∧E7K k i=true)↔((∃ i v,i<n∧terms[i]?=some v∧v.1=z∧z≠{ data:=#[] }∧z∉head∧E7K k i=true)∨(u.1=z∧z≠{ data:=#[] }∧z∉head∧E7K k n=true)):=by
  intro z;constructor
  . rintro ⟨i,v,hi,h1,h2⟩;rcases mV.1 hi with hi | rfl
    . exact .inl ⟨i,v,hi,h1,h2⟩
    . rw [hu,aa] at h1;subst h1;exact .inr h2
  . rintro (⟨i,v,hi,h1⟩ | h1)
    . exact ⟨i,v,by omega,h1⟩
    . exact ⟨n,u,by omega,hu,h1⟩
 have aGc:∀ z,(∃ i v,i<n+1∧terms[i]?=some v∧v.1=z∧z≠{ data:=#[] }∧z∉head)↔((∃ i v,i<n∧terms[i]?=some v∧v.1=z∧z≠{ data:=#[] }∧z∉head)∨(u.1=z∧z≠{ data:=#[] }∧z∉head)):=by
  intro z;constructor
  . rintro ⟨i,v,hi,h1,h2⟩;rcases mV.1 hi with hi | rfl
    . exact .inl ⟨i,v,hi,h1,h2⟩
    . rw [hu,aa] at h1;subst h1;exact .inr h2
  . rintro (⟨i,v,hi,h1⟩ | h1)
    . exact ⟨i,v,by omega,h1⟩
    . exact ⟨n,u,by omega,hu,h1⟩
 have same:(u.1={ data:=#[] }∨u.1∈head)->AtS head k terms (n+1) s:=by
  intro hn;refine ⟨h.ok1,h.ok2,λz=>?_,λz=>?_⟩
  . rw [aGb,h.GG];refine ⟨.inl,λq=>q.elim id ?_⟩
    rintro ⟨rfl,q1,q2,_⟩;exact (hn.elim q1 q2).elim
  . rw [aGc,h.aEE];refine ⟨.inl,λq=>q.elim id ?_⟩
    rintro ⟨rfl,q1,q2⟩;exact (hn.elim q1 q2).elim
 unfold E81;by_cases he:u.1={ data:=#[] }
 . rw [show Lv u.1 { data:=#[] }=true from E5z.2 he,cond_true];exact same (.inl he)
 . rw [show Lv u.1 { data:=#[] }=false from aSQ.2 λe=>he (E5z.1 e),cond_false]
   by_cases hh:u.1∈head
   . rw [E5Q.2 hh,cond_true];exact same (.inr hh)
   . rw [show E4Y head u.1=false from aSQ.2 λe=>hh (E5Q.1 e),cond_false]
     refine ⟨?_,h.ok2.put,λz=>?_,λz=>?_⟩
     . cases E7K k n
       . exact h.ok1
       . exact h.ok1.put
     . rw [aGb];cases hb:E7K k n
       . simp only [cond_false];rw [h.GG];simp
       . simp only [cond_true];rw [F0p h.ok1,h.GG];constructor
         . rintro (rfl | q)
           . exact .inr ⟨rfl,he,hh,trivial⟩
           . exact .inl q
         . rintro (q | ⟨q,_⟩)
           . exact .inr q
           . exact .inl q.symm
     . rw [aGc];show z∈nb (D8N eqS ltS u.1 true s.2)↔_;rw [F0p h.ok2,h.aEE];constructor
       . rintro (rfl | q)
         . exact .inr ⟨rfl,he,hh⟩
         . exact .inl q
       . rintro (q | ⟨q,_⟩)
         . exact .inr q
         . exact .inl q.symm
end Go.Mid
namespace Go.Mid
def E5O (keys:List (ByteArray×Int))(name:ByteArray):Int×Bool:=match keys.findIdx? (λp=>Lv p.1 name) with
 | some i=>((keys[i]?.getD ({ data:=#[] },0)).2,true)
 | none=>(0,false)
theorem F1r (keys:List (ByteArray×Int))(name:ByteArray)(hl:keys.length<=1000000):E7s (keys,name)=some (E5O keys name):=by
 unfold E7s E4O
 have:=Ma (f:=E4w) keys (λi=>(keys,name,(keys.length:Int),(i:Int))) (λ_ p=>Lv p.1 name) (λi=>.inl (i:Int)) (.inr ()) (λi hi=>by
  have hi':(i:Int)<keys.length:=by omega
  simp only [E4w,E8q,hi',decide_true,cond_true,aq,ar,ah hi,ai,iQ (show i<9223372036854775807 by omega)]
  cases Lv keys[i].1 name<;>rfl) (by
  simp only [E4w,ba,decide_false,cond_false])
 simp only [av] at this;rw [this,D86];unfold E5O;cases h:keys.findIdx? (λp=>Lv p.1 name) with
 | none=>rfl
 | some i =>
   have hi:i<keys.length:=by
    have:=List.findIdx?_eq_some_iff_findIdx_eq.1 h
    omega
   have h1:decide ((i:Int)<0)=false:=by simp
   have h2:decide ((0:Int)<=(i:Int))=true:=by simp
   simp only [Option.map_some,dG,ai,vh,h1,cond_false,h2,cond_true,ar,ah hi,Option.getD_some]
theorem AtS.fold {head:List ByteArray}{k:Int}{terms:List E5b}:∀ (r:List E5b) (n:Nat) (s:fb×fb),terms.drop n=r->AtS head k terms n s->AtS head k terms (n+r.length) ((r.zipIdx n).foldl (λs x=>E81 head k x.2 s x.1) s)
 | [],n,s,_,h=>h
 | u::r,n,s,hd,h=>by
   have hu:terms[n]?=some u:=by
    have:=congrArg (·[0]?) hd
    simpa using this
   have N9:terms.drop (n+1)=r:=by
    rw [← List.drop_drop,hd];rfl
   have:=AtS.fold r (n+1) _ N9 (h.step hu)
   rw [List.zipIdx_cons,jM,bf];have e:n+(r.length+1)=n+1+r.length:=by omega
   rw [e];exact this
def E6K (keys:List (ByteArray×Int))(head:List ByteArray)(a:tI):fb×fb:=(a.2.zipIdx).foldl (λs x=>E81 head (E5O keys a.1).1 x.2 s x.1) ([],[])
theorem E9V (keys:List (ByteArray×Int))(head:List ByteArray)(a:tI):AtS head (E5O keys a.1).1 a.2 a.2.length (E6K keys head a):=by
 have h0:AtS head (E5O keys a.1).1 a.2 0 ([],[]):=⟨trivial,trivial,λz=>by simp [nb],λz=>by simp [nb]⟩
 have:=AtS.fold a.2 0 ([],[]) rfl h0
 rw [Nat.zero_add] at this;exact this
theorem F3T (keys:List (ByteArray×Int))(head:List ByteArray)(ats:List tI)(hk:keys.length<=1000000)(hh:head.length<=1000000)(ha:ats.length<=1000000)(ht:∀ a∈ats,a.2.length<=1000000) :
 E6D (keys,head,ats)=some (ats.map (E6K keys head)):=by
 have key:=F0a (f:=E6r) (S:=Nat×List (fb×fb)) ats
  (λi s=>((keys,i,ats,(ats.length:Int),(i:Int)),(head,ats),(ats.take i).map (E6K keys head))) (λi s u=>s) (λ_=>(ats.length,ats.map (E6K keys head))) (λi hi s=>?_) (λs=>?_) (0,[])
 . unfold E6D;have k2:A0d E6r ((keys,(0:Nat),ats,(ats.length:Int),(0:Int)),(head,ats),[])=some (ats.length,ats.map (E6K keys head)):=key;refine (congrArg (λo=>bc o _) k2).trans ?_
   simp only [ai,aB,Nat.ble_eq,ay,cond_true];rw [show cQ ats.length ats.length=true from auP (ay _),cond_true];rw [a6 (by simp)]
 . have hi':(i:Int)<ats.length:=by omega
   have CT:=F1T keys i (E5O keys ats[i].1).1 ats (ats.length:Int) (i:Int) ats[i].2 head ats ((ats.take i).map (E6K keys head)) (by omega) (ht _ (aM hi)) ([],[])
   simp only [E6r,hi',decide_true,cond_true,aq,ar,ah hi,ai,F1r keys _ hk];refine (congrArg (λo=>bc o _) CT).trans ?_
   have hlen:((ats.take i).map (E6K keys head)).length=i:=by simp;omega
   have b1:cQ i ((ats.take i).map (E6K keys head)).length=true:=by rw [hlen];exact auP (ay _)
   have b2:cQ ((i+1)*16) 140737488355328=true:=auP (by omega)
   simp only [ai,b1,b2,cond_true,iQ (show i<9223372036854775807 by omega)]
   have e1:aP i ((ats.take i).map (E6K keys head))=(ats.take i).map (E6K keys head):=a6 (by rw [hlen];exact ay _)
   have e2:(ats.take (i+1)).map (E6K keys head)=(ats.take i).map (E6K keys head)++[E6K keys head ats[i]]:=by
    rw [List.take_add_one,b9,ah hi];rfl
   rw [e1,e2];rfl
 . simp only [E6r,ba,decide_false,cond_false,dM]
end Go.Mid
namespace Go.Mid
theorem E5K {a b:ByteArray}:Lv a b=true↔a=b:=by
 unfold Lv;rw [beq_iff_eq,avG,avG];constructor
 . intro h;cases a;cases b;congr 1;exact Array.toList_inj.1 h
 . intro h;rw [h]
theorem E9j (a b:ByteArray):Lv a b=decide (a=b):=by
 by_cases h:a=b
 . rw [decide_eq_true h,E5K.2 h]
 . rw [decide_eq_false h];cases he:Lv a b with
   | false=>rfl
   | true=>exact absurd (E5K.1 he) h
theorem F0e (a b:ByteArray):Lv a b=Lv b a:=by
 rw [E9j,E9j,decide_eq_decide];exact ⟨Eq.symm,Eq.symm⟩
abbrev F0q:=Int×Int×ByteArray
abbrev F2L:=Int×List F0q
abbrev E4Z:=ByteArray×List ByteArray×List F2L
def E4N (x:F0q):Bool :=
 bif x.1==0 then bif x.2.1==0 then Lv x.2.2 ⟨#[]⟩ else false
 else bif x.1==1 then Lv x.2.2 ⟨#[]⟩
 else bif x.1==2 then bif x.2.1==0 then decide ((x.2.2.size:Int)<=200) else false
 else bif x.1==3 then bif decide (x.2.1 ≥ 1) then Lv x.2.2 ⟨#[]⟩ else false else false
theorem E8N (x:F0q):E7y x=some (E4N x):=by
 unfold E7y E4N;cases (x.1==0)<;>cases (x.1==1)<;>cases (x.1==2)<;>cases (x.1==3)<;>cases (x.2.1==0)<;>cases decide (x.2.1 ≥ 1)<;>rfl
theorem F0r (l:List F0q)(hl:l.length<=9223372036854775807):E6z l=some (l.all E4N):=by
 unfold E6z E4x E4z
 have:=Ma (f:=E4l) l (λi=>(l,(),(l.length:Int),(i:Int))) (λ_ v=>!E4N v) (λi=>.inl (i:Int)) (.inr ()) (λi hi=>by
  have hi':(i:Int)<l.length:=by omega
  simp only [E4l,E6Q,hi',decide_true,cond_true,aq,ar,ah hi,ai,E8N,iQ (show i<9223372036854775807 by omega)]
  cases E4N l[i]<;>rfl) (by
  simp only [E4l,ba,decide_false,cond_false])
 simp only [av] at this;rw [this];have h2:l.any (λv=>!E4N v)=!l.all E4N:=by rw [List.all_eq_not_any_not];simp
 rw [← Bool.not_not (l.all E4N),← h2,← Qm (λv=>!E4N v) l 0]
 cases tm (λ_ v=>!E4N v) l 0 with
 | none=>rfl
 | some i=>simp
def E4S (c:UInt8):Bool:=(decide (97<=c.toNat)&&decide (c.toNat<=122)) || (decide (65<=c.toNat)&&decide (c.toNat<=90)) || decide (c.toNat=95)
def E5s (c:UInt8):Bool:=decide (48<=c.toNat)&&decide (c.toNat<=57)
def E82:ByteArray:=ByteArray.mk #[110,117,108,108]
def E47 (s:ByteArray):Bool:=!Lv s ⟨#[]⟩&&decide (s.size<=24) && !Lv s E82&&(match s.data.toList with | []=>false | c::r=>E4S c&&r.all λc=>E4S c || E5s c)
theorem E9l (c:UInt8):E5T (c.toNat:Int)=some (E4S c):=by
 unfold E5T E4S;by_cases h1:97<=c.toNat<;>by_cases h2:c.toNat<=122<;>by_cases h3:65<=c.toNat<;>by_cases h4:c.toNat<=90 <;>
  simp [h1,h2,h3,h4,Int.ofNat_le,show ((c.toNat:Int) ≥ 97)↔97<=c.toNat by omega,show ((c.toNat:Int)<=122)↔c.toNat<=122 by omega,show ((c.toNat:Int) ≥ 65)↔65<=c.toNat by omega,show ((c.toNat:Int)<=90)↔c.toNat<=90 by omega] <;>
  (rw [c6];simp;omega)
theorem E78 (s:ByteArray):s.size=s.data.toList.length:=by rw [Array.length_toList];rfl
theorem E9W (s:ByteArray)(i:Nat)(h:i<s.data.toList.length):s.data[i]?=some s.data.toList[i]:=by
 rw [← ah h,Array.getElem?_toList]
theorem F3v (s:ByteArray)(i:Nat)(h:i<s.data.toList.length)(hl:s.data.toList.length<=24):E6n (s,(s.data.toList.length:Int),(i:Int)) =
 if (!E4S s.data.toList[i]&&(decide (i=0) || !E5s s.data.toList[i])) then some (.inr (.inl false)) else some (.inl (s,(s.data.toList.length:Int),((i+1:Nat):Int))):=by
 have hi':(i:Int)<s.data.toList.length:=by omega
 simp only [E6n,hi',decide_true,cond_true,aq,ar,E9W s i h,ai,iQ (show i<9223372036854775807 by omega)]
 generalize s.data.toList[i]=c;unfold E4S E5s;have e0:((i:Int)==0)=decide (i=0):=by rw [c6];simp
 have e5:((c.toNat:Int)==95)=decide (c.toNat=95):=by rw [c6];simp;omega
 simp only [e0,e5,ge_iff_le,gt_iff_lt,show (97:Int)<=c.toNat↔97<=c.toNat by omega,show ((c.toNat:Int)<=122)↔c.toNat<=122 by omega,show ((65:Int)<=c.toNat)↔65<=c.toNat by omega,show ((c.toNat:Int)<=90)↔c.toNat<=90 by omega,
  show ((c.toNat:Int)<48)↔¬ 48<=c.toNat by omega,show ((57:Int)<c.toNat)↔¬ c.toNat<=57 by omega,decide_not]
 cases decide (97<=c.toNat)<;>cases decide (c.toNat<=122)<;>cases decide (65<=c.toNat)<;>cases decide (c.toNat<=90)<;>cases decide (c.toNat=95)<;>cases decide (i=0)<;>cases decide (48<=c.toNat)<;>cases decide (c.toNat<=57)<;>rfl
theorem F0H (s:ByteArray):E7c s=some (E47 s):=by
 unfold E7c E47;rw [E78];show (bif Lv s ⟨#[]⟩ then _ else bif _ then _ else bif Lv s E82 then _ else _)=_
 cases h1:Lv s ⟨#[]⟩
 case true=>rfl
 simp only [cond_false,auI,dm,gt_iff_lt];by_cases h2:(24:Int)<(s.data.toList.length:Int)
 . have:¬ s.data.toList.length<=24:=by omega
   simp only [h2,this,decide_true,decide_false,cond_true,sS]
 have hl:s.data.toList.length<=24:=by omega
 simp only [h2,decide_false,cond_false,hl,decide_true,dm];cases h3:Lv s E82
 case true=>rfl
 simp only [cond_false,auI,dm]
 have:=Ma (f:=E6n) s.data.toList (λi=>(s,(s.data.toList.length:Int),(i:Int))) (λi c=>!E4S c&&(decide (i=0) || !E5s c)) (λ_=>.inl false) (.inr ()) (λi hi=>F3v s i hi hl) (by
  simp only [E6n,ba,decide_false,cond_false])
 simp only [av] at this;rw [this];generalize hL:s.data.toList=L;have hne:L ≠ []:=by
  intro h0;rw [h0] at hL
  have:s=⟨#[]⟩:=by cases s;congr 1;exact Array.toList_inj.1 hL
  rw [E5K.2 this] at h1;cases h1
 cases L with
 | nil=>exact absurd rfl hne
 | cons c r =>
   simp only [tm,decide_true,Bool.true_or,fQ];cases hc:E4S c
   . simp
   . simp only [bO,aI,if_false,dm];have key:∀ (r:List UInt8) (k:Nat),0<k->(tm (λi c=>!E4S c&&(decide (i=0) || !E5s c)) r k).isNone=r.all λc=>E4S c || E5s c:=by
      intro r
      induction r with
      | nil=>intro k _;rfl
      | cons a r ih =>
        intro k hk;have hk0:decide (k=0)=false:=decide_eq_false (by omega)
        simp only [tm,hk0,Bool.false_or,List.all_cons];cases ha:E4S a<;>cases hd:E5s a<;>simp [ih (k+1) (by omega)]
     have:=key r (0+1) (by omega)
     rw [← this];cases tm (λi c=>!E4S c&&(decide (i=0) || !E5s c)) r (0+1)<;>rfl
def E5m (l:List ByteArray)(a:ByteArray):Bool:=l.any λb=>Lv b a
theorem F0f (l:List ByteArray)(a:ByteArray)(hl:l.length<=9223372036854775807):E4F (l,a)=some (E5m l a):=by
 unfold E4F E5L E5m
 have:=Ma (f:=E4L) l (λi=>(l,a,(l.length:Int),(i:Int))) (λ_ b=>Lv b a) (λi=>.inl (i:Int)) (.inr ()) (λi hi=>by
  have hi':(i:Int)<l.length:=by omega
  simp only [E4L,hi',decide_true,cond_true,aq,ar,ah hi,ai,F0e a,iQ (show i<9223372036854775807 by omega)]
  cases Lv l[i] a<;>rfl) (by
  simp only [E4L,ba,decide_false,cond_false])
 simp only [av] at this;rw [this,← Qm (λb=>Lv b a) l 0]
 cases tm (λ_ b=>Lv b a) l 0 with
 | none=>rfl
 | some i=>simp
theorem E8O (l:List ByteArray)(a:ByteArray)(hl:l.length<=9223372036854775807):E48 (l,a)=some (match l.findIdx? λb=>Lv b a with | some i=>(i:Int) | none=>-1):=by
 unfold E48
 have:=Ma (f:=E6m) l (λi=>(l,a,(i:Int))) (λ_ b=>Lv b a) (λi=>.inl (i:Int)) (.inr ()) (λi hi=>by
  have hi':(i:Int)<l.length:=by omega
  simp only [E6m,hi',decide_true,cond_true,aq,ar,ah hi,ai,iQ (show i<9223372036854775807 by omega)]
  cases Lv l[i] a<;>rfl) (by
  simp only [E6m,ba,decide_false,cond_false])
 simp only [av] at this;rw [this,D86];cases l.findIdx? (λb=>Lv b a)<;>simp
theorem E7z (l:List ByteArray)(a:ByteArray):E5m l a=decide ((match l.findIdx? λb=>Lv b a with | some i=>(i:Int) | none=>-1) ≥ 0):=by
 unfold E5m;rw [← Qm (λb=>Lv b a) l 0,D86]
 cases l.findIdx? (λb=>Lv b a)<;>simp
def E7M:List ByteArray->List ByteArray->Bool
 | _,[]=>true
 | p,a::r=>E47 a && !E5m p a&&E7M (p++[a]) r
theorem F0g {B:Type}(bad aGg:B)(L:List ByteArray):∀ (l:List ByteArray) (i:Nat),L.drop i=l->i<=L.length->
 Fu (S:=Unit) (λi _ a=>if (!E47 a || E5m (L.take i) a)=true then some (.inr bad) else some (.inl ())) (λ_=>some aGg) l i ()=some (if E7M (L.take i) l then aGg else bad):=by
 intro l
 induction l with
 | nil=>intro i _ _;rfl
 | cons a r ih =>
   intro i hd hi;have hi':i<L.length:=by
    have:=congrArg cz hd
    simp at this;omega
   have hx:L[i]=a∧L.drop (i+1)=r:=by
    rw [bY hi'] at hd;exact List.cons.inj hd
   have ht:L.take (i+1)=L.take i++[a]:=by rw [auR hi',hx.1]
   simp only [Fu,E7M];rcases nv (E47 a) with h1 | h1<;>rcases nv (E5m (L.take i) a) with h2 | h2<;>simp only [h1,h2,bO,auI,Bool.or_true,Bool.or_false,fQ,Bool.and_false,dm,sS,aI,if_true,if_false]
   rw [ih (i+1) hx.2 hi',ht]
def E8k (n:Nat):Int->List F2L->Int
 | _,[]=>0
 | p,r::l=>if r.1<=p then 1 else if r.2.length≠n then 6 else if r.2.all E4N then E8k n r.1 l else 1
def E8b (t:E4Z):Int:=if E47 t.1 then (if t.2.1.length>16 then 3 else if t.2.2.length>1000 then 3 else if E7M [] t.2.1 then E8k t.2.1.length 0 t.2.2 else 1) else 1
def F0s (t:E4Z):Prop:=∀ r∈t.2.2,r.2.length<=9223372036854775807
theorem F0I {B:Type}(b:Int->B)(n:Nat):∀ (l:List F2L) (i:Nat) (p:Int),
 Fu (S:=Int) (λ_ p r=>if r.1<=p then some (.inr (b 1)) else if r.2.length≠n then some (.inr (b 6)) else if r.2.all E4N then some (.inl r.1) else some (.inr (b 1))) (λ_=>some (b 0)) l i p=some (b (E8k n p l)):=by
 intro l
 induction l with
 | nil=>intro i p;rfl
 | cons r l ih =>
   intro i p;simp only [Fu,E8k];by_cases h1:r.1<=p
   . simp [h1]
   by_cases h2:r.2.length≠n
   . simp [h1,h2]
   by_cases h3:r.2.all E4N=true
   . simp only [h1,h2,h3,if_false,if_true,ih]
   . simp only [h1,h2,h3,if_false];rfl
theorem F3w (a b:Nat):((a:Int) != (b:Int))=decide (a≠b):=by
 rw [c6];simp;omega
theorem F0t (t:E4Z)(h:F0s t):E71 t=some (E8b t):=by
 obtain ⟨nm,aas,rs⟩:=t;unfold E71 E8b;simp only [F0H,ai,gt_iff_lt];cases hn:E47 nm
 . rfl
 simp only [bO,cond_false,if_true];by_cases h1:(16:Int)<(aas.length:Int)
 . have:16<aas.length:=by omega
   simp [h1,this]
 have vR:¬ 16<aas.length:=by omega
 by_cases h2:(1000:Int)<(rs.length:Int)
 . have:1000<rs.length:=by omega
   simp [h1,h2,vR,this]
 have sA:¬ 1000<rs.length:=by omega
 simp only [h1,h2,vR,sA,decide_false,cond_false,if_false];have e1:=C7j (S:=Unit) (f:=E7p) aas (λi _=>((aas,(aas.length:Int),(i:Int)),nm,aas,rs)) (λi _ a=>if (!E47 a || E5m (aas.take i) a)=true then some (.inr (.inl 1)) else some (.inl ())) (λ_=>some (.inr (nm,aas,rs))) (λi hi _=>by
  have hi':(i:Int)<aas.length:=by omega
  have hb:i.ble aas.length=true:=auP (by omega)
  have ha:=F0f (aas.take i) aas[i] (by rw [aW];omega)
  simp only [E7p,hi',decide_true,cond_true,aq,ar,ah hi,ai,F0H,hb,ha,iQ (show i<9223372036854775807 by omega)]
  cases E47 aas[i]<;>cases E5m (aas.take i) aas[i]<;>rfl) (λ_=>by
  simp only [E7p,ba,decide_false,cond_false];rfl) ()
 have e2:=C7j (S:=Int) (f:=E7q) rs (λi p=>((p,rs,(rs.length:Int),(i:Int)),nm,aas,rs)) (λ_ p r=>if r.1<=p then some (.inr (.inl 1)) else if r.2.length≠aas.length then some (.inr (.inl 6)) else if r.2.all E4N then some (.inl r.1) else some (.inr (.inl 1))) (λ_=>some (.inr ())) (λi hi p=>by
  have hi':(i:Int)<rs.length:=by omega
  have hr:=h rs[i] (aM hi);simp only [E7q,hi',decide_true,cond_true,aq,ar,ah hi,ai,F0r _ hr,F3w,iQ (show i<9223372036854775807 by omega)]
  by_cases c1:(rs[i]).1<=p
  . simp [c1]
  by_cases c2:(rs[i]).2.length≠aas.length
  . simp [c1,c2]
  cases c3:(rs[i]).2.all E4N<;>simp [c1,c2,c3]) (λp=>by
  simp only [E7q,ba,decide_false,cond_false];rfl) 0
 simp only [av] at e1 e2;rw [e1,F0g (B:=Int ⊕ E4Z) (.inl 1) (.inr (nm,aas,rs)) aas aas 0 rfl (dg _)];simp only [List.take_zero];by_cases nu:E7M [] aas=true
 case neg=>simp [nu]
 simp only [nu,if_true,ai,lS];rw [e2]
 have:=F0I (B:=Int ⊕ PUnit) (λe=>if e=0 then .inr () else .inl e) aas.length rs 0 0
 simp only [show (1:Int)≠0 by decide,show (6:Int)≠0 by decide,if_false,if_true] at this
 rw [this];by_cases h0:E8k aas.length 0 rs=0
 . simp [h0]
 . simp [h0]
end Go.Mid
namespace Go.Mid
theorem E7T (l:List ByteArray)(a:ByteArray)(hl:l.length<=9223372036854775807):E4R (l,a)=some (E4Y l a):=by
 unfold E4R;rw [E8O l a hl,ai];exact congrArg some (E7z l a).symm
structure Lst (l:List ByteArray)(P:ByteArray->Prop):Prop where
 nd:l.Nodup
 mem:∀ z,z∈l↔P z
theorem Lst.snoc {l:List ByteArray}{P:ByteArray->Prop}(h:Lst l P){a:ByteArray}(ha:E4Y l a=false):Lst (l++[a]) (λz=>P z∨z=a) where
 nd:=by
  have:a∉l:=λm=>by rw [E5Q.2 m] at ha;cases ha
  rw [aT];refine ⟨h.nd,by simp,?_⟩
  rintro x hx y hy rfl;simp at hy;subst hy;exact this hx
 mem:=λz=>by simp [h.mem]
theorem Lst.aBn {l:List ByteArray}{P Q:ByteArray->Prop}(h:Lst l P)(e:∀ z,P z↔Q z):Lst l Q:=⟨h.nd,λz=>by rw [h.mem,e]⟩
theorem Lst.has {l:List ByteArray}{P:ByteArray->Prop}(h:Lst l P)(a:ByteArray):E4Y l a=true↔P a:=by rw [E5Q,h.mem]
theorem Lst.not {l:List ByteArray}{P:ByteArray->Prop}(h:Lst l P){a:ByteArray}(e:E4Y l a=false):¬ P a:=λq=>by rw [(h.has a).2 q] at e;cases e
end Go.Mid
