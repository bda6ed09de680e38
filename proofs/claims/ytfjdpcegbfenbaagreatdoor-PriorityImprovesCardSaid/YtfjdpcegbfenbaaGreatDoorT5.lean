/- Closures of relations, ascending lists: plain Lean, no program. -/
import Derived.Test.YtfjdpcegbfenbaaGreatDoorT4
import Derived.Test.YtfjdpcegbfenbaaGreatDoorN2
import Derived.Test.YtfjdpcegbfenbaaGreatDoorT2
set_option linter.unusedSimpArgs false
set_option linter.unusedVariables false
open Bool renaming eq_iff_iff → c6, false_eq_true → aI, not_true → bO, and_eq_true → aj, not_eq_true' → ed, and_self → fR
open Classical renaming byContradiction → b5
open Go.IntKind renaming i64 → af, u64 → aK, u16 → a8, u32 → cG, wrap → ie, bits → gu, signed → fe, u8 → dp
open Go.Lit renaming int → nI
open Int renaming toNat_natCast → ar, natCast_nonneg → aq, lt_irrefl → ba, eq_ofNat_of_zero_le → eB, le_refl → lu, natCast_zero → b7, toNat → lV
open List renaming pairwise_cons → bN, mem_cons → aG, mem_cons_of_mem → bC, length_cons → bf, cons_append → aS, length_take → aW, length_append → aR, length_drop → cm, getElem?_append_right → bG, length → cz, length_nil → cM, getElem?_eq_getElem → ah, set_append_right → eh, drop_eq_getElem_cons → bY, set_cons_zero → dR, getElem?_eq_some_iff → aJ, ext_getElem? → fy, getElem?_set → dD, take_of_length_le → a6, length_set → iy, set_set → nK, take_append_drop → bM, replicate → au, length_replicate → fZ, append_assoc → bg, take_append_of_le_length → lv, take_take → sV, map → fp, map_id → wR, range → bA, filter_append → s8, map_append → b9, getElem?_eq_none → bJ, length_map → aB, length_filter_le → dt, mem_map → bp, mem_filter → cZ, getElem_mem → aM, drop_length → eS, append_nil → bD, map_congr_left → eJ, mem_range → cu, take → aP, getElem_of_mem → pd, map_const' → se, countP_cons → rz, nodup_cons → bZ, countP_append → p9, pairwise_append → cF, mem_singleton → aX, mem_append → az, mem_append_left → cV, mem_append_right → kK, nodup_append → aT, contains_iff_mem → bj, mem_cons_self → dS, take_length → dM, mem_of_getElem? → bH, map_cons → aF, length_eq_zero_iff → dA, filter_eq_nil_iff → kC, length_pos_iff → gQ, map_set → gw, mem_or_eq_of_mem_set → bx, getElem?_set_ne → fg, Nodup → yo, pairwise_map → eG, all_eq_true → bB, foldl_append → iK, mem_iff_getElem → eA, getD_eq_getElem?_getD → bh, getElem_set → nk, eq_of_mem_replicate → eY, getElem?_cons_zero → bQ, mem_of_mem_take → dh, any_eq_true → fV
open Nat renaming le_trans → dF, min_eq_left → cX, le_refl → ay, sub_self → gx, add_assoc → bV, blt → cP, beq → iI, zero_le → dg, le_of_lt → fH, min_eq_right → jk, zero_add → bS, lt_succ_iff_lt_or_eq → mV, lt_of_lt_of_le → br, pow_le_pow_right → ez, zero_testBit → eT, eq_of_testBit_eq → jc, testBit_and → gp, or_lt_two_pow → fA, testBit_or → fj, two_pow_pos → fD, le_of_eq → e7, add_sub_cancel → dT, lt_of_le_of_lt → eU, and_le_left → fC
open Option renaming bind_some → ai, map_some → ak, isSome_iff_exists → eX
open Sum renaming elim_inl → vh, elim_inr → lS
namespace Go.Mid
theorem nC {R:Int->Int->Prop}(HK:∀ a,¬ R a a)(Nr:∀ a b,R a b->R b a->False):∀ {l m:List Int},l.Pairwise R->m.Pairwise R->(∀ x,x∈l↔x∈m)->l=m
 | [],[],_,_,_=>rfl
 | [],b::m,_,_,h=>absurd ((h b).2 (by simp)) (by simp)
 |a::l,[],_,_,h=>absurd ((h a).1 (by simp)) (by simp)
 |a::l,b::m,hl,hm,h=>by
   have zj:=bN.1 hl;have xM:=bN.1 hm;have uO:a=b:=by
    rcases aG.1 ((h a).1 (by simp)) with e | e
    . exact e
    . rcases aG.1 ((h b).2 (by simp)) with e2 | e2
      . exact e2.symm
      . exact(Nr _ _ (zj.1 b e2) (xM.1 a e)).elim
   subst uO;congr 1;refine nC HK Nr zj.2 xM.2 λx=>?_
   constructor
   . intro hx;rcases aG.1 ((h x).1 (bC _ hx)) with e | e
     . subst e;exact(HK _ (zj.1 _ hx)).elim
     . exact e
   . intro hx;rcases aG.1 ((h x).2 (bC _ hx)) with e | e
     . subst e;exact(HK _ (xM.1 _ hx)).elim
     . exact e
theorem Rn {l:List Int}{x:Int}:x∈lK l↔x∈l:=(Me l).mem_iff
theorem C9l {l:List Int}(h:l.Nodup):(lK l).Pairwise (· < ·):=by
 have h1:=Wd l;have h2:(lK l).Nodup:=(Me l).nodup_iff.2 h;exact(h1.and h2).imp λ⟨a,b⟩=>by omega
end Go.Mid
namespace Go.Mid
def jg:List Int->List Int
 | []=>[]
 | [x]=>[x]
 |x::y::r=>if x=y then jg (y::r) else x::jg (y::r)
theorem Ro:∀ (l:List Int) (x:Int),x∈jg l↔x∈l
 | [],x=>by simp[jg]
 | [a],x=>by simp[jg]
 |a::b::r,x=>by
   unfold jg;split
   . rename_i h;rw[Ro (b::r) x,h];simp
   . rw[aG,Ro (b::r) x];simp
theorem Ns:∀ l:List Int,(jg l).length<=l.length
 | []=>by simp[jg]
 | [a]=>by simp[jg]
 |a::b::r=>by
   unfold jg
   have:=Ns (b::r)
   split<;>simp only[bf] at * <;> omega
theorem B62:∀ (l:List Int) (x:Int),l ≠ []->jg (l++[x])=if l.getLast?=some x then jg l else jg l++[x]
 | [],_,h=>absurd rfl h
 | [a],x,_=>by
   simp only[aS,List.nil_append,jg,List.getLast?_singleton,Option.some.injEq];by_cases h:a=x
   . simp[h]
   . simp[h]
 |a::b::r,x,_=>by
   have ih:=B62 (b::r) x (by simp)
   have e:(a::b::r).getLast?=(b::r).getLast?:=by simp
   rw[e];simp only[aS] at ih ⊢;rw[jg,ih]
   conv=>rhs;rw[jg]
   by_cases h1:a=b<;>by_cases h2:(b::r).getLast?=some x<;>simp[h1,h2]
def pS (l:List Int)(m:Nat):List Int:=jg (l.take m)++l.drop (jg (l.take m)).length
theorem C1U (l:List Int)(m:Nat):(jg (l.take m)).length<=m:=dF (Ns _) (by rw[aW];omega)
theorem C4f (l:List Int)(m:Nat):(pS l m).length=l.length:=by
 unfold pS;have h1:=Ns (l.take m);rw[aW] at h1;rw[aR,cm];omega
theorem C4g {l:List Int}{m i:Nat}(h:(jg (l.take m)).length<=i):(pS l m)[i]?=l[i]?:=by
 unfold pS;rw[bG h,List.getElem?_drop];congr 1;omega
theorem C9m {l:List Int}{m:Nat}(h0:0<m)(h:m<=l.length):(l.take m).getLast?=l[m-1]?:=by
 rw[List.getLast?_eq_getElem?,aW,cX h,List.getElem?_take_of_lt (by omega)]
theorem JJ {l:List Int}{m:Nat}(h0:0<m)(h:m<l.length):jg (l.take (m+1))=if l[m]'h=l[m-1]'(by omega) then jg (l.take m) else jg (l.take m)++[l[m]'h]:=by
 have hne:l.take m ≠ []:=by
  intro e
  have:=congrArg cz e
  rw[aW,cM] at this;omega
 rw[vz h,B62 _ _ hne,C9m h0 (by omega),ah (by omega:m-1<l.length)]
 simp only[Option.some.injEq];by_cases e:l[m]'h=l[m-1]'(by omega)
 . rw[if_pos e.symm,if_pos e]
 . rw[if_neg (λh=>e h.symm),if_neg e]
theorem D07 {l:List Int}{m:Nat}(h0:0<m)(h:m<l.length)(hk:(jg (l.take m)).length<=m-1)(hne:l[m]'h≠l[m-1]'(by omega)):pS l (m+1)=(pS l m).set (jg (l.take m)).length (l[m]'h):=by
 unfold pS;rw[JJ h0 h,if_neg hne];generalize jg (l.take m)=D at hk;rw[eh _ _ (ay _),gx,aR]
 have:D.length<l.length:=by omega
 rw[bY this,dR];simp
theorem B63 {l:List Int}{m k:Nat}(JG:k<m)(hk:(jg (l.take m)).length<=m-1):∀ j,m+j<=l.length->(jg (l.take (m+j))).length<=m+j-1
 |0,_=>by simpa using hk
 |j+1,h=>by
   have ih:=B63 JG hk j (by omega)
   rw[←bV,JJ (by omega) (by omega)]
   split
   . omega
   . rw[aR];simp;omega
theorem Xw {LL:List (List Int)}{I:Nat}{l:List Int}(h:LL[I]?=some l):LL.set I l=LL:=by
 have eC:=(aJ.1 h).1;apply fy;intro i;rw[dD];by_cases e:I=i
 . subst e;rw[if_pos rfl,if_pos eC,h]
 . rw[if_neg e]
theorem C1V {LL:List (List Int)}{I N off:Nat}{l:List Int}(hI:I<LL.length)(hN:l.length=N)(hN2:N<=1000)(ho:0<off)(hoN:off<N)(hd:(jg (l.take (off+1))).length=off) :
 dk Jt (((I,N),(off:Int),(I,off,N-off),1),LL.set I (pS l (off+1)))=some (((I,N),((jg l).length:Int)),LL.set I (pS l N)):=by
 have kF:jg (l.take N)=jg l:=by rw[a6 (by omega)]
 have:dk Jt (((I,N),((jg (l.take (off+1+0))).length:Int),(I,off,N-off),((0+1:Nat):Int)),LL.set I (pS l (off+1+0)))=_ :=
  tQ (f:=Jt) (N-off-1) (λi=>(((I,N),((jg (l.take (off+1+i))).length:Int),(I,off,N-off),((i+1:Nat):Int)),LL.set I (pS l (off+1+i)))) (((I,N),((jg l).length:Int)),LL.set I (pS l N)) (λi hi=>by
   have hm:off+1+i<l.length:=by omega
   have hsm:=B63 (l:=l) (m:=off+1) (k:=off) (by omega) (by omega) i (by omega)
   have hk0:=C1U l (off+1+i);have hj:((i+1:Nat):Int)<((N-off:Nat):Int):=by omega
   have EJ:(0:Int)<=((i+1:Nat):Int):=by omega
   have hw:af.wrap (((i+1:Nat):Int)-1)=(i:Int):=by rw[wrap_i64 (by omega) (by omega)];omega
   have e1:(LL.set I (pS l (off+1+i)))[I]?=some (pS l (off+1+i)):=by simp[hI]
   have g1:(pS l (off+1+i))[off+(i+1)]?=some (l[off+1+i]'hm):=by
    rw[C4g (by omega),show off+(i+1)=off+1+i by omega,ah hm]
   have g2:(pS l (off+1+i))[off+i]?=some (l[off+i]'(by omega)):=by
    rw[C4g (by omega),ah (by omega)]
   have hlen:=C4f l (off+1+i);have rG:=JJ (l:=l) (m:=off+1+i) (by omega) hm
   have Nt:off+1+i-1=off+i:=by omega
   simp only[Nt] at rG;simp only[Jt,hj,decide_true,cond_true,e1,ai,EJ,ar,lB (show i+1<N-off by omega),g1,hw,aq,lB (show i<N-off by omega),g2]
   by_cases hne:l[off+1+i]'hm=l[off+i]'(by omega)
   . rw [if_pos hne] at rG;have hb:(l[off+1+i]'hm != l[off+i]'(by omega))=false:=by simp [hne]
     have ha:pS l (off+1+(i+1))=pS l (off+1+i):=by
      rw[←bV];unfold pS;rw[rG]
     rw[ha,←bV (off+1) i 1,rG];simp only[hb,cond_false,iQ (show i+1<9223372036854775807 by omega)]
   . rw [if_neg hne] at rG;have hb:(l[off+1+i]'hm != l[off+i]'(by omega))=true:=by simpa using hne
     have ha:=D07 (l:=l) (m:=off+1+i) (by omega) hm (by omega) (by simp only[Nt];exact hne)
     rw[←bV (off+1) i 1,ha,rG];have hDl:(jg (l.take (off+1+i))).length<(pS l (off+1+i)).length:=by omega
     simp only[hb,cond_true,lB (show (jg (l.take (off+1+i))).length<N by omega),ah hDl,ai,beq_self_eq_true,iy,lB hI,nK,aR,bf,cM,iQ (show (jg (l.take (off+1+i))).length<9223372036854775807 by omega),iQ (show i+1<9223372036854775807 by omega)]) (by
   have hm:off+1+(N-off-1)=N:=by omega
   have e1:(LL.set I (pS l N))[I]?=some (pS l N):=by simp[hI]
   have hj:¬((N-off-1+1:Nat):Int)<((N-off:Nat):Int):=by omega
   rw[hm,kF];simp only[Jt,hj,decide_false,cond_false,e1,ai])
 have h0:((jg (l.take (off+1+0))).length:Int)=(off:Int):=by rw[Nat.add_zero,hd]
 rw[h0] at this;exact this
theorem Xx {l:List Int}{k:Nat}(h:∀ j (h0:0<j) (hj:j<k) (hl:j<l.length),l[j]≠l[j-1]'(by omega)):∀ m,m<=k->m<=l.length->jg (l.take m)=l.take m
 |0,_,_=>by simp[jg]
 |1,_,hl=>by
   rw[vz (by omega:0<l.length)];simp[jg]
 |m+2,hk,hl=>by
   rw[JJ (by omega) (by omega:m+1<l.length),if_neg (h (m+1) (by omega) (by omega) (by omega)),Xx h (m+1) (by omega) (by omega),←vz (by omega)]
theorem C7E {LL:List (List Int)}{I:Nat}{l:List Int}(hL:LL[I]?=some l)(hN2:l.length<=1000) :
 ∃l',QK ((I,l.length),LL)=some ((I,(jg l).length),LL.set I l')∧l'.take (jg l).length=jg l∧(jg l).length<=l'.length:=by
 have hI:=(aJ.1 hL).1;unfold QK;by_cases h2:(l.length:Int)<2
 . have hd:jg l=l:=by
    match l,h2 with
    | [],_=>rfl
    | [_],_=>rfl
    |_::_::_,h=>simp at h;omega
   refine⟨l,?_,by rw[hd,pN],by rw[hd];exact ay _⟩
   simp only[h2,decide_true,cond_true,hL,ai,hd,Xw hL]
 simp only [h2,decide_false,cond_false,hL,ai];have key:∀ n k,n+k=l.length->0<k->(∀ j (h0:0<j) (hj:j<k) (hl:j<l.length),l[j]≠l[j-1]'(by omega))->
  ∃ b,dk Ju (((I,l.length),(k:Int)),LL)=some b ∧
   ((∃l',b=.inl ((I,(jg l).length),LL.set I l')∧l'.take (jg l).length=jg l∧(jg l).length<=l'.length)∨(b=.inr ((I,l.length),LL)∧jg l=l)):=by
  intro n
  induction n with
  |zero =>
    intro k hk h0 hp;have zq:k=l.length:=by omega
    refine⟨.inr ((I,l.length),LL),qc ?_,.inr ⟨rfl,?_⟩⟩
    . subst zq;simp only[Ju,ba,decide_false,cond_false,hL,ai]
    . have:=Xx hp l.length (by omega) (ay _)
      rwa [pN] at this
  |succ n ih =>
    intro k hk h0 hp;have zq:k<l.length:=by omega
    have nq:(k:Int)<(l.length:Int):=by omega
    have hw:af.wrap ((k:Int)-1)=((k-1:Nat):Int):=by rw[wrap_i64 (by omega) (by omega)];omega
    by_cases he:l[k]=l[k-1]'(by omega)
    . have hd:jg (l.take k)=l.take k:=Xx hp k (ay _) (by omega)
      have hd1:(jg (l.take (k+1))).length=k:=by
       rw[JJ h0 zq,if_pos he,hd,aW];omega
      have ha:pS l (k+1)=l:=by
       unfold pS;rw[hd1,JJ h0 zq,if_pos he,hd,bM]
      have CT:=C1V (LL:=LL) (I:=I) (N:=l.length) (off:=k) (l:=l) hI rfl hN2 h0 zq hd1;rw[ha,Xw hL] at CT;have hle:=Ns l;have hD:pS l l.length=jg l++l.drop (jg l).length:=by unfold pS;rw[pN]
      have Xy:=C4f l l.length;refine⟨.inl ((I,(jg l).length),LL.set I (m8 (pS l l.length) (some (jg l).length) (au (l.length-(jg l).length) 0))),qc ?_,.inl ⟨_,rfl,?_,?_⟩⟩
      . have e1:(LL.set I (pS l l.length))[I]?=some (pS l l.length):=by simp [hI]
        have e3:(m8 (pS l l.length) (some (jg l).length) (au (l.length-(jg l).length) 0)).length=(pS l l.length).length:=by
         unfold m8;simp only[aR,aW,fZ,cm,Xy];omega
        simp only[Ju,nq,decide_true,cond_true,hL,ai,aq,ar,lB zq,ah zq,hw,lB (show k-1<l.length by omega),ah (show k-1<l.length by omega),he,beq_self_eq_true,jE (show k<=l.length by omega),CT,e1,jE hle,iy,lB hI,e3,nK]
        rw[jE (by rw[fZ,Xy];omega)]
        rfl
      . unfold m8;simp only;rw[hD,bg,lv (by rw[aW];simp),sV,Nat.min_self,List.take_left' rfl]
      . unfold m8;simp only[aR,aW,fZ,cm,Xy];omega
    . have hb:(l[k]==l[k-1]'(by omega))=false:=by simpa using he
      obtain⟨b,h1,h3⟩:=ih (k+1) (by omega) (by omega) (λj a b c=>by
       by_cases e:j=k
       . subst e;exact he
       . exact hp j a (by omega) c)
      refine⟨b,?_,h3⟩;rw[←h1];exact vw (by
       simp only[Ju,nq,decide_true,cond_true,hL,ai,aq,ar,lB zq,ah zq,hw,lB (show k-1<l.length by omega),ah (show k-1<l.length by omega),hb,cond_false,iQ (show k<9223372036854775807 by omega)])
 obtain⟨b,h1,h3⟩:=key (l.length-1) 1 (by omega) (by omega) (λj a b c=>by omega)
 have h1:dk Ju (((I,l.length),(1:Int)),LL)=some b:=h1;rw[h1];rcases h3 with⟨l',rfl,h4,h5⟩ | ⟨rfl,h4⟩
 . refine ⟨l',?_,h4,h5⟩;have e1:(LL.set I l')[I]?=some l':=by simp [hI]
   simp only[ai,vh,e1]
 . refine ⟨l,?_,by rw [h4,pN],by rw [h4];exact ay _⟩
   simp only[ai,lS,hL,h4,Xw hL]
end Go.Mid
namespace Go.Mid
structure NB (n:Nat)(next:List (List Int)):Prop where
 len:next.length=n
 yd:∀l∈next,∀w∈l,0<=w∧w<n
 Rp:∀l∈next,l.length<=1000
 small:n<=1000
end Go.Mid
namespace Go.Mid
theorem C9n (x:List Int):uR (Ty.vec 1 (Ty.int af)) x=x:=by
 show fp (uR (Ty.int af)) x=x
 have:(uR (Ty.int af):Int->Int)=id:=by funext y;rfl
 exact(congrArg (λf=>fp f x) this).trans (wR x)
theorem B4A (l:List (List Int)):fp (uR (Ty.vec 1 (Ty.int af))) l=l:=by
 have:(uR (Ty.vec 1 (Ty.int af)):List Int->List Int)=id:=by funext y;exact C9n y
 exact(congrArg (λf=>fp f l) this).trans (wR l)
abbrev oW:=List (Int×Int)
def qv (E:oW)(v:Nat):List Int:=(E.filter λe=>e.1==(v:Int)).map (·.2)
def zM (n:Nat)(E:oW):List (List Int):=(bA n).map (qv E)
theorem Rq {n v:Nat}{E:oW}(h:v<n):(zM n E)[v]?=some (qv E v):=by simp[zM,h]
theorem Nu (n:Nat)(E:oW):(zM n E).length=n:=by simp[zM]
theorem D08 (E:oW)(e:Int×Int)(v:Nat):qv (E++[e]) v=if e.1=(v:Int) then qv E v++[e.2] else qv E v:=by
 unfold qv;rw[s8,b9];by_cases h:e.1=(v:Int)<;>simp[h]
theorem C9o {n:Nat}{E:oW}{u:Nat}{w:Int}(hu:u<n):zM n (E++[((u:Int),w)])=(zM n E).set u (qv E u++[w]):=by
 apply fy;intro v;rw[dD,Nu];by_cases hv:v<n
 . rw [Rq hv,D08];by_cases e:u=v
   . subst e;simp[hv]
   . have:¬ ((u:Int)=(v:Int)):=by omega
     simp[e,this,Rq hv]
 . rw [bJ (by rw [Nu];omega)]
   have:¬u=v:=by omega
   rw[if_neg this,bJ (by rw[Nu];omega)]
theorem Xz (E:oW)(v:Nat):(qv E v).length<=E.length:=by
 unfold qv;rw[aB];exact dt ..
theorem C5V {E:oW}{v:Nat}{w:Int}:w∈qv E v↔((v:Int),w)∈E:=by
 unfold qv;rw[bp];constructor
 . rintro ⟨⟨a,b⟩,h1,rfl⟩;rw [cZ] at h1
   have:=h1.2
   simp at this;rw[←this];exact h1.1
 . intro h;exact⟨((v:Int),w),cZ.2 ⟨h,by simp⟩,rfl⟩
def Ej (n:Nat)(E:oW):Prop:=∀e∈E,0<=e.1∧e.1<n∧0<=e.2∧e.2<n
theorem D09 {n:Nat}{E:oW}(hr:Ej n E)(hE:E.length<=1000):dk MH ((n,E,(E.length:Int),0),au n [])=some (n,zM n E):=by
 have h0:au n []=zM n (E.take 0):=by
  apply fy;intro v;by_cases hv:v<n
  . rw[Rq hv];simp[hv,qv]
  . rw[bJ (by simp;omega),bJ (by rw[Nu];omega)]
 rw[h0]
 have:=tQ (f:=MH) E.length (λi=>((n,E,(E.length:Int),(i:Int)),zM n (E.take i))) (n,zM n E) (λi hi=>by
  have eg:(i:Int)<E.length:=by omega
  have he:=hr E[i] (aM hi);obtain⟨u,hu⟩:∃u:Nat,(E[i]).1=(u:Int):=eB he.1;have XA:u<n:=by have:=he.2.1;rw[hu] at this;omega
  have hei:E[i]=((u:Int),(E[i]).2):=Prod.ext hu rfl;rw[vz hi,hei,C9o XA];have hl:=Xz (E.take i) u;rw[aW] at hl;have b0:cP 0 2=true:=rfl;have b1:cP 1 2=true:=rfl;simp only[MH,eg,decide_true,cond_true,aq,ar,ah hi,ai,b0,b1,hu,lB XA,Rq XA,beq_self_eq_true,jE (ay _),Nu,pN,aR,bf,cM,iQ (show i<9223372036854775807 by omega)]
  rw[jE (show ((qv (E.take i) u).length+1)*8<=140737488355328 by omega)]
  rfl) (by
  simp only[MH,ba,decide_false,cond_false,pN])
 simpa using this
def r0 (n:Nat)(E:oW):List (List Int):=(bA n).map λv=>jg (lK (qv E v))
def ye (n:Nat)(E:oW)(i:Nat):List (List Int):=(bA n).map λv=>if v<i then jg (lK (qv E v)) else qv E v
theorem XB {n v i:Nat}{E:oW}(h:v<n):(ye n E i)[v]?=some (if v<i then jg (lK (qv E v)) else qv E v):=by simp[ye,h]
theorem Nv (n i:Nat)(E:oW):(ye n E i).length=n:=by simp[ye]
theorem D1a {n i:Nat}{E:oW}(hi:i<n):ye n E (i+1)=(ye n E i).set i (jg (lK (qv E i))):=by
 apply fy;intro v;rw[dD,Nv];by_cases hv:v<n
 . rw [XB hv];by_cases e:i=v
   . subst e;simp[hv]
   . rw [if_neg e,XB hv];by_cases h1:v<i
     . rw[if_pos h1,if_pos (by omega)]
     . rw[if_neg h1,if_neg (by omega)]
 . rw [bJ (by rw [Nv];omega)]
   have:¬i=v:=by omega
   rw[if_neg this,bJ (by rw[Nv];omega)]
theorem D2Z {LL:List (List Int)}{I:Nat}{l:List Int}(hL:LL[I]?=some l)(hl:l.length<=1000):QJ ((I,l.length),LL)=some (LL.set I (lK l)):=by
 unfold QJ;have h1:m8 l none (lK l)=lK l:=by
  unfold m8;simp only;rw[Hv,eS,bD]
 simp only[hL,ai,pN,h1,Hv,jE (ay _),cond_true,beq_self_eq_true];rw[lB (by omega)]
 rfl
theorem D1b {n:Nat}{E:oW}(hn:n<=1000)(hE:E.length<=1000):dk MI ((n,(n:Int),0),zM n E)=some (n,r0 n E):=by
 have h0:zM n E=ye n E 0:=by simp[zM,ye]
 have h1:r0 n E=ye n E n:=by
  unfold r0 ye;apply eJ;intro v hv;rw[if_pos (cu.1 hv)]
 rw[h0,h1]
 have:=tQ (f:=MI) n (λi=>((n,(n:Int),(i:Int)),ye n E i)) (n,ye n E n) (λi hi=>by
  have eg:(i:Int)<n:=by omega
  have hl:=Xz E i;have g0:(ye n E i)[i]?=some (qv E i):=by rw[XB hi,if_neg (Nat.lt_irrefl i)]
  have hs:=D2Z g0 (by omega)
  have xj:(lK (qv E i)).length=(qv E i).length:=Hv _;have g1:((ye n E i).set i (lK (qv E i)))[i]?=some (lK (qv E i)):=by simp[Nv,hi]
  obtain⟨l',c1,c2,c3⟩:=C7E g1 (by omega)
  have g2:((ye n E i).set i l')[i]?=some l':=by simp[Nv,hi]
  have g3:(jg (lK (qv E i))).length=(aP (jg (lK (qv E i))).length l').length:=by rw[c2]
  have bq:iI i i=true:=by simp
  simp only[MI,eg,decide_true,cond_true,aq,ar,lB hi,g0,ai,hs,g1,c1,g2,bq,jE c3,c2,beq_self_eq_true,nK,D1a hi,iQ (show i<9223372036854775807 by omega)]) (by
  simp only[MI,ba,decide_false,cond_false])
 simpa using this
theorem XC (n:Nat)(E:oW):(r0 n E).length=n:=by simp[r0]
theorem C1W {n:Nat}{E:oW}(hn:n<=1000)(hr:Ej n E)(hE:E.length<=1000):Jv ((n:Int),E)=some (r0 n E):=by
 unfold Jv;simp only[aq,decide_true,cond_true,ar,lu];rw[jE (show n*24<=140737488355328 by omega)]
 simp only[cond_true,D09 hr hE,ai,D1b hn hE];rw[jE (show n<=(r0 n E).length by rw[XC];exact ay _)]
 have e:aP n (r0 n E)=r0 n E:=a6 (by rw[XC];exact ay _)
 refine congrArg some ?_;refine Eq.trans ?_ (B4A (r0 n E));exact congrArg (λl:List (List Int)=>fp (uR (Ty.vec 1 (Ty.int af))) l) e
theorem C1I {n v:Nat}{E:oW}(h:v<(r0 n E).length):(r0 n E)[v]=jg (lK (qv E v)):=by simp[r0]
theorem C9p {n v:Nat}{E:oW}{w:Int}(h:v<(r0 n E).length):w∈(r0 n E)[v]↔((v:Int),w)∈E:=by
 rw[C1I h,Ro,Rn,C5V]
theorem D1c {n:Nat}{E:oW}(hn:n<=1000)(hr:Ej n E)(hE:E.length<=1000):NB n (r0 n E) where
 len:=XC n E
 yd:=by
  intro l hl w hw;obtain⟨v,hv,rfl⟩:=pd hl
  have:=hr _ ((C9p hv).1 hw)
  exact this.2.2
 Rp:=by
  intro l hl;obtain⟨v,hv,rfl⟩:=pd hl;rw[C1I hv];have h1:=Ns (lK (qv E v));rw[Hv] at h1;have h2:=Xz E v;omega
 small:=hn
end Go.Mid
namespace Go.Mid
def HL (n:Int)(e:Int×Int):Bool:=decide (e.1<0) || decide (e.1 ≥ n) || decide (e.2<0) || decide (e.2 ≥ n)
def JK (n:Int)(l:List (Int×Int)):Int:=if n>1000 then 3 else if(l.length:Int)>20000 then 3 else if n<0 then 1 else if l.any (HL n) then 1 else 0
theorem D5Q:cP 0 2=true:=rfl
theorem D5R:cP 1 2=true:=rfl
theorem XD {n:Int}{e:Int×Int}:HL n e=true↔e.1<0∨e.1 ≥ n∨e.2<0∨e.2 ≥ n:=by
 simp[HL,or_assoc]
theorem C0t (n:Int)(l:List (Int×Int)):MG (n,l)=some (JK n l):=by
 unfold MG JK;simp only[gt_iff_lt];by_cases h1:1000<n
 . simp[h1]
 by_cases h2:(20000:Int)<l.length
 . simp[h1,h2]
 by_cases h3:n<0
 . simp[h1,h2,h3]
 simp only[h1,h2,h3,decide_false,cond_false,if_false]
 have:=wo (f:=QI) l (λi=>(n,l,(l.length:Int),(i:Int))) (HL n) (.inl 1) (.inr ()) (λi hi=>by
  have eg:(i:Int)<l.length:=by omega
  simp only[QI,eg,decide_true,cond_true,aq,ar,ah hi,ai,D5Q,D5R,iQ (show i<9223372036854775807 by omega)]
  generalize l[i]=e;by_cases hb:HL n e=true
  . rw [if_pos hb];rw [XD] at hb;by_cases c1:(if e.2<e.1 then e.2 else e.1)<0
    . simp only[c1,decide_true,cond_true]
    . have c2:(if e.2>e.1 then e.2 else e.1) ≥ n:=by
       split at c1<;>split<;>omega
      simp only[c1,c2,decide_true,decide_false,cond_true,cond_false]
  . rw [if_neg hb];rw [XD] at hb;have c1:¬ (if e.2<e.1 then e.2 else e.1)<0:=by split<;>omega
    have c2:¬(if e.2>e.1 then e.2 else e.1) ≥ n:=by split<;>omega
    simp only[c1,c2,decide_false,cond_false]) (by
  simp only[QI,ba,decide_false,cond_false])
 simp only[b7] at this;rw[this];by_cases h4:l.any (HL n)=true
 . simp[h4]
 . simp only[h4];rfl
end Go.Mid
namespace Go.Mid
def BU (n:Nat)(g:Nat->Bool):List Bool:=(bA n).map g
theorem Rr (n:Nat)(g:Nat->Bool):(BU n g).length=n:=by simp[BU]
theorem Rs {n j:Nat}{g:Nat->Bool}(h:j<n):(BU n g)[j]?=some (g j):=by simp[BU,h]
theorem XE {n:Nat}{g h:Nat->Bool}(e:∀j,j<n->g j=h j):BU n g=BU n h :=
 eJ λj hj=>e j (cu.1 hj)
theorem C4h {n j:Nat}{g:Nat->Bool}(h:j<n)(x:Bool):(BU n g).set j x=BU n (λb=>if b=j then x else g b):=by
 apply fy;intro v;rw[dD,Rr];by_cases hv:v<n
 . rw [Rs hv];by_cases e:j=v
   . subst e;rw[Rs hv];simp[h]
   . have:¬ v=j:=λh=>e h.symm
     simp[e,this,Rs hv]
 . rw [bJ (by rw [Rr];omega),bJ (by rw [Rr];omega)]
   have:¬j=v:=by omega
   rw[if_neg this]
theorem D1d (n:Nat):au n false=BU n (λ_=>false):=by
 simp[BU,se]
end Go.Mid
namespace Go.Mid
end Go.Mid
namespace Go.Mid
theorem XF {α:Type}{p q:α->Bool}:∀ {l:List α},(∀ x∈l,p x=true->q x=true)->(∃ x∈l,p x=false∧q x=true)->l.countP p<l.countP q
 | [],_,h=>by obtain⟨x,hx,_⟩:=h;cases hx
 |a::l,hm,h=>by
   have hle:l.countP p<=l.countP q:=List.countP_mono_left λx hx=>hm x (bC _ hx)
   have ha:=hm a (by simp)
   rw[rz,rz];obtain⟨x,hx,h1,h2⟩:=h;rcases aG.1 hx with e | e
   . subst e;simp only[h1,h2,if_true];simp;omega
   . have:=XF (λx hx=>hm x (bC _ hx)) ⟨x,e,h1,h2⟩
     by_cases sg:p a=true
     . simp only[sg,ha sg,if_true];omega
     . rw[if_neg sg];omega
theorem Nw {α:Type} [DecidableEq α]:∀ {l m:List α},l.Nodup->(∀ x∈l,x∈m)->l.length<=m.length
 | [],_,_,_=>dg _
 |a::l,m,h,hs=>by
   have h':=bZ.1 h;have JL:=hs a (by simp)
   have:=Nw (l:=l) (m:=m.erase a) h'.2 λx hx=>by
    have hne:x≠a:=λe=>h'.1 (e ▸ hx)
    exact(List.mem_erase_of_ne hne).2 (hs x (bC _ hx))
   rw[List.length_erase_of_mem JL] at this
   have:=List.length_pos_of_mem JL
   simp only[bf];omega
end Go.Mid
namespace Go.Mid
def uX (n:Nat)(o:List Nat):List Bool:=BU n (λv=>o.contains v)
def jA (o:List Nat):List Int:=o.map λk:Nat=>(k:Int)
theorem CZ (o:List Nat):(jA o).length=o.length:=by simp[jA]
theorem C9q (o:List Nat)(v:Nat):jA (o++[v])=jA o++[(v:Int)]:=by simp[jA]
theorem C9r (n:Nat)(o:List Nat):(uX n o).length=n:=Rr ..
theorem C1J {n v:Nat}{o:List Nat}(h:v<n):(uX n o).set v true=uX n (o++[v]):=by
 unfold uX;rw[C4h h];refine XE λj _=>?_
 by_cases e:j=v
 . subst e;simp
 . rw[if_neg e,c6];simp[e]
end Go.Mid
namespace Go.Mid
def BV (n:Nat)(g:Nat->Int):List Int:=(bA n).map g
theorem XG (n:Nat)(g:Nat->Int):(BV n g).length=n:=by simp[BV]
theorem Rt {n j:Nat}{g:Nat->Int}(h:j<n):(BV n g)[j]?=some (g j):=by simp[BV,h]
theorem D1e {n:Nat}{g h:Nat->Int}(e:∀j,j<n->g j=h j):BV n g=BV n h :=
 eJ λj hj=>e j (cu.1 hj)
theorem D1f {n j:Nat}{g:Nat->Int}(h:j<n)(x:Int):(BV n g).set j x=BV n (λb=>if b=j then x else g b):=by
 apply fy;intro v;rw[dD,XG];by_cases hv:v<n
 . rw [Rt hv];by_cases e:j=v
   . subst e;rw[Rt hv];simp[h]
   . have:¬ v=j:=λh=>e h.symm
     simp[e,this,Rt hv]
 . rw [bJ (by rw [XG];omega),bJ (by rw [XG];omega)]
   have:¬j=v:=by omega
   rw[if_neg this]
end Go.Mid
namespace Go.Mid
def tR (E:oW)(u:Nat):List Int:=jg (lK (qv E u))
theorem C5W {E:oW}{u:Nat}{w:Int}:w∈tR E u↔((u:Int),w)∈E:=by
 unfold tR;rw[Ro,Rn,C5V]
theorem XH {n u:Nat}{E:oW}(h:u<n):(r0 n E)[u]?=some (tR E u):=by simp[r0,h,tR]
end Go.Mid
namespace Go.Mid
end Go.Mid
namespace Go.Mid
theorem XI {o:List Nat}{i:Nat}(h:i<o.length):(jA o)[i]?=some (o[i]:Int):=by simp[jA,h]
end Go.Mid
namespace Go.Mid
end Go.Mid
namespace Go.Mid
def D6D (E:oW)(u v:Nat):Bool:=E.any λe=>e.1==(u:Int)&&e.2==(v:Int)
def Nx (p:List Nat):Nat:=p.getLast?.getD 0
theorem B9r (p:List Nat)(v:Nat):Nx (p++[v])=v:=by simp[Nx]
def kZ (M:List (List Nat)):List (List Int):=M.map jA
theorem Ru (M:List (List Nat)):(kZ M).length=M.length:=by simp[kZ]
def JM (n:Nat)(S:Nat->Bool):Nat:=(bA n).countP S
structure LV (n:Nat)(S:Nat->Bool)(L:List (List Nat)):Prop where
 ne:∀p∈L,p ≠ []
 yd:∀p∈L,Nx p<n
 seen:∀p∈L,S (Nx p)=true
 len:∀p∈L,p.length<=JM n S
 Rp:L.length<=JM n S
theorem D20 {n:Nat}{S S':Nat->Bool}(h:∀v,S v=true->S' v=true){v:Nat}(hv:v<n)(h1:S v=false)(h2:S' v=true):JM n S<JM n S' :=
 XF (λx _ hx=>h x hx) ⟨v,cu.2 hv,h1,h2⟩
theorem LV.next {n:Nat}{E:oW}{S S':Nat->Bool}{L N:List (List Nat)}(h:LV n S L)(h2:∀ v,S v=true->S' v=true)
 (h4:∀q∈N,∃p∈L,∃v,v<n∧q=p++[v]∧D6D E (Nx p) v=true∧S v=false∧S' v=true) (h5:JM n S'=JM n S+N.length):LV n S' N where
 ne:=λq hq=>by
  obtain⟨p,_,v,_,rfl,_⟩:=h4 q hq;simp
 yd:=λq hq=>by
  obtain⟨p,_,v,hv,rfl,_⟩:=h4 q hq;rw[B9r];exact hv
 seen:=λq hq=>by
  obtain⟨p,_,v,hv,rfl,_,_,e⟩:=h4 q hq;rw[B9r];exact e
 len:=λq hq=>by
  obtain⟨p,hp,v,hv,rfl,_,e1,e2⟩:=h4 q hq
  have:=h.len p hp
  have:=D20 h2 hv e1 e2
  simp;omega
 Rp:=by omega
end Go.Mid
namespace Go.Mid
end Go.Mid
namespace Go.Mid
inductive Rc (Ed:Nat->Nat->Prop) (a:Nat):Nat->Prop
 |refl:Rc Ed a a
 |tail {b c:Nat}:Rc Ed a b->Ed b c->Rc Ed a c
section
variable {Ed:Nat->Nat->Prop}
theorem Rc.trans {a b c:Nat}(h:Rc Ed a b):Rc Ed b c->Rc Ed a c:=λh2=>by
 induction h2 with
 |refl=>exact h
 |tail _ e ih=>exact ih.tail e
theorem Rc.one {a b:Nat}(h:Ed a b):Rc Ed a b:=Rc.refl.tail h
theorem Rc.closed {P:Nat->Prop}(hP:∀a b,P a->Ed a b->P b){a b:Nat}(h:Rc Ed a b)(ha:P a):P b:=by
 induction h with
 |refl=>exact ha
 |tail _ e ih=>exact hP _ _ ih e
structure kP (Ed:Nat->Nat->Prop)(n:Nat)(G:List Nat)(ix:Nat->Nat)(oE:List Nat)(cnt:Nat)(out:List (List Nat)):Prop where
 cc:(bA n).countP (λv=>ix v != 0)=cnt
 FH:∀v,ix v<=cnt
 yd:∀v,ix v≠0->v<n
 inj:∀u v,ix u≠0->ix u=ix v->u=v
 HM:oE.Pairwise (λa b=>ix a<ix b)
 qw:∀v∈oE,ix v≠0
 JN:∀g∈G,g∈oE
 Ny:∀u w,ix u≠0->u∉oE->Ed u w->ix w≠0∧w∉oE
 blk:∀u∈oE,u∉G->∀w,Ed u w->ix w≠0
 i7:∀u∈oE,∃g∈G,ix g<=ix u∧Rc Ed u g
 i8:∀g∈G,∀u∈oE,ix g<=ix u->Rc Ed g u
 Nz:∀v,ix v≠0->v∉oE->∃C∈out,v∈C
 yf:∀C∈out,C ≠ []∧C.Nodup∧∀u∈C,(ix u≠0∧u∉oE)∧∀w,(w∈C↔Rc Ed u w∧Rc Ed w u)
 JO:out.Pairwise (λC D=>∀x∈C,x∉D)
def y6 {α:Type}(f:Nat->α)(v:Nat)(x:α):Nat->α:=λb=>if b=v then x else f b
theorem tp {α:Type}(f:Nat->α)(v:Nat)(x:α):y6 f v x v=x:=by simp[y6]
theorem yg {α:Type}{f:Nat->α}{v b:Nat}{x:α}(h:b≠v):y6 f v x b=f b:=by simp[y6,h]
theorem B64 {ix:Nat->Nat}{v c:Nat}(h0:ix v=0)(hc:c≠0):∀ m,(bA m).countP (λu=>y6 ix v c u != 0)=(bA m).countP (λu=>ix u != 0)+if v<m then 1 else 0
 |0=>by simp
 |m+1=>by
   rw[List.range_succ,p9,p9,B64 h0 hc m];by_cases e:m=v
   . subst e;have h1:¬ m<m:=by omega
     have h2:m<m+1:=by omega
     simp[tp,h0,hc]
   . have h3:v<m+1↔v<m:=by omega
     simp only[List.countP_singleton,yg e,h3];omega
theorem kP.nil (n:Nat):kP Ed n [] (λ_=>0) [] 0 [] where
 cc:=by simp
 FH:=by simp
 yd:=by simp
 inj:=by simp
 HM:=by simp
 qw:=by simp
 JN:=by simp
 Ny:=by simp
 blk:=by simp
 i7:=by simp
 i8:=by simp
 Nz:=by simp
 yf:=by simp
 JO:=by simp
theorem kP.XJ {n:Nat}{G:List Nat}{ix:Nat->Nat}{oE:List Nat}{cnt:Nat}{out:List (List Nat)}(h:kP Ed n G ix oE cnt out):oE.Nodup :=
 h.HM.imp λ{a b} uO e=>by subst e;omega
theorem kP.push {n:Nat}{G:List Nat}{ix:Nat->Nat}{oE:List Nat}{cnt:Nat}{out:List (List Nat)}(h:kP Ed n G ix oE cnt out){v:Nat}(hv:v<n)(h0:ix v=0)(hG:∀ g∈G,Rc Ed g v) :
 kP Ed n (v::G) (y6 ix v (cnt+1)) (oE++[v]) (cnt+1) out:=by
 have fN:v∉oE:=λhm=>h.qw v hm h0
 have hne:∀u,ix u≠0->u≠v:=λu hu e=>hu (e ▸ h0)
 have zN:∀u,ix u≠0->y6 ix v (cnt+1) u=ix u:=λu hu=>yg (hne u hu)
 have FI:∀u∈oE,y6 ix v (cnt+1) u=ix u:=λu hu=>zN u (h.qw u hu)
 have HN:∀u,y6 ix v (cnt+1) u≠0↔u=v∨ix u≠0:=λu=>by
  by_cases e:u=v
  . subst e;simp[tp]
  . simp[yg e,e]
 refine⟨?_,?_,?_,?_,?_,?_,?_,?_,?_,?_,?_,?_,?_,h.JO⟩
 . rw[B64 h0 (by omega),h.cc,if_pos hv]
 . intro u;by_cases e:u=v
   . subst e;rw[tp];exact ay _
   . rw[yg e];have:=h.FH u;omega
 . intro u hu;rcases (HN u).1 hu with e | e
   . subst e;exact hv
   . exact h.yd u e
 . intro u w hu he;by_cases e1:u=v<;>by_cases e2:w=v
   . rw[e1,e2]
   . subst e1;rw [tp,yg e2] at he
     have:=h.FH w;omega
   . subst e2;rw [tp,yg e1] at he
     have:=h.FH u;omega
   . rw[yg e1] at hu;rw[yg e1,yg e2] at he;exact h.inj u w hu he
 . rw [cF];refine ⟨h.HM.imp_of_mem λ{a b} ha hb uO=>by rw [FI a ha,FI b hb];exact uO,by simp,λa ha b hb=>?_⟩
   rw[aX] at hb;subst hb;rw[FI a ha,tp]
   have:=h.FH a;omega
 . intro u hu;rw [HN];rcases az.1 hu with h1 | h1
   . exact .inr (h.qw u h1)
   . exact .inl (aX.1 h1)
 . intro g hg;rcases aG.1 hg with e | e
   . subst e;simp
   . exact cV _ (h.JN g e)
 . intro u w hu hs he;rcases (HN u).1 hu with e | e
   . subst e;exact(hs (by simp)).elim
   . obtain ⟨a,b⟩:=h.Ny u w e (λhm=>hs (cV _ hm)) he
     refine⟨(HN w).2 (.inr a),λhm=>?_⟩
     rcases az.1 hm with h1 | h1
     . exact b h1
     . rw[aX] at h1;exact hne w a h1
 . intro u hu hg w he;rcases az.1 hu with h1 | h1
   . exact(HN w).2 (.inr (h.blk u h1 (λhm=>hg (bC _ hm)) w he))
   . rw[aX] at h1;subst h1;exact(hg (by simp)).elim
 . intro u hu;rcases az.1 hu with h1 | h1
   . obtain⟨g,hg,a,b⟩:=h.i7 u h1;exact⟨g,bC _ hg,by rw[FI g (h.JN g hg),FI u h1];exact a,b⟩
   . rw[aX] at h1;subst h1;exact⟨u,by simp,ay _,.refl⟩
 . intro g hg u hu hle;rcases az.1 hu with h1 | h1
   . rcases aG.1 hg with e | e
     . subst e;rw [tp,FI u h1] at hle
       have:=h.FH u;omega
     . rw[FI g (h.JN g e),FI u h1] at hle;exact h.i8 g e u h1 hle
   . rw [aX] at h1;subst h1;rcases aG.1 hg with e | e
     . subst e;exact .refl
     . exact hG g e
 . intro u hu hs;rcases (HN u).1 hu with e | e
   . subst e;exact(hs (by simp)).elim
   . exact h.Nz u e λhm=>hs (cV _ hm)
 . intro C hC;obtain ⟨a,b,c⟩:=h.yf C hC;refine ⟨a,b,λu hu=>?_⟩
   obtain⟨⟨c1,c2⟩,c3⟩:=c u hu;refine⟨⟨(HN u).2 (.inr c1),λhm=>?_⟩,c3⟩
   rcases az.1 hm with h1 | h1
   . exact c2 h1
   . rw[aX] at h1;exact hne u c1 h1
theorem kP.stay {n:Nat}{G:List Nat}{ix:Nat->Nat}{oE:List Nat}{cnt:Nat}{out:List (List Nat)}{v:Nat}(h:kP Ed n (v::G) ix oE cnt out)(kF:∀ w,Ed v w->ix w≠0)
 {w:Nat} (hw:w∈oE) (eC:ix w<ix v) (XK:Rc Ed v w):kP Ed n G ix oE cnt out:=by
 refine⟨h.cc,h.FH,h.yd,h.inj,h.HM,h.qw,λg hg=>h.JN g (bC _ hg),h.Ny,λu hu hg x he=>?_,λu hu=>?_,λg hg=>h.i8 g (bC _ hg),h.Nz,h.yf,h.JO⟩
 . by_cases e:u=v
   . subst e;exact kF x he
   . exact h.blk u hu (λhm=>by
      rcases aG.1 hm with h1 | h1
      . exact e h1
      . exact hg h1) x he
 . have key:∃ g∈G,ix g<=ix w∧Rc Ed w g:=by
    obtain⟨g,hg,a,b⟩:=h.i7 w hw;rcases aG.1 hg with e | e
    . subst e;omega
    . exact⟨g,e,a,b⟩
   obtain⟨g,hg,a,b⟩:=h.i7 u hu;rcases aG.1 hg with e | e
   . subst e;obtain⟨k,hk,c,d⟩:=key;exact⟨k,hk,by omega,b.trans (XK.trans d)⟩
   . exact⟨g,e,a,b⟩
theorem kP.pop {n:Nat}{G:List Nat}{ix:Nat->Nat}{S0 T:List Nat}{cnt:Nat}{out:List (List Nat)}{v:Nat}(h:kP Ed n (v::G) ix (S0++v::T) cnt out)(kF:∀ w,Ed v w->ix w≠0)
 (NA:∀g∈G,g∈S0) (XL:∀u∈v::T,∀w∈S0,¬Ed u w):kP Ed n G ix S0 cnt (out++[v::T]):=by
 have hp:=cF.1 h.HM;have JP:∀u,u∈S0->u∈S0++v::T:=λu hu=>cV _ hu
 have hT:∀u,u∈v::T->u∈S0++v::T:=λu hu=>kK _ hu
 have lE:∀u∈v::T,u∉S0:=λu hu hs=>by
  have:=hp.2.2 u hs u hu;omega
 have XM:∀u∈v::T,ix v<=ix u:=λu hu=>by
  rcases aG.1 hu with e | e
  . subst e;exact ay _
  . exact fH ((bN.1 hp.2.1).1 u e)
 have zN:∀u∈v::T,∀w,Ed u w->ix w≠0:=λu hu w he=>by
  by_cases e:u=v
  . subst e;exact kF w he
  . refine h.blk u (hT u hu) (λhm=>?_) w he
    rcases aG.1 hm with h1 | h1
    . exact e h1
    . exact lE u hu (NA u h1)
 have HO:∀u w,(ix u≠0∧u∉S0)->Ed u w->(ix w≠0∧w∉S0):=by
  rintro u w ⟨h1,h2⟩ he;by_cases hu:u∈v::T
  . exact⟨zN u hu w he,λhs=>XL u hu w hs he⟩
  . obtain ⟨a,b⟩:=h.Ny u w h1 (λhm=>by
     rcases az.1 hm with h3 | h3
     . exact h2 h3
     . exact hu h3) he
    exact⟨a,λhs=>b (JP w hs)⟩
 have NC:∀u w,(ix u≠0∧u∉S0++v::T)->Ed u w->(ix w≠0∧w∉S0++v::T):=λu w h1 he=>h.Ny u w h1.1 h1.2 he
 have lD:∀u∈v::T,ix u≠0∧u∉S0:=λu hu=>⟨h.qw u (hT u hu),lE u hu⟩
 have hto:∀u∈v::T,Rc Ed u v:=λu hu=>by
  obtain⟨g,hg,a,b⟩:=h.i7 u (hT u hu);rcases aG.1 hg with e | e
  . subst e;exact b
  . exact((b.closed HO (lD u hu)).2 (NA g e)).elim
 have GA:∀u∈v::T,Rc Ed v u:=λu hu=>h.i8 v (by simp) u (hT u hu) (XM u hu)
 refine⟨h.cc,h.FH,h.yd,h.inj,hp.1,λu hu=>h.qw u (JP u hu),NA,λu w h1 h2 he=>HO u w ⟨h1,h2⟩ he,λu hu hg x he=>?_,λu hu=>?_,λg hg u hu=>h.i8 g (bC _ hg) u (JP u hu),λu hu hs=>?_,λC hC=>?_,?_⟩
 . refine h.blk u (JP u hu) (λhm=>?_) x he
   rcases aG.1 hm with h1 | h1
   . subst h1;exact lE u (by simp) hu
   . exact hg h1
 . obtain ⟨g,hg,a,b⟩:=h.i7 u (JP u hu);rcases aG.1 hg with e | e
   . subst e
     have:=hp.2.2 u hu g (by simp)
     omega
   . exact⟨g,e,a,b⟩
 . by_cases hm:u∈v::T
   . exact⟨v::T,by simp,hm⟩
   . obtain ⟨C,hC,h1⟩:=h.Nz u hu λhh=>by
      rcases az.1 hh with h3 | h3
      . exact hs h3
      . exact hm h3
     exact⟨C,cV _ hC,h1⟩
 . rcases az.1 hC with h1 | h1
   . obtain⟨a,b,c⟩:=h.yf C h1;exact⟨a,b,λu hu=>⟨⟨(c u hu).1.1,λhs=>(c u hu).1.2 (JP u hs)⟩,(c u hu).2⟩⟩
   . rw [aX] at h1;subst h1;have hO:=h.XJ;rw [aT] at hO;refine ⟨by simp,hO.2.1,λu hu=>⟨lD u hu,λw=>⟨λhw=>⟨(hto u hu).trans (GA w hw),(hto w hw).trans (GA u hu)⟩,λ⟨h1,h2⟩=>?_⟩⟩⟩
     obtain⟨a,b⟩:=h1.closed HO (lD u hu);refine b5 λnu=>?_
     have:=h2.closed NC ⟨a,λhm=>by
      rcases az.1 hm with h3 | h3
      . exact b h3
      . exact nu h3⟩
     exact this.2 (hT u hu)
 . rw [cF];refine ⟨h.JO,by simp,λC hC D hD x hx hxD=>?_⟩
   rw[aX] at hD;subst hD;exact((h.yf C hC).2.2 x hx).1.2 (hT x hxD)
theorem kP.fin {n:Nat}{ix:Nat->Nat}{oE:List Nat}{cnt:Nat}{out:List (List Nat)}(h:kP Ed n [] ix oE cnt out):oE=[]:=by
 cases oE with
 |nil=>rfl
 |cons a l =>
   obtain⟨g,hg,_⟩:=h.i7 a (by simp)
   cases hg
structure y7 (Ed:Nat->Nat->Prop)(n:Nat)(G:List Nat)(v:Nat)(ix lo:Nat->Nat)(S0:List Nat)(cnt:Nat)(out:List (List Nat))(hZ j5:Nat->Nat)(T:List Nat)(ju:Nat)(jv:List (List Nat)):Prop where
 inv:kP Ed n G hZ (S0++T) ju jv
 bm:∀u,ix u≠0->hZ u=ix u∧j5 u=lo u
 XN:hZ v≠0
 new:∀u,ix u=0->hZ u≠0->cnt<hZ u
 BW:j5 v<=hZ v
 zO:cnt<=ju
 tT:out <+: jv
 eds:∀u∈T,∀w∈S0,Ed u w->j5 v<=hZ w
 low:(T=[]∧j5 v=hZ v)∨(j5 v<hZ v∧∃w∈S0,hZ w=j5 v∧Rc Ed v w)
structure jX (Ed:Nat->Nat->Prop)(n:Nat)(G:List Nat)(v:Nat)(ix lo:Nat->Nat)(S0:List Nat)(cnt:Nat)(out:List (List Nat))(D:List Nat)(hZ j5:Nat->Nat)(T:List Nat)(ju:Nat)(jv:List (List Nat)):Prop where
 inv:kP Ed n (v::G) hZ (S0++v::T) ju jv
 bm:∀u,ix u≠0->hZ u=ix u∧j5 u=lo u
 C0:hZ v=cnt+1
 new:∀u,ix u=0->hZ u≠0->cnt<hZ u
 zO:cnt+1<=ju
 tT:out <+: jv
 BW:j5 v<=hZ v
 uY:∀x∈D,hZ x≠0
 wA:∀x∈D,x∈S0->j5 v<=hZ x
 wC:∀u∈T,∀w∈S0,Ed u w->j5 v<=hZ w
 low:∃w∈S0++v::T,hZ w=j5 v∧Rc Ed v w
theorem jX.start {n:Nat}{G:List Nat}{v:Nat}{ix lo:Nat->Nat}{S0:List Nat}{cnt:Nat}{out:List (List Nat)}(h:kP Ed n G ix S0 cnt out)(hv:v<n)(h0:ix v=0)(hG:∀ g∈G,Rc Ed g v) :
 jX Ed n G v ix lo S0 cnt out [] (y6 ix v (cnt+1)) (y6 lo v (cnt+1)) [] (cnt+1) out where
 inv:=h.push hv h0 hG
 bm:=λu hu=>by
  have:u≠v:=λe=>hu (e ▸ h0)
  rw[yg this,yg this];exact⟨rfl,rfl⟩
 C0:=tp ..
 new:=λu h1 h2=>by
  by_cases e:u=v
  . subst e;rw[tp];omega
  . rw[yg e] at h2;exact(h2 h1).elim
 zO:=ay _
 tT:=List.prefix_refl _
 BW:=by rw[tp,tp];exact ay _
 uY:=by simp
 wA:=by simp
 wC:=by simp
 low:=⟨v,by simp,by rw[tp,tp],.refl⟩
section
variable {n:Nat}{G:List Nat}{v:Nat}{ix lo:Nat->Nat}{S0:List Nat}{cnt:Nat}{out:List (List Nat)}{D:List Nat}{hZ j5:Nat->Nat}{T:List Nat}{ju:Nat}{jv:List (List Nat)}
theorem jX.sv (h:jX Ed n G v ix lo S0 cnt out D hZ j5 T ju jv):∀u∈v::T,hZ v<=hZ u:=λu hu=>by
 have hp:=cF.1 h.inv.HM;rcases aG.1 hu with e | e
 . subst e;exact ay _
 . exact fH ((bN.1 hp.2.1).1 u e)
theorem jX.on (h:jX Ed n G v ix lo S0 cnt out D hZ j5 T ju jv){x:Nat}(hx:Ed v x)(hs:x∈S0++v::T)(hne:∀ u,ix u≠0->u≠v) :
 jX Ed n G v ix lo S0 cnt out (D++[x]) hZ (y6 j5 v (min (j5 v) (hZ x))) T ju jv where
 inv:=h.inv
 bm:=λu hu=>⟨(h.bm u hu).1,by rw[yg (hne u hu)];exact(h.bm u hu).2⟩
 C0:=h.C0
 new:=h.new
 zO:=h.zO
 tT:=h.tT
 BW:=by rw[tp];have:=h.BW;omega
 uY:=λy hy=>by
  rcases az.1 hy with h1 | h1
  . exact h.uY y h1
  . rw[aX] at h1;subst h1;exact h.inv.qw y hs
 wA:=λy hy h2=>by
  rw[tp];rcases az.1 hy with h1 | h1
  . have:=h.wA y h1 h2;omega
  . rw[aX] at h1;subst h1;omega
 wC:=λu hu w hw he=>by
  rw[tp]
  have:=h.wC u hu w hw he;omega
 low:=by
  rw[tp];by_cases hc:j5 v<=hZ x
  . rw[cX hc];exact h.low
  . rw[jk (by omega)];exact⟨x,hs,rfl,.one hx⟩
theorem jX.off (h:jX Ed n G v ix lo S0 cnt out D hZ j5 T ju jv){x:Nat}(hv:hZ x≠0)(hs:x∉S0++v::T) :
 jX Ed n G v ix lo S0 cnt out (D++[x]) hZ j5 T ju jv where
 inv:=h.inv
 bm:=h.bm
 C0:=h.C0
 new:=h.new
 zO:=h.zO
 tT:=h.tT
 BW:=h.BW
 uY:=λy hy=>by
  rcases az.1 hy with h1 | h1
  . exact h.uY y h1
  . rw[aX] at h1;subst h1;exact hv
 wA:=λy hy h2=>by
  rcases az.1 hy with h1 | h1
  . exact h.wA y h1 h2
  . rw[aX] at h1;subst h1;exact(hs (cV _ h2)).elim
 wC:=h.wC
 low:=h.low
theorem jX.call (h:jX Ed n G v ix lo S0 cnt out D hZ j5 T ju jv){x:Nat}(hx:Ed v x)(h0:hZ x=0)(hne:∀ u,ix u≠0->u≠v)
 {uZ tq:Nat->Nat} {T2:List Nat} {qx:Nat} {nc:List (List Nat)} (h2:y7 Ed n (v::G) x hZ j5 (S0++v::T) ju jv uZ tq T2 qx nc) :
 jX Ed n G v ix lo S0 cnt out (D++[x]) uZ (y6 tq v (min (tq v) (tq x))) (T++T2) qx nc:=by
 have yK:hZ v≠0:=by rw[h.C0];omega
 have HP:=h2.bm v yK;have hkS:∀u∈S0,uZ u=hZ u:=λu hu=>(h2.bm u (h.inv.qw u (cV _ hu))).1
 have zN:∀u,ix u≠0->hZ u≠0:=λu hu=>by rw[(h.bm u hu).1];exact hu
 have sL:S0++v::(T++T2)=(S0++v::T)++T2:=by simp
 refine⟨by rw[sL];exact h2.inv,λu hu=>?_,by rw[HP.1];exact h.C0,λu h3 h4=>?_,by have:=h2.zO;have:=h.zO;omega,h.tT.trans h2.tT,?_,λy hy=>?_,λy hy hs=>?_,λu hu w hw he=>?_,?_⟩
 . rw[yg (hne u hu),(h2.bm u (zN u hu)).1,(h2.bm u (zN u hu)).2];exact h.bm u hu
 . by_cases e:hZ u=0
   . have:=h2.new u e h4;have:=h.zO;omega
   . rw[(h2.bm u e).1];exact h.new u h3 e
 . rw [tp,HP.1,HP.2]
   have:=h.BW;omega
 . rcases az.1 hy with h1 | h1
   . rw[(h2.bm y (h.uY y h1)).1];exact h.uY y h1
   . rw[aX] at h1;subst h1;exact h2.XN
 . rw [tp];rcases az.1 hy with h1 | h1
   . rw [HP.2,hkS y hs]
     have:=h.wA y h1 hs;omega
   . rw[aX] at h1;subst h1;exact(h.inv.qw y (cV _ hs) h0).elim
 . rw [tp];rcases az.1 hu with h1 | h1
   . rw [HP.2,hkS w hw]
     have:=h.wC u h1 w hw he;omega
   . have:=h2.eds u h1 w (cV _ hw) he;omega
 . rw [tp];by_cases hc:tq v<=tq x
   . rw[cX hc];obtain⟨w,a,b,c⟩:=h.low;exact⟨w,by rw[sL];exact cV _ a,by rw[(h2.bm w (h.inv.qw w a)).1,HP.2];exact b,c⟩
   . rw [jk (by omega)]
     rcases h2.low with⟨h3,h4⟩ | ⟨h3,w,a,b,c⟩
     . have h5:=h2.new x h0 h2.XN;have h6:=h.BW;have h7:=h.zO;rw[HP.2,h4] at hc;have h8:=h.C0;omega
     . exact⟨w,by rw[sL];exact cV _ a,b,(Rc.one hx).trans c⟩
theorem jX.stay (h:jX Ed n G v ix lo S0 cnt out D hZ j5 T ju jv)(hD:∀ w,Ed v w->w∈D)(eC:j5 v<hZ v) :
 y7 Ed n G v ix lo S0 cnt out hZ j5 (v::T) ju jv:=by
 obtain⟨w,a,b,c⟩:=h.low;have hw:w∈S0:=by
  rcases az.1 a with h1 | h1
  . exact h1
  . have:=h.sv w h1;omega
 refine⟨h.inv.stay (λx hx=>h.uY x (hD x hx)) a (by omega) c,h.bm,by rw[h.C0];omega,h.new,h.BW,by have:=h.zO;omega,h.tT,λu hu x hx he=>?_,.inr ⟨eC,w,hw,b,c⟩⟩
 rcases aG.1 hu with e | e
 . subst e;exact h.wA x (hD x he) hx
 . exact h.wC u e x hx he
theorem jX.pop (h:jX Ed n G v ix lo S0 cnt out D hZ j5 T ju jv)(hD:∀ w,Ed v w->w∈D)(heq:j5 v=hZ v)(NA:∀ g∈G,g∈S0) :
 y7 Ed n G v ix lo S0 cnt out hZ j5 [] ju (jv++[v::T]):=by
 have eC:∀w∈S0,hZ w<hZ v:=λw hw=>(cF.1 h.inv.HM).2.2 w hw v (by simp)
 refine⟨?_,h.bm,by rw[h.C0];omega,h.new,h.BW,by have:=h.zO;omega,h.tT.trans (List.prefix_append _ _),by simp,.inl ⟨rfl,heq⟩⟩
 rw[bD];refine h.inv.pop (λx hx=>h.uY x (hD x hx)) NA λu hu w hw he=>?_
 have h1:=eC w hw;rcases aG.1 hu with e | e
 . subst e
   have:=h.wA w (hD w he) hw;omega
 . have:=h.wC u e w hw he;omega
end
end
end Go.Mid
namespace Go.Mid
def BX (E:oW):Nat->Nat->Prop:=λu w=>((u:Int),(w:Int))∈E
def tt (n:Nat)(f:Nat->Nat):List Int:=BV n λv=>((f v:Nat):Int)
theorem A5j {n j:Nat}{f:Nat->Nat}(h:j<n):(tt n f)[j]?=some ((f j:Nat):Int):=Rt h
theorem Rv {n v c:Nat}{f:Nat->Nat}(h:v<n):(tt n f).set v (c:Int)=tt n (y6 f v c):=by
 unfold tt;rw[D1f h];refine D1e λj _=>?_
 by_cases e:j=v
 . subst e;simp[tp]
 . simp[e,yg e]
abbrev TSt:=List (List Int)×(List Int×Nat)×(List Int×Nat)×(List Bool×Nat)×(List Int×Nat)×Int×List (List Int)×Nat
def tU (n:Nat)(E:oW)(ix lo:Nat->Nat)(oE:List Nat)(cnt:Nat)(out:List (List Nat)):TSt :=
 (r0 n E,(tt n ix,n),(tt n lo,n),(uX n oE,n),(jA oE,oE.length),(cnt:Int),kZ out,out.length)
theorem C5X (a b:Nat):(if(b:Int)<(a:Int) then(b:Int) else(a:Int))=((min a b:Nat):Int):=by
 split<;>omega
theorem ND {n v:Nat}{o:List Nat}(h:v<n):(uX n o)[v]?=some (o.contains v):=Rs h
theorem B4B {o:List Nat}{v:Nat}(h:v∈o):o.contains v=true:=bj.2 h
theorem B3l {o:List Nat}{v:Nat}(h:v∉o):o.contains v=false:=by
 cases hc:o.contains v
 . rfl
 . exact(h (bj.1 hc)).elim
theorem C4i {n:Nat}{ix:Nat->Nat}{v:Nat}(hv:v<n)(h0:ix v=0):(bA n).countP (λu=>ix u != 0)<n:=by
 have h1:(bA n).countP (λu=>ix u != 0)<(bA n).countP (λ_=>true) :=
  XF (λ_ _ _=>rfl) ⟨v,cu.2 hv,by simp[h0],rfl⟩
 simpa using h1
theorem C7F {S0 T:List Nat}{v:Nat}(h:v∉S0)(hl:(S0++v::T).length<=1000000):MJ (jA (S0++v::T),(v:Int))=some (S0.length:Int):=by
 unfold MJ;have hL:(jA (S0++v::T)).length=(S0++v::T).length:=CZ _;have hlen:S0.length<(S0++v::T).length:=by simp
 have:=tQ (f:=QL) S0.length (λi=>(jA (S0++v::T),(v:Int),((S0++v::T).length:Int),(i:Int))) (.inl (S0.length:Int)) (λi hi=>by
  have rX:i<(S0++v::T).length:=by omega
  have eg:(i:Int)<((S0++v::T).length:Int):=by omega
  have hg:(jA (S0++v::T))[i]?=some ((S0[i]:Nat):Int):=by
   rw[XI rX,List.getElem_append_left hi]
  have hne:(((v:Nat):Int)==((S0[i]:Nat):Int))=false:=by
   rw[beq_eq_false_iff_ne];intro e
   have:v=S0[i]:=by omega
   exact h (this ▸ aM hi)
  simp only[QL,eg,decide_true,cond_true,aq,ar,hg,ai,hne,cond_false,iQ (show i<9223372036854775807 by omega)]) (by
  have eg:(S0.length:Int)<((S0++v::T).length:Int):=by omega
  have hg:(jA (S0++v::T))[S0.length]?=some (v:Int):=by
   rw[XI hlen,List.getElem_append_right (ay _)];simp
  simp only[QL,eg,decide_true,cond_true,aq,ar,hg,ai,beq_self_eq_true])
 simp only[b7] at this;simp only[hL,this,ai,vh]
theorem D21 {n:Nat}{E:oW}{ix lo:Nat->Nat}{S0 L st:List Nat}{cnt:Nat}{out:List (List Nat)}(hL:∀ x∈L,x<n)(hO:(S0++L).Nodup)(hl:L.length<=1000000) :
 dk MK ((L.length,L.length,(L.length:Int),0),jA L,r0 n E,(tt n ix,n),(tt n lo,n),(uX n (S0++L),n),(jA st,st.length),(cnt:Int),kZ out,out.length) =
  some (L.length,jA L,tU n E ix lo st cnt out |>.1,(tt n ix,n),(tt n lo,n),(uX n S0,n),(jA st,st.length),(cnt:Int),kZ out,out.length):=by
 have:=tQ (f:=MK) L.length (λi=>((L.length,L.length,(L.length:Int),(i:Int)),jA L,r0 n E,(tt n ix,n),(tt n lo,n),(uX n (S0++L.drop i),n),(jA st,st.length),(cnt:Int),kZ out,out.length))
  (L.length,jA L,r0 n E,(tt n ix,n),(tt n lo,n),(uX n S0,n),(jA st,st.length),(cnt:Int),kZ out,out.length) (λi hi=>by
  have eg:(i:Int)<(L.length:Int):=by omega
  have hn:L[i]<n:=hL _ (aM hi);have hg:(uX n (S0++L.drop i))[L[i]]?=some true:=by
   rw[ND hn,B4B];rw[bY hi];exact kK _ dS
  have sB:(uX n (S0++L.drop i)).set L[i] false=uX n (S0++L.drop (i+1)):=by
   unfold uX;rw[C4h hn];refine XE λj _=>?_
   have Ek:(S0++L.drop i).Nodup:=hO.sublist (List.Sublist.append_left (List.drop_sublist i L) S0);rw[bY hi] at Ek ⊢;by_cases e:j=L[i]
   . subst e;rw [if_pos rfl,B3l];rw [aT] at Ek;intro hm;rcases az.1 hm with h1 | h1
     . exact Ek.2.2 _ h1 _ dS rfl
     . exact(bZ.1 Ek.2.1).1 h1
   . rw[if_neg e,c6,bj,bj,az,az,aG];simp only[e,false_or]
  simp only[MK,eg,decide_true,cond_true,aq,ar,lB hi,XI hi,ai,lB hn,hg,sB,iQ (show i<9223372036854775807 by omega)]) (by
  simp only[MK,ba,decide_false,cond_false,eS,bD])
 simpa [tU] using this
section
variable {n:Nat}{E:oW}
def C9s (n:Nat)(E:oW)(m:Nat):Prop:=∀ (v:Nat) (ix lo:Nat->Nat) (S0:List Nat) (cnt:Nat) (out:List (List Nat)) (G:List Nat),n-cnt<=m->kP (BX E) n G ix S0 cnt out->v<n->ix v=0->(∀ g∈G,Rc (BX E) g v)->
 ∃hZ j5 T ju jv,(∀k,m<k->FA k ((v:Int),tU n E ix lo S0 cnt out)=some (tU n E hZ j5 (S0++T) ju jv))∧y7 (BX E) n G v ix lo S0 cnt out hZ j5 T ju jv
theorem Rw (hn:n<=1000)(hr:Ej n E)(hE:E.length<=1000){m:Nat}(IH:C9s n E m){v:Nat}(hv:v<n){ix lo:Nat->Nat}(h0:ix v=0){S0:List Nat}{cnt:Nat}{out:List (List Nat)}{G:List Nat}(hG:∀ g∈G,Rc (BX E) g v)(hm:n-(cnt+1)<=m) :
 ∀ (R:List Int) (i:Nat) (hZ j5:Nat->Nat) (T:List Nat) (ju:Nat) (jv:List (List Nat)),(tR E v).drop i=R->i<=(tR E v).length->jX (BX E) n G v ix lo S0 cnt out (((tR E v).take i).map lV) hZ j5 T ju jv->
  ∃ uZ tq T2 qx nc,(∀ k,m<k->dk (Jw (FA k)) (((v:Int),tR E v,((tR E v).length:Int),(i:Int)),tU n E hZ j5 (S0++v::T) ju jv)=some ((v:Int),tU n E uZ tq (S0++v::T2) qx nc)) ∧
   jX (BX E) n G v ix lo S0 cnt out ((tR E v).map lV) uZ tq T2 qx nc
 | [],i,hZ,j5,T,ju,jv,hd,hi,h=>by
   have hie:i=(tR E v).length:=by
    have:=congrArg cz hd
    rw[cm] at this;simp at this;omega
   subst hie;rw[dM] at h;refine⟨hZ,j5,T,ju,jv,λk _=>qc ?_,h⟩
   simp only[Jw,tU,ba,decide_false,cond_false]
 |x::R,i,hZ,j5,T,ju,jv,hd,hi,h=>by
   have rX:i<(tR E v).length:=by
    have:=congrArg cz hd
    rw[cm] at this;simp at this;omega
   have hx:(tR E v)[i]=x∧(tR E v).drop (i+1)=R:=by
    rw[bY rX] at hd;exact List.cons.inj hd
   have hN:=D1c hn hr hE;have pE:tR E v∈r0 n E:=bH (XH hv);have hf:=hN.Rp _ pE;obtain⟨w,hw⟩:∃w:Nat,(tR E v)[i]=(w:Int):=eB (hN.yd _ pE _ (aM rX)).1;have Em:w<n:=by have:=(hN.yd _ pE _ (aM rX)).2;rw[hw] at this;omega
   have Rx:BX E v w:=C5W.1 (hw ▸ aM rX);have BZ:((tR E v).take (i+1)).map lV=((tR E v).take i).map lV++[w]:=by
    rw[vz rX,b9,hw];rfl
   have hne:∀u,ix u≠0->u≠v:=λu hu e=>hu (e ▸ h0)
   have eg:(i:Int)<((tR E v).length:Int):=by omega
   by_cases c0:hZ w=0
   . obtain ⟨uZ,tq,T2,qx,nc,e1,hp⟩:=IH w hZ j5 (S0++v::T) ju jv (v::G) (by have:=h.zO;omega) h.inv Em c0 (λg hg=>by
      rcases aG.1 hg with e | e
      . subst e;exact .one Rx
      . exact(hG g e).trans (.one Rx))
     have h2:=h.call Rx c0 hne hp;rw[←BZ] at h2;obtain⟨NF,NG,T3,B0,B1,e3,h3⟩:=Rw hn hr hE IH hv h0 hG hm R (i+1) _ _ _ _ _ hx.2 rX h2;refine⟨NF,NG,T3,B0,B1,λk hk=>?_,h3⟩
     rw[←e3 k hk];refine vw ?_;have e1:=e1 k hk;have hz:(((hZ w:Nat):Int)==0)=true:=by rw[c0];rfl
     have sL:S0++v::(T++T2)=(S0++v::T)++T2:=by simp
     rw[sL];simp only[tU] at e1 ⊢;simp only[Jw,eg,decide_true,cond_true,aq,ar,ah rX,hw,ai,lB Em,lB hv,A5j Em,A5j hv,hz,e1,C5X,Rv hv,iQ (show i<9223372036854775807 by omega)]
   . have hz:(((hZ w:Nat):Int)==0)=false:=by rw [beq_eq_false_iff_ne];omega
     by_cases c1:w∈S0++v::T
     . have h2:=h.on Rx c1 hne;rw [← BZ] at h2;obtain ⟨NF,NG,T3,B0,B1,e3,h3⟩:=Rw hn hr hE IH hv h0 hG hm R (i+1) _ _ _ _ _ hx.2 rX h2;refine ⟨NF,NG,T3,B0,B1,λk hk=>?_,h3⟩
       rw[←e3 k hk];refine vw ?_;simp only[tU];simp only[Jw,eg,decide_true,cond_true,aq,ar,ah rX,hw,ai,lB Em,lB hv,A5j Em,A5j hv,hz,cond_false,ND Em,B4B c1,C5X,Rv hv,iQ (show i<9223372036854775807 by omega)]
     . have h2:=h.off c0 c1;rw [← BZ] at h2;obtain ⟨NF,NG,T3,B0,B1,e3,h3⟩:=Rw hn hr hE IH hv h0 hG hm R (i+1) _ _ _ _ _ hx.2 rX h2;refine ⟨NF,NG,T3,B0,B1,λk hk=>?_,h3⟩
       rw[←e3 k hk];refine vw ?_;simp only[tU];simp only[Jw,eg,decide_true,cond_true,aq,ar,ah rX,hw,ai,lB Em,lB hv,A5j Em,hz,cond_false,ND Em,B3l c1,iQ (show i<9223372036854775807 by omega)]
theorem kP.len {Ed:Nat->Nat->Prop}{G:List Nat}{ix:Nat->Nat}{oE:List Nat}{cnt:Nat}{out:List (List Nat)}(h:kP Ed n G ix oE cnt out):oE.length<=n:=by
 have:=Nw h.XJ (m:=bA n) λx hx=>cu.2 (h.yd x (h.qw x hx))
 simpa using this
theorem B65:∀ {out:List (List Nat)},(∀ C∈out,C ≠ [])->out.Pairwise (λC D=>∀ x∈C,x∉D)->(out.map λC=>C.headD 0).Nodup
 | [],_,_=>by simp
 |C::r,h1,h2=>by
   have sA:=bN.1 h2;rw[aF,bZ];refine⟨λhm=>?_,B65 (λD hD=>h1 D (bC _ hD)) sA.2⟩
   obtain⟨D,hD,e⟩:=bp.1 hm;have hC:C.headD 0∈C:=by
    cases C with
    |nil=>exact(h1 [] (by simp) rfl).elim
    |cons a l=>simp
   have hD2:D.headD 0∈D:=by
    cases D with
    |nil=>exact(h1 [] (bC _ hD) rfl).elim
    |cons a l=>simp
   rw[e] at hD2;exact sA.1 D hD _ hC hD2
theorem kP.B2 {Ed:Nat->Nat->Prop}{G:List Nat}{ix:Nat->Nat}{oE:List Nat}{cnt:Nat}{out:List (List Nat)}(h:kP Ed n G ix oE cnt out):out.length<=n:=by
 have h1:=B65 (λC hC=>(h.yf C hC).1) h.JO
 have:=Nw h1 (m:=bA n) λx hx=>by
  obtain⟨C,hC,rfl⟩:=bp.1 hx;have hm:C.headD 0∈C:=by
   cases C with
   |nil=>exact((h.yf [] hC).1 rfl).elim
   |cons a l=>simp
  exact cu.2 (h.yd _ ((h.yf C hC).2.2 _ hm).1.1)
 simpa using this
theorem D22 (hn:n<=1000)(hr:Ej n E)(hE:E.length<=1000):∀m,C9s n E m:=by
 intro m
 induction m with
 |zero =>
   intro v ix lo S0 cnt out G hm h hv h0 hG
   have:=C4i hv h0
   rw[h.cc] at this;omega
 |succ m IH =>
   intro v ix lo S0 cnt out G hm h hv h0 hG;have hcn:=C4i hv h0;rw[h.cc] at hcn;have hst:=jX.start (lo:=lo) h hv h0 hG;obtain⟨uZ,tq,T2,qx,nc,e1,hL⟩:=Rw hn hr hE IH hv h0 hG (by omega) (tR E v) 0 _ _ _ _ _ rfl (dg _) hst
   have hD:∀w,BX E v w->w∈(tR E v).map lV:=λw hw=>bp.2 ⟨(w:Int),C5W.2 hw,ar w⟩
   have xj:=h.len;have arj:=hL.inv.len;have Kk:=hL.inv.B2;have OI:aP S0.length (jA S0)=jA S0:=a6 (by rw[CZ];exact ay _)
   have hwr:af.wrap ((cnt:Int)+1)=((cnt+1:Nat):Int):=iQ (by omega)
   have hsn:jA S0++[(v:Int)]=jA (S0++[v]):=(C9q _ _).symm;have ark:S0.length+1=(S0++[v]).length:=by simp
   by_cases hc:tq v=uZ v
   . have hp:=hL.pop hD hc h.JN;refine ⟨uZ,tq,[],qx,nc++[v::T2],λk hk=>?_,hp⟩
     obtain⟨k',rfl⟩:∃k',k=k'+1:=⟨k-1,by omega⟩
     have e1:=e1 k' (by omega)
     have hb:(((tq v:Nat):Int) != ((uZ v:Nat):Int))=false:=by rw[hc];simp
     have hvS:v∉S0:=λhs=>h.qw v hs h0
     have Ct:=C7F (T:=T2) hvS (by omega)
     have tk1:aP (S0++v::T2).length (jA (S0++v::T2))=jA (S0++v::T2):=a6 (by rw[CZ];exact ay _)
     have dr:List.drop S0.length (jA (S0++v::T2))=jA (v::T2):=by
      unfold jA;rw[←List.map_drop,List.drop_left]
     have tk2:aP S0.length (jA (S0++v::T2))=jA S0:=by
      unfold jA;rw[←List.map_take,List.take_left]
     have Dr:(S0++v::T2).length-S0.length=(v::T2).length:=by simp
     have tk3:aP (v::T2).length (jA (v::T2))=jA (v::T2):=a6 (by rw[CZ];exact ay _)
     have hlT:(v::T2).length<=1000:=by
      have:(S0++v::T2).length=S0.length+(v::T2).length:=by simp
      omega
     have nX:Ee 8 (jA (v::T2))=some ((v::T2).length,jA (v::T2)):=by
      unfold Ee;rw[CZ,jE (show (v::T2).length*8<=140737488355328 by omega)]
      rfl
     have Aw:=D21 (n:=n) (E:=E) (ix:=uZ) (lo:=tq) (S0:=S0) (L:=v::T2) (st:=S0) (cnt:=qx) (out:=nc) (λx hx=>hL.inv.yd x (hL.inv.qw x (kK _ hx))) hL.inv.XJ (by omega)
     simp only[tU] at e1 Aw ⊢;have tk4:aP nc.length (kZ nc)=kZ nc:=a6 (by rw[Ru];exact ay _)
     have qN:kZ nc++[jA (v::T2)]=kZ (nc++[v::T2]):=by simp[kZ]
     have q1:iI 0 0=true:=rfl;have q2:iI 1 1=true:=rfl;show ML (FA k') _=_;have bb:Nat.ble (S0.length+(v::T2).length) (S0++v::T2).length=true:=jE (by simp)
     simp only[ML,aq,decide_true,cond_true,ar,lB hv,A5j hv,ai,beq_self_eq_true,CZ,jE (ay _),OI,aR,bf,cM,ND hv,XH hv,hwr,Rv hv,C1J hv,hsn];simp only[aR,bf,cM,b7,bS] at e1 Ct bb Dr nX Aw tk1 tk3 hlT;rw[jE (show (S0.length+1)*8<=140737488355328 by omega)]
     simp only[cond_true,bS,jE (ay _),e1,ai,aq,decide_true,ar,lB hv,A5j hv,hb,cond_false,tk1,Ct,jE (Nat.le_add_right _ _),Dr,bb,dr,tk3,nX,tk2,Aw,CZ,bf,q1,q2,beq_self_eq_true,Ru,tk4,qN,bD];rw[jE (show (nc.length+1)*24<=140737488355328 by omega),jE (show S0.length+(T2.length+1)<=(S0++v::T2).length by simp)]
     rfl
   . have eC:tq v<uZ v:=by have:=hL.BW;omega
     have hp:=hL.stay hD eC;refine⟨uZ,tq,v::T2,qx,nc,λk hk=>?_,hp⟩
     obtain⟨k',rfl⟩:∃k',k=k'+1:=⟨k-1,by omega⟩
     have e1:=e1 k' (by omega)
     have hb:(((tq v:Nat):Int) != ((uZ v:Nat):Int))=true:=by simp;omega
     simp only[tU] at e1 ⊢;show ML (FA k') _=_;simp only[ML,aq,decide_true,cond_true,ar,lB hv,A5j hv,ai,beq_self_eq_true,CZ,jE (ay _),OI,aR,bf,cM,ND hv,XH hv,hwr,Rv hv,C1J hv,hsn];simp only[aR,bf,cM,b7,bS] at e1;rw[jE (show (S0.length+1)*8<=140737488355328 by omega)]
     simp only[cond_true,bS,jE (ay _),e1,ai,aq,decide_true,ar,lB hv,A5j hv,hb]
end
end Go.Mid
namespace Go.Mid
def kh (C:List Nat):Nat:=C.headD 0
def yh (M:List (List Nat)):Nat->List (List Nat)
 |0=>M
 | j+1=>match M[j+1]?,M[j]? with
   |some x,some y=>if kh x<kh y then yh ((M.set (j+1) y).set j x) j else M
   |_,_=>M
theorem C5Y:∀ (j:Nat) (M:List (List Nat)),(yh M j).length=M.length
 |0,M=>rfl
 |j+1,M=>by
   unfold yh;split
   . split
     . rw[C5Y j];simp
     . rfl
   . rfl
def FJ (x:List Nat)(P:List (List Nat)):List (List Nat):=(P.filter λy=>!decide (kh x<kh y))++x::P.filter λy=>decide (kh x<kh y)
theorem C5Z:∀ (j:Nat) (P:List (List Nat)) (x:List Nat) (R:List (List Nat)),P.length=j->P.Pairwise (λa b=>kh a<=kh b)->yh (P++x::R) j=FJ x P++R
 |0,P,x,R,hl,hp=>by
   have:P=[]:=dA.1 hl
   subst this;rfl
 |j+1,P,x,R,hl,hp=>by
   have hne:P ≠ []:=λe=>by rw[e] at hl;simp at hl
   obtain⟨Q,y,rfl⟩:∃Q y,P=Q++[y]:=⟨P.dropLast,P.getLast hne,(List.dropLast_concat_getLast hne).symm⟩;have hQ:Q.length=j:=by simpa using hl
   have h1:(Q++[y]++x::R)[j+1]?=some x:=by rw[bG (by omega),hl];simp
   have h2:(Q++[y]++x::R)[j]?=some y:=by rw[bg,bG (by omega),hQ];simp
   have iw:=cF.1 hp;unfold yh;rw[h1,h2]
   dsimp only
   by_cases c:kh x<kh y
   . rw [if_pos c];have hs:(((Q++[y]++x::R).set (j+1) y).set j x)=Q++x::(y::R):=by
      rw[eh _ _ (by omega),hl]
      simp only[gx,dR];rw[bg,eh _ _ (by omega),hQ]
      simp
     rw[hs,C5Z j Q x (y::R) hQ iw.1];unfold FJ;simp[s8,c]
   . rw [if_neg c];have kF:∀ z∈Q++[y],¬ kh x<kh z:=λz hz=>by
      rcases az.1 hz with h | h
      . have:=iw.2.2 z h y (by simp)
        omega
      . rw[aX] at h;subst h;exact c
     have f1:(Q++[y]).filter (λz=>!decide (kh x<kh z))=Q++[y]:=List.filter_eq_self.2 λz hz=>by simp;have:=kF z hz;omega
     have f2:(Q++[y]).filter (λz=>decide (kh x<kh z))=[]:=kC.2 λz hz=>by simp;have:=kF z hz;omega
     unfold FJ;rw[f1,f2];simp
theorem C9t (x:List Nat)(P:List (List Nat)):(FJ x P).Perm (x::P):=by
 unfold FJ;refine List.perm_middle.trans (List.Perm.cons x ?_)
 have:=List.filter_append_perm (λy=>!decide (kh x<kh y)) P
 simpa using this
theorem C4Y {x:List Nat}{P:List (List Nat)}(h:P.Pairwise (λa b=>kh a<=kh b)):(FJ x P).Pairwise (λa b=>kh a<=kh b):=by
 unfold FJ;rw[cF,bN];refine⟨h.filter _,⟨λy hy=>?_,h.filter _⟩,λa ha b hb=>?_⟩
 . have:=(cZ.1 hy).2
   simp at this;omega
 . have h1:=(cZ.1 ha).2;simp at h1;rcases aG.1 hb with e | e
   . subst e;exact h1
   . have h2:=(cZ.1 e).2;simp at h2;omega
def Ax (M:List (List Nat)):Nat->List (List Nat)
 |0=>M
 |i+1=>yh (Ax M i) (i+1)
theorem C4j (M:List (List Nat)):∀ i,(Ax M i).length=M.length
 |0=>rfl
 |i+1=>by unfold Ax;rw[C5Y,C4j M i]
theorem C1K (M:List (List Nat)):∀ k,k<M.length->∃ P,Ax M k=P++M.drop (k+1)∧P.Perm (M.take (k+1))∧P.Pairwise (λa b=>kh a<=kh b)
 |0,h=>⟨M.take 1,(bM 1 M).symm,List.Perm.refl _,by
    cases M with
    |nil=>simp
    |cons a l=>simp⟩
 |k+1,h=>by
   obtain⟨P,h1,h2,h3⟩:=C1K M k (by omega)
   have hPl:P.length=k+1:=by rw[h2.length_eq,aW];omega
   have hd:M.drop (k+1)=M[k+1]::M.drop (k+1+1):=bY h;refine⟨FJ M[k+1] P,?_,?_,C4Y h3⟩
   . unfold Ax;rw[h1,hd,C5Z (k+1) P _ _ hPl h3]
   . rw[vz h];refine(C9t _ _).trans ?_;refine(List.Perm.cons _ h2).trans ?_;exact List.perm_append_comm (l₁:=[M[k+1]])
def xr (M:List (List Nat)):List (List Nat):=Ax M (M.length-1)
theorem C1L (M:List (List Nat)):(xr M).Perm M∧(xr M).Pairwise (λa b=>kh a<=kh b):=by
 by_cases h:M=[]
 . subst h;exact⟨List.Perm.refl _,by simp[xr,Ax]⟩
 . have hl:=gQ.2 h;obtain ⟨P,h1,h2,h3⟩:=C1K M (M.length-1) (by omega)
   have e:M.length-1+1=M.length:=by omega
   rw[e,eS,bD] at h1;rw[e,dM] at h2;unfold xr;rw[h1];exact⟨h2,h3⟩
theorem C9u {x y:List Nat}(hx:x ≠ [])(hy:y ≠ []):QO (jA x,jA y)=some (if kh x<kh y then -1 else if kh y<kh x then 1 else 0):=by
 have g:∀{z:List Nat},z ≠ []->(jA z)[0]?=some ((kh z:Nat):Int):=λ{z} hz=>by
  cases z with
  |nil=>exact(hz rfl).elim
  |cons a l=>rfl
 simp only[QO,g hx,g hy,ai,WB,QN,bne_self_eq_false,cond_false,gt_iff_lt];by_cases h1:kh x<kh y
 . have:((kh x:Nat):Int)<(kh y:Nat):=by omega
   simp[h1,this]
 . have n1:¬ ((kh x:Nat):Int)<(kh y:Nat):=by omega
   by_cases h2:kh y<kh x
   . have:((kh y:Nat):Int)<(kh x:Nat):=by omega
     simp[h1,h2,n1,this]
   . have n2:¬ ((kh y:Nat):Int)<(kh x:Nat):=by omega
     simp[h1,h2,n1,n2]
theorem Ry {M:List (List Nat)}{j:Nat}:(kZ M)[j]?=(M[j]?).map jA:=by simp[kZ]
theorem C50 {M:List (List Nat)}{j:Nat}{x:List Nat}:(kZ M).set j (jA x)=kZ (M.set j x):=by simp[kZ,gw]
section
variable (q1:List (List Int))(rI:List Int)(rJ:Nat)(rK:List Int)(rL:Nat)(rM:List Bool)(rN:Nat)(rO:List Int)(rP:Nat)(q6:Int)(m:Nat)
theorem C9v (i b:Int):∀ (j:Nat) (M:List (List Nat)),(∀ C∈M,C ≠ [])->j<M.length->M.length<=1000->
 dk MM ((M.length,0,b,(),i,(j:Int)),q1,(rI,rJ),(rK,rL),(rM,rN),(rO,rP),q6,kZ M,m)=some ((M.length,0,b,(),i),q1,(rI,rJ),(rK,rL),(rM,rN),(rO,rP),q6,kZ (yh M j),m)
 |0,M,hne,hj,hl=>by
   refine qc ?_;simp only[MM,gt_iff_lt,b7,ba,decide_false,cond_false,yh]
 |j+1,M,hne,hj,hl=>by
   have Dy:j<M.length:=by omega
   have Nj:(((j+1:Nat):Int)>0):=by omega
   have hw:af.wrap (((j+1:Nat):Int)-1)=(j:Int):=by rw[wrap_i64 (by omega) (by omega)];omega
   have g1:M[j+1]?=some M[j+1]:=ah hj;have g2:M[j]?=some M[j]:=ah Dy;have n1:=hne _ (aM hj);have n2:=hne _ (aM Dy);by_cases c:kh M[j+1]<kh M[j]
   . have hb:yh M (j+1)=yh ((M.set (j+1) M[j]).set j M[j+1]) j:=by
      conv=>lhs;unfold yh
      rw[g1,g2]
      dsimp only
      rw[if_pos c]
     have ih:=C9v i b j ((M.set (j+1) M[j]).set j M[j+1]) (λC hC=>by
      rcases bx hC with h | h
      . rcases bx h with h | h
        . exact hne C h
        . subst h;exact n2
      . subst h;exact n1) (by simpa using Dy) (by simpa using hl)
     rw[hb];have e:((M.set (j+1) M[j]).set j M[j+1]).length=M.length:=by simp
     rw[e] at ih;rw[←ih];refine vw ?_;have eC:(-1:Int)<0:=by decide
     have g3:(M.set (j+1) M[j])[j]?=some M[j]:=by rw[fg (by omega)];exact g2
     simp only[MM,Nj,decide_true,cond_true,aq,ar,lB hj,lB Dy,hw,Ry,g1,g2,g3,ak,ai,C9u n1 n2,c,if_true,eC,C50]
   . have hb:yh M (j+1)=M:=by
      unfold yh;rw[g1,g2]
      dsimp only
      rw[if_neg c]
     rw[hb];refine qc ?_;have Du:¬(if kh M[j]<kh M[j+1] then(1:Int) else 0)<0:=by split<;>decide
     simp only[MM,Nj,decide_true,cond_true,aq,ar,lB hj,lB Dy,hw,Ry,g1,g2,ak,ai,C9u n1 n2,c,if_false,Du,decide_false,cond_false]
theorem D23 {M:List (List Nat)}{j:Nat}{C:List Nat}(h:C∈yh M j):C∈M:=by
 induction j generalizing M with
 |zero=>exact h
 |succ j ih =>
   unfold yh at h;split at h
   . rename_i x y h1 h2;split at h
     . rcases bx (ih h) with h3 | h3
       . rcases bx h3 with h4 | h4
         . exact h4
         . subst h4;exact bH h2
       . subst h3;exact bH h1
     . exact h
   . exact h
theorem C4k {M:List (List Nat)}{C:List Nat}:∀ {i:Nat},C∈Ax M i->C∈M
 |0,h=>h
 |i+1,h=>C4k (i:=i) (D23 h)
theorem C4l (M:List (List Nat))(hne:∀ C∈M,C ≠ [])(hl:M.length<=1000) :
 QP ((M.length,0,(M.length:Int),()),q1,(rI,rJ),(rK,rL),(rM,rN),(rO,rP),q6,kZ M,m)=some (q1,(rI,rJ),(rK,rL),(rM,rN),(rO,rP),q6,kZ (xr M),m):=by
 unfold QP;have w1:af.wrap ((0:Int)+1)=((0+1:Nat):Int):=rfl;by_cases h0:M=[]
 . subst h0
   have:=qc (f:=MN) (a:=((0,0,0,(),((0+1:Nat):Int)),q1,(rI,rJ),(rK,rL),(rM,rN),(rO,rP),q6,kZ [],m)) (r:=(q1,(rI,rJ),(rK,rL),(rM,rN),(rO,rP),q6,kZ [],m)) rfl
   simp only[cM,b7,w1,this,ai];rfl
 . have hlp:=gQ.2 h0
   have:=tQ (f:=MN) (M.length-1) (λi=>((M.length,0,(M.length:Int),(),((i+1:Nat):Int)),q1,(rI,rJ),(rK,rL),(rM,rN),(rO,rP),q6,kZ (Ax M i),m)) (q1,(rI,rJ),(rK,rL),(rM,rN),(rO,rP),q6,kZ (xr M),m) (λi hi=>by
    have eg:((i+1:Nat):Int)<(M.length:Int):=by omega
    have Ef:=C4j M i;have h1:=C9v q1 rI rJ rK rL rM rN rO rP q6 m ((i+1:Nat):Int) (M.length:Int) (i+1) (Ax M i) (λC hC=>hne C (C4k hC)) (by omega) (by omega)
    rw[Ef] at h1;simp only[MN,eg,decide_true,cond_true,h1,ai,iQ (show i+1<9223372036854775807 by omega),Ax]) (by
    have e:M.length-1+1=M.length:=by omega
    simp only[MN,e,ba,decide_false,cond_false,xr])
   simp only[Ax] at this;simp only[w1,this,ai]
theorem D1g (M:List (List Nat))(hne:∀ C∈M,C ≠ [])(hl:M.length<=12)(y:Int)(hy:Jo (aK.wrap (M.length:Int))=some y) :
 MO ((M.length,()),q1,(rI,rJ),(rK,rL),(rM,rN),(rO,rP),q6,kZ M,m)=some (q1,(rI,rJ),(rK,rL),(rM,rN),(rO,rP),q6,kZ (xr M),m):=by
 unfold MO WD;have h1:=C4l q1 rI rJ rK rL rM rN rO rP q6 m M hne (by omega)
 have hw:af.wrap ((M.length:Int)-0)<=12:=by rw[wrap_i64 (by omega) (by omega)];omega
 have:=qc (f:=WC) (a:=((M.length,0,(M.length:Int),y,(),true,true),q1,(rI,rJ),(rK,rL),(rM,rN),(rO,rP),q6,kZ M,m)) (r:=(q1,(rI,rJ),(rK,rL),(rM,rN),(rO,rP),q6,kZ (xr M),m)) (by
  simp only[WC,hw,decide_true,cond_true,h1,ai])
 simp only[hy,ai,this]
end
end Go.Mid
namespace Go.Mid
def q9 (C:List Nat):List Nat:=(lK (jA C)).map lV
theorem Rz (C:List Nat):jA (q9 C)=lK (jA C):=by
 unfold jA q9;rw[List.map_map]
 have:∀l:List Int,(∀x∈l,0<=x)->l.map ((λk:Nat=>(k:Int)) ∘ lV)=l:=by
  intro l h
  induction l with
  |nil=>rfl
  |cons a l ih =>
    rw[aF,ih λx hx=>h x (bC _ hx)]
    have:=h a (by simp)
    simp only[Function.comp];congr 1;omega
 refine this _ λx hx=>?_
 have hx:=Rn.1 hx;obtain⟨k,_,rfl⟩:=bp.1 hx;omega
theorem C4m {C:List Nat}{v:Nat}:(v:Int)∈jA C↔v∈C:=by
 unfold jA;rw[bp];constructor
 . rintro ⟨k,hk,e⟩
   have:k=v:=by omega
   exact this ▸ hk
 . intro h;exact⟨v,h,rfl⟩
theorem JQ {C:List Nat}{v:Nat}:v∈q9 C↔v∈C:=by
 rw[←C4m,Rz,Rn,C4m]
theorem C7G {C:List Nat}(h:C.Nodup):(jA C).Nodup:=by
 unfold jA;unfold yo at h ⊢;rw[eG];exact h.imp λh e=>h (by omega)
theorem D24 {C:List Nat}(h:C.Nodup):(q9 C).Pairwise (· < ·):=by
 have h1:=C9l (C7G h);rw[←Rz] at h1;unfold jA at h1;rw[eG] at h1;exact h1.imp λh=>by omega
theorem RA {C:List Nat}(h:C ≠ []):q9 C ≠ []:=by
 cases C with
 |nil=>exact(h rfl).elim
 |cons a l =>
   have:a∈q9 (a::l):=JQ.2 (by simp)
   intro e;rw[e] at this;cases this
theorem XO {C:List Nat}(h:C ≠ []):kh C∈C:=by
 cases C with
 |nil=>exact(h rfl).elim
 |cons a l=>simp[kh]
structure B3 (n:Nat)(Ed:Nat->Nat->Prop)(L:List (List Nat)):Prop where
 ne:∀C∈L,C ≠ []
 asc:∀C∈L,C.Pairwise (· < ·)
 hd:L.Pairwise (λC D=>kh C<kh D)
 cls:∀C∈L,∀u∈C,u<n∧∀w,(w∈C↔Rc Ed u w∧Rc Ed w u)
 all:∀v,v<n->∃C∈L,v∈C
theorem D41 {n:Nat}{Ed:Nat->Nat->Prop}{ix:Nat->Nat}{cnt:Nat}{out:List (List Nat)}(h:kP Ed n [] ix [] cnt out)(kF:∀v,v<n->ix v≠0):B3 n Ed (xr (out.map q9)):=by
 obtain⟨h1,h2⟩:=C1L (out.map q9);have hm:∀C,C∈xr (out.map q9)↔∃D∈out,q9 D=C:=λC=>by rw[h1.mem_iff,bp]
 refine⟨λC hC=>?_,λC hC=>?_,?_,λC hC u hu=>?_,λv hv=>?_⟩
 . obtain⟨D,hD,rfl⟩:=(hm C).1 hC;exact RA (h.yf D hD).1
 . obtain⟨D,hD,rfl⟩:=(hm C).1 hC;exact D24 (h.yf D hD).2.1
 . have hd:(out.map q9).Pairwise (λC D=>kh C≠kh D):=by
    rw[eG];refine h.JO.imp_of_mem λ{C D} hC hD lE e=>?_
    have a:=JQ.1 (XO (RA (h.yf C hC).1));have b:=JQ.1 (XO (RA (h.yf D hD).1));rw[e] at a;exact lE _ a b
   have hd2:=(h1.pairwise_iff (R:=λC D=>kh C≠kh D) (λ{a b} uO e=>uO e.symm)).2 hd
   exact(h2.and hd2).imp λ⟨a,b⟩=>by omega
 . obtain⟨D,hD,rfl⟩:=(hm C).1 hC;have hu:=JQ.1 hu;obtain⟨a,b⟩:=(h.yf D hD).2.2 u hu;exact⟨h.yd u a.1,λw=>by rw[JQ];exact b w⟩
 . obtain ⟨D,hD,xF⟩:=h.Nz v (kF v hv) (by simp)
   exact⟨q9 D,(hm _).2 ⟨D,hD,rfl⟩,JQ.2 xF⟩
section
variable (q1:List (List Int))(rI:List Int)(rJ:Nat)(rK:List Int)(rL:Nat)(rM:List Bool)(rN:Nat)(rO:List Int)(rP:Nat)(q6:Int)
theorem C7H (M:List (List Nat))(hne:∀ C∈M,C.length<=1000)(hl:M.length<=1000) :
 dk MP ((M.length,M.length,(M.length:Int),0),q1,(rI,rJ),(rK,rL),(rM,rN),(rO,rP),q6,kZ M,M.length)=some (M.length,q1,(rI,rJ),(rK,rL),(rM,rN),(rO,rP),q6,kZ (M.map q9),M.length):=by
 let T:Nat->List (List Nat):=λi=>(M.take i).map q9++M.drop i
 have hT0:T 0=M:=by simp[T]
 have hTn:T M.length=M.map q9:=by simp[T]
 have:=tQ (f:=MP) M.length (λi=>((M.length,M.length,(M.length:Int),(i:Int)),q1,(rI,rJ),(rK,rL),(rM,rN),(rO,rP),q6,kZ (T i),M.length)) (M.length,q1,(rI,rJ),(rK,rL),(rM,rN),(rO,rP),q6,kZ (T M.length),M.length) (λi hi=>by
  have eg:(i:Int)<(M.length:Int):=by omega
  have hTi:((M.take i).map q9).length=i:=by rw[aB,aW];omega
  have hg:(kZ (T i))[i]?=some (jA M[i]):=by
   rw[Ry];simp only[T];rw[bG (by omega),hTi,gx,bY hi]
   rfl
  have sB:(T i).set i (q9 M[i])=T (i+1):=by
   simp only[T];rw[eh _ _ (by omega),hTi,gx,bY hi,dR,vz hi,b9]
   simp
  have hlen:=hne _ (aM hi);have tk:aP (jA M[i]).length (jA M[i])=jA M[i]:=pN _;have ov:m8 (jA M[i]) none (lK (jA M[i]))=jA (q9 M[i]):=by
   unfold m8;simp only;rw[Hv,eS,bD,Rz]
  have hle:((jA M[i]).length==(jA (q9 M[i])).length)=true:=by rw[Rz,Hv];simp
  have hS:QM ((i,(jA M[i]).length),q1,(rI,rJ),(rK,rL),(rM,rN),(rO,rP),q6,kZ (T i),M.length)=some (q1,(rI,rJ),(rK,rL),(rM,rN),(rO,rP),q6,kZ (T (i+1)),M.length):=by
   simp only[QM,hg,ai,jE (ay _),cond_true,tk,ov,hle,C50,sB];rw[lB (by rw[CZ];omega)]
   rfl
  simp only[MP,eg,decide_true,cond_true,aq,ar,lB hi,hg,ai,hS,iQ (show i<9223372036854775807 by omega)]) (by
  simp only[MP,ba,decide_false,cond_false])
 rw[hT0,hTn] at this;exact this
theorem B4C (k:Nat)(h:k<=12):∃y,Jo (aK.wrap (k:Int))=some y:=by
 have:((bA 13).all λk=>(Jo (aK.wrap ((k:Nat):Int))).isSome)=true:=by kernel_rfl
 exact eX.1 (bB.1 this k (cu.2 (by omega)))
theorem C7I (M:List (List Nat))(hne:∀ C∈M,C ≠ [])(hlen:∀ C∈M,C.length<=1000)(hl:M.length<=12) :
 QQ (M.length,q1,(rI,rJ),(rK,rL),(rM,rN),(rO,rP),q6,kZ M,M.length)=some (M.length,q1,(rI,rJ),(rK,rL),(rM,rN),(rO,rP),q6,kZ (xr (M.map q9)),M.length):=by
 obtain⟨y,hy⟩:=B4C M.length hl;have h1:=C7H q1 rI rJ rK rL rM rN rO rP q6 M hlen (by omega)
 have e:(M.map q9).length=M.length:=by simp
 have h2:=D1g q1 rI rJ rK rL rM rN rO rP q6 M.length (M.map q9) (λC hC=>by
  obtain⟨D,hD,rfl⟩:=bp.1 hC;exact RA (hne D hD)) (by omega) y (by rw[e];exact hy)
 rw[e] at h2;unfold QQ;have hp:=B4A (kZ (M.map q9));simp only[h1,ai,cond_true];exact(congrArg (λl=>(MO ((M.length,()),q1,(rI,rJ),(rK,rL),(rM,rN),(rO,rP),q6,l,M.length)).bind λw=>some (M.length,w.1,(w.2.1.1,w.2.1.2),(w.2.2.1.1,w.2.2.1.2),(w.2.2.2.1.1,w.2.2.2.1.2),(w.2.2.2.2.1.1,w.2.2.2.2.1.2),w.2.2.2.2.2.1,w.2.2.2.2.2.2.1,w.2.2.2.2.2.2.2)) hp).trans (by simp only[h2,ai])
end
theorem XP {n:Nat}{E:oW}(hn:n<=1000)(hr:Ej n E)(hE:E.length<=1000):∀ (k i:Nat) (ix lo:Nat->Nat) (cnt:Nat) (out:List (List Nat)),i+k=n->kP (BX E) n [] ix [] cnt out->(∀ v,v<i->ix v≠0)->
 ∃hZ j5 ju jv,dk Jx (((n:Int),(i:Int)),tU n E ix lo [] cnt out)=some (tU n E hZ j5 [] ju jv)∧kP (BX E) n [] hZ [] ju jv∧∀v,v<n->hZ v≠0
 |0,i,ix,lo,cnt,out,hk,h,hv=>by
   have:i=n:=by omega
   subst this;refine⟨ix,lo,cnt,out,qc ?_,h,hv⟩;simp only[Jx,tU,ba,decide_false,cond_false]
 |k+1,i,ix,lo,cnt,out,hk,h,hv=>by
   have hi:i<n:=by omega
   have eg:(i:Int)<(n:Int):=by omega
   by_cases c:ix i=0
   . obtain ⟨hZ,j5,T,ju,jv,e1,hp⟩:=D22 hn hr hE (n-cnt) i ix lo [] cnt out [] (ay _) h hi c (by simp)
     have hT:T=[]:=by
      have:=hp.inv.fin
      simpa using this
     subst hT;have e2:=C5G (n-cnt+1) (λm hm=>e1 m (by omega))
     have e2:WA ((i:Int),tU n E ix lo [] cnt out)=some (tU n E hZ j5 [] ju jv):=e2;obtain⟨uZ,tq,qx,nc,e3,h3,h4⟩:=XP hn hr hE k (i+1) hZ j5 ju jv (by omega) hp.inv λv xF=>by
      rcases mV.1 xF with e | e
      . rw[(hp.bm v (hv v e)).1];exact hv v e
      . subst e;exact hp.XN
     refine⟨uZ,tq,qx,nc,?_,h3,h4⟩;rw[←e3];refine vw ?_;have hz:(((ix i:Nat):Int)==0)=true:=by rw[c];rfl
     simp only[tU] at e2 ⊢;simp only[Jx,eg,decide_true,cond_true,aq,ar,lB hi,A5j hi,ai,hz,e2,iQ (show i<9223372036854775807 by omega)]
   . obtain ⟨uZ,tq,qx,nc,e3,h3,h4⟩:=XP hn hr hE k (i+1) ix lo cnt out (by omega) h λv xF=>by
      rcases mV.1 xF with e | e
      . exact hv v e
      . subst e;exact c
     refine⟨uZ,tq,qx,nc,?_,h3,h4⟩;rw[←e3];refine vw ?_;have hz:(((ix i:Nat):Int)==0)=false:=by rw[beq_eq_false_iff_ne];omega
     simp only[tU];simp only[Jx,eg,decide_true,cond_true,aq,ar,lB hi,A5j hi,ai,hz,cond_false,iQ (show i<9223372036854775807 by omega)]
theorem B9t {n:Nat}{E:oW}(h:JK n E=0)(hn:n<=12)(hr:Ej n E)(hE:E.length<=1000):∃L,QR ((n:Int),E)=some (kZ L,0)∧B3 n (BX E) L:=by
 obtain⟨ix,lo,cnt,out,e1,h1,h2⟩:=XP (show n<=1000 by omega) hr hE n 0 (λ_=>0) (λ_=>0) 0 [] (by omega) (kP.nil n) (λv hv=>by omega)
 have Kk:=h1.B2;have hz:au n (0:Int)=tt n (λ_=>0):=by simp[tt,BV,se]
 have hd:au n false=uX n []:=by
  unfold uX;rw[D1d];exact XE λ_ _=>rfl
 have h3:=C7I (r0 n E) (tt n ix) n (tt n lo) n (uX n []) n (jA []) ([]:List Nat).length (cnt:Int) out (λC hC=>(h1.yf C hC).1) (λC hC=>by
  obtain⟨_,a,b⟩:=h1.yf C hC
  have:=Nw a (m:=bA n) λx hx=>cu.2 (h1.yd x (b x hx).1.1)
  rw[List.length_range] at this;omega) (by omega)
 refine⟨xr (out.map q9),?_,D41 h1 h2⟩;have e1:dk Jx (((n:Int),0),r0 n E,(tt n (λ_=>0),n),(tt n (λ_=>0),n),(uX n [],n),([],0),0,[],0)=some (tU n E ix lo [] cnt out):=e1
 have Ko:(tt n (λ_=>0)).length=n:=by simp[tt,BV]
 have hld:(uX n []).length=n:=C9r n [];simp only[QR,C0t,ai,h,bne_self_eq_false,cond_false,C1W (show n<=1000 by omega) hr hE,aq,decide_true,cond_true,lu,ar,hz,hd,Ko,hld,jE (ay _)]
 rw[jE (show n*8<=140737488355328 by omega),jE (show n*1<=140737488355328 by omega)]
 simp only[cond_true,e1,ai,tU,h3];have vn:(xr (out.map q9)).length=out.length:=by rw[(C1L _).1.length_eq,aB]
 rw[jE (show out.length<=(kZ (xr (out.map q9))).length by rw[Ru,vn];exact ay _),a6 (show (kZ (xr (out.map q9))).length<=out.length by rw[Ru,vn];exact ay _)]
 rfl
end Go.Mid
namespace Go.Mid
theorem B3.count {n:Nat}{Ed:Nat->Nat->Prop}{L:List (List Nat)}(h:B3 n Ed L):L.length<=n:=by
 have h1:(L.map kh).Nodup:=by
  unfold yo;rw[eG];exact h.hd.imp λh=>Nat.ne_of_lt h
 have:=Nw h1 (m:=bA n) λx hx=>by
  obtain⟨C,hC,rfl⟩:=bp.1 hx;exact cu.2 (h.cls C hC _ (XO (h.ne C hC))).1
 simpa using this
end Go.Mid
namespace Go.Mid
theorem C51 {Ed:Nat->Nat->Prop}{f:Nat->Nat}(hf:∀u w,Ed u w->f u<f w){a b:Nat}(h:Rc Ed a b):a=b∨f a<f b:=by
 induction h with
 |refl=>exact .inl rfl
 |tail _ h2 ih =>
   right
   have:=hf _ _ h2
   rcases ih with rfl | h
   . exact this
   . omega
theorem C7J {n:Nat}{Ed:Nat->Nat->Prop}{f:Nat->Nat}(hf:∀u w,Ed u w->f u<f w){L:List (List Nat)}(h:B3 n Ed L){C:List Nat}(hC:C∈L):C.length=1:=by
 have h1:=h.ne C hC;have h2:=h.asc C hC
 match C,h1,h2,hC with
 | [],h1,_,_=>exact absurd rfl h1
 | [a],_,_,_=>rfl
 |a::b::r,_,h2,hC =>
   have uO:a<b:=(bN.1 h2).1 b (by simp)
   have h3:=((h.cls _ hC a (by simp)).2 b).1 (by simp)
   rcases C51 hf h3.1 with e | e
   . omega
   . rcases C51 hf h3.2 with e2 | e2<;>omega
theorem C7K {n:Nat}{E:oW}(hn:n<=12)(hr:Ej n E)(hE:E.length<=1000)(hv:JK n E=0){f:Nat->Nat}(hf:∀u w:Nat,((u:Int),(w:Int))∈E->f u<f w):QS ((n:Int),E)=some ([],false):=by
 obtain⟨L,h1,h2⟩:=B9t hv hn hr hE;have arJ:=h2.count;have l0:=wo (f:=MQ) E (λi=>((n:Int),E,kZ L,E,(E.length:Int),(i:Int))) (λ_=>false) (.inl ((0,true),[])) (.inr ((n:Int),E,kZ L)) (λi hi=>by
  have eg:(i:Int)<(E.length:Int):=by omega
  have b1:cP 0 2=true:=rfl;have b2:cP 1 2=true:=rfl;have hne:(E[i].1==E[i].2)=false:=by
   rw[beq_eq_false_iff_ne];intro e;have h3:=hr _ (aM hi);obtain⟨u,hu⟩:=eB h3.1
   have:((u:Int),(u:Int))∈E:=by
    have h4:=aM hi;have h5:E[i]=((u:Int),(u:Int)):=Prod.ext hu (e ▸ hu);rw[←h5];exact h4
   have:=hf u u this
   omega
  simp only[MQ,eg,decide_true,cond_true,aq,ar,ah hi,ai,b1,b2,hne,cond_false,iQ (show i<9223372036854775807 by omega)]
  rfl) (by
  simp only[MQ,ba,decide_false,cond_false])
 have l0:dk MQ ((n:Int),E,kZ L,E,(E.length:Int),0)=_:=l0;have HQ:(E.any λ_=>false)=false:=by simp
 rw[HQ] at l0;have l1:=tQ (f:=MS) (kZ L).length (λi=>((n:Int),E,kZ L,((kZ L).length:Int),(i:Int))) (.inr ()) (λi hi=>by
  have eg:(i:Int)<((kZ L).length:Int):=by omega
  have hL:(kZ L).length=L.length:=by simp[kZ]
  have rX:i<L.length:=by omega
  have hg:(kZ L)[i]?=some (jA L[i]):=by rw[Ry,ah rX];rfl
  have hb:(((jA L[i]).length:Int)==1)=true:=by rw[CZ,C7J hf h2 (aM rX)];rfl
  simp only[MS,eg,decide_true,cond_true,aq,ar,hg,ai,hb,iQ (show i<9223372036854775807 by omega)]) (by
  simp only[MS,ba,decide_false,cond_false])
 have l1:dk MS ((n:Int),E,kZ L,((kZ L).length:Int),0)=_:=l1;unfold QS;simp only[h1,ai,bne_self_eq_false,cond_false,l0,aI,if_false,lS,l1];rfl
end Go.Mid
namespace Go.Mid
open Go.Hg (asc less A2w A0t A4z Gr PrV nbB A6j A4L Acy HOk)
abbrev tV:Nat:=65536
theorem yi {m n:Nat}(h:m<2 ^ n)(hn:n<=16):m<2 ^ a8.bits:=br h (ez (by decide) hn)
theorem NH {m i:Nat}(hm:m<tV)(h:m.testBit i=true):i<16:=by
 refine b5 λhc=>?_
 have:m<2 ^ i:=br hm (ez (show 2>0 by decide) (show 16<=i by omega))
 rw[Nat.testBit_lt_two_pow this] at h;cases h
noncomputable def D1D (y:Int):Option Int :=
 bif decide ((0:Int)<=jK cG (cG.wrap (cG.wrap y*(125613361:Int))) (27:Int)) then
  bif (jK cG (cG.wrap (cG.wrap y*(125613361:Int))) (27:Int)).toNat.blt 32 then
   [(0:Int),(1:Int),(28:Int),(2:Int),(29:Int),(14:Int),(24:Int),(3:Int),(30:Int),(22:Int),(20:Int),(15:Int),(25:Int),(17:Int),(4:Int),(8:Int),(31:Int),(27:Int),(13:Int),(23:Int),
      (21:Int),(19:Int),(16:Int),(7:Int),(26:Int),(12:Int),(18:Int),(6:Int),(11:Int),(5:Int),(10:Int),
      (9:Int)][(jK cG (cG.wrap (cG.wrap y*(125613361:Int))) (27:Int)).toNat]?.bind
     λy=>some (af.wrap y)
  else none
 else none
theorem C9w:∀ k:Nat,k<16->D1D ((2 ^ k:Nat):Int)=some (k:Int)
 |0,_=>by kernel_rfl
 |1,_=>by kernel_rfl
 |2,_=>by kernel_rfl
 |3,_=>by kernel_rfl
 |4,_=>by kernel_rfl
 |5,_=>by kernel_rfl
 |6,_=>by kernel_rfl
 |7,_=>by kernel_rfl
 |8,_=>by kernel_rfl
 |9,_=>by kernel_rfl
 |10,_=>by kernel_rfl
 |11,_=>by kernel_rfl
 |12,_=>by kernel_rfl
 |13,_=>by kernel_rfl
 |14,_=>by kernel_rfl
 |15,_=>by kernel_rfl
 |n+16,h=>by omega
theorem C7L {m:Nat}(h0:m≠0)(hm:m<tV):a8.wrap ((0:Int)-(m:Int))=((tV-m:Nat):Int):=by
 have h:(m:Int)<65536:=by unfold tV at hm;omega
 have h2:((tV-m:Nat):Int)=65536-(m:Int):=by unfold tV at hm ⊢;omega
 rw[h2];simp only[ie,gu,fe];simp;omega
theorem C9x {m k:Nat}(hm:m<tV)(hk:m.testBit k=true)(hl:∀j,j<k->m.testBit j=false):(m &&& (tV-m))=2 ^ k:=by
 have h0:m≠0:=by intro e;rw[e,eT] at hk;cases hk
 apply jc;intro j;have e:tV-m=2 ^ 16-((m-1)+1):=by unfold tV;omega
 rw[gp,e,Nat.testBit_two_pow_sub_succ (show m-1<2 ^ 16 by unfold tV at hm;omega),C3W hk hl,Nat.testBit_two_pow]
 have XQ:=NH hm hk;by_cases h1:j<k
 . have:¬ k=j:=by omega
   simp[hl j h1,this]
 . by_cases h2:j=k
   . subst h2;simp[hk,XQ]
   . have:¬ k=j:=by omega
     simp[h1,h2,this];cases m.testBit j<;>simp
theorem C9y (x:Int):Jz x=bif x==(0:Int) then some (16:Int) else D1D (pL a8 x (a8.wrap ((0:Int)-x))):=rfl
theorem D25 {m k:Nat}(hm:m<tV)(hk:m.testBit k=true)(hl:∀j,j<k->m.testBit j=false):Jz (m:Int)=some (k:Int):=by
 have h0:m≠0:=by intro e;rw[e,eT] at hk;cases hk
 have e0:((m:Int)==0)=false:=by rw[beq_eq_false_iff_ne];omega
 rw[C9y,e0,cond_false,C7L h0 hm,Nn (k:=.u16) rfl hm (show tV-m<2 ^ a8.bits from Nat.sub_lt (by decide) (Nat.pos_of_ne_zero h0)),C9x hm hk hl]
 exact C9w k (NH hm hk)
theorem D42 {m:Nat}(h0:m≠0)(hm:m<tV):pL .u16 (m:Int) (a8.wrap ((m:Int)-1))=((m &&& (m-1):Nat):Int):=by
 have e1:a8.wrap ((m:Int)-1)=((m-1:Nat):Int):=by
  have:(m:Int)-1=((m-1:Nat):Int):=by omega
  rw[this];exact HH (k:=.u16) rfl (show m-1<2 ^ 16 by unfold tV at hm;omega)
 rw[e1,Nn (k:=.u16) rfl hm (show m-1<2 ^ 16 by unfold tV at hm;omega)]
theorem HR {i:Nat}(hi:i<16):qZ .u16 1 (i:Int)=((1 <<< i:Nat):Int):=D4T (k:=.u16) rfl (m:=1) (show i<=16 by omega) (xq hi)
theorem RB {v:List Int}(ha:asc v=true)(nv:v.length<=1000000)(es:List (List Int))(x:Int):Fz ((v,es),x)=some (if x∈v then((A0t v x:Nat):Int) else -1):=by
 obtain⟨i,h1,hp⟩:=Xm ha nv x;unfold Fz;simp only[h1,ai];have hf:=hp.found ha;by_cases hx:x∈v
 . have hc:v.contains x=true:=bj.2 hx;rw [hc] at hf ⊢;cases hv:v[i]? with
   |none=>rw[hv] at hf;cases hf
   |some y =>
     rw[hv] at hf;have hy:y=x:=by simpa using hf.symm
     subst hy;obtain⟨hi,e⟩:=aJ.1 hv;have XR:=Go.Hg.gn hx;obtain⟨rX,e2⟩:=aJ.1 XR
     have:=Go.Hg.kX ha hi rX (e.trans e2.symm)
     subst this;simp[hx]
 . have hc:v.contains x=false:=by
    cases vo:v.contains x with
    |false=>rfl
    |true=>exact absurd (bj.1 vo) hx
   rw[hc];simp[hx]
theorem XS {v:List Int}(ha:asc v=true){i:Nat}(h:i<v.length):A0t v v[i]=i:=by
 have XR:=Go.Hg.gn (aM h);obtain⟨rX,e2⟩:=aJ.1 XR;exact Go.Hg.kX ha rX h e2
structure sM (v:List Int)(es:List (List Int))(p:PrV)(F:Nat)(eD dO:List Nat):Prop where
 fl:F<2 ^ v.length
 fb:∀j (h:j<v.length),F.testBit j=!A6j es v[j]
 nl:eD.length=v.length
 C1:∀x∈eD,x<2 ^ v.length
 nb:∀j (h:j<v.length) (h':j<eD.length) k (hk:k<v.length),eD[j].testBit k=nbB es v[j] v[k]
 al:dO.length=v.length
 alt:∀x∈dO,x<2 ^ v.length
 ab:∀j (h:j<v.length) (h':j<dO.length) k (hk:k<v.length),dO[j].testBit k=A4L p v[k] v[j]
def B4 (v:List Int)(s:Nat×List Nat)(e:List Int):Nat×List Nat :=
 let i:=A0t v (e.headD 0)
 let k:=A0t v (e.getLastD 0)
 if i=k then(less s.1 (1 <<< i),s.2) else(s.1,(s.2.set i (s.2.getD i 0 ||| 1 <<< k)).set k (s.2.getD k 0 ||| 1 <<< i))
def oe (v:List Int)(es:List (List Int))(i:Nat):Nat×List Nat:=(es.take i).foldl (B4 v) (2 ^ v.length-1,au v.length 0)
theorem C4o (v:List Int){es:List (List Int)}{i:Nat}(h:i<es.length):oe v es (i+1)=B4 v (oe v es i) es[i]:=by
 unfold oe;rw[vz h,iK];rfl
structure GI (v:List Int)(L:List (List Int))(s:Nat×List Nat):Prop where
 fl:s.1<2 ^ v.length
 fb:∀j (h:j<v.length),s.1.testBit j=!L.contains [v[j]]
 nl:s.2.length=v.length
 C1:∀x∈s.2,x<2 ^ v.length
 nb:∀j (h:j<v.length) (h':j<s.2.length) k (hk:k<v.length),s.2[j].testBit k=(L.contains [v[j],v[k]] || L.contains [v[k],v[j]])
theorem D26 {v:List Int}{es:List (List Int)}(G:Gr v es){L:List (List Int)}{s:Nat×List Nat}(I:GI v L s){e:List Int}(he:e∈es):GI v (L++[e]) (B4 v s e):=by
 have nD:=G.l9.av;have cont:∀x:List Int,(L++[e]).contains x=(L.contains x || decide (x=e)):=λx=>by
  apply c6.2;simp
 rcases G.cases he with⟨a,rfl,_⟩ | ⟨a,b,rfl,uO,_⟩
 . have ha:a∈v:=G.l9.sm _ he a (by simp)
   obtain⟨i,hi,rfl⟩:=eA.1 ha;have hp:=XS nD hi;have hg:B4 v s [v[i]]=(less s.1 (1 <<< i),s.2):=by simp[B4,hp]
   rw[hg];refine⟨Xk I.fl,λj hj=>?_,I.nl,I.C1,λj hj h' k hk=>?_⟩
   . rw [Go.Hg.qs,I.fb j hj,Go.Hg.lN,cont];by_cases c:j=i
     . subst c;simp
     . have:¬ v[j]=v[i]:=λh=>c (Go.Hg.kX nD hj hi h)
       simp[c,this]
   . rw[I.nb j hj h' k hk,cont,cont];simp
 . have ha:a∈v:=G.l9.sm _ he a (by simp)
   have hb:b∈v:=G.l9.sm _ he b (by simp)
   obtain⟨i,hi,rfl⟩:=eA.1 ha;obtain⟨k,hk,rfl⟩:=eA.1 hb;have hpi:=XS nD hi;have zL:=XS nD hk;have CH:i≠k:=λh=>by subst h;omega
   have hg:B4 v s [v[i],v[k]]=(s.1,(s.2.set i (s.2.getD i 0 ||| 1 <<< k)).set k (s.2.getD k 0 ||| 1 <<< i)):=by
    simp[B4,hpi,zL,CH]
   have Ef:i<s.2.length:=by rw[I.nl];exact hi
   have zq:k<s.2.length:=by rw[I.nl];exact hk
   have d1:s.2.getD i 0=s.2[i]:=by rw[bh,ah Ef];rfl
   have d2:s.2.getD k 0=s.2[k]:=by rw[bh,ah zq];rfl
   rw[hg,d1,d2];refine⟨I.fl,λj hj=>?_,by simp[I.nl],λx hx=>?_,λj hj h' m hm=>?_⟩
   . rw[I.fb j hj,cont];simp
   . rcases bx hx with h | h
     . rcases bx h with h | h
       . exact I.C1 x h
       . rw[h];exact fA (I.C1 _ (aM _)) (xq hk)
     . rw[h];exact fA (I.C1 _ (aM _)) (xq hi)
   . have inj:∀ {x y:Nat} (hx:x<v.length) (hy:y<v.length),v[x]=v[y]↔x=y:=λhx hy=>⟨λh=>Go.Hg.kX nD hx hy h,λh=>by subst h;rfl⟩
     have Ix:j<s.2.length:=by rw[I.nl];exact hj
     have CA:j<((s.2.set i (s.2[i] ||| 1 <<< k)).set k (s.2[k] ||| 1 <<< i)).length:=by simpa using Ix
     have key:(((s.2.set i (s.2[i] ||| 1 <<< k)).set k (s.2[k] ||| 1 <<< i))[j]'CA).testBit m=(s.2[j].testBit m || (decide (j=i)&&decide (m=k)) || (decide (j=k)&&decide (m=i))):=by
      rw[nk];by_cases c:k=j
      . subst c;rw [if_pos rfl,fj,Go.Hg.lN];have XT:¬ k=i:=λh=>CH h.symm
        simp[XT]
      . rw [if_neg c,nk];have c':¬ j=k:=λh=>c h.symm
        by_cases c2:i=j
        . subst c2;rw[if_pos rfl,fj,Go.Hg.lN];simp[c']
        . rw [if_neg c2];have Ei:¬ j=i:=λh=>c2 h.symm
          simp[c',Ei]
     rw[key,I.nb j hj (by rw[I.nl];exact hj) m hm,cont,cont]
     simp only[List.cons.injEq,inj hj hi,inj hm hk,inj hm hi,inj hj hk,and_true];cases L.contains [v[j],v[m]]<;>cases L.contains [v[m],v[j]]<;>by_cases a1:j=i<;>by_cases a2:m=k<;>by_cases a3:j=k<;>by_cases a4:m=i<;>simp[a1,a2,a3,a4]
theorem XU {v:List Int}{es:List (List Int)}(G:Gr v es):∀ i,i<=es.length->GI v (es.take i) (oe v es i)
 |0,_=>by
   have hp:0<2 ^ v.length:=fD _;refine⟨by show 2 ^ v.length-1<_;omega,λj hj=>?_,by simp[oe],λx hx=>?_,λj hj h' k hk=>?_⟩
   . show (2 ^ v.length-1).testBit j=_;rw[Nat.testBit_two_pow_sub_one];simp[hj]
   . have:x=0:=by
      have:=eY (show x∈au v.length 0 from hx)
      exact this
     omega
   . have:(oe v es 0).2[j]=0:=by simp [oe]
     rw[this];simp
 |i+1,h=>by
   rw[C4o v (by omega),vz (by omega)]
   exact D26 G (XU G i (by omega)) (aM _)
theorem C4q (l:List Nat)(i x:Nat):(jG l).set i (x:Int)=jG (l.set i x):=by simp[jG,gw]
end Go.Mid
namespace Go.Mid
open Go.Hg (asc less A2w A0t A4z Gr PrV nbB A6j A4L Acy HOk)
section
variable {v:List Int}{es:List (List Int)}(G:Gr v es)(nv:v.length<=14)(ne:es.length<=1000000)
include G nv ne
theorem D1h (p:PrV)(AB:List Int)(m:Nat):dk Jy ((p,(v.length:Int),es,(es.length:Int),0),(v,es),(v,es),((2 ^ v.length-1:Nat):Int),(jG (au v.length 0),v.length),AB,m) =
 some ((p,(v.length:Int)),(v,es),(v,es),(((oe v es es.length).1:Nat):Int),(jG (oe v es es.length).2,v.length),AB,m):=by
 have nD:=G.l9.av;have key:=tQ (f:=Jy) es.length (λi=>((p,(v.length:Int),es,(es.length:Int),(i:Int)),(v,es),(v,es),(((oe v es i).1:Nat):Int),(jG (oe v es i).2,v.length),AB,m))
  ((p,(v.length:Int)),(v,es),(v,es),(((oe v es es.length).1:Nat):Int),(jG (oe v es es.length).2,v.length),AB,m) (λi hi=>by
  have eg:(i:Int)<(es.length:Int):=by omega
  have I:=XU G i (fH hi);have he:=aM hi;have n6:v.length<=1000000:=by omega
  rw[C4o v hi];rcases G.cases he with⟨a,e,_⟩ | ⟨a,b,e,uO,_⟩
  . have ha:a∈v:=G.l9.sm _ he a (by rw [e];simp)
    have hp:=Go.Hg.iV ha;have w1:af.wrap ((([a]:List Int).length:Int)-1)=0:=by simp[ie,gu,fe]
    have hg:B4 v (oe v es i) [a]=(less (oe v es i).1 (1 <<< A0t v a),(oe v es i).2):=by simp[B4]
    simp only [Jy,eg,decide_true,cond_true,aq,ar,ah hi,ai,e,bQ,RB nD n6,ha,if_true,w1,lu,Int.toNat_zero,beq_self_eq_true,
     HR (show A0t v a<16 by omega),C5T (k:=.u16) rfl (yi I.fl (by omega)) (xq (show A0t v a<16 by omega)),iQ (show i<9223372036854775807 by omega),hg]
  . have ha:a∈v:=G.l9.sm _ he a (by rw [e];simp)
    have hb:b∈v:=G.l9.sm _ he b (by rw[e];simp)
    have hp:=Go.Hg.iV ha;have hq:=Go.Hg.iV hb;have w1:af.wrap ((([a,b]:List Int).length:Int)-1)=1:=by simp[ie,gu,fe]
    have t1:(1:Int).toNat=1:=rfl;have hne:A0t v a≠A0t v b:=λh=>by
     have h1:=Go.Hg.gn ha;have h2:=Go.Hg.gn hb;rw[h,h2] at h1
     have:=Option.some.inj h1
     omega
    have XV:(((A0t v a:Nat):Int)==((A0t v b:Nat):Int))=false:=by rw[beq_eq_false_iff_ne];omega
    have uM:A0t v a<(oe v es i).2.length:=by rw[I.nl];exact hp
    have vn:A0t v b<(oe v es i).2.length:=by rw[I.nl];exact hq
    have d1:(oe v es i).2.getD (A0t v a) 0=(oe v es i).2[A0t v a]:=by rw[bh,ah uM];rfl
    have d2:(oe v es i).2.getD (A0t v b) 0=(oe v es i).2[A0t v b]:=by rw[bh,ah vn];rfl
    have hg:B4 v (oe v es i) [a,b]=((oe v es i).1,((oe v es i).2.set (A0t v a) ((oe v es i).2[A0t v a] ||| 1 <<< A0t v b)).set (A0t v b) ((oe v es i).2[A0t v b] ||| 1 <<< A0t v a)):=by
     simp only[B4,List.headD_cons,List.getLastD_cons,List.getLastD_nil,hne,if_false,d1,d2]
    have o1:=HI (k:=.u16) rfl (yi (I.C1 _ (aM uM)) (by omega)) (xq (show A0t v b<16 by omega))
    have o2:=HI (k:=.u16) rfl (yi (I.C1 _ (aM vn)) (by omega)) (xq (show A0t v a<16 by omega))
    have sB:(jG ((oe v es i).2.set (A0t v a) ((oe v es i).2[A0t v a] ||| 1 <<< A0t v b)))[A0t v b]?=some (((oe v es i).2[A0t v b]:Nat):Int):=by
     rw[FF (by simpa using vn),List.getElem_set_ne hne]
    have zl:(0:Int)<=1:=by decide
    simp only [Jy,eg,decide_true,cond_true,aq,ar,ah hi,ai,e,bQ,List.getElem?_cons_succ,RB nD n6,ha,hb,if_true,w1,zl,t1,XV,cond_false,
     lB hp,lB hq,FF uM,HR (show A0t v a<16 by omega),HR (show A0t v b<16 by omega),o1,C4q,sB,o2,iQ (show i<9223372036854775807 by omega),hg]) (by
  simp only[Jy,ba,decide_false,cond_false])
 exact key
end
def NI (v:List Int)(s:List Nat)(q:Int×Int):List Nat:=s.set (A0t v q.2) (s.getD (A0t v q.2) 0 ||| 1 <<< A0t v q.1)
def so (v:List Int)(p:PrV)(i:Nat):List Nat:=(p.take i).foldl (NI v) (au v.length 0)
def Ay (v:List Int)(p:PrV)(i:Nat):List (Int×Int):=(p.take i).map λq=>(((A0t v q.1:Nat):Int),((A0t v q.2:Nat):Int))
theorem C1X (L:PrV)(a b:Int×Int):(L++[b]).contains a=(L.contains a || decide (a=b)):=by
 apply c6.2;simp
theorem C4r (v:List Int){p:PrV}{i:Nat}(h:i<p.length):so v p (i+1)=NI v (so v p i) p[i]:=by
 unfold so;rw[vz h,iK];rfl
structure AI (v:List Int)(p:PrV)(s:List Nat):Prop where
 al:s.length=v.length
 alt:∀x∈s,x<2 ^ v.length
 ab:∀j (_:j<v.length) (h':j<s.length) k (_:k<v.length),s[j].testBit k=p.contains (v[k],v[j])
theorem XW {v:List Int}{p:PrV}(ha:asc v=true)(hp:∀ q∈p,q.1∈v∧q.2∈v):∀ i,i<=p.length->AI v (p.take i) (so v p i)
 |0,_=>by
   refine⟨by simp[so],λx hx=>?_,λj hj h' k hk=>?_⟩
   . have:x=0:=eY (show x∈au v.length 0 from hx)
     have:=fD v.length
     omega
   . have:(so v p 0)[j]=0:=by simp [so]
     rw[this];simp
 |i+1,h=>by
   have I:=XW ha hp i (by omega)
   have hi:i<p.length:=by omega
   have e1:so v p (i+1)=NI v (so v p i) p[i]:=C4r v hi;obtain⟨h1,h2⟩:=hp _ (aM hi);have JR:=Go.Hg.iV h1;have Bn:=Go.Hg.iV h2;have hl:A0t v p[i].2<(so v p i).length:=by rw[I.al];exact Bn
   have d:(so v p i).getD (A0t v p[i].2) 0=(so v p i)[A0t v p[i].2]:=by rw[bh,ah hl];rfl
   rw[e1,vz hi];unfold NI;rw[d];have g1:v[A0t v p[i].1]=p[i].1:=(aJ.1 (Go.Hg.gn h1)).2;have g2:v[A0t v p[i].2]=p[i].2:=(aJ.1 (Go.Hg.gn h2)).2;refine⟨by simp[I.al],λx hx=>?_,λj hj h' k hk=>?_⟩
   . rcases bx hx with h | h
     . exact I.alt x h
     . rw[h];exact fA (I.alt _ (aM _)) (xq JR)
   . have Ix:j<(so v p i).length:=by rw [I.al];exact hj
     rw[C1X,←I.ab j hj Ix k hk,nk];by_cases c:A0t v p[i].2=j
     . subst c;rw [if_pos rfl,fj,Go.Hg.lN];congr 1;rw [decide_eq_decide];constructor
       . intro h;subst h;exact Prod.ext g1 g2
       . intro h;have h3:v[k]=p[i].1:=congrArg Prod.fst h;exact Go.Hg.kX ha hk JR (h3.trans g1.symm)
     . rw [if_neg c]
       have:¬(v[k],v[j])=p[i]:=λh=>by
        have h3:v[j]=p[i].2:=congrArg Prod.snd h;exact c (Go.Hg.kX ha Bn hj (g2.trans h3.symm))
       simp[this]
section
variable {v:List Int}{es:List (List Int)}{p:PrV}(ha:asc v=true)(nv:v.length<=14)(np:p.length<=1000000)(hp:∀q∈p,nbB es q.1 q.2=true∧q.1∈v∧q.2∈v)
include ha nv np hp
theorem D1i {F:Int}{eD:List Nat}(Du:eD.length=v.length)(eC:∀ x∈eD,x<2 ^ v.length)(Ag:∀ j (h:j<v.length) (h':j<eD.length) k (hk:k<v.length),eD[j].testBit k=nbB es v[j] v[k])(H2:List Int×List (List Int)) :
 dk MT (((v.length:Int),0,p,(p.length:Int),0),(v,es),[],H2,F,(jG eD,v.length),jG (au v.length 0),v.length) =
  some (.inr (((v.length:Int),p.length),Ay v p p.length,H2,F,(jG eD,v.length),jG (so v p p.length),v.length)):=by
 have key:=tQ (f:=MT) p.length (λi=>(((v.length:Int),i,p,(p.length:Int),(i:Int)),(v,es),Ay v p i,H2,F,(jG eD,v.length),jG (so v p i),v.length))
  (.inr (((v.length:Int),p.length),Ay v p p.length,H2,F,(jG eD,v.length),jG (so v p p.length),v.length)) (λi hi=>by
  have eg:(i:Int)<(p.length:Int):=by omega
  obtain⟨h0,h1,h2⟩:=hp _ (aM hi);have I:=XW ha (λq hq=>(hp q hq).2) i (fH hi)
  have n6:v.length<=1000000:=by omega
  have JR:=Go.Hg.iV h1;have Bn:=Go.Hg.iV h2;have g1:v[A0t v p[i].1]=p[i].1:=(aJ.1 (Go.Hg.gn h1)).2;have g2:v[A0t v p[i].2]=p[i].2:=(aJ.1 (Go.Hg.gn h2)).2;have Gq:A0t v p[i].1<eD.length:=by rw[Du];exact JR
  have Ml:A0t v p[i].2<(so v p i).length:=by rw[I.al];exact Bn
  have XX:eD[A0t v p[i].1].testBit (A0t v p[i].2)=true:=by
   rw[Ag _ JR Gq _ Bn,g1,g2];exact h0
  have b1:cP 0 2=true:=rfl;have b2:cP 1 2=true:=rfl;have z1:¬(((A0t v p[i].1:Nat):Int)<0):=by omega
  have z2:¬(((A0t v p[i].2:Nat):Int)<0):=by omega
  have Cz:=D4U (k:=.u16) rfl (show A0t v p[i].2<=16 by omega) (by decide) (yi (eC _ (aM Gq)) (by omega))
  rw[XX,if_pos rfl] at Cz;have c1:((1:Int)==0)=false:=rfl;have el:(Ay v p i).length=i:=by simp[Ay];omega
  have o1:=HI (k:=.u16) rfl (yi (I.alt _ (aM Ml)) (by omega)) (xq (show A0t v p[i].1<16 by omega))
  have e1:Ay v p (i+1)=Ay v p i++[(((A0t v p[i].1:Nat):Int),((A0t v p[i].2:Nat):Int))]:=by
   unfold Ay;rw[vz hi,b9];rfl
  have e2:so v p (i+1)=(so v p i).set (A0t v p[i].2) ((so v p i)[A0t v p[i].2] ||| 1 <<< A0t v p[i].1):=by
   have:(so v p i).getD (A0t v p[i].2) 0=(so v p i)[A0t v p[i].2]:=by rw[bh,ah Ml];rfl
   rw[C4r v hi];unfold NI;rw[this]
  simp only [MT,eg,decide_true,cond_true,aq,ar,ah hi,ai,b1,b2,RB ha n6,h1,h2,if_true,z1,z2,decide_false,cond_false,lB JR,lB Bn,FF Gq,FF Ml,Cz,c1,
   el,jE (ay _),jE (show (i+1)*16<=140737488355328 by omega),a6 (e7 el),HR (show A0t v p[i].1<16 by omega),o1,C4q,iQ (show i<9223372036854775807 by omega),e1,e2]) (by
  simp only[MT,ba,decide_false,cond_false])
 exact key
end
theorem C52 (n:Nat)(hn:n<=1000)(E:List (Int×Int))(i:Int):∀ (j:Nat) (M:List (Int×Int)),j<n->M.length=n->(∀ x∈M,x∈E)->
 ∃M',dk Jp ((n,0,(n:Int),(),i,(j:Int)),M)=some ((n,0,(n:Int),(),i),M')∧M'.length=n∧∀x∈M',x∈E
 |0,M,hj,hM,hE=>⟨M,qc (by simp[Jp]),hM,hE⟩
 |j+1,M,hj,hM,hE=>by
   have h1:((j+1:Nat):Int)>0:=by omega
   have GM:j+1<M.length:=by omega
   have HS:j<M.length:=by omega
   obtain⟨c,hc⟩:∃c,Wx (M[j+1],M[j])=some c:=⟨_,rfl⟩;by_cases d:c<0
   . have st:Jp ((n,0,(n:Int),(),i,((j+1:Nat):Int)),M)=some (.inl ((n,0,(n:Int),(),i,(j:Int)),(M.set (j+1) M[j]).set j M[j+1])):=by
      simp only[Jp,h1,decide_true,cond_true,aq,ar,lB hj,lB (show j<n by omega),ah GM,ah HS,ai,Av (show 1<=j+1 by omega) (by omega),dT,hc,d]
      have e4:(M.set (j+1) M[j])[j]?=some M[j]:=by rw[fg (by omega),ah HS]
      rw[e4];rfl
     rw[vw st];refine C52 n hn E i j _ (by omega) (by simpa using hM) λx hx=>?_
     rcases bx hx with h | h
     . rcases bx h with h | h
       . exact hE x h
       . rw[h];exact hE _ (aM _)
     . rw[h];exact hE _ (aM _)
   . refine⟨M,qc ?_,hM,hE⟩;simp only[Jp,h1,decide_true,cond_true,aq,ar,lB hj,lB (show j<n by omega),ah GM,ah HS,ai,Av (show 1<=j+1 by omega) (by omega),dT,hc,d,decide_false,cond_false]
theorem C7M {n:Nat}(hn:n<=12){E:List (Int×Int)}(hE:E.length=n):∃M,QH ((n,()),E)=some M∧M.length=n∧∀x∈M,x∈E:=by
 obtain⟨y,hy⟩:=B4C n hn;have l0:∃b,dk Jq ((n,0,(n:Int),(),1),E)=some b∧(b.length=n∧∀x∈b,x∈E):=by
  by_cases h0:n<=1
  . refine ⟨E,qc ?_,hE,λx hx=>hx⟩
    have:¬(1:Int)<(n:Int):=by omega
    simp only[Jq,this,decide_false,cond_false]
  . have key:=V4 (f:=Jq) (n-1) (λi (M:List (Int×Int))=>((n,0,(n:Int),(),((i+1:Nat):Int)),M)) (λ_ M=>M.length=n∧∀ x∈M,x∈E) (λb=>b.length=n∧∀ x∈b,x∈E) E ⟨hE,λx hx=>hx⟩ (λi M hi hM=>by
     left;have eg:((i+1:Nat):Int)<(n:Int):=by omega
     obtain⟨M',h1,h2,h3⟩:=C52 n (by omega) E ((i+1:Nat):Int) (i+1) M (by omega) hM.1 hM.2
     refine⟨M',?_,h2,h3⟩;simp only[Jq,eg,decide_true,cond_true,h1,ai,iQ (show i+1<9223372036854775807 by omega)]) (λM hM=>by
     refine⟨M,?_,hM⟩
     have:¬((n-1+1:Nat):Int)<(n:Int):=by omega
     simp only[Jq,this,decide_false,cond_false])
    exact key
 obtain⟨M,h1,h2,h3⟩:=l0;refine⟨M,?_,h2,h3⟩;have w1:af.wrap ((0:Int)+1)=1:=by simp[ie,gu,fe]
 have w2:af.wrap ((n:Int)-0)=(n:Int):=by rw[Int.sub_zero];exact Qn (by omega)
 have hle:(n:Int)<=12:=by omega
 have hp:QG ((n,0,(n:Int),y,()),E)=some M:=by
  unfold QG
  have:dk Wz ((n,0,(n:Int),y,(),true,true),E)=some M:=by
   refine qc ?_;simp only[Wz,Wy,w1,w2,hle,decide_true,cond_true,h1,ai]
  simp only[this,ai]
 unfold QH;simp only[hy,ai,hp]
theorem C7N {n:Nat}(hn:n<=1000){E:List (Int×Int)}{k0:Nat}(hk0:k0<n){M:List (Int×Int)}(hM:M.length=n)(hE:∀ x∈M,x∈E) :
 ∃(k:Nat) (M':List (Int×Int)),dk Jr ((n,(k0:Int),(k0,n-k0),1),M)=some ((n,(k:Int)),M')∧k<=n∧M'.length=n∧∀x∈M',x∈E:=by
 have key:=V4 (f:=Jr) (n-k0-1) (λi (s:Nat×List (Int×Int))=>((n,(s.1:Int),(k0,n-k0),((i+1:Nat):Int)),s.2)) (λi s=>s.1<=k0+i∧s.2.length=n∧∀x∈s.2,x∈E) (λb=>∃(k:Nat) (M':List (Int×Int)),b=((n,(k:Int)),M')∧k<=n∧M'.length=n∧∀x∈M',x∈E) (k0,M) ⟨ay _,hM,hE⟩ (λi s hi hs=>by
  left;obtain⟨k,L⟩:=s;obtain⟨h1,h2,h3⟩:=hs;simp only at h1 h2 h3;have eg:((i+1:Nat):Int)<((n-k0:Nat):Int):=by omega
  have g1:k0+(i+1)<L.length:=by omega
  have g2:k0+i<L.length:=by omega
  have g3:k<L.length:=by omega
  by_cases c:(!(L[k0+(i+1)].1==L[k0+i].1&&L[k0+(i+1)].2==L[k0+i].2))=true
  . refine ⟨(k+1,L.set k L[k0+(i+1)]),?_,by show k+1<=k0+(i+1);omega,by simpa using h2,λx hx=>?_⟩
    . simp only [Jr,eg,decide_true,cond_true,aq,ar,lB (show i+1<n-k0 by omega),ah g1,ai,Av (show 1<=i+1 by omega) (by omega),dT,lB (show i<n-k0 by omega),ah g2,c,
       lB (show k<n by omega),ah g3,iQ (show k<9223372036854775807 by omega),iQ (show i+1<9223372036854775807 by omega)]
    . rcases bx hx with h | h
      . exact h3 x h
      . rw[h];exact h3 _ (aM _)
  . have c':(!(L[k0+(i+1)].1==L[k0+i].1&&L[k0+(i+1)].2==L[k0+i].2))=false:=by simpa using c
    refine⟨(k,L),?_,by show k<=k0+(i+1);omega,h2,h3⟩
    simp only [Jr,eg,decide_true,cond_true,aq,ar,lB (show i+1<n-k0 by omega),ah g1,ai,Av (show 1<=i+1 by omega) (by omega),dT,lB (show i<n-k0 by omega),ah g2,c',cond_false,
     iQ (show i+1<9223372036854775807 by omega)]) (λs hs=>by
  refine⟨((n,(s.1:Int)),s.2),?_,s.1,s.2,rfl,by omega,hs.2.1,hs.2.2⟩
  have:¬((n-k0-1+1:Nat):Int)<((n-k0:Nat):Int):=by omega
  simp only[Jr,this,decide_false,cond_false])
 obtain⟨b,hb,k,M',rfl,h1,h2,h3⟩:=key;exact⟨k,M',hb,h1,h2,h3⟩
theorem C1Y {n:Nat}(hn:n<=1000){M:List (Int×Int)}(hM:M.length=n):∃(k:Nat) (M':List (Int×Int)),MF (n,M)=some (k,M')∧k<=M'.length∧k<=n∧∀x∈M'.take k,x∈M:=by
 by_cases h2:n<2
 . have sA:(n:Int)<2:=by omega
   refine⟨n,M,?_,by omega,ay _,λx hx=>dh hx⟩
   unfold MF;simp only[sA,decide_true,cond_true]
 . have sA:¬ (n:Int)<2:=by omega
   have key:=V4 (f:=Js) (n-1) (λi (_:Unit)=>((n,((i+1:Nat):Int)),M)) (λ_ _=>True) (λb=>∃(k:Nat) (M':List (Int×Int)),(b=.inl (k,M')∨b=.inr (k,M'))∧k<=M'.length∧k<=n∧∀x∈M'.take k,x∈M) () trivial (λi _ hi _=>by
    have eg:((i+1:Nat):Int)<(n:Int):=by omega
    have g1:i+1<M.length:=by omega
    have g2:i<M.length:=by omega
    by_cases c:(M[i+1].1==M[i].1&&M[i+1].2==M[i].2)=true
    . right;obtain ⟨k,M',h3,h4,h5,h6⟩:=C7N hn (E:=M) (k0:=i+1) (by omega) hM (λx hx=>hx)
      have hr:(k+(au (n-k) ((0:Int),(0:Int))).length)=n:=by simp;omega
      refine⟨.inl (k,m8 M' (some k) (au (n-k) ((0:Int),(0:Int)))),?_,k,_,.inl rfl,?_,h4,?_⟩
      . simp only [Js,eg,decide_true,cond_true,aq,ar,lB (show i+1<n by omega),ah g1,ai,Av (show 1<=i+1 by omega) (by omega),dT,lB (show i<n by omega),ah g2,c,
         jE (show i+1<=n by omega),h3,jE h4,hr,jE (e7 h5.symm)]
      . unfold m8;simp;omega
      . intro x hx;have e:(m8 M' (some k) (au (n-k) ((0:Int),(0:Int)))).take k=M'.take k:=by
         unfold m8;simp only;rw[bg,lv (by simp;omega)]
         rw[sV];simp
        rw[e] at hx;exact h6 x (dh hx)
    . left;have c':(M[i+1].1==M[i].1&&M[i+1].2==M[i].2)=false:=by simpa using c
      refine ⟨(),?_,trivial⟩;simp only [Js,eg,decide_true,cond_true,aq,ar,lB (show i+1<n by omega),ah g1,ai,Av (show 1<=i+1 by omega) (by omega),dT,lB (show i<n by omega),ah g2,c',cond_false,
       iQ (show i+1<9223372036854775807 by omega)]) (λ_ _=>by
    refine⟨.inr (n,M),?_,n,M,.inr rfl,by omega,ay _,λx hx=>dh hx⟩
    have:¬((n-1+1:Nat):Int)<(n:Int):=by omega
    simp only[Js,this,decide_false,cond_false])
   obtain⟨b,hb,k,M',h3,h4,h5,h6⟩:=key;have hb:dk Js ((n,1),M)=some b:=hb;refine⟨k,M',?_,h4,h5,h6⟩;unfold MF;simp only[sA,decide_false,cond_false,hb,ai];rcases h3 with rfl | rfl<;>rfl
end Go.Mid
namespace Go.Mid
open Go.Hg (asc less A2w A0t A4z Gr PrV nbB A6j A4L Acy HOk idsP B9j A09)
structure Ctx (v:List Int)(es:List (List Int))(p:PrV):Prop where
 G:Gr v es
 hv:A4z v es=true
 nv:v.length<=9
 ne:es.length<=12
 np:p.length<=12
 hp:∀q∈p,nbB es q.1 q.2=true∧q.1∈v∧q.2∈v
 acy:Acy p
abbrev D5S:=Option ((List Int×List (List Int))×Int×List Int×List Int)
abbrev gm (v:List Int) (es:List (List Int)) (F:Nat) (eD dO:List Nat):D5S:=some ((v,es),(F:Int),jG eD,jG dO)
section
variable {v:List Int}{es:List (List Int)}{p:PrV}(C:Ctx v es p)
include C
theorem Ctx.el:∀e∈es,e.length<=1000000:=λe he=>by have:=C.G.two e he;omega
theorem Ctx.av:asc v=true:=C.G.l9.av
theorem Ctx.H:HOk v es:=⟨by have:=C.nv;omega,by have:=C.ne;omega,λe he=>by have:=C.G.two e he;omega,C.G.l9.sm⟩
theorem D1j:∃(F:Nat) (eD dO:List Nat),FB ((v,es),p)=some (gm v es F eD dO,0)∧sM v es p F eD dO:=by
 have nv:=C.nv;have ne:=C.ne;have np:=C.np;have nD:=C.av;have I:=XU C.G es.length (ay _);rw[pN] at I;have A:=XW nD (λq hq=>(C.hp q hq).2) p.length (ay _)
 rw[pN] at A;have Ag:∀j (h:j<v.length) (h':j<(oe v es es.length).2.length) k (hk:k<v.length),(oe v es es.length).2[j].testBit k=nbB es v[j] v[k]:=by
  intro j hj h' k hk;rw[I.nb j hj h' k hk];have own:∀a b:Int,es.contains [a,b]=true->a<b:=by
   intro a b h;have he:=bj.1 h;rcases C.G.cases he with⟨x,e,_⟩ | ⟨x,y,e,xL,_⟩
   . simp at e
   . simp only[List.cons.injEq,and_true] at e;omega
  unfold nbB;by_cases eC:v[j]<v[k]
  . rw [Int.min_eq_left (by omega),Int.max_eq_right (by omega)]
    have h2:es.contains [v[k],v[j]]=false:=by
     cases hc:es.contains [v[k],v[j]] with
     |false=>rfl
     |true=>have:=own _ _ hc;omega
    have h3:v[j]≠v[k]:=by omega
    rw[h2];simp[h3]
  . by_cases Nj:v[k]<v[j]
    . rw [Int.min_eq_right (by omega),Int.max_eq_left (by omega)]
      have h2:es.contains [v[j],v[k]]=false:=by
       cases hc:es.contains [v[j],v[k]] with
       |false=>rfl
       |true=>have:=own _ _ hc;omega
      have h3:v[j]≠v[k]:=by omega
      rw[h2];simp[h3]
    . have e:v[j]=v[k]:=by omega
      have h2:es.contains [v[j],v[k]]=false:=by
       cases hc:es.contains [v[j],v[k]] with
       |false=>rfl
       |true=>have:=own _ _ hc;omega
      have h4:es.contains [v[k],v[j]]=false:=by rw[←e] at h2 ⊢;exact h2
      rw[h2,h4];simp[e]
 have DC:sM v es p (oe v es es.length).1 (oe v es es.length).2 (so v p p.length):=⟨I.fl,λj hj=>by rw[I.fb j hj];rfl,I.nl,I.C1,Ag,A.al,A.alt,λj hj h' k hk=>A.ab j hj h' k hk⟩
 refine⟨_,_,_,?_,DC⟩;have l0:=D1h C.G (show v.length<=14 by omega) (show es.length<=1000000 by omega) p (jG (au v.length 0)) v.length
 have l1:=D1i nD (show v.length<=14 by omega) (show p.length<=1000000 by omega) C.hp (F:=(((oe v es es.length).1:Nat):Int)) I.nl I.C1 Ag (v,es)
 have zx:QF (es,())=some false:=by
  have key:=wo (f:=ME) es (λi=>(es,(),(es.length:Int),(i:Int))) (λ_=>false) (.inl 0) (.inr ()) (λi hi=>by
   have eg:(i:Int)<(es.length:Int):=by omega
   have h2:¬((es[i].length:Int)>2):=by have:=C.G.two _ (aM hi);omega
   simp only[ME,Wv,eg,decide_true,cond_true,aq,ar,ah hi,ai,h2,decide_false,cond_false,iQ (show i<9223372036854775807 by omega)]
   rfl) (by simp only[ME,ba,decide_false,cond_false])
  have key:dk ME (es,(),(es.length:Int),0)=_:=key;have HQ:(es.any λ_=>false)=false:=by simp
  rw[HQ] at key;unfold QF Ww;simp only[key];rfl
 have el:(Ay v p p.length).length=p.length:=by simp[Ay]
 obtain⟨M,s1,s2,s3⟩:=C7M (n:=p.length) np el;obtain⟨k,M',c1,c2,c3,c4⟩:=C1Y (n:=p.length) (by omega) s2
 have dK:∀x∈M'.take k,x∈Ay v p p.length:=λx hx=>s3 x (c4 x hx)
 have FK:∀x∈M'.take k,∃q∈p,x=(((A0t v q.1:Nat):Int),((A0t v q.2:Nat):Int)):=by
  intro x hx
  have:=dK x hx
  unfold Ay at this;rw[pN] at this;obtain⟨q,hq,rfl⟩:=bp.1 this;exact⟨q,hq,rfl⟩
 have NJ:Ej v.length (M'.take k):=by
  intro x hx;obtain⟨q,hq,rfl⟩:=FK x hx;have h1:=Go.Hg.iV (C.hp q hq).2.1;have h2:=Go.Hg.iV (C.hp q hq).2.2;simp only;omega
 have hlen:(M'.take k).length<=12:=by rw[aW];omega
 have fN:JK v.length (M'.take k)=0:=by
  unfold JK;have h1:¬(v.length:Int)>1000:=by omega
  have h2:¬((M'.take k).length:Int)>20000:=by omega
  have h3:¬(v.length:Int)<0:=by omega
  have h4:(M'.take k).any (HL v.length)=false:=by
   rw[List.any_eq_false];intro x hx hb;rw[XD] at hb
   have:=NJ x hx
   omega
  simp only[h1,h2,h3,h4,if_false,aI]
 obtain⟨f,hf⟩:=C.acy;have XY:=C7K (n:=v.length) (by omega) NJ (by omega) fN (f:=λi=>f (v.getD i 0)) (λu w h=>by
  obtain⟨q,hq,e⟩:=FK _ h;have e1:u=A0t v q.1:=by have:=congrArg Prod.fst e;simp only at this;omega
  have e2:w=A0t v q.2:=by have:=congrArg Prod.snd e;simp only at this;omega
  have g1:=Go.Hg.gn (C.hp q hq).2.1;have g2:=Go.Hg.gn (C.hp q hq).2.2;show f (v.getD u 0)<f (v.getD w 0);rw[e1,e2,bh,bh,g1,g2];exact hf q hq)
 have XZ:(au v.length (0:Int))=jG (au v.length 0):=by simp[jG]
 have hF:a8.wrap (qZ a8 1 (v.length:Int)-1)=((2 ^ v.length-1:Nat):Int):=by
  rw[HR (show v.length<16 by omega),Nat.one_shiftLeft]
  have Mb:=fD v.length
  have:(((2 ^ v.length:Nat):Int)-1)=((2 ^ v.length-1:Nat):Int):=by omega
  rw[this];exact HH (k:=.u16) rfl (yi (show 2 ^ v.length-1<2 ^ v.length by omega) (by omega))
 have hrl:(jG (au v.length 0)).length=v.length:=by simp
 have X0:¬(v.length:Int)>14:=by omega
 have nl1:(jG (oe v es es.length).2).length=v.length:=by rw[CW,I.nl]
 have nl2:(jG (so v p p.length)).length=v.length:=by rw[CW,A.al]
 unfold FB;simp only [B6w (show v.length<=1000000 by omega) C.el,C.hv,ai,bO,cond_false,zx,X0,decide_false,aq,decide_true,cond_true,lu,ar,jE (show v.length*2<=140737488355328 by omega),XZ,hrl,
  jE (ay _),hF,l0,l1,lS,s1,c1,jE c2,XY,a6 (e7 nl1),a6 (e7 nl2)]
omit C in
theorem C53 (nD:asc v=true)(nv:v.length<=16){l:List Int}(hl:∀x∈l,x∈v)(nl:l.length<=1000000)(F:Nat)(eD dO:List Nat):HE (gm v es F eD dO,l)=some ((A2w v l:Nat):Int):=by
 have key:=tQ (f:=MY) l.length (λi=>(gm v es F eD dO,((A2w v (l.take i):Nat):Int),l,(l.length:Int),(i:Int))) ((A2w v l:Nat):Int) (λi hi=>by
  have eg:(i:Int)<(l.length:Int):=by omega
  have hx:=hl _ (aM hi);have hp:=Go.Hg.iV hx;have hb:=yi (C4a (v:=v) (e:=l.take i) λy hy=>hl y (dh hy)) nv
  have e1:A2w v (l.take (i+1))=A2w v (l.take i) ||| 1 <<< A0t v l[i]:=by
   unfold A2w Go.Hg.bitsFrom;rw[vz hi,iK];rfl
  simp only [MY,eg,decide_true,cond_true,aq,ar,ah hi,ai,RB nD (show v.length<=1000000 by omega),hx,if_true,HR (show A0t v l[i]<16 by omega),HI (k:=.u16) rfl hb (xq (show A0t v l[i]<16 by omega)),e1,
   iQ (show i<9223372036854775807 by omega)]) (by
  simp only[MY,ba,decide_false,cond_false,pN])
 have key:dk MY (gm v es F eD dO,0,l,(l.length:Int),0)=_:=key;unfold HE;simp only[key,ai]
end
end Go.Mid
namespace Go.Mid
open Go.Hg (asc less A2w A0t A4z Gr PrV nbB A6j A4L A2B Acy idsP B9j A09 Rep ImpP ParP A2l pickL A4c A2a)
theorem C4t {m:Nat}(hm:m<tV)(h:rZ m=[]):m=0:=by
 by_cases h0:m=0
 . exact h0
 . obtain ⟨k,hk,_⟩:=W7 h0
   have:k∈rZ m:=cZ.2 ⟨cu.2 (by have:=NH hm hk;omega),hk⟩
   rw[h] at this;cases this
theorem C4u {m k:Nat}{r:List Nat}(hm:m<tV)(h:rZ m=k::r):m≠0∧m.testBit k=true∧(∀j,j<k->m.testBit j=false)∧rZ (m &&& (m-1))=r∧m &&& (m-1)<tV:=by
 have h0:m≠0:=by
  intro e;subst e;have h0:rZ 0=[]:=by unfold rZ;rw[kC];intro a _;simp
  rw[h0] at h;cases h
 obtain⟨k',nq,zj⟩:=W7 h0;rw[C4R (show k'<32 by have:=NH hm nq;omega) nq zj] at h
 obtain⟨rfl,hr⟩:=List.cons.inj h;exact⟨h0,nq,zj,hr,eU fC hm⟩
theorem NK {m k:Nat}(hm:m<tV):k∈rZ m↔m.testBit k=true:=by
 unfold rZ;rw[cZ,cu];exact⟨λh=>h.2,λh=>⟨by have:=NH hm h;omega,h⟩⟩
theorem En {m n:Nat}(h:m<2 ^ n)(hn:n<=16):m<tV:=br h (ez (by decide) hn)
section
variable {v:List Int}{es:List (List Int)}{p:PrV}(nv:v.length<=14){F:Nat}{eD dO:List Nat}(g:sM v es p F eD dO)
include nv g
omit nv in
theorem C1M {k:Nat}(hk:k<v.length):(jG dO)[k]?=some ((dO.getD k 0:Nat):Int)∧dO.getD k 0<2 ^ v.length∧∀j (hj:j<v.length),(dO.getD k 0).testBit j=A4L p v[j] v[k]:=by
 have hl:k<dO.length:=by rw[g.al];exact hk
 have d:dO.getD k 0=dO[k]:=by rw[bh,ah hl];rfl
 rw[d];exact⟨FF hl,g.alt _ (aM hl),λj hj=>g.ab k hk hl j hj⟩
theorem D9K {a b:Nat}(ha:a<2 ^ v.length)(hb:b<2 ^ v.length):∀ (L:List Nat) (x:Nat),rZ x=L->x<2 ^ v.length->
 dk B1z (gm v es F eD dO,(a:Int),(b:Int),(x:Int))=some (bif L.any (λk=>less (dO.getD k 0 &&& b) a==0) then .inl false else .inr ((a:Int),(b:Int)))
 | [],x,h,hx=>by
   rw[C4t (En hx (by omega)) h]
   refine qc ?_;simp[B1z]
 |k::r,x,h,hx=>by
   obtain⟨h0,hk,X2,hr,_⟩:=C4u (En hx (by omega)) h
   have B5:k<v.length:=b5 λhc=>by rw[Go.Hg.pO hx (by omega)] at hk;cases hk
   obtain⟨a1,a2,_⟩:=C1M g B5;have tK:((x:Int)>0):=by omega
   have st:B1z (gm v es F eD dO,(a:Int),(b:Int),(x:Int))=if(less (dO.getD k 0 &&& b) a==0)=true then some (.inr (.inl false)) else some (.inl (gm v es F eD dO,(a:Int),(b:Int),((x &&& (x-1):Nat):Int))):=by
    simp only [B1z,tK,decide_true,cond_true,ai,D25 (En hx (by omega)) hk X2,aq,ar,a1,Nn (k:=.u16) rfl (yi a2 (by omega)) (yi hb (by omega)),
     C5T (k:=.u16) rfl (yi (eU fC a2) (by omega)) (yi ha (by omega)),C9f,D42 h0 (En hx (by omega))]
    cases less (dO.getD k 0 &&& b) a==0<;>rfl
   simp only[List.any_cons];by_cases hc:(less (dO.getD k 0 &&& b) a==0)=true
   . rw[if_pos hc] at st;rw[qc st,hc,Bool.true_or,cond_true]
   . rw [if_neg hc] at st;have zm:(less (dO.getD k 0 &&& b) a==0)=false:=by simpa using hc
     rw[vw st,D9K ha hb r _ hr (eU fC hx),zm,Bool.false_or]
omit nv g in
theorem C4w {a b n:Nat}(ha:a<2 ^ n)(hb:b<2 ^ n)(h:∀j,j<n->a.testBit j=b.testBit j):a=b:=by
 apply jc;intro j;by_cases hj:j<n
 . exact h j hj
 . rw[Go.Hg.pO ha (by omega),Go.Hg.pO hb (by omega)]
theorem D90 {a b:Nat}(nD:asc v=true)(ha:a<2 ^ v.length)(hb:b<2 ^ v.length)(hr:Rep v es (idsP v a))(hs:Rep v es (idsP v b)) :
 B4h (gm v es F eD dO,(a:Int),(b:Int))=some (D8J p (idsP v a) (idsP v b)):=by
 have hd:CN .u16 (a:Int) (b:Int)=((less a b:Nat):Int):=C5T (k:=.u16) rfl (yi ha (by omega)) (yi hb (by omega))
 have eC:less a b<2 ^ v.length:=Xk ha;have key:=D9K nv g ha hb (rZ (less a b)) (less a b) rfl eC;unfold B4h;simp only[hd,key];have mem:∀{s j:Nat} (hj:j<v.length),v[j]∈idsP v s↔s.testBit j=true:=λ{s j} hj=>by
  rw[←bj,Go.Hg.wv nD hj]
 have HQ:(rZ (less a b)).any (λk=>less (dO.getD k 0 &&& b) a==0)=true↔¬ ∀x∈idsP v a,x∉idsP v b->∃y∈idsP v b,y∉idsP v a∧A4L p y x=true:=by
  rw[fV];constructor
  . rintro ⟨k,hk,h0⟩ kF;rw [NK (En eC (by omega)),Go.Hg.qs] at hk
    simp only[aj,ed] at hk;have B5:k<v.length:=b5 λhc=>by rw[Go.Hg.pO ha (by omega)] at hk;exact absurd hk.1 (by simp)
    obtain⟨y,hy,hny,hyb⟩:=kF v[k] ((mem B5).2 hk.1) (λh=>(by rw[mem B5,hk.2] at h;cases h))
    obtain⟨j,hj,rfl,hyj⟩:=Go.Hg.l8.1 hy;obtain⟨_,_,a3⟩:=C1M g B5;have h1:(less (dO.getD k 0 &&& b) a).testBit j=true:=by
     rw[Go.Hg.qs,gp,a3 j hj,hyb,hyj]
     have:a.testBit j=false:=by
      cases hc:a.testBit j with
      |false=>rfl
      |true=>exact absurd ((mem hj).2 hc) hny
     simp[this]
    rw[eq_of_beq h0,eT] at h1;cases h1
  . intro h;refine b5 λhc=>h λx hx hnx=>?_
    obtain⟨k,B5,rfl,hka⟩:=Go.Hg.l8.1 hx;have hkb:b.testBit k=false:=by
     cases DF:b.testBit k with
     |false=>rfl
     |true=>exact absurd ((mem B5).2 DF) hnx
    have JG:k∈rZ (less a b):=by rw[NK (En eC (by omega)),Go.Hg.qs,hka,hkb];rfl
    have hne:less (dO.getD k 0 &&& b) a≠0:=λe=>hc ⟨k,JG,by rw[e];rfl⟩
    obtain⟨j,hj,_⟩:=W7 hne;obtain⟨_,a2,a3⟩:=C1M g B5;rw[Go.Hg.qs,gp] at hj;simp only[aj,ed] at hj;have hjn:j<v.length:=b5 λhc=>by rw[Go.Hg.pO hb (by omega)] at hj;exact absurd hj.1.2 (by simp)
    refine⟨v[j],(mem hjn).2 hj.1.2,λh=>(by rw[mem hjn,hj.2] at h;cases h),?_⟩
    rw[←a3 j hjn];exact hj.1.1
 have hne:(a != b)=true↔∃y∈idsP v b,y∉idsP v a:=by
  rw[bne_iff_ne];constructor
  . intro h;refine b5 λhc=>h ?_
    have dK:∀y∈idsP v b,y∈idsP v a:=λy hy=>b5 λhn=>hc ⟨y,hy,hn⟩
    have:=Go.Hg.ayg hr hs dK
    refine C4w ha hb λj hj=>?_
    rw[←Go.Hg.wv nD hj (s:=a),←Go.Hg.wv nD hj (s:=b),this]
  . rintro⟨y,h1,h2⟩ e;subst e;exact h2 h1
 have ayj:(((a:Nat):Int) != ((b:Nat):Int))=(a != b):=by
  cases hc:a != b with
  |true =>
    rw[bne_iff_ne] at hc ⊢;omega
  |false =>
    have:a=b:=by simpa using hc
    subst this;simp
 have goal:(bif (rZ (less a b)).any (λk=>less (dO.getD k 0 &&& b) a==0) then false else(a != b))=D8J p (idsP v a) (idsP v b):=by
  apply c6.2;rw[D8i];unfold ImpP;cases hc:(rZ (less a b)).any (λk=>less (dO.getD k 0 &&& b) a==0) with
  |true =>
    have:=HQ.1 hc
    exact⟨λh=>(by cases h),λh=>absurd h.1 this⟩
  |false =>
    rw[cond_false,hne]
    have:∀x∈idsP v a,x∉idsP v b->∃y∈idsP v b,y∉idsP v a∧A4L p y x=true:=b5 λh=>(by have:=HQ.2 h;rw[hc] at this;cases this)
    exact⟨λh=>⟨this,h⟩,λh=>h.2⟩
 rw[←goal];cases (rZ (less a b)).any (λk=>less (dO.getD k 0 &&& b) a==0) with
 |true=>rfl
 |false=>simp only[cond_false,ai,lS,ayj]
theorem D7L:∀ (L:List Nat) (x bt:Nat),rZ x=L->x<2 ^ v.length->bt<2 ^ v.length->
 dk D7i (gm v es F eD dO,(bt:Int),(x:Int))=some ((L.foldl (λb k=>b &&& dO.getD k 0) bt:Nat):Int)
 | [],x,bt,h,hx,_=>by
   rw[C4t (En hx (by omega)) h]
   refine qc ?_;simp[D7i]
 |k::r,x,bt,h,hx,hbt=>by
   obtain⟨h0,hk,X2,hr,_⟩:=C4u (En hx (by omega)) h
   have B5:k<v.length:=b5 λhc=>by rw[Go.Hg.pO hx (by omega)] at hk;cases hk
   obtain⟨a1,a2,_⟩:=C1M g B5;have tK:((x:Int)>0):=by omega
   have st:D7i (gm v es F eD dO,(bt:Int),(x:Int))=some (.inl (gm v es F eD dO,((bt &&& dO.getD k 0:Nat):Int),((x &&& (x-1):Nat):Int))):=by
    simp only[D7i,tK,decide_true,cond_true,ai,D25 (En hx (by omega)) hk X2,aq,ar,a1,Nn (k:=.u16) rfl (yi hbt (by omega)) (yi a2 (by omega)),D42 h0 (En hx (by omega))]
   rw[vw st,D7L r _ _ hr (eU fC hx) (eU fC hbt)];rfl
theorem D8T {a b:Nat}(nD:asc v=true)(ha:a<2 ^ v.length)(hb:b<2 ^ v.length):D7n (gm v es F eD dO,(a:Int),(b:Int))=some (D7u p (idsP v a) (idsP v b)):=by
 have hd:CN .u16 (a:Int) (b:Int)=((less a b:Nat):Int):=C5T (k:=.u16) rfl (yi ha (by omega)) (yi hb (by omega))
 have hd2:CN .u16 (b:Int) (a:Int)=((less b a:Nat):Int):=C5T (k:=.u16) rfl (yi hb (by omega)) (yi ha (by omega))
 have eC:less a b<2 ^ v.length:=Xk ha;have KX:less b a<2 ^ v.length:=Xk hb;have key:=D7L nv g (rZ (less a b)) (less a b) (less b a) rfl eC KX;unfold D7n;simp only[hd,hd2,key,ai];congr 1;have mem:∀{s j:Nat} (hj:j<v.length),v[j]∈idsP v s↔s.testBit j=true:=λ{s j} hj=>by
  rw[←bj,Go.Hg.wv nD hj]
 have fold:∀(L:List Nat) (bt j:Nat),(L.foldl (λb k=>b &&& dO.getD k 0) bt).testBit j=(bt.testBit j&&L.all λk=>(dO.getD k 0).testBit j):=by
  intro L
  induction L with
  |nil=>intro bt j;simp
  |cons k r ih=>intro bt j;rw[List.foldl_cons,ih,gp,List.all_cons,Bool.and_assoc]
 have hz:((((rZ (less a b)).foldl (λb k=>b &&& dO.getD k 0) (less b a):Nat):Int) != 0)=((rZ (less a b)).foldl (λb k=>b &&& dO.getD k 0) (less b a) != 0):=by
  have:=C9f ((rZ (less a b)).foldl (λb k=>b &&& dO.getD k 0) (less b a))
  simp only[bne,this]
 rw[hz];apply c6.2;rw[D7N,bne_iff_ne];unfold ParP;constructor
 . intro h;obtain ⟨j,hj,_⟩:=W7 h;rw [fold,Go.Hg.qs] at hj;simp only [aj,ed,bB] at hj;have hjn:j<v.length:=b5 λhc=>by rw [Go.Hg.pO hb (by omega)] at hj;exact absurd hj.1.1 (by simp)
   refine⟨v[j],(mem hjn).2 hj.1.1,λh=>(by rw[mem hjn,hj.1.2] at h;cases h),λx hx hnx=>?_⟩
   obtain⟨k,B5,rfl,hka⟩:=Go.Hg.l8.1 hx;have hkb:b.testBit k=false:=by
    cases DF:b.testBit k with
    |false=>rfl
    |true=>exact absurd ((mem B5).2 DF) hnx
   have JG:k∈rZ (less a b):=by rw[NK (En eC (by omega)),Go.Hg.qs,hka,hkb];rfl
   obtain⟨_,_,a3⟩:=C1M g B5;rw[←a3 j hjn];exact hj.2 k JG
 . rintro ⟨y,hy,hny,kF⟩ h0;obtain ⟨j,hjn,rfl,hjb⟩:=Go.Hg.l8.1 hy;have hja:a.testBit j=false:=by
    cases hca:a.testBit j with
    |false=>rfl
    |true=>exact absurd ((mem hjn).2 hca) hny
   have h1:((rZ (less a b)).foldl (λb k=>b &&& dO.getD k 0) (less b a)).testBit j=true:=by
    rw[fold,Go.Hg.qs,hjb,hja];simp only[Bool.not_false,fR,Bool.true_and,bB];intro k hk;rw[NK (En eC (by omega)),Go.Hg.qs] at hk
    simp only[aj,ed] at hk;have B5:k<v.length:=b5 λhc=>by rw[Go.Hg.pO ha (by omega)] at hk;exact absurd hk.1 (by simp)
    obtain⟨_,_,a3⟩:=C1M g B5;rw[a3 j hjn];exact kF v[k] ((mem B5).2 hk.1) (λh=>(by rw[mem B5,hk.2] at h;cases h))
   rw[h0,eT] at h1;cases h1
end
end Go.Mid
namespace Go.Mid
open Go.Hg (asc less A2w A0t A4z Gr PrV nbB A6j A4L A2B Acy idsP B9j A09 Rep ImpP ParP A2l A4c A2a A0A A5O)
section
variable {v:List Int}{es:List (List Int)}{p:PrV}(nv:v.length<=14)(nD:asc v=true)
include nv nD
theorem D1k {l:List Int}(hl:∀x∈l,x∈v)(ha:asc l=true):idsP v (A2w v l)=l:=by
 have:=nv
 refine Go.Hg.nC (Go.Hg.gr.1 (Go.Hg.oC nD _)) (Go.Hg.gr.1 ha) λx=>?_
 rw[Go.Hg.l8];constructor
 . rintro⟨i,hi,rfl,hb⟩;rw[Go.Hg.sK nD hl i hi] at hb;exact bj.1 hb
 . intro hx;obtain⟨i,hi,rfl⟩:=eA.1 (hl x hx);exact⟨i,hi,rfl,by rw[Go.Hg.sK nD hl i hi];exact bj.2 hx⟩
variable {F:Nat}{eD dO:List Nat}(g:sM v es p F eD dO)
include g
end
end Go.Mid
namespace Go.Mid
open Go.Hg (asc less A2w A0t A4z Gr PrV nbB A6j A4L A2B Acy idsP B9j D4Q A09 Rep ImpP ParP A2l A4c A2a)
theorem C0w {l:List Int}(hl:l.length<=1000000)(x:Int):Q4 (l,x)=some (l.filter λy=>y != x):=by
 have key:=Xp (f:=M7) l (λy=>if(y != x) then[y] else[]) (λi acc=>((l,x,acc.length,(i:Int)),acc)) (λacc=>(acc.length,acc)) (λi hi=>by
  have eg:(i:Int)<(l.length:Int):=by omega
  have hl:=Xq (λy=>y != x) l i
  simp only[M7,eg,decide_true,cond_true,aq,ar,ah hi,ai,iQ (show i<9223372036854775807 by omega),jE (ay _)]
  cases l[i] != x with
  |false=>simp
  |true =>
    simp only[cond_true,if_true,pN,aR,List.length_singleton];rw[jE (by omega),cond_true]) (by
  simp only[M7,ba,decide_false,cond_false])
 rw[Rj] at key;have key:dk M7 ((l,x,0,0),[])=_:=key;unfold Q4;simp only[key,ai,jE (ay _),cond_true,pN]
theorem C4y {p:PrV}(np:p.length<=1000000)(ha:Acy p):∀ (m:Nat) (rest:List Int),rest.length<=m->rest.length<=1000000->dk Nb (p,rest)=some (.inr ())
 |m,rest,hm,hl=>by
   by_cases h0:rest=[]
   . subst h0;exact qc (by simp[Nb])
   . match m,hm with
     |0,hm=>exact absurd (dA.1 (by omega)) h0
     |m+1,hm =>
       obtain⟨x,hx,hb⟩:=Go.Hg.BS ha rest h0;have hf:(tm (λ_ x=>A2B p rest x) rest 0).isSome=true:=by
        rw[Qm (λx=>A2B p rest x)]
        exact fV.2 ⟨x,hx,hb⟩
       obtain⟨k,hk⟩:=eX.1 hf;obtain⟨_,k1,⟨k2,k3⟩,k4⟩:=V6 hk;simp only[Nat.sub_zero,bS] at k1 k2 k3 k4;have l3:dk Na (p,rest,(rest.length:Int),0)=some (p,rest.filter (λy=>y != rest[k]),(rest.length:Int)):=by
        have key:=tQ (f:=Na) k (λi=>(p,rest,(rest.length:Int),(i:Int))) (p,rest.filter (λy=>y != rest[k]),(rest.length:Int)) (λi hi=>by
         have eg:(i:Int)<(rest.length:Int):=by omega
         simp only[Na,eg,aq,decide_true,cond_true,ar,ah (show i<rest.length by omega),ai,Xr np hl,k4 i (by omega) hi,cond_false,iQ (show i<9223372036854775807 by omega)]) (by
         have nq:(k:Int)<(rest.length:Int):=by omega
         simp only[Na,nq,aq,decide_true,cond_true,ar,ah k2,ai,Xr np hl,k3,C0w hl])
        exact key
       have eC:(rest.filter λy=>y != rest[k]).length<rest.length:=by
        refine Nat.lt_of_le_of_ne (dt _ _) λe=>?_
        have:=List.length_filter_eq_length_iff.1 e rest[k] (aM k2)
        simp at this
       have tK:((rest.length:Int)>0):=by omega
       have hne:(((rest.filter λy=>y != rest[k]).length:Int)==(rest.length:Int))=false:=by rw[beq_eq_false_iff_ne];omega
       have st:Nb (p,rest)=some (.inl (p,rest.filter λy=>y != rest[k])):=by
        simp only[Nb,tK,decide_true,cond_true,l3,ai,hne,cond_false]
       rw[vw st];exact C4y np ha m _ (by omega) (by omega)
section
variable {v:List Int}{es:List (List Int)}{p:PrV}(C:Ctx v es p)
include C
theorem C0x:Nc ((v,es),p)=some 0:=by
 have nv:=C.nv;have ne:=C.ne;have np:=C.np;have l0:=wo (f:=M8) es (λi=>((p,(i:Int)),v,es)) (λ_=>false) (.inl 14) (.inr (p,v,es)) (λi hi=>by
  have eg:(i:Int)<(es.length:Int):=by omega
  have h2:¬((es[i].length:Int)>2):=by have:=C.G.two _ (aM hi);omega
  simp only[M8,eg,decide_true,cond_true,aq,ar,ah hi,ai,h2,decide_false,cond_false,iQ (show i<9223372036854775807 by omega)]
  rfl) (by simp only[M8,ba,decide_false,cond_false])
 have l0:dk M8 ((p,0),v,es)=_:=l0;have l1:=wo (f:=M9) p (λi=>((p,(i:Int)),v,es)) (λ_=>false) (.inl 1) (.inr (p,v,es)) (λi hi=>by
  have eg:(i:Int)<(p.length:Int):=by omega
  have hb:=(C.hp _ (aM hi)).1;simp only[M9,eg,decide_true,cond_true,aq,ar,ah hi,ai,C1D (show es.length<=1000000 by omega) C.el,hb,bO,cond_false,iQ (show i<9223372036854775807 by omega)]
  rfl) (by simp only[M9,ba,decide_false,cond_false])
 have l1:dk M9 ((p,0),v,es)=_:=l1;have h1:(es.any λ_=>false)=false:=by simp
 have h2:(p.any λ_=>false)=false:=by simp
 rw[h1] at l0;rw[h2] at l1;have X0:¬(v.length:Int)>14:=by omega
 unfold Nc;simp only[C0p (show v.length<=1000000 by omega) C.el,C.hv,ai,bO,cond_false,l0,if_false,aI,lS,X0,decide_false,l1,C4y (show p.length<=1000000 by omega) C.acy v.length v (ay _) (by omega)]
theorem C4z {L:List (List Int)}(hL:L.length<=10)(hl:∀l∈L,l.length<=100000):JE ((v,es),p,L)=some (bif L.all (A09 v es) then 0 else 1):=by
 have nv:=C.nv;have ne:=C.ne;have key:=wo (f:=Ng) L (λi=>((L,(i:Int)),v,es)) (λl=>!A09 v es l) (.inl 1) (.inr ()) (λi hi=>by
  have eg:(i:Int)<(L.length:Int):=by omega
  simp only[Ng,eg,decide_true,cond_true,aq,ar,ah hi,ai,C0o (show v.length<=100000 by omega) (show es.length<=1000000 by omega) C.el (hl _ (aM hi)),iQ (show i<9223372036854775807 by omega)]
  cases A09 v es L[i]<;>rfl) (by simp only[Ng,ba,decide_false,cond_false])
 have key:dk Ng ((L,0),v,es)=_:=key;unfold JE;simp only[C0x C,ai,bne_self_eq_false,cond_false,key];rw[Xn];cases L.any λl=>!A09 v es l<;>rfl
theorem X3 {l:List Int}(h:A09 v es l=true):l.length<=9∧asc l=true∧∀x∈l,x∈v:=by
 have R:=(Go.Hg.rH C.G).1 h
 have:=C.nv
 have hs:=Go.Hg.mI (Go.Hg.gr.1 R.asc) (Go.Hg.gr.1 C.av) R.sub;exact⟨by have:=hs.length_le;omega,R.asc,R.sub⟩
variable {F:Nat}{eD dO:List Nat}(hb:FB ((v,es),p)=some (gm v es F eD dO,0))(g:sM v es p F eD dO)
include hb
theorem D27 {r s:List Int}(hr:r.length<=20)(hs:s.length<=20):QW ((v,es),p,r,s)=some (bif A09 v es r&&A09 v es s then(gm v es F eD dO,((A2w v r:Nat):Int),((A2w v s:Nat):Int),0) else(none,0,0,1)):=by
 have nv:=C.nv;have ne:=C.ne;have m1:=A9j (l:=r) C.av (show v.length<=100000 by omega) (show es.length<=1000000 by omega) C.el (show r.length<=100000 by omega)
 have m2:=A9j (l:=s) C.av (show v.length<=100000 by omega) (show es.length<=1000000 by omega) C.el (show s.length<=100000 by omega)
 unfold QW;simp only[hb,ai,bne_self_eq_false,cond_false,m1,m2];cases h1:A09 v es r with
 |false=>rfl
 |true =>
   cases h2:A09 v es s with
   |false=>rfl
   |true =>
     have o1:=C53 (es:=es) C.av (show v.length<=16 by omega) (X3 C h1).2.2 (show r.length<=1000000 by omega) F eD dO
     have o2:=C53 (es:=es) C.av (show v.length<=16 by omega) (X3 C h2).2.2 (show s.length<=1000000 by omega) F eD dO
     simp only[bO,cond_false,o1,o2,ai,fR,cond_true]
include g
end
end Go.Mid
namespace Go.Mid
open Go.Hg (asc Gr PrV nbB A6j A4L A2B Acy D4Q A09 Rep ImpP ParP A2a A06 hEs)
theorem D44 {N:Nat}{E:List Nat}{R:List Int}{skip:Nat}(hR:∀r∈R,0<=r):Ctx (A06 (N%9)) (hEs N (E.map pR)) (BT (A06 (N%9)) R skip (hEs N (E.map pR))):=by
 have G:Gr (A06 (N%9)) (hEs N (E.map pR)):=D5O;have hl:(A06 (N%9)).length=N%9:=Go.Hg.lO _;have he:=Go.Hg.pP N (E.map pR);exact⟨G,Go.Hg.zK N (E.map pR),by omega,he,dF D40 he,λq hq=>D5P G hq,D4Z G hR (C9k (by omega))⟩
theorem E0t:(some true).bind (λu=>some u)=some true:=rfl
section
variable {v:List Int}{es:List (List Int)}{p:PrV}(C:Ctx v es p)
include C
end
section
variable {N:Nat}{E:List Nat}{R:List Int}{skip:Nat}(hE:E.length<=reachBytes)(hR:∀r∈R,0<=r)
include hE hR
end
theorem X4 {x:Int}(h:(nI .u8 x).wf=true):0<=x∧x<=255:=by
 simp only[Lit.wf,aj,decide_eq_true_eq] at h;have h1:dp.min=0:=rfl;have h2:dp.max=255:=rfl;rw[h1,h2] at h;exact h
theorem D45 {x:Int}(h:(nI .u16 x).wf=true):0<=x:=by
 simp only[Lit.wf,aj,decide_eq_true_eq] at h;have h1:a8.min=0:=rfl;rw[h1] at h;exact h.1
theorem C54:∀ {l:List Int},(∀ x∈l,0<=x)->∃ L:List Nat,l=jG L
 | [],_=>⟨[],rfl⟩
 |x::r,h=>by
   obtain⟨n,hn⟩:=eB (h x (by simp))
   obtain⟨L,hL⟩:=C54 (l:=r) λy hy=>h y (bC _ hy)
   exact⟨n::L,by rw[hn,hL];rfl⟩
section
variable (g:Int×List Int)(q:List Int×Int)(h1:(nI .u8 g.1).wf=true)(h2:g.2.length<=reachBytes)(h3:∀x∈g.2,(nI .u8 x).wf=true)(h4:∀x∈q.1,(nI .u8 x).wf=true)(h5:(nI .u16 q.2).wf=true)
include h1 h3 h5
theorem C9D:∃(N:Nat) (E:List Nat) (skip:Nat),g=((N:Int),jG E)∧q.2=(skip:Int):=by
 obtain⟨N,hN⟩:=eB (X4 h1).1;obtain⟨E,hE⟩:=C54 λx hx=>(X4 (h3 x hx)).1
 obtain⟨k,hk⟩:=eB (D45 h5);exact⟨N,E,k,Prod.ext hN hE,hk⟩
include h2 h4
end
end Go.Mid
namespace Go.Mid
open Go.Hg (asc Gr PrV nbB A6j A4L A2B Acy D4Q A09 Rep ImpP ParP A2a A06 hEs)
section
variable {v:List Int}{es:List (List Int)}{p:PrV}(C:Ctx v es p)
include C
theorem E0u {r s:List Int}(hr:r.length<=20)(hs:s.length<=20):JE ((v,es),p,[r,s])=some (bif A09 v es r&&A09 v es s then 0 else 1):=by
 rw[C4z C (L:=[r,s]) (by simp) (λl hl=>by simp only[aG,List.not_mem_nil,or_false] at hl;rcases hl with rfl | rfl<;>omega)]
 simp
theorem E0A {r s:List Int}(hr:r.length<=20)(hs:s.length<=20):((E0p ((v,es),p,r,s)).bind λq =>
 (E0q ((v,es),p,r,s)).bind λr' =>
   (JE ((v,es),p,[r,s])).bind λs' =>
     bif s' != (0:Int) then bif q.2==s' then bif r'.2==s' then bif !q.1 then some !r'.1 else some false else some false else some false
     else
      bif q.2==(0:Int) then
       bif r'.2==(0:Int) then
        (B4E (p,r,s)).bind λt =>
          bif q.1==t then(E0o (p,r,s)).bind λy1=>bif r'.1==y1 then bif !r'.1 then some true else some q.1 else some false else some false
       else some false
      else some false)=some true:=by
 obtain⟨F,eD,dO,hb,g⟩:=D1j C;have np:=C.np;have nv:=C.nv;unfold E0p E0q;simp only[D27 C hb hr hs,ai,E0u C hr hs];cases h1:A09 v es r with
 |false=>rfl
 |true =>
   cases h2:A09 v es s with
   |false=>rfl
   |true =>
     obtain⟨_,a1,s1⟩:=X3 C h1;obtain⟨_,a2,s2⟩:=X3 C h2;have e1:=D1k (show v.length<=14 by omega) C.av s1 a1
     have e2:=D1k (show v.length<=14 by omega) C.av s2 a2
     have g1:=D90 (show v.length<=14 by omega) g C.av (C4a s1) (C4a s2) (by rw[e1];exact(Go.Hg.rH C.G).1 h1) (by rw[e2];exact(Go.Hg.rH C.G).1 h2)
     have g2:=D8T (show v.length<=14 by omega) g C.av (C4a s1) (C4a s2)
     rw[e1,e2] at g1 g2;have hi:D7u p r s=true->D8J p r s=true:=λh=>D8i.2 (Go.Hg.ave (D7N.1 h))
     simp only [fR,cond_true,beq_self_eq_true,g1,g2,ai,bne_self_eq_false,cond_false,D9N (show p.length<=1000000 by omega) (show r.length<=1000000 by omega) (show s.length<=1000000 by omega),
      E0s (show p.length<=1000000 by omega) (show r.length<=1000000 by omega) (show s.length<=1000000 by omega)]
     cases hp:D7u p r s with
     |false=>rfl
     |true=>rw[hi hp];rfl
end
section
variable {N:Nat}{E:List Nat}{R:List Int}{skip:Nat}(hE:E.length<=reachBytes)(hR:∀r∈R,0<=r)
include hE hR
theorem E0B (r s:List Int):E0l (((N:Int),jG E),(R,(skip:Int)),r,s)=some true:=by
 unfold E0l;simp only[C9j hE,ai,bO,cond_false];cases decide (E.length<=12) with
 |false=>rfl
 |true =>
   have e1:cP 0 2=true:=rfl;have e2:cP 1 2=true:=rfl;by_cases h:(r.length:Int)>20
   . simp only[bO,cond_false,cond_true,e1,h,decide_true,E0t]
   . by_cases h':(s.length:Int)>20
     . simp only[bO,cond_false,cond_true,e1,e2,h,h',decide_true,decide_false,E0t]
     . simp only[bO,cond_false,cond_true,e1,e2,h,h',decide_false];exact E0A (D44 hR) (by omega) (by omega)
end
section
variable (g:Int×List Int)(q:List Int×Int)(h1:(nI .u8 g.1).wf=true)(h2:g.2.length<=reachBytes)(h3:∀x∈g.2,(nI .u8 x).wf=true)(h4:∀x∈q.1,(nI .u8 x).wf=true)(h5:(nI .u16 q.2).wf=true)
include h1 h2 h3 h4 h5
theorem E0v (r s:List Int):E0l (g,q,r,s)=some true:=by
 obtain⟨N,E,k,rfl,hk⟩:=C9D g q h1 h3 h5;obtain⟨R,s'⟩:=q;subst hk;exact E0B (by rw[CW] at h2;exact h2) (λr hr=>(X4 (h4 r hr)).1) r s
end
end Go.Mid
namespace Go.Mid
open Go.Hg (asc Gr PrV nbB A6j A4L A2B Acy D4Q A09 Rep ImpP ParP A2a A06 hEs)
section
variable {G:Option ((List Int×List (List Int))×Int×List Int×List Int)}{d:List Int->Bool}
end
section
variable {v:List Int}{es:List (List Int)}{p:PrV}(C:Ctx v es p)
include C
end
section
variable {N:Nat}{E:List Nat}{R:List Int}{skip:Nat}(hE:E.length<=reachBytes)(hR:∀r∈R,0<=r)
include hE hR
end
section
variable (g:Int×List Int)(q:List Int×Int)(h1:(nI .u8 g.1).wf=true)(h2:g.2.length<=reachBytes)(h3:∀x∈g.2,(nI .u8 x).wf=true)(h4:∀x∈q.1,(nI .u8 x).wf=true)(h5:(nI .u16 q.2).wf=true)
include h1 h2 h3 h4 h5
end
end Go.Mid
