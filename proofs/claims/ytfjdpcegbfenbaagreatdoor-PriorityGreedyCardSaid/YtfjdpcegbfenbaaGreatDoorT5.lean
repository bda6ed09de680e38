/- Closures of relations, ascending lists: plain Lean, no program. -/
import Derived.Test.YtfjdpcegbfenbaaGreatDoorT4
import Derived.Test.YtfjdpcegbfenbaaGreatDoorN2
import Derived.Test.YtfjdpcegbfenbaaGreatDoorT2
set_option linter.unusedSimpArgs false
set_option linter.unusedVariables false
open Bool renaming eq_iff_iff → de, false_eq_true → aI, not_true → b3, and_eq_true → aj, not_false → ek, and_self → fV
open Classical renaming byContradiction → bZ
open Go.IntKind renaming i64 → af, u64 → aG, u16 → bg, u32 → cG, wrap → hO, bits → gx, signed → fh, u8 → dk
open Int renaming toNat_natCast → az, natCast_nonneg → au, lt_irrefl → bx, eq_ofNat_of_zero_le → eE, le_refl → lr, natCast_zero → cM, toNat → lS
open List renaming pairwise_cons → bN, mem_cons → aE, mem_cons_of_mem → bC, length_cons → ba, cons_append → aS, nil_append → a6, length_take → aW, length_append → aQ, length_drop → cn, getElem?_append_right → bE, length → cq, length_nil → cN, getElem?_eq_getElem → ah, set_append_right → eh, drop_eq_getElem_cons → bY, set_cons_zero → dN, getElem?_eq_some_iff → aF, ext_getElem? → fC, getElem?_set → dD, take_of_length_le → a7, length_set → ik, set_set → nz, take_append_drop → bM, replicate → aq, length_replicate → gn, append_assoc → bf, map → ft, range → bA, filter_append → eV, map_append → b5, getElem?_eq_none → bI, length_map → aB, length_filter_le → dt, mem_map → bj, mem_filter → cf, getElem_mem → aP, drop_length → eW, append_nil → bD, map_congr_left → eK, mem_range → cA, take → aN, nodup_cons → bV, pairwise_append → cF, mem_singleton → aX, mem_append → ay, mem_append_left → cX, mem_append_right → kI, nodup_append → aT, contains_iff_mem → a8, mem_cons_self → dO, take_length → dT, mem_of_getElem? → bG, map_cons → aD, length_eq_zero_iff → dA, filter_eq_nil_iff → ky, length_pos_iff → lH, map_set → fa, mem_or_eq_of_mem_set → bz, getElem?_set_ne → eB, pairwise_map → ed, foldl_append → iK, mem_iff_getElem → dQ, getD_eq_getElem?_getD → bh, getElem_set → m9, eq_of_mem_replicate → fc, getElem?_cons_zero → bP, mem_of_mem_take → dh, find?_cons → il
open List.Pairwise renaming filter → fq
open Nat renaming le_trans → du, min_eq_left → cY, le_refl → ar, sub_self → gz, add_assoc → bU, blt → cQ, beq → iI, zero_le → dg, le_of_lt → fM, min_eq_right → ji, zero_add → bR, lt_of_lt_of_le → bp, pow_le_pow_right → eD, zero_testBit → eX, eq_of_testBit_eq → jc, testBit_and → gw, or_lt_two_pow → fD, testBit_or → fp, two_pow_pos → fG, le_of_eq → fQ, add_sub_cancel → dP, lt_of_le_of_lt → ez, and_le_left → eM
open Option renaming bind_some → ai, map_some → ak
namespace Go.Mid
theorem mB {R:Int→Int→Prop} (FM:∀ a,¬ R a a) (Li:∀ a b,R a b→R b a→False):∀ {l m:List Int},l.Pairwise R→m.Pairwise R→(∀ x,x ∈ l↔x ∈ m)→l=m
 | [],[],_,_,_=>rfl
 | [],b::m,_,_,h=>absurd ((h b).2 (by simp)) (by simp)
 | a::l,[],_,_,h=>absurd ((h a).1 (by simp)) (by simp)
 | a::l,b::m,hl,hm,h=>by
   have w5:=bN.1 hl;have vt:=bN.1 hm;have qO:a=b:=by
    rcases aE.1 ((h a).1 (by simp)) with e | e
    · exact e
    · rcases aE.1 ((h b).2 (by simp)) with e2 | e2
      · exact e2.symm
      · exact (Li _ _ (w5.1 b e2) (vt.1 a e)).elim
   subst qO;congr 1;refine mB FM Li w5.2 vt.2 fun x=>?_
   constructor
   · intro hx;rcases aE.1 ((h x).1 (bC _ hx)) with e | e
     · subst e; exact (FM _ (w5.1 _ hx)).elim
     · exact e
   · intro hx;rcases aE.1 ((h x).2 (bC _ hx)) with e | e
     · subst e; exact (FM _ (vt.1 _ hx)).elim
     · exact e
theorem Pf {l:List Int} {x:Int}:x ∈ lI l↔x ∈ l:=(Kl l).mem_iff
theorem C9a {l:List Int} (h:l.Nodup):(lI l).Pairwise (· < ·):=by
 have h1:=T8 l;have h2:(lI l).Nodup:=(Kl l).nodup_iff.2 h;exact (h1.and h2).imp fun ⟨a,b⟩=>by omega
end Go.Mid
namespace Go.Mid
def jf:List Int→List Int
 | []=>[]
 | [x]=>[x]
 | x::y::r=>if x=y then jf (y::r) else x::jf (y::r)
theorem Ph:∀ (l:List Int) (x:Int),x ∈ jf l↔x ∈ l
 | [],x=>by simp [jf]
 | [a],x=>by simp [jf]
 | a::b::r,x=>by
   unfold jf;split
   · rename_i h;rw [Ph (b::r) x,h];simp
   · rw [aE,Ph (b::r) x];simp
theorem Lj:∀ l:List Int,(jf l).length ≤ l.length
 | []=>by simp [jf]
 | [a]=>by simp [jf]
 | a::b::r=>by
   unfold jf
   have:=Lj (b::r)
   split <;> simp only [ba] at * <;> omega
theorem B6S:∀ (l:List Int) (x:Int),l ≠ []→jf (l++[x])=if l.getLast?=some x then jf l else jf l++[x]
 | [],_,h=>absurd rfl h
 | [a],x,_=>by
   simp only [aS,a6,jf,List.getLast?_singleton,Option.some.injEq];by_cases h:a=x
   · simp [h]
   · simp [h]
 | a::b::r,x,_=>by
   have ih:=B6S (b::r) x (by simp)
   have e:(a::b::r).getLast?=(b::r).getLast?:=by simp
   rw [e];simp only [aS] at ih ⊢;rw [jf,ih]
   conv=>rhs; rw [jf]
   by_cases h1:a=b <;> by_cases h2:(b::r).getLast?=some x <;> simp [h1,h2]
def pg (l:List Int) (m:Nat):List Int:=jf (l.take m)++l.drop (jf (l.take m)).length
theorem C1K (l:List Int) (m:Nat):(jf (l.take m)).length ≤ m:=du (Lj _) (by rw [aW]; omega)
theorem C38 (l:List Int) (m:Nat):(pg l m).length=l.length:=by
 unfold pg;have h1:=Lj (l.take m);rw [aW] at h1;rw [aQ,cn]; omega
theorem C39 {l:List Int} {m i:Nat} (h:(jf (l.take m)).length ≤ i):(pg l m)[i]?=l[i]?:=by
 unfold pg;rw [bE h,List.getElem?_drop];congr 1; omega
theorem C9b {l:List Int} {m:Nat} (h0:0 < m) (h:m ≤ l.length):(l.take m).getLast?=l[m - 1]?:=by
 rw [List.getLast?_eq_getElem?,aW,cY h,List.getElem?_take_of_lt (by omega)]
theorem HM {l:List Int} {m:Nat} (h0:0 < m) (h:m < l.length):jf (l.take (m + 1))=if l[m]'h=l[m - 1]'(by omega) then jf (l.take m) else jf (l.take m)++[l[m]'h]:=by
 have eA:l.take m ≠ []:=by
  intro e
  have:=congrArg cq e
  rw [aW,cN] at this;omega
 rw [tw h,B6S _ _ eA,C9b h0 (by omega),ah (by omega:m - 1 < l.length)]
 simp only [Option.some.injEq];by_cases e:l[m]'h=l[m - 1]'(by omega)
 · rw [if_pos e.symm,if_pos e]
 · rw [if_neg (fun h=>e h.symm),if_neg e]
theorem D0Z {l:List Int} {m:Nat} (h0:0 < m) (h:m < l.length) (hk:(jf (l.take m)).length ≤ m - 1) (eA:l[m]'h ≠ l[m - 1]'(by omega)):pg l (m + 1)=(pg l m).set (jf (l.take m)).length (l[m]'h):=by
 unfold pg;rw [HM h0 h,if_neg eA];generalize jf (l.take m)=D at hk;rw [eh _ _ (ar _),gz,aQ]
 have:D.length < l.length:=by omega
 rw [bY this,dN];simp
theorem B6T {l:List Int} {m k:Nat} (HI:k < m) (hk:(jf (l.take m)).length ≤ m - 1):∀ j,m + j ≤ l.length→(jf (l.take (m + j))).length ≤ m + j - 1
 | 0,_=>by simpa using hk
 | j + 1,h=>by
   have ih:=B6T HI hk j (by omega)
   rw [← bU,HM (by omega) (by omega)]
   split
   · omega
   · rw [aQ]; simp; omega
theorem Vg {LL:List (List Int)} {I:Nat} {l:List Int} (h:LL[I]?=some l):LL.set I l=LL:=by
 have eF:=(aF.1 h).1;apply fC;intro i;rw [dD];by_cases e:I=i
 · subst e;rw [if_pos rfl,if_pos eF,h]
 · rw [if_neg e]
theorem C1L {LL:List (List Int)} {I N off:Nat} {l:List Int} (hI:I < LL.length) (hN:l.length=N) (hN2:N ≤ 1000) (ho:0 < off) (hoN:off < N) (hd:(jf (l.take (off + 1))).length=off) :
 dm Hv (((I,N),(off:Int),(I,off,N - off),1),LL.set I (pg l (off + 1)))=some (((I,N),((jf l).length:Int)),LL.set I (pg l N)):=by
 have kD:jf (l.take N)=jf l:=by rw [a7 (by omega)]
 have:dm Hv (((I,N),((jf (l.take (off + 1 + 0))).length:Int),(I,off,N - off),((0 + 1:Nat):Int)),LL.set I (pg l (off + 1 + 0)))=_ :=
  r9 (f:=Hv) (N - off - 1) (fun i=>(((I,N),((jf (l.take (off + 1 + i))).length:Int),(I,off,N - off),((i + 1:Nat):Int)),LL.set I (pg l (off + 1 + i)))) (((I,N),((jf l).length:Int)),LL.set I (pg l N)) (fun i hi=>by
   have hm:off + 1 + i < l.length:=by omega
   have hsm:=B6T (l:=l) (m:=off + 1) (k:=off) (by omega) (by omega) i (by omega)
   have hk0:=C1K l (off + 1 + i);have hj:((i + 1:Nat):Int) < ((N - off:Nat):Int):=by omega
   have CK:(0:Int) ≤ ((i + 1:Nat):Int):=by omega
   have hw:af.wrap (((i + 1:Nat):Int) - 1)=(i:Int):=by rw [wrap_i64 (by omega) (by omega)]; omega
   have e1:(LL.set I (pg l (off + 1 + i)))[I]?=some (pg l (off + 1 + i)):=by simp [hI]
   have g1:(pg l (off + 1 + i))[off + (i + 1)]?=some (l[off + 1 + i]'hm):=by
    rw [C39 (by omega),show off + (i + 1)=off + 1 + i by omega,ah hm]
   have g2:(pg l (off + 1 + i))[off + i]?=some (l[off + i]'(by omega)):=by
    rw [C39 (by omega),ah (by omega)]
   have hlen:=C38 l (off + 1 + i);have qs:=HM (l:=l) (m:=off + 1 + i) (by omega) hm
   have Lk:off + 1 + i - 1=off + i:=by omega
   simp only [Lk] at qs;simp only [Hv,hj,decide_true,cond_true,e1,ai,CK,az,kU (show i + 1 < N - off by omega),g1,hw,au,kU (show i < N - off by omega),g2]
   by_cases eA:l[off + 1 + i]'hm=l[off + i]'(by omega)
   · rw [if_pos eA] at qs;have hb:(l[off + 1 + i]'hm != l[off + i]'(by omega))=false:=by simp [eA]
     have ha:pg l (off + 1 + (i + 1))=pg l (off + 1 + i):=by
      rw [← bU];unfold pg;rw [qs]
     rw [ha,← bU (off + 1) i 1,qs];simp only [hb,cond_false,j5 (show i + 1 < 9223372036854775807 by omega)]
   · rw [if_neg eA] at qs;have hb:(l[off + 1 + i]'hm != l[off + i]'(by omega))=true:=by simpa using eA
     have ha:=D0Z (l:=l) (m:=off + 1 + i) (by omega) hm (by omega) (by simp only [Lk]; exact eA)
     rw [← bU (off + 1) i 1,ha,qs];have hDl:(jf (l.take (off + 1 + i))).length < (pg l (off + 1 + i)).length:=by omega
     simp only [hb,cond_true,kU (show (jf (l.take (off + 1 + i))).length < N by omega),ah hDl,ai,beq_self_eq_true,ik,kU hI,nz,aQ,ba,cN,j5 (show (jf (l.take (off + 1 + i))).length < 9223372036854775807 by omega),j5 (show i + 1 < 9223372036854775807 by omega)]) (by
   have hm:off + 1 + (N - off - 1)=N:=by omega
   have e1:(LL.set I (pg l N))[I]?=some (pg l N):=by simp [hI]
   have hj:¬ ((N - off - 1 + 1:Nat):Int) < ((N - off:Nat):Int):=by omega
   rw [hm,kD];simp only [Hv,hj,decide_false,cond_false,e1,ai])
 have h0:((jf (l.take (off + 1 + 0))).length:Int)=(off:Int):=by rw [Nat.add_zero,hd]
 rw [h0] at this;exact this
theorem Vh {l:List Int} {k:Nat} (h:∀ j (h0:0 < j) (hj:j < k) (hl:j < l.length),l[j] ≠ l[j - 1]'(by omega)):∀ m,m ≤ k→m ≤ l.length→jf (l.take m)=l.take m
 | 0,_,_=>by simp [jf]
 | 1,_,hl=>by
   rw [tw (by omega:0 < l.length)]; simp [jf]
 | m + 2,hk,hl=>by
   rw [HM (by omega) (by omega:m + 1 < l.length),if_neg (h (m + 1) (by omega) (by omega) (by omega)),Vh h (m + 1) (by omega) (by omega),← tw (by omega)]
theorem C7u {LL:List (List Int)} {I:Nat} {l:List Int} (hL:LL[I]?=some l) (hN2:l.length ≤ 1000) :
 ∃ l',OI ((I,l.length),LL)=some ((I,(jf l).length),LL.set I l')∧l'.take (jf l).length=jf l∧(jf l).length ≤ l'.length:=by
 have hI:=(aF.1 hL).1;unfold OI;by_cases h2:(l.length:Int) < 2
 · have hd:jf l=l:=by
    match l,h2 with
    | [],_=>rfl
    | [_],_=>rfl
    | _::_::_,h=>simp at h; omega
   refine ⟨l,?_,by rw [hd,oL],by rw [hd]; exact ar _⟩
   simp only [h2,decide_true,cond_true,hL,ai,hd,Vg hL]
 simp only [h2,decide_false,cond_false,hL,ai];have key:∀ n k,n + k=l.length→0 < k→(∀ j (h0:0 < j) (hj:j < k) (hl:j < l.length),l[j] ≠ l[j - 1]'(by omega)) →
  ∃ b,dm Hw (((I,l.length),(k:Int)),LL)=some b ∧
   ((∃ l',b=.inl ((I,(jf l).length),LL.set I l')∧l'.take (jf l).length=jf l∧(jf l).length ≤ l'.length)∨(b=.inr ((I,l.length),LL)∧jf l=l)):=by
  intro n
  induction n with
  | zero =>
    intro k hk h0 hp;have xe:k=l.length:=by omega
    refine ⟨.inr ((I,l.length),LL),oK ?_,.inr ⟨rfl,?_⟩⟩
    · subst xe;simp only [Hw,bx,decide_false,cond_false,hL,ai]
    · have:=Vh hp l.length (by omega) (ar _)
      rwa [oL] at this
  | succ n ih =>
    intro k hk h0 hp;have xe:k < l.length:=by omega
    have nR:(k:Int) < (l.length:Int):=by omega
    have hw:af.wrap ((k:Int) - 1)=((k - 1:Nat):Int):=by rw [wrap_i64 (by omega) (by omega)]; omega
    by_cases he:l[k]=l[k - 1]'(by omega)
    · have hd:jf (l.take k)=l.take k:=Vh hp k (ar _) (by omega)
      have hd1:(jf (l.take (k + 1))).length=k:=by
       rw [HM h0 xe,if_pos he,hd,aW]; omega
      have ha:pg l (k + 1)=l:=by
       unfold pg;rw [hd1,HM h0 xe,if_pos he,hd,bM]
      have AZ:=C1L (LL:=LL) (I:=I) (N:=l.length) (off:=k) (l:=l) hI rfl hN2 h0 xe hd1;rw [ha,Vg hL] at AZ;have hle:=Lj l;have hD:pg l l.length=jf l++l.drop (jf l).length:=by unfold pg; rw [oL]
      have Vi:=C38 l l.length;refine ⟨.inl ((I,(jf l).length),LL.set I (mX (pg l l.length) (some (jf l).length) (aq (l.length - (jf l).length) 0))),oK ?_,.inl ⟨_,rfl,?_,?_⟩⟩
      · have e1:(LL.set I (pg l l.length))[I]?=some (pg l l.length):=by simp [hI]
        have e3:(mX (pg l l.length) (some (jf l).length) (aq (l.length - (jf l).length) 0)).length=(pg l l.length).length:=by
         unfold mX;simp only [aQ,aW,gn,cn,Vi];omega
        simp only [Hw,nR,decide_true,cond_true,hL,ai,au,az,kU xe,ah xe,hw,kU (show k - 1 < l.length by omega),ah (show k - 1 < l.length by omega),he,beq_self_eq_true,jC (show k ≤ l.length by omega),AZ,e1,jC hle,ik,kU hI,e3,nz]
        rw [jC (by rw [gn,Vi]; omega)]
        rfl
      · unfold mX;simp only;rw [hD,bf,List.take_append_of_le_length (by rw [aW]; simp),List.take_take,Nat.min_self,List.take_left' rfl]
      · unfold mX;simp only [aQ,aW,gn,cn,Vi];omega
    · have hb:(l[k] == l[k - 1]'(by omega))=false:=by simpa using he
      obtain ⟨b,h1,h3⟩:=ih (k + 1) (by omega) (by omega) (fun j a b c=>by
       by_cases e:j=k
       · subst e; exact he
       · exact hp j a (by omega) c)
      refine ⟨b,?_,h3⟩;rw [← h1];exact sC (by
       simp only [Hw,nR,decide_true,cond_true,hL,ai,au,az,kU xe,ah xe,hw,kU (show k - 1 < l.length by omega),ah (show k - 1 < l.length by omega),hb,cond_false,j5 (show k < 9223372036854775807 by omega)])
 obtain ⟨b,h1,h3⟩:=key (l.length - 1) 1 (by omega) (by omega) (fun j a b c=>by omega)
 have h1:dm Hw (((I,l.length),(1:Int)),LL)=some b:=h1;rw [h1];rcases h3 with ⟨l',rfl,h4,h5⟩ | ⟨rfl,h4⟩
 · refine ⟨l',?_,h4,h5⟩;have e1:(LL.set I l')[I]?=some l':=by simp [hI]
   simp only [ai,Sum.elim_inl,e1]
 · refine ⟨l,?_,by rw [h4,oL],by rw [h4]; exact ar _⟩
   simp only [ai,Sum.elim_inr,hL,h4,Vg hL]
end Go.Mid
namespace Go.Mid
structure NB (n:Nat) (next:List (List Int)):Prop where
 len:next.length=n
 vM:∀ l ∈ next,∀ w ∈ l,0 ≤ w∧w < n
 Pj:∀ l ∈ next,l.length ≤ 1000
 small:n ≤ 1000
end Go.Mid
namespace Go.Mid
theorem C9c (x:List Int):sV (Ty.vec 1 (Ty.int af)) x=x:=by
 show ft (sV (Ty.int af)) x=x
 have:(sV (Ty.int af):Int→Int)=id:=by funext y; rfl
 exact (congrArg (fun f=>ft f x) this).trans (List.map_id x)
theorem B4h (l:List (List Int)):ft (sV (Ty.vec 1 (Ty.int af))) l=l:=by
 have:(sV (Ty.vec 1 (Ty.int af)):List Int→List Int)=id:=by funext y; exact C9c y
 exact (congrArg (fun f=>ft f l) this).trans (List.map_id l)
abbrev oE:=List (Int×Int)
def pP (E:oE) (v:Nat):List Int:=(E.filter fun e=>e.1 == (v:Int)).map (·.2)
def xy (n:Nat) (E:oE):List (List Int):=(bA n).map (pP E)
theorem Pk {n v:Nat} {E:oE} (h:v < n):(xy n E)[v]?=some (pP E v):=by simp [xy,h]
theorem Ll (n:Nat) (E:oE):(xy n E).length=n:=by simp [xy]
theorem D00 (E:oE) (e:Int×Int) (v:Nat):pP (E++[e]) v=if e.1=(v:Int) then pP E v++[e.2] else pP E v:=by
 unfold pP;rw [eV,b5];by_cases h:e.1=(v:Int) <;> simp [h]
theorem C9d {n:Nat} {E:oE} {u:Nat} {w:Int} (hu:u < n):xy n (E++[((u:Int),w)])=(xy n E).set u (pP E u++[w]):=by
 apply fC;intro v;rw [dD,Ll];by_cases hv:v < n
 · rw [Pk hv,D00];by_cases e:u=v
   · subst e; simp [hv]
   · have:¬ ((u:Int)=(v:Int)):=by omega
     simp [e,this,Pk hv]
 · rw [bI (by rw [Ll]; omega)]
   have:¬ u=v:=by omega
   rw [if_neg this,bI (by rw [Ll]; omega)]
theorem Vj (E:oE) (v:Nat):(pP E v).length ≤ E.length:=by
 unfold pP;rw [aB];exact dt ..
theorem C5M {E:oE} {v:Nat} {w:Int}:w ∈ pP E v↔((v:Int),w) ∈ E:=by
 unfold pP;rw [bj];constructor
 · rintro ⟨⟨a,b⟩,h1,rfl⟩;rw [cf] at h1
   have:=h1.2
   simp at this;rw [← this]; exact h1.1
 · intro h;exact ⟨((v:Int),w),cf.2 ⟨h,by simp⟩,rfl⟩
def Cp (n:Nat) (E:oE):Prop:=∀ e ∈ E,0 ≤ e.1∧e.1 < n∧0 ≤ e.2∧e.2 < n
theorem D01 {n:Nat} {E:oE} (hr:Cp n E) (hE:E.length ≤ 1000):dm KP ((n,E,(E.length:Int),0),aq n [])=some (n,xy n E):=by
 have h0:aq n []=xy n (E.take 0):=by
  apply fC;intro v;by_cases hv:v < n
  · rw [Pk hv]; simp [hv,pP]
  · rw [bI (by simp; omega),bI (by rw [Ll]; omega)]
 rw [h0]
 have:=r9 (f:=KP) E.length (fun i=>((n,E,(E.length:Int),(i:Int)),xy n (E.take i))) (n,xy n E) (fun i hi=>by
  have eN:(i:Int) < E.length:=by omega
  have he:=hr E[i] (aP hi);obtain ⟨u,hu⟩:∃ u:Nat,(E[i]).1=(u:Int):=eE he.1;have Vk:u < n:=by have:=he.2.1; rw [hu] at this; omega
  have hei:E[i]=((u:Int),(E[i]).2):=Prod.ext hu rfl;rw [tw hi,hei,C9d Vk];have hl:=Vj (E.take i) u;rw [aW] at hl;have b0:cQ 0 2=true:=rfl;have b1:cQ 1 2=true:=rfl;simp only [KP,eN,decide_true,cond_true,au,az,ah hi,ai,b0,b1,hu,kU Vk,Pk Vk,beq_self_eq_true,jC (ar _),Ll,oL,aQ,ba,cN,j5 (show i < 9223372036854775807 by omega)]
  rw [jC (show ((pP (E.take i) u).length + 1) * 8 ≤ 140737488355328 by omega)]
  rfl) (by
  simp only [KP,bx,decide_false,cond_false,oL])
 simpa using this
def qK (n:Nat) (E:oE):List (List Int):=(bA n).map fun v=>jf (lI (pP E v))
def vN (n:Nat) (E:oE) (i:Nat):List (List Int):=(bA n).map fun v=>if v < i then jf (lI (pP E v)) else pP E v
theorem Vl {n v i:Nat} {E:oE} (h:v < n):(vN n E i)[v]?=some (if v < i then jf (lI (pP E v)) else pP E v):=by simp [vN,h]
theorem Lm (n i:Nat) (E:oE):(vN n E i).length=n:=by simp [vN]
theorem D02 {n i:Nat} {E:oE} (hi:i < n):vN n E (i + 1)=(vN n E i).set i (jf (lI (pP E i))):=by
 apply fC;intro v;rw [dD,Lm];by_cases hv:v < n
 · rw [Vl hv];by_cases e:i=v
   · subst e; simp [hv]
   · rw [if_neg e,Vl hv];by_cases h1:v < i
     · rw [if_pos h1,if_pos (by omega)]
     · rw [if_neg h1,if_neg (by omega)]
 · rw [bI (by rw [Lm]; omega)]
   have:¬ i=v:=by omega
   rw [if_neg this,bI (by rw [Lm]; omega)]
theorem D2Q {LL:List (List Int)} {I:Nat} {l:List Int} (hL:LL[I]?=some l) (hl:l.length ≤ 1000):OH ((I,l.length),LL)=some (LL.set I (lI l)):=by
 unfold OH;have h1:mX l none (lI l)=lI l:=by
  unfold mX;simp only;rw [Fy,eW,bD]
 simp only [hL,ai,oL,h1,Fy,jC (ar _),cond_true,beq_self_eq_true];rw [kU (by omega)]
 rfl
theorem D03 {n:Nat} {E:oE} (hn:n ≤ 1000) (hE:E.length ≤ 1000):dm KQ ((n,(n:Int),0),xy n E)=some (n,qK n E):=by
 have h0:xy n E=vN n E 0:=by simp [xy,vN]
 have h1:qK n E=vN n E n:=by
  unfold qK vN;apply eK;intro v hv;rw [if_pos (cA.1 hv)]
 rw [h0,h1]
 have:=r9 (f:=KQ) n (fun i=>((n,(n:Int),(i:Int)),vN n E i)) (n,vN n E n) (fun i hi=>by
  have eN:(i:Int) < n:=by omega
  have hl:=Vj E i;have g0:(vN n E i)[i]?=some (pP E i):=by rw [Vl hi,if_neg (Nat.lt_irrefl i)]
  have hs:=D2Q g0 (by omega)
  have uS:(lI (pP E i)).length=(pP E i).length:=Fy _;have g1:((vN n E i).set i (lI (pP E i)))[i]?=some (lI (pP E i)):=by simp [Lm,hi]
  obtain ⟨l',c1,c2,c3⟩:=C7u g1 (by omega)
  have g2:((vN n E i).set i l')[i]?=some l':=by simp [Lm,hi]
  have g3:(jf (lI (pP E i))).length=(aN (jf (lI (pP E i))).length l').length:=by rw [c2]
  have bq:iI i i=true:=by simp
  simp only [KQ,eN,decide_true,cond_true,au,az,kU hi,g0,ai,hs,g1,c1,g2,bq,jC c3,c2,beq_self_eq_true,nz,D02 hi,j5 (show i < 9223372036854775807 by omega)]) (by
  simp only [KQ,bx,decide_false,cond_false])
 simpa using this
theorem Vm (n:Nat) (E:oE):(qK n E).length=n:=by simp [qK]
theorem C1M {n:Nat} {E:oE} (hn:n ≤ 1000) (hr:Cp n E) (hE:E.length ≤ 1000):Hy ((n:Int),E)=some (qK n E):=by
 unfold Hy;simp only [au,decide_true,cond_true,az,lr];rw [jC (show n * 24 ≤ 140737488355328 by omega)]
 simp only [cond_true,D01 hr hE,ai,D03 hn hE];rw [jC (show n ≤ (qK n E).length by rw [Vm]; exact ar _)]
 have e:aN n (qK n E)=qK n E:=a7 (by rw [Vm]; exact ar _)
 refine congrArg some ?_;refine Eq.trans ?_ (B4h (qK n E));exact congrArg (fun l:List (List Int)=>ft (sV (Ty.vec 1 (Ty.int af))) l) e
theorem C1u {n v:Nat} {E:oE} (h:v < (qK n E).length):(qK n E)[v]=jf (lI (pP E v)):=by simp [qK]
theorem C9e {n v:Nat} {E:oE} {w:Int} (h:v < (qK n E).length):w ∈ (qK n E)[v]↔((v:Int),w) ∈ E:=by
 rw [C1u h,Ph,Pf,C5M]
theorem D04 {n:Nat} {E:oE} (hn:n ≤ 1000) (hr:Cp n E) (hE:E.length ≤ 1000):NB n (qK n E) where
 len:=Vm n E
 vM:=by
  intro l hl w hw;obtain ⟨v,hv,rfl⟩:=List.getElem_of_mem hl
  have:=hr _ ((C9e hv).1 hw)
  exact this.2.2
 Pj:=by
  intro l hl;obtain ⟨v,hv,rfl⟩:=List.getElem_of_mem hl;rw [C1u hv];have h1:=Lj (lI (pP E v));rw [Fy] at h1;have h2:=Vj E v;omega
 small:=hn
end Go.Mid
namespace Go.Mid
def FN (n:Int) (e:Int×Int):Bool:=decide (e.1 < 0) || decide (e.1 ≥ n) || decide (e.2 < 0) || decide (e.2 ≥ n)
def HN (n:Int) (l:List (Int×Int)):Int:=if n > 1000 then 3 else if (l.length:Int) > 20000 then 3 else if n < 0 then 1 else if l.any (FN n) then 1 else 0
theorem D5A:cQ 0 2=true:=rfl
theorem D5B:cQ 1 2=true:=rfl
theorem Vn {n:Int} {e:Int×Int}:FN n e=true↔e.1 < 0∨e.1 ≥ n∨e.2 < 0∨e.2 ≥ n:=by
 simp [FN,or_assoc]
theorem C0j (n:Int) (l:List (Int×Int)):KO (n,l)=some (HN n l):=by
 unfold KO HN;simp only [gt_iff_lt];by_cases h1:1000 < n
 · simp [h1]
 by_cases h2:(20000:Int) < l.length
 · simp [h1,h2]
 by_cases h3:n < 0
 · simp [h1,h2,h3]
 simp only [h1,h2,h3,decide_false,cond_false,if_false]
 have:=zP (f:=OG) l (fun i=>(n,l,(l.length:Int),(i:Int))) (FN n) (.inl 1) (.inr ()) (fun i hi=>by
  have eN:(i:Int) < l.length:=by omega
  simp only [OG,eN,decide_true,cond_true,au,az,ah hi,ai,D5A,D5B,j5 (show i < 9223372036854775807 by omega)]
  generalize l[i]=e;by_cases hb:FN n e=true
  · rw [if_pos hb];rw [Vn] at hb;by_cases c1:(if e.2 < e.1 then e.2 else e.1) < 0
    · simp only [c1,decide_true,cond_true]
    · have c2:(if e.2 > e.1 then e.2 else e.1) ≥ n:=by
       split at c1 <;> split <;> omega
      simp only [c1,c2,decide_true,decide_false,cond_true,cond_false]
  · rw [if_neg hb];rw [Vn] at hb;have c1:¬ (if e.2 < e.1 then e.2 else e.1) < 0:=by split <;> omega
    have c2:¬ (if e.2 > e.1 then e.2 else e.1) ≥ n:=by split <;> omega
    simp only [c1,c2,decide_false,cond_false]) (by
  simp only [OG,bx,decide_false,cond_false])
 simp only [cM] at this;rw [this];by_cases h4:l.any (FN n)=true
 · simp [h4]
 · simp only [h4]; rfl
end Go.Mid
namespace Go.Mid
def zU (n:Nat) (g:Nat→Bool):List Bool:=(bA n).map g
theorem Pl (n:Nat) (g:Nat→Bool):(zU n g).length=n:=by simp [zU]
theorem Pm {n j:Nat} {g:Nat→Bool} (h:j < n):(zU n g)[j]?=some (g j):=by simp [zU,h]
theorem Vo {n:Nat} {g h:Nat→Bool} (e:∀ j,j < n→g j=h j):zU n g=zU n h :=
 eK fun j hj=>e j (cA.1 hj)
theorem C4a {n j:Nat} {g:Nat→Bool} (h:j < n) (x:Bool):(zU n g).set j x=zU n (fun b=>if b=j then x else g b):=by
 apply fC;intro v;rw [dD,Pl];by_cases hv:v < n
 · rw [Pm hv];by_cases e:j=v
   · subst e; rw [Pm hv]; simp [h]
   · have:¬ v=j:=fun h=>e h.symm
     simp [e,this,Pm hv]
 · rw [bI (by rw [Pl]; omega),bI (by rw [Pl]; omega)]
   have:¬ j=v:=by omega
   rw [if_neg this]
theorem D05 (n:Nat):aq n false=zU n (fun _=>false):=by
 simp [zU,List.map_const']
end Go.Mid
namespace Go.Mid
end Go.Mid
namespace Go.Mid
theorem Vp {α:Type} {p q:α→Bool}:∀ {l:List α},(∀ x ∈ l,p x=true→q x=true)→(∃ x ∈ l,p x=false∧q x=true)→l.countP p < l.countP q
 | [],_,h=>by obtain ⟨x,hx,_⟩:=h; cases hx
 | a::l,hm,h=>by
   have hle:l.countP p ≤ l.countP q:=List.countP_mono_left fun x hx=>hm x (bC _ hx)
   have ha:=hm a (by simp)
   rw [List.countP_cons,List.countP_cons];obtain ⟨x,hx,h1,h2⟩:=h;rcases aE.1 hx with e | e
   · subst e;simp only [h1,h2,if_true];simp;omega
   · have:=Vp (fun x hx=>hm x (bC _ hx)) ⟨x,e,h1,h2⟩
     by_cases qM:p a=true
     · simp only [qM,ha qM,if_true]; omega
     · rw [if_neg qM];omega
theorem Ln {α:Type} [DecidableEq α]:∀ {l m:List α},l.Nodup→(∀ x ∈ l,x ∈ m)→l.length ≤ m.length
 | [],_,_,_=>dg _
 | a::l,m,h,hs=>by
   have h':=bV.1 h;have HO:=hs a (by simp)
   have:=Ln (l:=l) (m:=m.erase a) h'.2 fun x hx=>by
    have eA:x ≠ a:=fun e=>h'.1 (e ▸ hx)
    exact (List.mem_erase_of_ne eA).2 (hs x (bC _ hx))
   rw [List.length_erase_of_mem HO] at this
   have:=List.length_pos_of_mem HO
   simp only [ba];omega
end Go.Mid
namespace Go.Mid
def s8 (n:Nat) (o:List Nat):List Bool:=zU n (fun v=>o.contains v)
def jy (o:List Nat):List Int:=o.map fun k:Nat=>(k:Int)
theorem A8 (o:List Nat):(jy o).length=o.length:=by simp [jy]
theorem C9f (o:List Nat) (v:Nat):jy (o++[v])=jy o++[(v:Int)]:=by simp [jy]
theorem C9g (n:Nat) (o:List Nat):(s8 n o).length=n:=Pl ..
theorem C1v {n v:Nat} {o:List Nat} (h:v < n):(s8 n o).set v true=s8 n (o++[v]):=by
 unfold s8;rw [C4a h];refine Vo fun j _=>?_
 by_cases e:j=v
 · subst e; simp
 · rw [if_neg e,de];simp [e]
end Go.Mid
namespace Go.Mid
def zV (n:Nat) (g:Nat→Int):List Int:=(bA n).map g
theorem Vq (n:Nat) (g:Nat→Int):(zV n g).length=n:=by simp [zV]
theorem Pn {n j:Nat} {g:Nat→Int} (h:j < n):(zV n g)[j]?=some (g j):=by simp [zV,h]
theorem D06 {n:Nat} {g h:Nat→Int} (e:∀ j,j < n→g j=h j):zV n g=zV n h :=
 eK fun j hj=>e j (cA.1 hj)
theorem D07 {n j:Nat} {g:Nat→Int} (h:j < n) (x:Int):(zV n g).set j x=zV n (fun b=>if b=j then x else g b):=by
 apply fC;intro v;rw [dD,Vq];by_cases hv:v < n
 · rw [Pn hv];by_cases e:j=v
   · subst e; rw [Pn hv]; simp [h]
   · have:¬ v=j:=fun h=>e h.symm
     simp [e,this,Pn hv]
 · rw [bI (by rw [Vq]; omega),bI (by rw [Vq]; omega)]
   have:¬ j=v:=by omega
   rw [if_neg this]
end Go.Mid
namespace Go.Mid
def sa (E:oE) (u:Nat):List Int:=jf (lI (pP E u))
theorem C5N {E:oE} {u:Nat} {w:Int}:w ∈ sa E u↔((u:Int),w) ∈ E:=by
 unfold sa;rw [Ph,Pf,C5M]
theorem Vr {n u:Nat} {E:oE} (h:u < n):(qK n E)[u]?=some (sa E u):=by simp [qK,h,sa]
end Go.Mid
namespace Go.Mid
end Go.Mid
namespace Go.Mid
theorem Vs {o:List Nat} {i:Nat} (h:i < o.length):(jy o)[i]?=some (o[i]:Int):=by simp [jy,h]
end Go.Mid
namespace Go.Mid
end Go.Mid
namespace Go.Mid
def D6n (E:oE) (u v:Nat):Bool:=E.any fun e=>e.1 == (u:Int) && e.2 == (v:Int)
def Lo (p:List Nat):Nat:=p.getLast?.getD 0
theorem B9j (p:List Nat) (v:Nat):Lo (p++[v])=v:=by simp [Lo]
def kX (M:List (List Nat)):List (List Int):=M.map jy
theorem Po (M:List (List Nat)):(kX M).length=M.length:=by simp [kX]
def HP (n:Nat) (S:Nat→Bool):Nat:=(bA n).countP S
structure LV (n:Nat) (S:Nat→Bool) (L:List (List Nat)):Prop where
 ne:∀ p ∈ L,p ≠ []
 vM:∀ p ∈ L,Lo p < n
 seen:∀ p ∈ L,S (Lo p)=true
 len:∀ p ∈ L,p.length ≤ HP n S
 Pj:L.length ≤ HP n S
theorem D2R {n:Nat} {S S':Nat→Bool} (h:∀ v,S v=true→S' v=true) {v:Nat} (hv:v < n) (h1:S v=false) (h2:S' v=true):HP n S < HP n S' :=
 Vp (fun x _ hx=>h x hx) ⟨v,cA.2 hv,h1,h2⟩
theorem LV.next {n:Nat} {E:oE} {S S':Nat→Bool} {L N:List (List Nat)} (h:LV n S L) (h2:∀ v,S v=true→S' v=true)
 (h4:∀ q ∈ N,∃ p ∈ L,∃ v,v < n∧q=p++[v]∧D6n E (Lo p) v=true∧S v=false∧S' v=true) (h5:HP n S'=HP n S + N.length):LV n S' N where
 ne:=fun q hq=>by
  obtain ⟨p,_,v,_,rfl,_⟩:=h4 q hq;simp
 vM:=fun q hq=>by
  obtain ⟨p,_,v,hv,rfl,_⟩:=h4 q hq;rw [B9j]; exact hv
 seen:=fun q hq=>by
  obtain ⟨p,_,v,hv,rfl,_,_,e⟩:=h4 q hq;rw [B9j]; exact e
 len:=fun q hq=>by
  obtain ⟨p,hp,v,hv,rfl,_,e1,e2⟩:=h4 q hq
  have:=h.len p hp
  have:=D2R h2 hv e1 e2
  simp; omega
 Pj:=by omega
end Go.Mid
namespace Go.Mid
end Go.Mid
namespace Go.Mid
inductive Rc (Ed:Nat→Nat→Prop) (a:Nat):Nat→Prop
 | refl:Rc Ed a a
 | tail {b c:Nat}:Rc Ed a b→Ed b c→Rc Ed a c
section
variable {Ed:Nat→Nat→Prop}
theorem Rc.trans {a b c:Nat} (h:Rc Ed a b):Rc Ed b c→Rc Ed a c:=fun h2=>by
 induction h2 with
 | refl=>exact h
 | tail _ e ih=>exact ih.tail e
theorem Rc.one {a b:Nat} (h:Ed a b):Rc Ed a b:=Rc.refl.tail h
theorem Rc.closed {P:Nat→Prop} (hP:∀ a b,P a→Ed a b→P b) {a b:Nat} (h:Rc Ed a b) (ha:P a):P b:=by
 induction h with
 | refl=>exact ha
 | tail _ e ih=>exact hP _ _ ih e
structure kN (Ed:Nat→Nat→Prop) (n:Nat) (G:List Nat) (ix:Nat→Nat) (oc:List Nat) (cnt:Nat) (out:List (List Nat)):Prop where
 cc:(bA n).countP (fun v=>ix v != 0)=cnt
 DC:∀ v,ix v ≤ cnt
 vM:∀ v,ix v ≠ 0→v < n
 inj:∀ u v,ix u ≠ 0→ix u=ix v→u=v
 FO:oc.Pairwise (fun a b=>ix a < ix b)
 pQ:∀ v ∈ oc,ix v ≠ 0
 HQ:∀ g ∈ G,g ∈ oc
 Lp:∀ u w,ix u ≠ 0→u ∉ oc→Ed u w→ix w ≠ 0∧w ∉ oc
 blk:∀ u ∈ oc,u ∉ G→∀ w,Ed u w→ix w ≠ 0
 i7:∀ u ∈ oc,∃ g ∈ G,ix g ≤ ix u∧Rc Ed u g
 i8:∀ g ∈ G,∀ u ∈ oc,ix g ≤ ix u→Rc Ed g u
 Lq:∀ v,ix v ≠ 0→v ∉ oc→∃ C ∈ out,v ∈ C
 vO:∀ C ∈ out,C ≠ []∧C.Nodup∧∀ u ∈ C,(ix u ≠ 0∧u ∉ oc)∧∀ w,(w ∈ C↔Rc Ed u w∧Rc Ed w u)
 HR:out.Pairwise (fun C D=>∀ x ∈ C,x ∉ D)
def wM {α:Type} (f:Nat→α) (v:Nat) (x:α):Nat→α:=fun b=>if b=v then x else f b
theorem rM {α:Type} (f:Nat→α) (v:Nat) (x:α):wM f v x v=x:=by simp [wM]
theorem vP {α:Type} {f:Nat→α} {v b:Nat} {x:α} (h:b ≠ v):wM f v x b=f b:=by simp [wM,h]
theorem B6U {ix:Nat→Nat} {v c:Nat} (h0:ix v=0) (hc:c ≠ 0):∀ m,(bA m).countP (fun u=>wM ix v c u != 0)=(bA m).countP (fun u=>ix u != 0) + if v < m then 1 else 0
 | 0=>by simp
 | m + 1=>by
   rw [List.range_succ,List.countP_append,List.countP_append,B6U h0 hc m];by_cases e:m=v
   · subst e;have h1:¬ m < m:=by omega
     have h2:m < m + 1:=by omega
     simp [rM,h0,hc]
   · have h3:v < m + 1↔v < m:=by omega
     simp only [List.countP_singleton,vP e,h3];omega
theorem kN.nil (n:Nat):kN Ed n [] (fun _=>0) [] 0 [] where
 cc:=by simp
 DC:=by simp
 vM:=by simp
 inj:=by simp
 FO:=by simp
 pQ:=by simp
 HQ:=by simp
 Lp:=by simp
 blk:=by simp
 i7:=by simp
 i8:=by simp
 Lq:=by simp
 vO:=by simp
 HR:=by simp
theorem kN.Vt {n:Nat} {G:List Nat} {ix:Nat→Nat} {oc:List Nat} {cnt:Nat} {out:List (List Nat)} (h:kN Ed n G ix oc cnt out):oc.Nodup :=
 h.FO.imp fun {a b} qO e=>by subst e; omega
theorem kN.push {n:Nat} {G:List Nat} {ix:Nat→Nat} {oc:List Nat} {cnt:Nat} {out:List (List Nat)} (h:kN Ed n G ix oc cnt out) {v:Nat} (hv:v < n) (h0:ix v=0) (hG:∀ g ∈ G,Rc Ed g v) :
 kN Ed n (v::G) (wM ix v (cnt + 1)) (oc++[v]) (cnt + 1) out:=by
 have fR:v ∉ oc:=fun hm=>h.pQ v hm h0
 have eA:∀ u,ix u ≠ 0→u ≠ v:=fun u hu e=>hu (e ▸ h0)
 have xz:∀ u,ix u ≠ 0→wM ix v (cnt + 1) u=ix u:=fun u hu=>vP (eA u hu)
 have DD:∀ u ∈ oc,wM ix v (cnt + 1) u=ix u:=fun u hu=>xz u (h.pQ u hu)
 have FP:∀ u,wM ix v (cnt + 1) u ≠ 0↔u=v∨ix u ≠ 0:=fun u=>by
  by_cases e:u=v
  · subst e; simp [rM]
  · simp [vP e,e]
 refine ⟨?_,?_,?_,?_,?_,?_,?_,?_,?_,?_,?_,?_,?_,h.HR⟩
 · rw [B6U h0 (by omega),h.cc,if_pos hv]
 · intro u;by_cases e:u=v
   · subst e; rw [rM]; exact ar _
   · rw [vP e]; have:=h.DC u; omega
 · intro u hu;rcases (FP u).1 hu with e | e
   · subst e; exact hv
   · exact h.vM u e
 · intro u w hu he;by_cases e1:u=v <;> by_cases e2:w=v
   · rw [e1,e2]
   · subst e1;rw [rM,vP e2] at he
     have:=h.DC w; omega
   · subst e2;rw [rM,vP e1] at he
     have:=h.DC u; omega
   · rw [vP e1] at hu;rw [vP e1,vP e2] at he;exact h.inj u w hu he
 · rw [cF];refine ⟨h.FO.imp_of_mem fun {a b} ha hb qO=>by rw [DD a ha,DD b hb]; exact qO,by simp,fun a ha b hb=>?_⟩
   rw [aX] at hb;subst hb;rw [DD a ha,rM]
   have:=h.DC a; omega
 · intro u hu;rw [FP];rcases ay.1 hu with h1 | h1
   · exact .inr (h.pQ u h1)
   · exact .inl (aX.1 h1)
 · intro g hg;rcases aE.1 hg with e | e
   · subst e; simp
   · exact cX _ (h.HQ g e)
 · intro u w hu hs he;rcases (FP u).1 hu with e | e
   · subst e; exact (hs (by simp)).elim
   · obtain ⟨a,b⟩:=h.Lp u w e (fun hm=>hs (cX _ hm)) he
     refine ⟨(FP w).2 (.inr a),fun hm=>?_⟩
     rcases ay.1 hm with h1 | h1
     · exact b h1
     · rw [aX] at h1; exact eA w a h1
 · intro u hu hg w he;rcases ay.1 hu with h1 | h1
   · exact (FP w).2 (.inr (h.blk u h1 (fun hm=>hg (bC _ hm)) w he))
   · rw [aX] at h1;subst h1;exact (hg (by simp)).elim
 · intro u hu;rcases ay.1 hu with h1 | h1
   · obtain ⟨g,hg,a,b⟩:=h.i7 u h1;exact ⟨g,bC _ hg,by rw [DD g (h.HQ g hg),DD u h1]; exact a,b⟩
   · rw [aX] at h1;subst h1;exact ⟨u,by simp,ar _,.refl⟩
 · intro g hg u hu hle;rcases ay.1 hu with h1 | h1
   · rcases aE.1 hg with e | e
     · subst e;rw [rM,DD u h1] at hle
       have:=h.DC u; omega
     · rw [DD g (h.HQ g e),DD u h1] at hle;exact h.i8 g e u h1 hle
   · rw [aX] at h1;subst h1;rcases aE.1 hg with e | e
     · subst e; exact .refl
     · exact hG g e
 · intro u hu hs;rcases (FP u).1 hu with e | e
   · subst e; exact (hs (by simp)).elim
   · exact h.Lq u e fun hm=>hs (cX _ hm)
 · intro C hC;obtain ⟨a,b,c⟩:=h.vO C hC;refine ⟨a,b,fun u hu=>?_⟩
   obtain ⟨⟨c1,c2⟩,c3⟩:=c u hu;refine ⟨⟨(FP u).2 (.inr c1),fun hm=>?_⟩,c3⟩
   rcases ay.1 hm with h1 | h1
   · exact c2 h1
   · rw [aX] at h1; exact eA u c1 h1
theorem kN.stay {n:Nat} {G:List Nat} {ix:Nat→Nat} {oc:List Nat} {cnt:Nat} {out:List (List Nat)} {v:Nat} (h:kN Ed n (v::G) ix oc cnt out) (kD:∀ w,Ed v w→ix w ≠ 0)
 {w:Nat} (hw:w ∈ oc) (eF:ix w < ix v) (Vu:Rc Ed v w):kN Ed n G ix oc cnt out:=by
 refine ⟨h.cc,h.DC,h.vM,h.inj,h.FO,h.pQ,fun g hg=>h.HQ g (bC _ hg),h.Lp,fun u hu hg x he=>?_,fun u hu=>?_,fun g hg=>h.i8 g (bC _ hg),h.Lq,h.vO,h.HR⟩
 · by_cases e:u=v
   · subst e; exact kD x he
   · exact h.blk u hu (fun hm=>by
      rcases aE.1 hm with h1 | h1
      · exact e h1
      · exact hg h1) x he
 · have key:∃ g ∈ G,ix g ≤ ix w∧Rc Ed w g:=by
    obtain ⟨g,hg,a,b⟩:=h.i7 w hw;rcases aE.1 hg with e | e
    · subst e; omega
    · exact ⟨g,e,a,b⟩
   obtain ⟨g,hg,a,b⟩:=h.i7 u hu;rcases aE.1 hg with e | e
   · subst e;obtain ⟨k,hk,c,d⟩:=key;exact ⟨k,hk,by omega,b.trans (Vu.trans d)⟩
   · exact ⟨g,e,a,b⟩
theorem kN.pop {n:Nat} {G:List Nat} {ix:Nat→Nat} {S0 T:List Nat} {cnt:Nat} {out:List (List Nat)} {v:Nat} (h:kN Ed n (v::G) ix (S0++v::T) cnt out) (kD:∀ w,Ed v w→ix w ≠ 0)
 (Lr:∀ g ∈ G,g ∈ S0) (Vv:∀ u ∈ v::T,∀ w ∈ S0,¬ Ed u w):kN Ed n G ix S0 cnt (out++[v::T]):=by
 have hp:=cF.1 h.FO;have HS:∀ u,u ∈ S0→u ∈ S0++v::T:=fun u hu=>cX _ hu
 have hT:∀ u,u ∈ v::T→u ∈ S0++v::T:=fun u hu=>kI _ hu
 have lB:∀ u ∈ v::T,u ∉ S0:=fun u hu hs=>by
  have:=hp.2.2 u hs u hu; omega
 have Vw:∀ u ∈ v::T,ix v ≤ ix u:=fun u hu=>by
  rcases aE.1 hu with e | e
  · subst e; exact ar _
  · exact fM ((bN.1 hp.2.1).1 u e)
 have xz:∀ u ∈ v::T,∀ w,Ed u w→ix w ≠ 0:=fun u hu w he=>by
  by_cases e:u=v
  · subst e; exact kD w he
  · refine h.blk u (hT u hu) (fun hm=>?_) w he
    rcases aE.1 hm with h1 | h1
    · exact e h1
    · exact lB u hu (Lr u h1)
 have FQ:∀ u w,(ix u ≠ 0∧u ∉ S0)→Ed u w→(ix w ≠ 0∧w ∉ S0):=by
  rintro u w ⟨h1,h2⟩ he;by_cases hu:u ∈ v::T
  · exact ⟨xz u hu w he,fun hs=>Vv u hu w hs he⟩
  · obtain ⟨a,b⟩:=h.Lp u w h1 (fun hm=>by
     rcases ay.1 hm with h3 | h3
     · exact h2 h3
     · exact hu h3) he
    exact ⟨a,fun hs=>b (HS w hs)⟩
 have Ls:∀ u w,(ix u ≠ 0∧u ∉ S0++v::T)→Ed u w→(ix w ≠ 0∧w ∉ S0++v::T):=fun u w h1 he=>h.Lp u w h1.1 h1.2 he
 have lz:∀ u ∈ v::T,ix u ≠ 0∧u ∉ S0:=fun u hu=>⟨h.pQ u (hT u hu),lB u hu⟩
 have hto:∀ u ∈ v::T,Rc Ed u v:=fun u hu=>by
  obtain ⟨g,hg,a,b⟩:=h.i7 u (hT u hu);rcases aE.1 hg with e | e
  · subst e; exact b
  · exact ((b.closed FQ (lz u hu)).2 (Lr g e)).elim
 have Ez:∀ u ∈ v::T,Rc Ed v u:=fun u hu=>h.i8 v (by simp) u (hT u hu) (Vw u hu)
 refine ⟨h.cc,h.DC,h.vM,h.inj,hp.1,fun u hu=>h.pQ u (HS u hu),Lr,fun u w h1 h2 he=>FQ u w ⟨h1,h2⟩ he,fun u hu hg x he=>?_,fun u hu=>?_,fun g hg u hu=>h.i8 g (bC _ hg) u (HS u hu),fun u hu hs=>?_,fun C hC=>?_,?_⟩
 · refine h.blk u (HS u hu) (fun hm=>?_) x he
   rcases aE.1 hm with h1 | h1
   · subst h1; exact lB u (by simp) hu
   · exact hg h1
 · obtain ⟨g,hg,a,b⟩:=h.i7 u (HS u hu);rcases aE.1 hg with e | e
   · subst e
     have:=hp.2.2 u hu g (by simp)
     omega
   · exact ⟨g,e,a,b⟩
 · by_cases hm:u ∈ v::T
   · exact ⟨v::T,by simp,hm⟩
   · obtain ⟨C,hC,h1⟩:=h.Lq u hu fun hh=>by
      rcases ay.1 hh with h3 | h3
      · exact hs h3
      · exact hm h3
     exact ⟨C,cX _ hC,h1⟩
 · rcases ay.1 hC with h1 | h1
   · obtain ⟨a,b,c⟩:=h.vO C h1;exact ⟨a,b,fun u hu=>⟨⟨(c u hu).1.1,fun hs=>(c u hu).1.2 (HS u hs)⟩,(c u hu).2⟩⟩
   · rw [aX] at h1;subst h1;have gV:=h.Vt;rw [aT] at gV;refine ⟨by simp,gV.2.1,fun u hu=>⟨lz u hu,fun w=>⟨fun hw=>⟨(hto u hu).trans (Ez w hw),(hto w hw).trans (Ez u hu)⟩,fun ⟨h1,h2⟩=>?_⟩⟩⟩
     obtain ⟨a,b⟩:=h1.closed FQ (lz u hu);refine bZ fun ng=>?_
     have:=h2.closed Ls ⟨a,fun hm=>by
      rcases ay.1 hm with h3 | h3
      · exact b h3
      · exact ng h3⟩
     exact this.2 (hT u hu)
 · rw [cF];refine ⟨h.HR,by simp,fun C hC D hD x hx hxD=>?_⟩
   rw [aX] at hD;subst hD;exact ((h.vO C hC).2.2 x hx).1.2 (hT x hxD)
theorem kN.fin {n:Nat} {ix:Nat→Nat} {oc:List Nat} {cnt:Nat} {out:List (List Nat)} (h:kN Ed n [] ix oc cnt out):oc=[]:=by
 cases oc with
 | nil=>rfl
 | cons a l =>
   obtain ⟨g,hg,_⟩:=h.i7 a (by simp)
   cases hg
structure wN (Ed:Nat→Nat→Prop) (n:Nat) (G:List Nat) (v:Nat) (ix lo:Nat→Nat) (S0:List Nat) (cnt:Nat) (out:List (List Nat)) (gY j2:Nat→Nat) (T:List Nat) (jt:Nat) (iD:List (List Nat)):Prop where
 inv:kN Ed n G gY (S0++T) jt iD
 bm:∀ u,ix u ≠ 0→gY u=ix u∧j2 u=lo u
 Vx:gY v ≠ 0
 new:∀ u,ix u=0→gY u ≠ 0→cnt < gY u
 zW:j2 v ≤ gY v
 xA:cnt ≤ jt
 sd:out <+: iD
 eds:∀ u ∈ T,∀ w ∈ S0,Ed u w→j2 v ≤ gY w
 low:(T=[]∧j2 v=gY v)∨(j2 v < gY v∧∃ w ∈ S0,gY w=j2 v∧Rc Ed v w)
structure jU (Ed:Nat→Nat→Prop) (n:Nat) (G:List Nat) (v:Nat) (ix lo:Nat→Nat) (S0:List Nat) (cnt:Nat) (out:List (List Nat)) (D:List Nat) (gY j2:Nat→Nat) (T:List Nat) (jt:Nat) (iD:List (List Nat)):Prop where
 inv:kN Ed n (v::G) gY (S0++v::T) jt iD
 bm:∀ u,ix u ≠ 0→gY u=ix u∧j2 u=lo u
 A9:gY v=cnt + 1
 new:∀ u,ix u=0→gY u ≠ 0→cnt < gY u
 xA:cnt + 1 ≤ jt
 sd:out <+: iD
 zW:j2 v ≤ gY v
 ta:∀ x ∈ D,gY x ≠ 0
 ux:∀ x ∈ D,x ∈ S0→j2 v ≤ gY x
 uy:∀ u ∈ T,∀ w ∈ S0,Ed u w→j2 v ≤ gY w
 low:∃ w ∈ S0++v::T,gY w=j2 v∧Rc Ed v w
theorem jU.start {n:Nat} {G:List Nat} {v:Nat} {ix lo:Nat→Nat} {S0:List Nat} {cnt:Nat} {out:List (List Nat)} (h:kN Ed n G ix S0 cnt out) (hv:v < n) (h0:ix v=0) (hG:∀ g ∈ G,Rc Ed g v) :
 jU Ed n G v ix lo S0 cnt out [] (wM ix v (cnt + 1)) (wM lo v (cnt + 1)) [] (cnt + 1) out where
 inv:=h.push hv h0 hG
 bm:=fun u hu=>by
  have:u ≠ v:=fun e=>hu (e ▸ h0)
  rw [vP this,vP this]; exact ⟨rfl,rfl⟩
 A9:=rM ..
 new:=fun u h1 h2=>by
  by_cases e:u=v
  · subst e; rw [rM]; omega
  · rw [vP e] at h2; exact (h2 h1).elim
 xA:=ar _
 sd:=List.prefix_refl _
 zW:=by rw [rM,rM]; exact ar _
 ta:=by simp
 ux:=by simp
 uy:=by simp
 low:=⟨v,by simp,by rw [rM,rM],.refl⟩
section
variable {n:Nat} {G:List Nat} {v:Nat} {ix lo:Nat→Nat} {S0:List Nat} {cnt:Nat} {out:List (List Nat)} {D:List Nat} {gY j2:Nat→Nat} {T:List Nat} {jt:Nat} {iD:List (List Nat)}
theorem jU.sv (h:jU Ed n G v ix lo S0 cnt out D gY j2 T jt iD):∀ u ∈ v::T,gY v ≤ gY u:=fun u hu=>by
 have hp:=cF.1 h.inv.FO;rcases aE.1 hu with e | e
 · subst e; exact ar _
 · exact fM ((bN.1 hp.2.1).1 u e)
theorem jU.on (h:jU Ed n G v ix lo S0 cnt out D gY j2 T jt iD) {x:Nat} (hx:Ed v x) (hs:x ∈ S0++v::T) (eA:∀ u,ix u ≠ 0→u ≠ v) :
 jU Ed n G v ix lo S0 cnt out (D++[x]) gY (wM j2 v (min (j2 v) (gY x))) T jt iD where
 inv:=h.inv
 bm:=fun u hu=>⟨(h.bm u hu).1,by rw [vP (eA u hu)]; exact (h.bm u hu).2⟩
 A9:=h.A9
 new:=h.new
 xA:=h.xA
 sd:=h.sd
 zW:=by rw [rM]; have:=h.zW; omega
 ta:=fun y hy=>by
  rcases ay.1 hy with h1 | h1
  · exact h.ta y h1
  · rw [aX] at h1; subst h1; exact h.inv.pQ y hs
 ux:=fun y hy h2=>by
  rw [rM];rcases ay.1 hy with h1 | h1
  · have:=h.ux y h1 h2; omega
  · rw [aX] at h1; subst h1; omega
 uy:=fun u hu w hw he=>by
  rw [rM]
  have:=h.uy u hu w hw he; omega
 low:=by
  rw [rM];by_cases hc:j2 v ≤ gY x
  · rw [cY hc]; exact h.low
  · rw [ji (by omega)]; exact ⟨x,hs,rfl,.one hx⟩
theorem jU.off (h:jU Ed n G v ix lo S0 cnt out D gY j2 T jt iD) {x:Nat} (hv:gY x ≠ 0) (hs:x ∉ S0++v::T) :
 jU Ed n G v ix lo S0 cnt out (D++[x]) gY j2 T jt iD where
 inv:=h.inv
 bm:=h.bm
 A9:=h.A9
 new:=h.new
 xA:=h.xA
 sd:=h.sd
 zW:=h.zW
 ta:=fun y hy=>by
  rcases ay.1 hy with h1 | h1
  · exact h.ta y h1
  · rw [aX] at h1; subst h1; exact hv
 ux:=fun y hy h2=>by
  rcases ay.1 hy with h1 | h1
  · exact h.ux y h1 h2
  · rw [aX] at h1; subst h1; exact (hs (cX _ h2)).elim
 uy:=h.uy
 low:=h.low
theorem jU.call (h:jU Ed n G v ix lo S0 cnt out D gY j2 T jt iD) {x:Nat} (hx:Ed v x) (h0:gY x=0) (eA:∀ u,ix u ≠ 0→u ≠ v)
 {te rN:Nat→Nat} {T2:List Nat} {pR:Nat} {mZ:List (List Nat)} (h2:wN Ed n (v::G) x gY j2 (S0++v::T) jt iD te rN T2 pR mZ) :
 jU Ed n G v ix lo S0 cnt out (D++[x]) te (wM rN v (min (rN v) (rN x))) (T++T2) pR mZ:=by
 have wo:gY v ≠ 0:=by rw [h.A9]; omega
 have FR:=h2.bm v wo;have hkS:∀ u ∈ S0,te u=gY u:=fun u hu=>(h2.bm u (h.inv.pQ u (cX _ hu))).1
 have xz:∀ u,ix u ≠ 0→gY u ≠ 0:=fun u hu=>by rw [(h.bm u hu).1]; exact hu
 have rm:S0++v::(T++T2)=(S0++v::T)++T2:=by simp
 refine ⟨by rw [rm]; exact h2.inv,fun u hu=>?_,by rw [FR.1]; exact h.A9,fun u h3 h4=>?_,by have:=h2.xA; have:=h.xA; omega,h.sd.trans h2.sd,?_,fun y hy=>?_,fun y hy hs=>?_,fun u hu w hw he=>?_,?_⟩
 · rw [vP (eA u hu),(h2.bm u (xz u hu)).1,(h2.bm u (xz u hu)).2];exact h.bm u hu
 · by_cases e:gY u=0
   · have:=h2.new u e h4; have:=h.xA; omega
   · rw [(h2.bm u e).1]; exact h.new u h3 e
 · rw [rM,FR.1,FR.2]
   have:=h.zW; omega
 · rcases ay.1 hy with h1 | h1
   · rw [(h2.bm y (h.ta y h1)).1]; exact h.ta y h1
   · rw [aX] at h1; subst h1; exact h2.Vx
 · rw [rM];rcases ay.1 hy with h1 | h1
   · rw [FR.2,hkS y hs]
     have:=h.ux y h1 hs; omega
   · rw [aX] at h1;subst h1;exact (h.inv.pQ y (cX _ hs) h0).elim
 · rw [rM];rcases ay.1 hu with h1 | h1
   · rw [FR.2,hkS w hw]
     have:=h.uy u h1 w hw he; omega
   · have:=h2.eds u h1 w (cX _ hw) he; omega
 · rw [rM];by_cases hc:rN v ≤ rN x
   · rw [cY hc];obtain ⟨w,a,b,c⟩:=h.low;exact ⟨w,by rw [rm]; exact cX _ a,by rw [(h2.bm w (h.inv.pQ w a)).1,FR.2]; exact b,c⟩
   · rw [ji (by omega)]
     rcases h2.low with ⟨h3,h4⟩ | ⟨h3,w,a,b,c⟩
     · have h5:=h2.new x h0 h2.Vx;have h6:=h.zW;have h7:=h.xA;rw [FR.2,h4] at hc;have h8:=h.A9;omega
     · exact ⟨w,by rw [rm]; exact cX _ a,b,(Rc.one hx).trans c⟩
theorem jU.stay (h:jU Ed n G v ix lo S0 cnt out D gY j2 T jt iD) (hD:∀ w,Ed v w→w ∈ D) (eF:j2 v < gY v) :
 wN Ed n G v ix lo S0 cnt out gY j2 (v::T) jt iD:=by
 obtain ⟨w,a,b,c⟩:=h.low;have hw:w ∈ S0:=by
  rcases ay.1 a with h1 | h1
  · exact h1
  · have:=h.sv w h1; omega
 refine ⟨h.inv.stay (fun x hx=>h.ta x (hD x hx)) a (by omega) c,h.bm,by rw [h.A9]; omega,h.new,h.zW,by have:=h.xA; omega,h.sd,fun u hu x hx he=>?_,.inr ⟨eF,w,hw,b,c⟩⟩
 rcases aE.1 hu with e | e
 · subst e; exact h.ux x (hD x he) hx
 · exact h.uy u e x hx he
theorem jU.pop (h:jU Ed n G v ix lo S0 cnt out D gY j2 T jt iD) (hD:∀ w,Ed v w→w ∈ D) (heq:j2 v=gY v) (Lr:∀ g ∈ G,g ∈ S0) :
 wN Ed n G v ix lo S0 cnt out gY j2 [] jt (iD++[v::T]):=by
 have eF:∀ w ∈ S0,gY w < gY v:=fun w hw=>(cF.1 h.inv.FO).2.2 w hw v (by simp)
 refine ⟨?_,h.bm,by rw [h.A9]; omega,h.new,h.zW,by have:=h.xA; omega,h.sd.trans (List.prefix_append _ _),by simp,.inl ⟨rfl,heq⟩⟩
 rw [bD];refine h.inv.pop (fun x hx=>h.ta x (hD x hx)) Lr fun u hu w hw he=>?_
 have h1:=eF w hw;rcases aE.1 hu with e | e
 · subst e
   have:=h.ux w (hD w he) hw; omega
 · have:=h.uy u e w hw he; omega
end
end
end Go.Mid
namespace Go.Mid
def zX (E:oE):Nat→Nat→Prop:=fun u w=>((u:Int),(w:Int)) ∈ E
def rO (n:Nat) (f:Nat→Nat):List Int:=zV n fun v=>((f v:Nat):Int)
theorem zY {n j:Nat} {f:Nat→Nat} (h:j < n):(rO n f)[j]?=some ((f j:Nat):Int):=Pn h
theorem Pp {n v c:Nat} {f:Nat→Nat} (h:v < n):(rO n f).set v (c:Int)=rO n (wM f v c):=by
 unfold rO;rw [D07 h];refine D06 fun j _=>?_
 by_cases e:j=v
 · subst e; simp [rM]
 · simp [e,vP e]
abbrev TSt:=List (List Int)×(List Int×Nat)×(List Int×Nat)×(List Bool×Nat)×(List Int×Nat)×Int×List (List Int)×Nat
def se (n:Nat) (E:oE) (ix lo:Nat→Nat) (oc:List Nat) (cnt:Nat) (out:List (List Nat)):TSt :=
 (qK n E,(rO n ix,n),(rO n lo,n),(s8 n oc,n),(jy oc,oc.length),(cnt:Int),kX out,out.length)
theorem C5O (a b:Nat):(if (b:Int) < (a:Int) then (b:Int) else (a:Int))=((min a b:Nat):Int):=by
 split <;> omega
theorem Lt {n v:Nat} {o:List Nat} (h:v < n):(s8 n o)[v]?=some (o.contains v):=Pm h
theorem B4i {o:List Nat} {v:Nat} (h:v ∈ o):o.contains v=true:=a8.2 h
theorem B24 {o:List Nat} {v:Nat} (h:v ∉ o):o.contains v=false:=by
 cases hc:o.contains v
 · rfl
 · exact (h (a8.1 hc)).elim
theorem C4b {n:Nat} {ix:Nat→Nat} {v:Nat} (hv:v < n) (h0:ix v=0):(bA n).countP (fun u=>ix u != 0) < n:=by
 have h1:(bA n).countP (fun u=>ix u != 0) < (bA n).countP (fun _=>true) :=
  Vp (fun _ _ _=>rfl) ⟨v,cA.2 hv,by simp [h0],rfl⟩
 simpa using h1
theorem C7v {S0 T:List Nat} {v:Nat} (h:v ∉ S0) (hl:(S0++v::T).length ≤ 1000000):KR (jy (S0++v::T),(v:Int))=some (S0.length:Int):=by
 unfold KR;have hL:(jy (S0++v::T)).length=(S0++v::T).length:=A8 _;have hlen:S0.length < (S0++v::T).length:=by simp
 have:=r9 (f:=OJ) S0.length (fun i=>(jy (S0++v::T),(v:Int),((S0++v::T).length:Int),(i:Int))) (.inl (S0.length:Int)) (fun i hi=>by
  have qH:i < (S0++v::T).length:=by omega
  have eN:(i:Int) < ((S0++v::T).length:Int):=by omega
  have hg:(jy (S0++v::T))[i]?=some ((S0[i]:Nat):Int):=by
   rw [Vs qH,List.getElem_append_left hi]
  have eA:(((v:Nat):Int) == ((S0[i]:Nat):Int))=false:=by
   rw [beq_eq_false_iff_ne];intro e
   have:v=S0[i]:=by omega
   exact h (this ▸ aP hi)
  simp only [OJ,eN,decide_true,cond_true,au,az,hg,ai,eA,cond_false,j5 (show i < 9223372036854775807 by omega)]) (by
  have eN:(S0.length:Int) < ((S0++v::T).length:Int):=by omega
  have hg:(jy (S0++v::T))[S0.length]?=some (v:Int):=by
   rw [Vs hlen,List.getElem_append_right (ar _)];simp
  simp only [OJ,eN,decide_true,cond_true,au,az,hg,ai,beq_self_eq_true])
 simp only [cM] at this;simp only [hL,this,ai,Sum.elim_inl]
theorem D2S {n:Nat} {E:oE} {ix lo:Nat→Nat} {S0 L st:List Nat} {cnt:Nat} {out:List (List Nat)} (hL:∀ x ∈ L,x < n) (gV:(S0++L).Nodup) (hl:L.length ≤ 1000000) :
 dm KS ((L.length,L.length,(L.length:Int),0),jy L,qK n E,(rO n ix,n),(rO n lo,n),(s8 n (S0++L),n),(jy st,st.length),(cnt:Int),kX out,out.length) =
  some (L.length,jy L,se n E ix lo st cnt out |>.1,(rO n ix,n),(rO n lo,n),(s8 n S0,n),(jy st,st.length),(cnt:Int),kX out,out.length):=by
 have:=r9 (f:=KS) L.length (fun i=>((L.length,L.length,(L.length:Int),(i:Int)),jy L,qK n E,(rO n ix,n),(rO n lo,n),(s8 n (S0++L.drop i),n),(jy st,st.length),(cnt:Int),kX out,out.length))
  (L.length,jy L,qK n E,(rO n ix,n),(rO n lo,n),(s8 n S0,n),(jy st,st.length),(cnt:Int),kX out,out.length) (fun i hi=>by
  have eN:(i:Int) < (L.length:Int):=by omega
  have hn:L[i] < n:=hL _ (aP hi);have hg:(s8 n (S0++L.drop i))[L[i]]?=some true:=by
   rw [Lt hn,B4i];rw [bY hi];exact kI _ dO
  have q0:(s8 n (S0++L.drop i)).set L[i] false=s8 n (S0++L.drop (i + 1)):=by
   unfold s8;rw [C4a hn];refine Vo fun j _=>?_
   have Cq:(S0++L.drop i).Nodup:=gV.sublist (List.Sublist.append_left (List.drop_sublist i L) S0);rw [bY hi] at Cq ⊢;by_cases e:j=L[i]
   · subst e;rw [if_pos rfl,B24];rw [aT] at Cq;intro hm;rcases ay.1 hm with h1 | h1
     · exact Cq.2.2 _ h1 _ dO rfl
     · exact (bV.1 Cq.2.1).1 h1
   · rw [if_neg e,de,a8,a8,ay,ay,aE];simp only [e,false_or]
  simp only [KS,eN,decide_true,cond_true,au,az,kU hi,Vs hi,ai,kU hn,hg,q0,j5 (show i < 9223372036854775807 by omega)]) (by
  simp only [KS,bx,decide_false,cond_false,eW,bD])
 simpa [se] using this
section
variable {n:Nat} {E:oE}
def C9h (n:Nat) (E:oE) (m:Nat):Prop:=∀ (v:Nat) (ix lo:Nat→Nat) (S0:List Nat) (cnt:Nat) (out:List (List Nat)) (G:List Nat),n - cnt ≤ m→kN (zX E) n G ix S0 cnt out→v < n→ix v=0→(∀ g ∈ G,Rc (zX E) g v) →
 ∃ gY j2 T jt iD,(∀ k,m < k→Du k ((v:Int),se n E ix lo S0 cnt out)=some (se n E gY j2 (S0++T) jt iD))∧wN (zX E) n G v ix lo S0 cnt out gY j2 T jt iD
theorem Pq (hn:n ≤ 1000) (hr:Cp n E) (hE:E.length ≤ 1000) {m:Nat} (IH:C9h n E m) {v:Nat} (hv:v < n) {ix lo:Nat→Nat} (h0:ix v=0) {S0:List Nat} {cnt:Nat} {out:List (List Nat)} {G:List Nat} (hG:∀ g ∈ G,Rc (zX E) g v) (hm:n - (cnt + 1) ≤ m) :
 ∀ (R:List Int) (i:Nat) (gY j2:Nat→Nat) (T:List Nat) (jt:Nat) (iD:List (List Nat)),(sa E v).drop i=R→i ≤ (sa E v).length→jU (zX E) n G v ix lo S0 cnt out (((sa E v).take i).map lS) gY j2 T jt iD →
  ∃ te rN T2 pR mZ,(∀ k,m < k→dm (Hz (Du k)) (((v:Int),sa E v,((sa E v).length:Int),(i:Int)),se n E gY j2 (S0++v::T) jt iD)=some ((v:Int),se n E te rN (S0++v::T2) pR mZ)) ∧
   jU (zX E) n G v ix lo S0 cnt out ((sa E v).map lS) te rN T2 pR mZ
 | [],i,gY,j2,T,jt,iD,hd,hi,h=>by
   have hie:i=(sa E v).length:=by
    have:=congrArg cq hd
    rw [cn] at this;simp at this; omega
   subst hie;rw [dT] at h;refine ⟨gY,j2,T,jt,iD,fun k _=>oK ?_,h⟩
   simp only [Hz,se,bx,decide_false,cond_false]
 | x::R,i,gY,j2,T,jt,iD,hd,hi,h=>by
   have qH:i < (sa E v).length:=by
    have:=congrArg cq hd
    rw [cn] at this;simp at this; omega
   have hx:(sa E v)[i]=x∧(sa E v).drop (i + 1)=R:=by
    rw [bY qH] at hd;exact List.cons.inj hd
   have hN:=D04 hn hr hE;have nn:sa E v ∈ qK n E:=bG (Vr hv);have hf:=hN.Pj _ nn;obtain ⟨w,hw⟩:∃ w:Nat,(sa E v)[i]=(w:Int):=eE (hN.vM _ nn _ (aP qH)).1;have Cr:w < n:=by have:=(hN.vM _ nn _ (aP qH)).2; rw [hw] at this; omega
   have Pr:zX E v w:=C5N.1 (hw ▸ aP qH);have zZ:((sa E v).take (i + 1)).map lS=((sa E v).take i).map lS++[w]:=by
    rw [tw qH,b5,hw]; rfl
   have eA:∀ u,ix u ≠ 0→u ≠ v:=fun u hu e=>hu (e ▸ h0)
   have eN:(i:Int) < ((sa E v).length:Int):=by omega
   by_cases c0:gY w=0
   · obtain ⟨te,rN,T2,pR,mZ,e1,hp⟩:=IH w gY j2 (S0++v::T) jt iD (v::G) (by have:=h.xA; omega) h.inv Cr c0 (fun g hg=>by
      rcases aE.1 hg with e | e
      · subst e; exact .one Pr
      · exact (hG g e).trans (.one Pr))
     have h2:=h.call Pr c0 eA hp;rw [← zZ] at h2;obtain ⟨Lu,Lv,T3,z6,z7,e3,h3⟩:=Pq hn hr hE IH hv h0 hG hm R (i + 1) _ _ _ _ _ hx.2 qH h2;refine ⟨Lu,Lv,T3,z6,z7,fun k hk=>?_,h3⟩
     rw [← e3 k hk];refine sC ?_;have e1:=e1 k hk;have hz:(((gY w:Nat):Int) == 0)=true:=by rw [c0]; rfl
     have rm:S0++v::(T++T2)=(S0++v::T)++T2:=by simp
     rw [rm];simp only [se] at e1 ⊢;simp only [Hz,eN,decide_true,cond_true,au,az,ah qH,hw,ai,kU Cr,kU hv,zY Cr,zY hv,hz,e1,C5O,Pp hv,j5 (show i < 9223372036854775807 by omega)]
   · have hz:(((gY w:Nat):Int) == 0)=false:=by rw [beq_eq_false_iff_ne]; omega
     by_cases c1:w ∈ S0++v::T
     · have h2:=h.on Pr c1 eA;rw [← zZ] at h2;obtain ⟨Lu,Lv,T3,z6,z7,e3,h3⟩:=Pq hn hr hE IH hv h0 hG hm R (i + 1) _ _ _ _ _ hx.2 qH h2;refine ⟨Lu,Lv,T3,z6,z7,fun k hk=>?_,h3⟩
       rw [← e3 k hk];refine sC ?_;simp only [se];simp only [Hz,eN,decide_true,cond_true,au,az,ah qH,hw,ai,kU Cr,kU hv,zY Cr,zY hv,hz,cond_false,Lt Cr,B4i c1,C5O,Pp hv,j5 (show i < 9223372036854775807 by omega)]
     · have h2:=h.off c0 c1;rw [← zZ] at h2;obtain ⟨Lu,Lv,T3,z6,z7,e3,h3⟩:=Pq hn hr hE IH hv h0 hG hm R (i + 1) _ _ _ _ _ hx.2 qH h2;refine ⟨Lu,Lv,T3,z6,z7,fun k hk=>?_,h3⟩
       rw [← e3 k hk];refine sC ?_;simp only [se];simp only [Hz,eN,decide_true,cond_true,au,az,ah qH,hw,ai,kU Cr,kU hv,zY Cr,hz,cond_false,Lt Cr,B24 c1,j5 (show i < 9223372036854775807 by omega)]
theorem kN.len {Ed:Nat→Nat→Prop} {G:List Nat} {ix:Nat→Nat} {oc:List Nat} {cnt:Nat} {out:List (List Nat)} (h:kN Ed n G ix oc cnt out):oc.length ≤ n:=by
 have:=Ln h.Vt (m:=bA n) fun x hx=>cA.2 (h.vM x (h.pQ x hx))
 simpa using this
theorem B6V:∀ {out:List (List Nat)},(∀ C ∈ out,C ≠ [])→out.Pairwise (fun C D=>∀ x ∈ C,x ∉ D)→(out.map fun C=>C.headD 0).Nodup
 | [],_,_=>by simp
 | C::r,h1,h2=>by
   have qZ:=bN.1 h2;rw [aD,bV];refine ⟨fun hm=>?_,B6V (fun D hD=>h1 D (bC _ hD)) qZ.2⟩
   obtain ⟨D,hD,e⟩:=bj.1 hm;have hC:C.headD 0 ∈ C:=by
    cases C with
    | nil=>exact (h1 [] (by simp) rfl).elim
    | cons a l=>simp
   have hD2:D.headD 0 ∈ D:=by
    cases D with
    | nil=>exact (h1 [] (bC _ hD) rfl).elim
    | cons a l=>simp
   rw [e] at hD2;exact qZ.1 D hD _ hC hD2
theorem kN.z8 {Ed:Nat→Nat→Prop} {G:List Nat} {ix:Nat→Nat} {oc:List Nat} {cnt:Nat} {out:List (List Nat)} (h:kN Ed n G ix oc cnt out):out.length ≤ n:=by
 have h1:=B6V (fun C hC=>(h.vO C hC).1) h.HR
 have:=Ln h1 (m:=bA n) fun x hx=>by
  obtain ⟨C,hC,rfl⟩:=bj.1 hx;have hm:C.headD 0 ∈ C:=by
   cases C with
   | nil=>exact ((h.vO [] hC).1 rfl).elim
   | cons a l=>simp
  exact cA.2 (h.vM _ ((h.vO C hC).2.2 _ hm).1.1)
 simpa using this
theorem D2T (hn:n ≤ 1000) (hr:Cp n E) (hE:E.length ≤ 1000):∀ m,C9h n E m:=by
 intro m
 induction m with
 | zero =>
   intro v ix lo S0 cnt out G hm h hv h0 hG
   have:=C4b hv h0
   rw [h.cc] at this;omega
 | succ m IH =>
   intro v ix lo S0 cnt out G hm h hv h0 hG;have hcn:=C4b hv h0;rw [h.cc] at hcn;have hst:=jU.start (lo:=lo) h hv h0 hG;obtain ⟨te,rN,T2,pR,mZ,e1,hL⟩:=Pq hn hr hE IH hv h0 hG (by omega) (sa E v) 0 _ _ _ _ _ rfl (dg _) hst
   have hD:∀ w,zX E v w→w ∈ (sa E v).map lS:=fun w hw=>bj.2 ⟨(w:Int),C5N.2 hw,az w⟩
   have uS:=h.len;have aph:=hL.inv.len;have Is:=hL.inv.z8;have My:aN S0.length (jy S0)=jy S0:=a7 (by rw [A8]; exact ar _)
   have hwr:af.wrap ((cnt:Int) + 1)=((cnt + 1:Nat):Int):=j5 (by omega)
   have hsn:jy S0++[(v:Int)]=jy (S0++[v]):=(C9f _ _).symm;have api:S0.length + 1=(S0++[v]).length:=by simp
   by_cases hc:rN v=te v
   · have hp:=hL.pop hD hc h.HQ;refine ⟨te,rN,[],pR,mZ++[v::T2],fun k hk=>?_,hp⟩
     obtain ⟨k',rfl⟩:∃ k',k=k' + 1:=⟨k - 1,by omega⟩
     have e1:=e1 k' (by omega)
     have hb:(((rN v:Nat):Int) != ((te v:Nat):Int))=false:=by rw [hc]; simp
     have hvS:v ∉ S0:=fun hs=>h.pQ v hs h0
     have Au:=C7v (T:=T2) hvS (by omega)
     have tk1:aN (S0++v::T2).length (jy (S0++v::T2))=jy (S0++v::T2):=a7 (by rw [A8]; exact ar _)
     have dr:List.drop S0.length (jy (S0++v::T2))=jy (v::T2):=by
      unfold jy;rw [← List.map_drop,List.drop_left]
     have tk2:aN S0.length (jy (S0++v::T2))=jy S0:=by
      unfold jy;rw [← List.map_take,List.take_left]
     have Bz:(S0++v::T2).length - S0.length=(v::T2).length:=by simp
     have tk3:aN (v::T2).length (jy (v::T2))=jy (v::T2):=a7 (by rw [A8]; exact ar _)
     have hlT:(v::T2).length ≤ 1000:=by
      have:(S0++v::T2).length=S0.length + (v::T2).length:=by simp
      omega
     have nI:Cj 8 (jy (v::T2))=some ((v::T2).length,jy (v::T2)):=by
      unfold Cj;rw [A8,jC (show (v::T2).length * 8 ≤ 140737488355328 by omega)]
      rfl
     have uY:=D2S (n:=n) (E:=E) (ix:=te) (lo:=rN) (S0:=S0) (L:=v::T2) (st:=S0) (cnt:=pR) (out:=mZ) (fun x hx=>hL.inv.vM x (hL.inv.pQ x (kI _ hx))) hL.inv.Vt (by omega)
     simp only [se] at e1 uY ⊢;have tk4:aN mZ.length (kX mZ)=kX mZ:=a7 (by rw [Po]; exact ar _)
     have p0:kX mZ++[jy (v::T2)]=kX (mZ++[v::T2]):=by simp [kX]
     have q1:iI 0 0=true:=rfl;have q2:iI 1 1=true:=rfl;show KT (Du k') _=_;have bb:Nat.ble (S0.length + (v::T2).length) (S0++v::T2).length=true:=jC (by simp)
     simp only [KT,au,decide_true,cond_true,az,kU hv,zY hv,ai,beq_self_eq_true,A8,jC (ar _),My,aQ,ba,cN,Lt hv,Vr hv,hwr,Pp hv,C1v hv,hsn];simp only [aQ,ba,cN,cM,bR] at e1 Au bb Bz nI uY tk1 tk3 hlT;rw [jC (show (S0.length + 1) * 8 ≤ 140737488355328 by omega)]
     simp only [cond_true,bR,jC (ar _),e1,ai,au,decide_true,az,kU hv,zY hv,hb,cond_false,tk1,Au,jC (Nat.le_add_right _ _),Bz,bb,dr,tk3,nI,tk2,uY,A8,ba,q1,q2,beq_self_eq_true,Po,tk4,p0,bD];rw [jC (show (mZ.length + 1) * 24 ≤ 140737488355328 by omega),jC (show S0.length + (T2.length + 1) ≤ (S0++v::T2).length by simp)]
     rfl
   · have eF:rN v < te v:=by have:=hL.zW; omega
     have hp:=hL.stay hD eF;refine ⟨te,rN,v::T2,pR,mZ,fun k hk=>?_,hp⟩
     obtain ⟨k',rfl⟩:∃ k',k=k' + 1:=⟨k - 1,by omega⟩
     have e1:=e1 k' (by omega)
     have hb:(((rN v:Nat):Int) != ((te v:Nat):Int))=true:=by simp; omega
     simp only [se] at e1 ⊢;show KT (Du k') _=_;simp only [KT,au,decide_true,cond_true,az,kU hv,zY hv,ai,beq_self_eq_true,A8,jC (ar _),My,aQ,ba,cN,Lt hv,Vr hv,hwr,Pp hv,C1v hv,hsn];simp only [aQ,ba,cN,cM,bR] at e1;rw [jC (show (S0.length + 1) * 8 ≤ 140737488355328 by omega)]
     simp only [cond_true,bR,jC (ar _),e1,ai,au,decide_true,az,kU hv,zY hv,hb]
end
end Go.Mid
namespace Go.Mid
def kh (C:List Nat):Nat:=C.headD 0
def vQ (M:List (List Nat)):Nat→List (List Nat)
 | 0=>M
 | j + 1=>match M[j + 1]?,M[j]? with
   | some x,some y=>if kh x < kh y then vQ ((M.set (j + 1) y).set j x) j else M
   | _,_=>M
theorem C5P:∀ (j:Nat) (M:List (List Nat)),(vQ M j).length=M.length
 | 0,M=>rfl
 | j + 1,M=>by
   unfold vQ;split
   · split
     · rw [C5P j]; simp
     · rfl
   · rfl
def DE (x:List Nat) (P:List (List Nat)):List (List Nat):=(P.filter fun y=>!decide (kh x < kh y))++x::P.filter fun y=>decide (kh x < kh y)
theorem C5Q:∀ (j:Nat) (P:List (List Nat)) (x:List Nat) (R:List (List Nat)),P.length=j→P.Pairwise (fun a b=>kh a ≤ kh b)→vQ (P++x::R) j=DE x P++R
 | 0,P,x,R,hl,hp=>by
   have:P=[]:=dA.1 hl
   subst this;rfl
 | j + 1,P,x,R,hl,hp=>by
   have eA:P ≠ []:=fun e=>by rw [e] at hl; simp at hl
   obtain ⟨Q,y,rfl⟩:∃ Q y,P=Q++[y]:=⟨P.dropLast,P.getLast eA,(List.dropLast_concat_getLast eA).symm⟩;have hQ:Q.length=j:=by simpa using hl
   have h1:(Q++[y]++x::R)[j + 1]?=some x:=by rw [bE (by omega),hl]; simp
   have h2:(Q++[y]++x::R)[j]?=some y:=by rw [bf,bE (by omega),hQ]; simp
   have ig:=cF.1 hp;unfold vQ;rw [h1,h2]
   dsimp only
   by_cases c:kh x < kh y
   · rw [if_pos c];have hs:(((Q++[y]++x::R).set (j + 1) y).set j x)=Q++x::(y::R):=by
      rw [eh _ _ (by omega),hl]
      simp only [gz,dN];rw [bf,eh _ _ (by omega),hQ]
      simp
     rw [hs,C5Q j Q x (y::R) hQ ig.1];unfold DE;simp [eV,c]
   · rw [if_neg c];have kD:∀ z ∈ Q++[y],¬ kh x < kh z:=fun z hz=>by
      rcases ay.1 hz with h | h
      · have:=ig.2.2 z h y (by simp)
        omega
      · rw [aX] at h; subst h; exact c
     have f1:(Q++[y]).filter (fun z=>!decide (kh x < kh z))=Q++[y]:=List.filter_eq_self.2 fun z hz=>by simp; have:=kD z hz; omega
     have f2:(Q++[y]).filter (fun z=>decide (kh x < kh z))=[]:=ky.2 fun z hz=>by simp; have:=kD z hz; omega
     unfold DE;rw [f1,f2];simp
theorem C9i (x:List Nat) (P:List (List Nat)):(DE x P).Perm (x::P):=by
 unfold DE;refine List.perm_middle.trans (List.Perm.cons x ?_)
 have:=List.filter_append_perm (fun y=>!decide (kh x < kh y)) P
 simpa using this
theorem C4P {x:List Nat} {P:List (List Nat)} (h:P.Pairwise (fun a b=>kh a ≤ kh b)):(DE x P).Pairwise (fun a b=>kh a ≤ kh b):=by
 unfold DE;rw [cF,bN];refine ⟨h.filter _,⟨fun y hy=>?_,h.filter _⟩,fun a ha b hb=>?_⟩
 · have:=(cf.1 hy).2
   simp at this; omega
 · have h1:=(cf.1 ha).2;simp at h1;rcases aE.1 hb with e | e
   · subst e; exact h1
   · have h2:=(cf.1 e).2;simp at h2; omega
def yi (M:List (List Nat)):Nat→List (List Nat)
 | 0=>M
 | i + 1=>vQ (yi M i) (i + 1)
theorem C4c (M:List (List Nat)):∀ i,(yi M i).length=M.length
 | 0=>rfl
 | i + 1=>by unfold yi; rw [C5P,C4c M i]
theorem C1w (M:List (List Nat)):∀ k,k < M.length→∃ P,yi M k=P++M.drop (k + 1)∧P.Perm (M.take (k + 1))∧P.Pairwise (fun a b=>kh a ≤ kh b)
 | 0,h=>⟨M.take 1,(bM 1 M).symm,List.Perm.refl _,by
    cases M with
    | nil=>simp
    | cons a l=>simp⟩
 | k + 1,h=>by
   obtain ⟨P,h1,h2,h3⟩:=C1w M k (by omega)
   have hPl:P.length=k + 1:=by rw [h2.length_eq,aW]; omega
   have hd:M.drop (k + 1)=M[k + 1]::M.drop (k + 1 + 1):=bY h;refine ⟨DE M[k + 1] P,?_,?_,C4P h3⟩
   · unfold yi;rw [h1,hd,C5Q (k + 1) P _ _ hPl h3]
   · rw [tw h];refine (C9i _ _).trans ?_;refine (List.Perm.cons _ h2).trans ?_;exact List.perm_append_comm (l₁:=[M[k + 1]])
def uZ (M:List (List Nat)):List (List Nat):=yi M (M.length - 1)
theorem C1x (M:List (List Nat)):(uZ M).Perm M∧(uZ M).Pairwise (fun a b=>kh a ≤ kh b):=by
 by_cases h:M=[]
 · subst h; exact ⟨List.Perm.refl _,by simp [uZ,yi]⟩
 · have hl:=lH.2 h;obtain ⟨P,h1,h2,h3⟩:=C1w M (M.length - 1) (by omega)
   have e:M.length - 1 + 1=M.length:=by omega
   rw [e,eW,bD] at h1;rw [e,dT] at h2;unfold uZ;rw [h1];exact ⟨h2,h3⟩
theorem C9j {x y:List Nat} (hx:x ≠ []) (hy:y ≠ []):OM (jy x,jy y)=some (if kh x < kh y then -1 else if kh y < kh x then 1 else 0):=by
 have g:∀ {z:List Nat},z ≠ []→(jy z)[0]?=some ((kh z:Nat):Int):=fun {z} hz=>by
  cases z with
  | nil=>exact (hz rfl).elim
  | cons a l=>rfl
 simp only [OM,g hx,g hy,ai,Uw,OL,bne_self_eq_false,cond_false,gt_iff_lt];by_cases h1:kh x < kh y
 · have:((kh x:Nat):Int) < (kh y:Nat):=by omega
   simp [h1,this]
 · have n1:¬ ((kh x:Nat):Int) < (kh y:Nat):=by omega
   by_cases h2:kh y < kh x
   · have:((kh y:Nat):Int) < (kh x:Nat):=by omega
     simp [h1,h2,n1,this]
   · have n2:¬ ((kh y:Nat):Int) < (kh x:Nat):=by omega
     simp [h1,h2,n1,n2]
theorem Ps {M:List (List Nat)} {j:Nat}:(kX M)[j]?=(M[j]?).map jy:=by simp [kX]
theorem C5R {M:List (List Nat)} {j:Nat} {x:List Nat}:(kX M).set j (jy x)=kX (M.set j x):=by simp [kX,fa]
section
variable (q1:List (List Int)) (qt:List Int) (qu:Nat) (qv:List Int) (qw:Nat) (qx:List Bool) (qy:Nat) (qz:List Int) (qA:Nat) (q6:Int) (m:Nat)
theorem C9k (i b:Int):∀ (j:Nat) (M:List (List Nat)),(∀ C ∈ M,C ≠ [])→j < M.length→M.length ≤ 1000 →
 dm KU ((M.length,0,b,(),i,(j:Int)),q1,(qt,qu),(qv,qw),(qx,qy),(qz,qA),q6,kX M,m)=some ((M.length,0,b,(),i),q1,(qt,qu),(qv,qw),(qx,qy),(qz,qA),q6,kX (vQ M j),m)
 | 0,M,eA,hj,hl=>by
   refine oK ?_;simp only [KU,gt_iff_lt,cM,bx,decide_false,cond_false,vQ]
 | j + 1,M,eA,hj,hl=>by
   have BG:j < M.length:=by omega
   have Ld:(((j + 1:Nat):Int) > 0):=by omega
   have hw:af.wrap (((j + 1:Nat):Int) - 1)=(j:Int):=by rw [wrap_i64 (by omega) (by omega)]; omega
   have g1:M[j + 1]?=some M[j + 1]:=ah hj;have g2:M[j]?=some M[j]:=ah BG;have n1:=eA _ (aP hj);have n2:=eA _ (aP BG);by_cases c:kh M[j + 1] < kh M[j]
   · have hb:vQ M (j + 1)=vQ ((M.set (j + 1) M[j]).set j M[j + 1]) j:=by
      conv=>lhs; unfold vQ
      rw [g1,g2]
      dsimp only
      rw [if_pos c]
     have ih:=C9k i b j ((M.set (j + 1) M[j]).set j M[j + 1]) (fun C hC=>by
      rcases bz hC with h | h
      · rcases bz h with h | h
        · exact eA C h
        · subst h; exact n2
      · subst h; exact n1) (by simpa using BG) (by simpa using hl)
     rw [hb];have e:((M.set (j + 1) M[j]).set j M[j + 1]).length=M.length:=by simp
     rw [e] at ih;rw [← ih];refine sC ?_;have eF:(-1:Int) < 0:=by decide
     have g3:(M.set (j + 1) M[j])[j]?=some M[j]:=by rw [eB (by omega)]; exact g2
     simp only [KU,Ld,decide_true,cond_true,au,az,kU hj,kU BG,hw,Ps,g1,g2,g3,ak,ai,C9j n1 n2,c,if_true,eF,C5R]
   · have hb:vQ M (j + 1)=M:=by
      unfold vQ;rw [g1,g2]
      dsimp only
      rw [if_neg c]
     rw [hb];refine oK ?_;have BC:¬ (if kh M[j] < kh M[j + 1] then (1:Int) else 0) < 0:=by split <;> decide
     simp only [KU,Ld,decide_true,cond_true,au,az,kU hj,kU BG,hw,Ps,g1,g2,ak,ai,C9j n1 n2,c,if_false,BC,decide_false,cond_false]
theorem D2U {M:List (List Nat)} {j:Nat} {C:List Nat} (h:C ∈ vQ M j):C ∈ M:=by
 induction j generalizing M with
 | zero=>exact h
 | succ j ih =>
   unfold vQ at h;split at h
   · rename_i x y h1 h2;split at h
     · rcases bz (ih h) with h3 | h3
       · rcases bz h3 with h4 | h4
         · exact h4
         · subst h4; exact bG h2
       · subst h3; exact bG h1
     · exact h
   · exact h
theorem C4d {M:List (List Nat)} {C:List Nat}:∀ {i:Nat},C ∈ yi M i→C ∈ M
 | 0,h=>h
 | i + 1,h=>C4d (i:=i) (D2U h)
theorem C4e (M:List (List Nat)) (eA:∀ C ∈ M,C ≠ []) (hl:M.length ≤ 1000) :
 ON ((M.length,0,(M.length:Int),()),q1,(qt,qu),(qv,qw),(qx,qy),(qz,qA),q6,kX M,m)=some (q1,(qt,qu),(qv,qw),(qx,qy),(qz,qA),q6,kX (uZ M),m):=by
 unfold ON;have w1:af.wrap ((0:Int) + 1)=((0 + 1:Nat):Int):=rfl;by_cases h0:M=[]
 · subst h0
   have:=oK (f:=KV) (a:=((0,0,0,(),((0 + 1:Nat):Int)),q1,(qt,qu),(qv,qw),(qx,qy),(qz,qA),q6,kX [],m)) (r:=(q1,(qt,qu),(qv,qw),(qx,qy),(qz,qA),q6,kX [],m)) rfl
   simp only [cN,cM,w1,this,ai];rfl
 · have hlp:=lH.2 h0
   have:=r9 (f:=KV) (M.length - 1) (fun i=>((M.length,0,(M.length:Int),(),((i + 1:Nat):Int)),q1,(qt,qu),(qv,qw),(qx,qy),(qz,qA),q6,kX (yi M i),m)) (q1,(qt,qu),(qv,qw),(qx,qy),(qz,qA),q6,kX (uZ M),m) (fun i hi=>by
    have eN:((i + 1:Nat):Int) < (M.length:Int):=by omega
    have Ck:=C4c M i;have h1:=C9k q1 qt qu qv qw qx qy qz qA q6 m ((i + 1:Nat):Int) (M.length:Int) (i + 1) (yi M i) (fun C hC=>eA C (C4d hC)) (by omega) (by omega)
    rw [Ck] at h1;simp only [KV,eN,decide_true,cond_true,h1,ai,j5 (show i + 1 < 9223372036854775807 by omega),yi]) (by
    have e:M.length - 1 + 1=M.length:=by omega
    simp only [KV,e,bx,decide_false,cond_false,uZ])
   simp only [yi] at this;simp only [w1,this,ai]
theorem D08 (M:List (List Nat)) (eA:∀ C ∈ M,C ≠ []) (hl:M.length ≤ 12) (y:Int) (hy:Hq (aG.wrap (M.length:Int))=some y) :
 KW ((M.length,()),q1,(qt,qu),(qv,qw),(qx,qy),(qz,qA),q6,kX M,m)=some (q1,(qt,qu),(qv,qw),(qx,qy),(qz,qA),q6,kX (uZ M),m):=by
 unfold KW Uy;have h1:=C4e q1 qt qu qv qw qx qy qz qA q6 m M eA (by omega)
 have hw:af.wrap ((M.length:Int) - 0) ≤ 12:=by rw [wrap_i64 (by omega) (by omega)]; omega
 have:=oK (f:=Ux) (a:=((M.length,0,(M.length:Int),y,(),true,true),q1,(qt,qu),(qv,qw),(qx,qy),(qz,qA),q6,kX M,m)) (r:=(q1,(qt,qu),(qv,qw),(qx,qy),(qz,qA),q6,kX (uZ M),m)) (by
  simp only [Ux,hw,decide_true,cond_true,h1,ai])
 simp only [hy,ai,this]
end
end Go.Mid
namespace Go.Mid
def qk (C:List Nat):List Nat:=(lI (jy C)).map lS
theorem Pt (C:List Nat):jy (qk C)=lI (jy C):=by
 unfold jy qk;rw [List.map_map]
 have:∀ l:List Int,(∀ x ∈ l,0 ≤ x)→l.map ((fun k:Nat=>(k:Int)) ∘ lS)=l:=by
  intro l h
  induction l with
  | nil=>rfl
  | cons a l ih =>
    rw [aD,ih fun x hx=>h x (bC _ hx)]
    have:=h a (by simp)
    simp only [Function.comp];congr 1;omega
 refine this _ fun x hx=>?_
 have hx:=Pf.1 hx;obtain ⟨k,_,rfl⟩:=bj.1 hx;omega
theorem C4f {C:List Nat} {v:Nat}:(v:Int) ∈ jy C↔v ∈ C:=by
 unfold jy;rw [bj];constructor
 · rintro ⟨k,hk,e⟩
   have:k=v:=by omega
   exact this ▸ hk
 · intro h; exact ⟨v,h,rfl⟩
theorem HT {C:List Nat} {v:Nat}:v ∈ qk C↔v ∈ C:=by
 rw [← C4f,Pt,Pf,C4f]
theorem C7w {C:List Nat} (h:C.Nodup):(jy C).Nodup:=by
 unfold jy;unfold List.Nodup at h ⊢;rw [ed];exact h.imp fun h e=>h (by omega)
theorem D2V {C:List Nat} (h:C.Nodup):(qk C).Pairwise (· < ·):=by
 have h1:=C9a (C7w h);rw [← Pt] at h1;unfold jy at h1;rw [ed] at h1;exact h1.imp fun h=>by omega
theorem Pu {C:List Nat} (h:C ≠ []):qk C ≠ []:=by
 cases C with
 | nil=>exact (h rfl).elim
 | cons a l =>
   have:a ∈ qk (a::l):=HT.2 (by simp)
   intro e;rw [e] at this;cases this
theorem Vy {C:List Nat} (h:C ≠ []):kh C ∈ C:=by
 cases C with
 | nil=>exact (h rfl).elim
 | cons a l=>simp [kh]
structure Aa (n:Nat) (Ed:Nat→Nat→Prop) (L:List (List Nat)):Prop where
 ne:∀ C ∈ L,C ≠ []
 asc:∀ C ∈ L,C.Pairwise (· < ·)
 hd:L.Pairwise (fun C D=>kh C < kh D)
 cls:∀ C ∈ L,∀ u ∈ C,u < n∧∀ w,(w ∈ C↔Rc Ed u w∧Rc Ed w u)
 all:∀ v,v < n→∃ C ∈ L,v ∈ C
theorem D4N {n:Nat} {Ed:Nat→Nat→Prop} {ix:Nat→Nat} {cnt:Nat} {out:List (List Nat)} (h:kN Ed n [] ix [] cnt out) (kD:∀ v,v < n→ix v ≠ 0):Aa n Ed (uZ (out.map qk)):=by
 obtain ⟨h1,h2⟩:=C1x (out.map qk);have hm:∀ C,C ∈ uZ (out.map qk)↔∃ D ∈ out,qk D=C:=fun C=>by rw [h1.mem_iff,bj]
 refine ⟨fun C hC=>?_,fun C hC=>?_,?_,fun C hC u hu=>?_,fun v hv=>?_⟩
 · obtain ⟨D,hD,rfl⟩:=(hm C).1 hC;exact Pu (h.vO D hD).1
 · obtain ⟨D,hD,rfl⟩:=(hm C).1 hC;exact D2V (h.vO D hD).2.1
 · have hd:(out.map qk).Pairwise (fun C D=>kh C ≠ kh D):=by
    rw [ed];refine h.HR.imp_of_mem fun {C D} hC hD lB e=>?_
    have a:=HT.1 (Vy (Pu (h.vO C hC).1));have b:=HT.1 (Vy (Pu (h.vO D hD).1));rw [e] at a;exact lB _ a b
   have hd2:=(h1.pairwise_iff (R:=fun C D=>kh C ≠ kh D) (fun {a b} qO e=>qO e.symm)).2 hd
   exact (h2.and hd2).imp fun ⟨a,b⟩=>by omega
 · obtain ⟨D,hD,rfl⟩:=(hm C).1 hC;have hu:=HT.1 hu;obtain ⟨a,b⟩:=(h.vO D hD).2.2 u hu;exact ⟨h.vM u a.1,fun w=>by rw [HT]; exact b w⟩
 · obtain ⟨D,hD,vk⟩:=h.Lq v (kD v hv) (by simp)
   exact ⟨qk D,(hm _).2 ⟨D,hD,rfl⟩,HT.2 vk⟩
section
variable (q1:List (List Int)) (qt:List Int) (qu:Nat) (qv:List Int) (qw:Nat) (qx:List Bool) (qy:Nat) (qz:List Int) (qA:Nat) (q6:Int)
theorem C7x (M:List (List Nat)) (eA:∀ C ∈ M,C.length ≤ 1000) (hl:M.length ≤ 1000) :
 dm KX ((M.length,M.length,(M.length:Int),0),q1,(qt,qu),(qv,qw),(qx,qy),(qz,qA),q6,kX M,M.length)=some (M.length,q1,(qt,qu),(qv,qw),(qx,qy),(qz,qA),q6,kX (M.map qk),M.length):=by
 let T:Nat→List (List Nat):=fun i=>(M.take i).map qk++M.drop i
 have hT0:T 0=M:=by simp [T]
 have hTn:T M.length=M.map qk:=by simp [T]
 have:=r9 (f:=KX) M.length (fun i=>((M.length,M.length,(M.length:Int),(i:Int)),q1,(qt,qu),(qv,qw),(qx,qy),(qz,qA),q6,kX (T i),M.length)) (M.length,q1,(qt,qu),(qv,qw),(qx,qy),(qz,qA),q6,kX (T M.length),M.length) (fun i hi=>by
  have eN:(i:Int) < (M.length:Int):=by omega
  have hTi:((M.take i).map qk).length=i:=by rw [aB,aW]; omega
  have hg:(kX (T i))[i]?=some (jy M[i]):=by
   rw [Ps];simp only [T];rw [bE (by omega),hTi,gz,bY hi]
   rfl
  have q0:(T i).set i (qk M[i])=T (i + 1):=by
   simp only [T];rw [eh _ _ (by omega),hTi,gz,bY hi,dN,tw hi,b5]
   simp
  have hlen:=eA _ (aP hi);have tk:aN (jy M[i]).length (jy M[i])=jy M[i]:=oL _;have ov:mX (jy M[i]) none (lI (jy M[i]))=jy (qk M[i]):=by
   unfold mX;simp only;rw [Fy,eW,bD,Pt]
  have hle:((jy M[i]).length == (jy (qk M[i])).length)=true:=by rw [Pt,Fy]; simp
  have hS:OK ((i,(jy M[i]).length),q1,(qt,qu),(qv,qw),(qx,qy),(qz,qA),q6,kX (T i),M.length)=some (q1,(qt,qu),(qv,qw),(qx,qy),(qz,qA),q6,kX (T (i + 1)),M.length):=by
   simp only [OK,hg,ai,jC (ar _),cond_true,tk,ov,hle,C5R,q0];rw [kU (by rw [A8]; omega)]
   rfl
  simp only [KX,eN,decide_true,cond_true,au,az,kU hi,hg,ai,hS,j5 (show i < 9223372036854775807 by omega)]) (by
  simp only [KX,bx,decide_false,cond_false])
 rw [hT0,hTn] at this;exact this
theorem B4j (k:Nat) (h:k ≤ 12):∃ y,Hq (aG.wrap (k:Int))=some y:=by
 have:((bA 13).all fun k=>(Hq (aG.wrap ((k:Nat):Int))).isSome)=true:=by kernel_rfl
 exact Option.isSome_iff_exists.1 (List.all_eq_true.1 this k (cA.2 (by omega)))
theorem C7y (M:List (List Nat)) (eA:∀ C ∈ M,C ≠ []) (hlen:∀ C ∈ M,C.length ≤ 1000) (hl:M.length ≤ 12) :
 OO (M.length,q1,(qt,qu),(qv,qw),(qx,qy),(qz,qA),q6,kX M,M.length)=some (M.length,q1,(qt,qu),(qv,qw),(qx,qy),(qz,qA),q6,kX (uZ (M.map qk)),M.length):=by
 obtain ⟨y,hy⟩:=B4j M.length hl;have h1:=C7x q1 qt qu qv qw qx qy qz qA q6 M hlen (by omega)
 have e:(M.map qk).length=M.length:=by simp
 have h2:=D08 q1 qt qu qv qw qx qy qz qA q6 M.length (M.map qk) (fun C hC=>by
  obtain ⟨D,hD,rfl⟩:=bj.1 hC;exact Pu (eA D hD)) (by omega) y (by rw [e]; exact hy)
 rw [e] at h2;unfold OO;have hp:=B4h (kX (M.map qk));simp only [h1,ai,cond_true];exact (congrArg (fun l=>(KW ((M.length,()),q1,(qt,qu),(qv,qw),(qx,qy),(qz,qA),q6,l,M.length)).bind fun w=>some (M.length,w.1,(w.2.1.1,w.2.1.2),(w.2.2.1.1,w.2.2.1.2),(w.2.2.2.1.1,w.2.2.2.1.2),(w.2.2.2.2.1.1,w.2.2.2.2.1.2),w.2.2.2.2.2.1,w.2.2.2.2.2.2.1,w.2.2.2.2.2.2.2)) hp).trans (by simp only [h2,ai])
end
theorem Vz {n:Nat} {E:oE} (hn:n ≤ 1000) (hr:Cp n E) (hE:E.length ≤ 1000):∀ (k i:Nat) (ix lo:Nat→Nat) (cnt:Nat) (out:List (List Nat)),i + k=n→kN (zX E) n [] ix [] cnt out→(∀ v,v < i→ix v ≠ 0) →
 ∃ gY j2 jt iD,dm HA (((n:Int),(i:Int)),se n E ix lo [] cnt out)=some (se n E gY j2 [] jt iD)∧kN (zX E) n [] gY [] jt iD∧∀ v,v < n→gY v ≠ 0
 | 0,i,ix,lo,cnt,out,hk,h,hv=>by
   have:i=n:=by omega
   subst this;refine ⟨ix,lo,cnt,out,oK ?_,h,hv⟩;simp only [HA,se,bx,decide_false,cond_false]
 | k + 1,i,ix,lo,cnt,out,hk,h,hv=>by
   have hi:i < n:=by omega
   have eN:(i:Int) < (n:Int):=by omega
   by_cases c:ix i=0
   · obtain ⟨gY,j2,T,jt,iD,e1,hp⟩:=D2T hn hr hE (n - cnt) i ix lo [] cnt out [] (ar _) h hi c (by simp)
     have hT:T=[]:=by
      have:=hp.inv.fin
      simpa using this
     subst hT;have e2:=D2n (n - cnt + 1) (fun m hm=>e1 m (by omega))
     have e2:Uv ((i:Int),se n E ix lo [] cnt out)=some (se n E gY j2 [] jt iD):=e2;obtain ⟨te,rN,pR,mZ,e3,h3,h4⟩:=Vz hn hr hE k (i + 1) gY j2 jt iD (by omega) hp.inv fun v vk=>by
      rcases Nat.lt_succ_iff_lt_or_eq.1 vk with e | e
      · rw [(hp.bm v (hv v e)).1]; exact hv v e
      · subst e; exact hp.Vx
     refine ⟨te,rN,pR,mZ,?_,h3,h4⟩;rw [← e3];refine sC ?_;have hz:(((ix i:Nat):Int) == 0)=true:=by rw [c]; rfl
     simp only [se] at e2 ⊢;simp only [HA,eN,decide_true,cond_true,au,az,kU hi,zY hi,ai,hz,e2,j5 (show i < 9223372036854775807 by omega)]
   · obtain ⟨te,rN,pR,mZ,e3,h3,h4⟩:=Vz hn hr hE k (i + 1) ix lo cnt out (by omega) h fun v vk=>by
      rcases Nat.lt_succ_iff_lt_or_eq.1 vk with e | e
      · exact hv v e
      · subst e; exact c
     refine ⟨te,rN,pR,mZ,?_,h3,h4⟩;rw [← e3];refine sC ?_;have hz:(((ix i:Nat):Int) == 0)=false:=by rw [beq_eq_false_iff_ne]; omega
     simp only [se];simp only [HA,eN,decide_true,cond_true,au,az,kU hi,zY hi,ai,hz,cond_false,j5 (show i < 9223372036854775807 by omega)]
theorem B9l {n:Nat} {E:oE} (h:HN n E=0) (hn:n ≤ 12) (hr:Cp n E) (hE:E.length ≤ 1000):∃ L,OP ((n:Int),E)=some (kX L,0)∧Aa n (zX E) L:=by
 obtain ⟨ix,lo,cnt,out,e1,h1,h2⟩:=Vz (show n ≤ 1000 by omega) hr hE n 0 (fun _=>0) (fun _=>0) 0 [] (by omega) (kN.nil n) (fun v hv=>by omega)
 have Is:=h1.z8;have hz:aq n (0:Int)=rO n (fun _=>0):=by simp [rO,zV,List.map_const']
 have hd:aq n false=s8 n []:=by
  unfold s8;rw [D05];exact Vo fun _ _=>rfl
 have h3:=C7y (qK n E) (rO n ix) n (rO n lo) n (s8 n []) n (jy []) ([]:List Nat).length (cnt:Int) out (fun C hC=>(h1.vO C hC).1) (fun C hC=>by
  obtain ⟨_,a,b⟩:=h1.vO C hC
  have:=Ln a (m:=bA n) fun x hx=>cA.2 (h1.vM x (b x hx).1.1)
  rw [List.length_range] at this;omega) (by omega)
 refine ⟨uZ (out.map qk),?_,D4N h1 h2⟩;have e1:dm HA (((n:Int),0),qK n E,(rO n (fun _=>0),n),(rO n (fun _=>0),n),(s8 n [],n),([],0),0,[],0)=some (se n E ix lo [] cnt out):=e1
 have Iw:(rO n (fun _=>0)).length=n:=by simp [rO,zV]
 have hld:(s8 n []).length=n:=C9g n [];simp only [OP,C0j,ai,h,bne_self_eq_false,cond_false,C1M (show n ≤ 1000 by omega) hr hE,au,decide_true,cond_true,lr,az,hz,hd,Iw,hld,jC (ar _)]
 rw [jC (show n * 8 ≤ 140737488355328 by omega),jC (show n * 1 ≤ 140737488355328 by omega)]
 simp only [cond_true,e1,ai,se,h3];have tm:(uZ (out.map qk)).length=out.length:=by rw [(C1x _).1.length_eq,aB]
 rw [jC (show out.length ≤ (kX (uZ (out.map qk))).length by rw [Po,tm]; exact ar _),a7 (show (kX (uZ (out.map qk))).length ≤ out.length by rw [Po,tm]; exact ar _)]
 rfl
end Go.Mid
namespace Go.Mid
theorem Aa.count {n:Nat} {Ed:Nat→Nat→Prop} {L:List (List Nat)} (h:Aa n Ed L):L.length ≤ n:=by
 have h1:(L.map kh).Nodup:=by
  unfold List.Nodup;rw [ed];exact h.hd.imp fun h=>Nat.ne_of_lt h
 have:=Ln h1 (m:=bA n) fun x hx=>by
  obtain ⟨C,hC,rfl⟩:=bj.1 hx;exact cA.2 (h.cls C hC _ (Vy (h.ne C hC))).1
 simpa using this
end Go.Mid
namespace Go.Mid
theorem C5S {Ed:Nat→Nat→Prop} {f:Nat→Nat} (hf:∀ u w,Ed u w→f u < f w) {a b:Nat} (h:Rc Ed a b):a=b∨f a < f b:=by
 induction h with
 | refl=>exact .inl rfl
 | tail _ h2 ih =>
   right
   have:=hf _ _ h2
   rcases ih with rfl | h
   · exact this
   · omega
theorem C7z {n:Nat} {Ed:Nat→Nat→Prop} {f:Nat→Nat} (hf:∀ u w,Ed u w→f u < f w) {L:List (List Nat)} (h:Aa n Ed L) {C:List Nat} (hC:C ∈ L):C.length=1:=by
 have h1:=h.ne C hC;have h2:=h.asc C hC
 match C,h1,h2,hC with
 | [],h1,_,_=>exact absurd rfl h1
 | [a],_,_,_=>rfl
 | a::b::r,_,h2,hC =>
   have qO:a < b:=(bN.1 h2).1 b (by simp)
   have h3:=((h.cls _ hC a (by simp)).2 b).1 (by simp)
   rcases C5S hf h3.1 with e | e
   · omega
   · rcases C5S hf h3.2 with e2 | e2 <;> omega
theorem C7A {n:Nat} {E:oE} (hn:n ≤ 12) (hr:Cp n E) (hE:E.length ≤ 1000) (hv:HN n E=0) {f:Nat→Nat} (hf:∀ u w:Nat,((u:Int),(w:Int)) ∈ E→f u < f w):OQ ((n:Int),E)=some ([],false):=by
 obtain ⟨L,h1,h2⟩:=B9l hv hn hr hE;have apG:=h2.count;have l0:=zP (f:=KY) E (fun i=>((n:Int),E,kX L,E,(E.length:Int),(i:Int))) (fun _=>false) (.inl ((0,true),[])) (.inr ((n:Int),E,kX L)) (fun i hi=>by
  have eN:(i:Int) < (E.length:Int):=by omega
  have b1:cQ 0 2=true:=rfl;have b2:cQ 1 2=true:=rfl;have eA:(E[i].1 == E[i].2)=false:=by
   rw [beq_eq_false_iff_ne];intro e;have h3:=hr _ (aP hi);obtain ⟨u,hu⟩:=eE h3.1
   have:((u:Int),(u:Int)) ∈ E:=by
    have h4:=aP hi;have h5:E[i]=((u:Int),(u:Int)):=Prod.ext hu (e ▸ hu);rw [← h5]; exact h4
   have:=hf u u this
   omega
  simp only [KY,eN,decide_true,cond_true,au,az,ah hi,ai,b1,b2,eA,cond_false,j5 (show i < 9223372036854775807 by omega)]
  rfl) (by
  simp only [KY,bx,decide_false,cond_false])
 have l0:dm KY ((n:Int),E,kX L,E,(E.length:Int),0)=_:=l0;have FT:(E.any fun _=>false)=false:=by simp
 rw [FT] at l0;have l1:=r9 (f:=KZ) (kX L).length (fun i=>((n:Int),E,kX L,((kX L).length:Int),(i:Int))) (.inr ()) (fun i hi=>by
  have eN:(i:Int) < ((kX L).length:Int):=by omega
  have hL:(kX L).length=L.length:=by simp [kX]
  have qH:i < L.length:=by omega
  have hg:(kX L)[i]?=some (jy L[i]):=by rw [Ps,ah qH]; rfl
  have hb:(((jy L[i]).length:Int) == 1)=true:=by rw [A8,C7z hf h2 (aP qH)]; rfl
  simp only [KZ,eN,decide_true,cond_true,au,az,hg,ai,hb,j5 (show i < 9223372036854775807 by omega)]) (by
  simp only [KZ,bx,decide_false,cond_false])
 have l1:dm KZ ((n:Int),E,kX L,((kX L).length:Int),0)=_:=l1;unfold OQ;simp only [h1,ai,bne_self_eq_false,cond_false,l0,aI,if_false,Sum.elim_inr,l1];rfl
end Go.Mid
namespace Go.Mid
open Go.Hg (asc less A2v A0t A5x Gr PrV nbB A5Z A4z Acy HOk)
abbrev sf:Nat:=65536
theorem vR {m n:Nat} (h:m < 2 ^ n) (hn:n ≤ 16):m < 2 ^ bg.bits:=bp h (eD (by decide) hn)
theorem Lw {m i:Nat} (hm:m < sf) (h:m.testBit i=true):i < 16:=by
 refine bZ fun hc=>?_
 have:m < 2 ^ i:=bp hm (eD (show 2 > 0 by decide) (show 16 ≤ i by omega))
 rw [Nat.testBit_lt_two_pow this] at h; cases h
noncomputable def D1u (y:Int):Option Int :=
 bif decide ((0:Int) ≤ jJ cG (cG.wrap (cG.wrap y * (125613361:Int))) (27:Int)) then
  bif (jJ cG (cG.wrap (cG.wrap y * (125613361:Int))) (27:Int)).toNat.blt 32 then
   [(0:Int),(1:Int),(28:Int),(2:Int),(29:Int),(14:Int),(24:Int),(3:Int),(30:Int),(22:Int),(20:Int),(15:Int),(25:Int),(17:Int),(4:Int),(8:Int),(31:Int),(27:Int),(13:Int),(23:Int),
      (21:Int),(19:Int),(16:Int),(7:Int),(26:Int),(12:Int),(18:Int),(6:Int),(11:Int),(5:Int),(10:Int),
      (9:Int)][(jJ cG (cG.wrap (cG.wrap y * (125613361:Int))) (27:Int)).toNat]?.bind
     fun y=>some (af.wrap y)
  else none
 else none
theorem C9l:∀ k:Nat,k < 16→D1u ((2 ^ k:Nat):Int)=some (k:Int)
 | 0,_=>by kernel_rfl
 | 1,_=>by kernel_rfl
 | 2,_=>by kernel_rfl
 | 3,_=>by kernel_rfl
 | 4,_=>by kernel_rfl
 | 5,_=>by kernel_rfl
 | 6,_=>by kernel_rfl
 | 7,_=>by kernel_rfl
 | 8,_=>by kernel_rfl
 | 9,_=>by kernel_rfl
 | 10,_=>by kernel_rfl
 | 11,_=>by kernel_rfl
 | 12,_=>by kernel_rfl
 | 13,_=>by kernel_rfl
 | 14,_=>by kernel_rfl
 | 15,_=>by kernel_rfl
 | n + 16,h=>by omega
theorem C7B {m:Nat} (h0:m ≠ 0) (hm:m < sf):bg.wrap ((0:Int) - (m:Int))=((sf - m:Nat):Int):=by
 have h:(m:Int) < 65536:=by unfold sf at hm; omega
 have h2:((sf - m:Nat):Int)=65536 - (m:Int):=by unfold sf at hm ⊢; omega
 rw [h2];simp only [hO,gx,fh];simp;omega
theorem C9m {m k:Nat} (hm:m < sf) (hk:m.testBit k=true) (hl:∀ j,j < k→m.testBit j=false):(m &&& (sf - m))=2 ^ k:=by
 have h0:m ≠ 0:=by intro e; rw [e,eX] at hk; cases hk
 apply jc;intro j;have e:sf - m=2 ^ 16 - ((m - 1) + 1):=by unfold sf; omega
 rw [gw,e,Nat.testBit_two_pow_sub_succ (show m - 1 < 2 ^ 16 by unfold sf at hm; omega),C3M hk hl,Nat.testBit_two_pow]
 have VA:=Lw hm hk;by_cases h1:j < k
 · have:¬ k=j:=by omega
   simp [hl j h1,this]
 · by_cases h2:j=k
   · subst h2; simp [hk,VA]
   · have:¬ k=j:=by omega
     simp [h1,h2,this];cases m.testBit j <;> simp
theorem C9n (x:Int):HC x=bif x == (0:Int) then some (16:Int) else D1u (pc bg x (bg.wrap ((0:Int) - x))):=rfl
theorem C5T {m k:Nat} (hm:m < sf) (hk:m.testBit k=true) (hl:∀ j,j < k→m.testBit j=false):HC (m:Int)=some (k:Int):=by
 have h0:m ≠ 0:=by intro e; rw [e,eX] at hk; cases hk
 have e0:((m:Int) == 0)=false:=by rw [beq_eq_false_iff_ne]; omega
 rw [C9n,e0,cond_false,C7B h0 hm,Lh (k:=.u16) rfl hm (show sf - m < 2 ^ bg.bits from Nat.sub_lt (by decide) (Nat.pos_of_ne_zero h0)),C9m hm hk hl]
 exact C9l k (Lw hm hk)
theorem C9o {m:Nat} (h0:m ≠ 0) (hm:m < sf):pc .u16 (m:Int) (bg.wrap ((m:Int) - 1))=((m &&& (m - 1):Nat):Int):=by
 have e1:bg.wrap ((m:Int) - 1)=((m - 1:Nat):Int):=by
  have:(m:Int) - 1=((m - 1:Nat):Int):=by omega
  rw [this]; exact FJ (k:=.u16) rfl (show m - 1 < 2 ^ 16 by unfold sf at hm; omega)
 rw [e1,Lh (k:=.u16) rfl hm (show m - 1 < 2 ^ 16 by unfold sf at hm; omega)]
theorem FU {i:Nat} (hi:i < 16):qh .u16 1 (i:Int)=((1 <<< i:Nat):Int):=D4F (k:=.u16) rfl (m:=1) (show i ≤ 16 by omega) (uX hi)
theorem Pv {v:List Int} (ha:asc v=true) (nv:v.length ≤ 1000000) (es:List (List Int)) (x:Int):Dt ((v,es),x)=some (if x ∈ v then ((A0t v x:Nat):Int) else -1):=by
 obtain ⟨i,h1,hp⟩:=U8 ha nv x;unfold Dt;simp only [h1,ai];have hf:=hp.found ha;by_cases hx:x ∈ v
 · have hc:v.contains x=true:=a8.2 hx;rw [hc] at hf ⊢;cases hv:v[i]? with
   | none=>rw [hv] at hf; cases hf
   | some y =>
     rw [hv] at hf;have hy:y=x:=by simpa using hf.symm
     subst hy;obtain ⟨hi,e⟩:=aF.1 hv;have VC:=Go.Hg.gu hx;obtain ⟨qH,e2⟩:=aF.1 VC
     have:=Go.Hg.kV ha hi qH (e.trans e2.symm)
     subst this;simp [hx]
 · have hc:v.contains x=false:=by
    cases tn:v.contains x with
    | false=>rfl
    | true=>exact absurd (a8.1 tn) hx
   rw [hc];simp [hx]
theorem VD {v:List Int} (ha:asc v=true) {i:Nat} (h:i < v.length):A0t v v[i]=i:=by
 have VC:=Go.Hg.gu (aP h);obtain ⟨qH,e2⟩:=aF.1 VC;exact Go.Hg.kV ha qH h e2
structure rn (v:List Int) (es:List (List Int)) (p:PrV) (F:Nat) (dU dp:List Nat):Prop where
 fl:F < 2 ^ v.length
 fb:∀ j (h:j < v.length),F.testBit j=!A5Z es v[j]
 nl:dU.length=v.length
 Ba:∀ x ∈ dU,x < 2 ^ v.length
 nb:∀ j (h:j < v.length) (h':j < dU.length) k (hk:k < v.length),dU[j].testBit k=nbB es v[j] v[k]
 al:dp.length=v.length
 alt:∀ x ∈ dp,x < 2 ^ v.length
 ab:∀ j (h:j < v.length) (h':j < dp.length) k (hk:k < v.length),dp[j].testBit k=A4z p v[k] v[j]
def Ab (v:List Int) (s:Nat×List Nat) (e:List Int):Nat×List Nat :=
 let i:=A0t v (e.headD 0)
 let k:=A0t v (e.getLastD 0)
 if i=k then (less s.1 (1 <<< i),s.2) else (s.1,(s.2.set i (s.2.getD i 0 ||| 1 <<< k)).set k (s.2.getD k 0 ||| 1 <<< i))
def nU (v:List Int) (es:List (List Int)) (i:Nat):Nat×List Nat:=(es.take i).foldl (Ab v) (2 ^ v.length - 1,aq v.length 0)
theorem C4h (v:List Int) {es:List (List Int)} {i:Nat} (h:i < es.length):nU v es (i + 1)=Ab v (nU v es i) es[i]:=by
 unfold nU;rw [tw h,iK]; rfl
structure GI (v:List Int) (L:List (List Int)) (s:Nat×List Nat):Prop where
 fl:s.1 < 2 ^ v.length
 fb:∀ j (h:j < v.length),s.1.testBit j=!L.contains [v[j]]
 nl:s.2.length=v.length
 Ba:∀ x ∈ s.2,x < 2 ^ v.length
 nb:∀ j (h:j < v.length) (h':j < s.2.length) k (hk:k < v.length),s.2[j].testBit k=(L.contains [v[j],v[k]] || L.contains [v[k],v[j]])
theorem D2W {v:List Int} {es:List (List Int)} (G:Gr v es) {L:List (List Int)} {s:Nat×List Nat} (I:GI v L s) {e:List Int} (he:e ∈ es):GI v (L++[e]) (Ab v s e):=by
 have ni:=G.l5.av;have cont:∀ x:List Int,(L++[e]).contains x=(L.contains x || decide (x=e)):=fun x=>by
  apply de.2;simp
 rcases G.cases he with ⟨a,rfl,_⟩ | ⟨a,b,rfl,qO,_⟩
 · have ha:a ∈ v:=G.l5.qQ _ he a (by simp)
   obtain ⟨i,hi,rfl⟩:=dQ.1 ha;have hp:=VD ni hi;have hg:Ab v s [v[i]]=(less s.1 (1 <<< i),s.2):=by simp [Ab,hp]
   rw [hg];refine ⟨U6 I.fl,fun j hj=>?_,I.nl,I.Ba,fun j hj h' k hk=>?_⟩
   · rw [Go.Hg.pM,I.fb j hj,Go.Hg.lL,cont];by_cases c:j=i
     · subst c; simp
     · have:¬ v[j]=v[i]:=fun h=>c (Go.Hg.kV ni hj hi h)
       simp [c,this]
   · rw [I.nb j hj h' k hk,cont,cont];simp
 · have ha:a ∈ v:=G.l5.qQ _ he a (by simp)
   have hb:b ∈ v:=G.l5.qQ _ he b (by simp)
   obtain ⟨i,hi,rfl⟩:=dQ.1 ha;obtain ⟨k,hk,rfl⟩:=dQ.1 hb;have hpi:=VD ni hi;have vL:=VD ni hk;have AL:i ≠ k:=fun h=>by subst h; omega
   have hg:Ab v s [v[i],v[k]]=(s.1,(s.2.set i (s.2.getD i 0 ||| 1 <<< k)).set k (s.2.getD k 0 ||| 1 <<< i)):=by
    simp [Ab,hpi,vL,AL]
   have Ck:i < s.2.length:=by rw [I.nl]; exact hi
   have xe:k < s.2.length:=by rw [I.nl]; exact hk
   have d1:s.2.getD i 0=s.2[i]:=by rw [bh,ah Ck]; rfl
   have d2:s.2.getD k 0=s.2[k]:=by rw [bh,ah xe]; rfl
   rw [hg,d1,d2];refine ⟨I.fl,fun j hj=>?_,by simp [I.nl],fun x hx=>?_,fun j hj h' m hm=>?_⟩
   · rw [I.fb j hj,cont]; simp
   · rcases bz hx with h | h
     · rcases bz h with h | h
       · exact I.Ba x h
       · rw [h]; exact fD (I.Ba _ (aP _)) (uX hk)
     · rw [h]; exact fD (I.Ba _ (aP _)) (uX hi)
   · have inj:∀ {x y:Nat} (hx:x < v.length) (hy:y < v.length),v[x]=v[y]↔x=y:=fun hx hy=>⟨fun h=>Go.Hg.kV ni hx hy h,fun h=>by subst h; rfl⟩
     have Gy:j < s.2.length:=by rw [I.nl]; exact hj
     have AD:j < ((s.2.set i (s.2[i] ||| 1 <<< k)).set k (s.2[k] ||| 1 <<< i)).length:=by simpa using Gy
     have key:(((s.2.set i (s.2[i] ||| 1 <<< k)).set k (s.2[k] ||| 1 <<< i))[j]'AD).testBit m=(s.2[j].testBit m || (decide (j=i) && decide (m=k)) || (decide (j=k) && decide (m=i))):=by
      rw [m9];by_cases c:k=j
      · subst c;rw [if_pos rfl,fp,Go.Hg.lL];have VE:¬ k=i:=fun h=>AL h.symm
        simp [VE]
      · rw [if_neg c,m9];have c':¬ j=k:=fun h=>c h.symm
        by_cases c2:i=j
        · subst c2;rw [if_pos rfl,fp,Go.Hg.lL];simp [c']
        · rw [if_neg c2];have Co:¬ j=i:=fun h=>c2 h.symm
          simp [c',Co]
     rw [key,I.nb j hj (by rw [I.nl]; exact hj) m hm,cont,cont]
     simp only [List.cons.injEq,inj hj hi,inj hm hk,inj hm hi,inj hj hk,and_true];cases L.contains [v[j],v[m]] <;> cases L.contains [v[m],v[j]] <;> by_cases a1:j=i <;> by_cases a2:m=k <;> by_cases a3:j=k <;> by_cases a4:m=i <;> simp [a1,a2,a3,a4]
theorem VF {v:List Int} {es:List (List Int)} (G:Gr v es):∀ i,i ≤ es.length→GI v (es.take i) (nU v es i)
 | 0,_=>by
   have hp:0 < 2 ^ v.length:=fG _;refine ⟨by show 2 ^ v.length - 1 < _; omega,fun j hj=>?_,by simp [nU],fun x hx=>?_,fun j hj h' k hk=>?_⟩
   · show (2 ^ v.length - 1).testBit j=_;rw [Nat.testBit_two_pow_sub_one]; simp [hj]
   · have:x=0:=by
      have:=fc (show x ∈ aq v.length 0 from hx)
      exact this
     omega
   · have:(nU v es 0).2[j]=0:=by simp [nU]
     rw [this]; simp
 | i + 1,h=>by
   rw [C4h v (by omega),tw (by omega)]
   exact D2W G (VF G i (by omega)) (aP _)
theorem C4j (l:List Nat) (i x:Nat):(jE l).set i (x:Int)=jE (l.set i x):=by simp [jE,fa]
end Go.Mid
namespace Go.Mid
open Go.Hg (asc less A2v A0t A5x Gr PrV nbB A5Z A4z Acy HOk)
section
variable {v:List Int} {es:List (List Int)} (G:Gr v es) (nv:v.length ≤ 14) (ne:es.length ≤ 1000000)
include G nv ne
theorem D09 (p:PrV) (AB:List Int) (m:Nat):dm HB ((p,(v.length:Int),es,(es.length:Int),0),(v,es),(v,es),((2 ^ v.length - 1:Nat):Int),(jE (aq v.length 0),v.length),AB,m) =
 some ((p,(v.length:Int)),(v,es),(v,es),(((nU v es es.length).1:Nat):Int),(jE (nU v es es.length).2,v.length),AB,m):=by
 have ni:=G.l5.av;have key:=r9 (f:=HB) es.length (fun i=>((p,(v.length:Int),es,(es.length:Int),(i:Int)),(v,es),(v,es),(((nU v es i).1:Nat):Int),(jE (nU v es i).2,v.length),AB,m))
  ((p,(v.length:Int)),(v,es),(v,es),(((nU v es es.length).1:Nat):Int),(jE (nU v es es.length).2,v.length),AB,m) (fun i hi=>by
  have eN:(i:Int) < (es.length:Int):=by omega
  have I:=VF G i (fM hi);have he:=aP hi;have n6:v.length ≤ 1000000:=by omega
  rw [C4h v hi];rcases G.cases he with ⟨a,e,_⟩ | ⟨a,b,e,qO,_⟩
  · have ha:a ∈ v:=G.l5.qQ _ he a (by rw [e]; simp)
    have hp:=Go.Hg.iV ha;have w1:af.wrap ((([a]:List Int).length:Int) - 1)=0:=by simp [hO,gx,fh]
    have hg:Ab v (nU v es i) [a]=(less (nU v es i).1 (1 <<< A0t v a),(nU v es i).2):=by simp [Ab]
    simp only [HB,eN,decide_true,cond_true,au,az,ah hi,ai,e,bP,Pv ni n6,ha,if_true,w1,lr,Int.toNat_zero,beq_self_eq_true,
     FU (show A0t v a < 16 by omega),C5J (k:=.u16) rfl (vR I.fl (by omega)) (uX (show A0t v a < 16 by omega)),j5 (show i < 9223372036854775807 by omega),hg]
  · have ha:a ∈ v:=G.l5.qQ _ he a (by rw [e]; simp)
    have hb:b ∈ v:=G.l5.qQ _ he b (by rw [e]; simp)
    have hp:=Go.Hg.iV ha;have hq:=Go.Hg.iV hb;have w1:af.wrap ((([a,b]:List Int).length:Int) - 1)=1:=by simp [hO,gx,fh]
    have t1:(1:Int).toNat=1:=rfl;have eA:A0t v a ≠ A0t v b:=fun h=>by
     have h1:=Go.Hg.gu ha;have h2:=Go.Hg.gu hb;rw [h,h2] at h1
     have:=Option.some.inj h1
     omega
    have VG:(((A0t v a:Nat):Int) == ((A0t v b:Nat):Int))=false:=by rw [beq_eq_false_iff_ne]; omega
    have sR:A0t v a < (nU v es i).2.length:=by rw [I.nl]; exact hp
    have tm:A0t v b < (nU v es i).2.length:=by rw [I.nl]; exact hq
    have d1:(nU v es i).2.getD (A0t v a) 0=(nU v es i).2[A0t v a]:=by rw [bh,ah sR]; rfl
    have d2:(nU v es i).2.getD (A0t v b) 0=(nU v es i).2[A0t v b]:=by rw [bh,ah tm]; rfl
    have hg:Ab v (nU v es i) [a,b]=((nU v es i).1,((nU v es i).2.set (A0t v a) ((nU v es i).2[A0t v a] ||| 1 <<< A0t v b)).set (A0t v b) ((nU v es i).2[A0t v b] ||| 1 <<< A0t v a)):=by
     simp only [Ab,List.headD_cons,List.getLastD_cons,List.getLastD_nil,eA,if_false,d1,d2]
    have o1:=FK (k:=.u16) rfl (vR (I.Ba _ (aP sR)) (by omega)) (uX (show A0t v b < 16 by omega))
    have o2:=FK (k:=.u16) rfl (vR (I.Ba _ (aP tm)) (by omega)) (uX (show A0t v a < 16 by omega))
    have q0:(jE ((nU v es i).2.set (A0t v a) ((nU v es i).2[A0t v a] ||| 1 <<< A0t v b)))[A0t v b]?=some (((nU v es i).2[A0t v b]:Nat):Int):=by
     rw [DA (by simpa using tm),List.getElem_set_ne eA]
    have zl:(0:Int) ≤ 1:=by decide
    simp only [HB,eN,decide_true,cond_true,au,az,ah hi,ai,e,bP,List.getElem?_cons_succ,Pv ni n6,ha,hb,if_true,w1,zl,t1,VG,cond_false,
     kU hp,kU hq,DA sR,FU (show A0t v a < 16 by omega),FU (show A0t v b < 16 by omega),o1,C4j,q0,o2,j5 (show i < 9223372036854775807 by omega),hg]) (by
  simp only [HB,bx,decide_false,cond_false])
 exact key
end
def Lx (v:List Int) (s:List Nat) (q:Int×Int):List Nat:=s.set (A0t v q.2) (s.getD (A0t v q.2) 0 ||| 1 <<< A0t v q.1)
def qS (v:List Int) (p:PrV) (i:Nat):List Nat:=(p.take i).foldl (Lx v) (aq v.length 0)
def yj (v:List Int) (p:PrV) (i:Nat):List (Int×Int):=(p.take i).map fun q=>(((A0t v q.1:Nat):Int),((A0t v q.2:Nat):Int))
theorem C1N (L:PrV) (a b:Int×Int):(L++[b]).contains a=(L.contains a || decide (a=b)):=by
 apply de.2;simp
theorem C4k (v:List Int) {p:PrV} {i:Nat} (h:i < p.length):qS v p (i + 1)=Lx v (qS v p i) p[i]:=by
 unfold qS;rw [tw h,iK]; rfl
structure AI (v:List Int) (p:PrV) (s:List Nat):Prop where
 al:s.length=v.length
 alt:∀ x ∈ s,x < 2 ^ v.length
 ab:∀ j (_:j < v.length) (h':j < s.length) k (_:k < v.length),s[j].testBit k=p.contains (v[k],v[j])
theorem VH {v:List Int} {p:PrV} (ha:asc v=true) (hp:∀ q ∈ p,q.1 ∈ v∧q.2 ∈ v):∀ i,i ≤ p.length→AI v (p.take i) (qS v p i)
 | 0,_=>by
   refine ⟨by simp [qS],fun x hx=>?_,fun j hj h' k hk=>?_⟩
   · have:x=0:=fc (show x ∈ aq v.length 0 from hx)
     have:=fG v.length
     omega
   · have:(qS v p 0)[j]=0:=by simp [qS]
     rw [this]; simp
 | i + 1,h=>by
   have I:=VH ha hp i (by omega)
   have hi:i < p.length:=by omega
   have e1:qS v p (i + 1)=Lx v (qS v p i) p[i]:=C4k v hi;obtain ⟨h1,h2⟩:=hp _ (aP hi);have HU:=Go.Hg.iV h1;have ze:=Go.Hg.iV h2;have hl:A0t v p[i].2 < (qS v p i).length:=by rw [I.al]; exact ze
   have d:(qS v p i).getD (A0t v p[i].2) 0=(qS v p i)[A0t v p[i].2]:=by rw [bh,ah hl]; rfl
   rw [e1,tw hi];unfold Lx;rw [d];have g1:v[A0t v p[i].1]=p[i].1:=(aF.1 (Go.Hg.gu h1)).2;have g2:v[A0t v p[i].2]=p[i].2:=(aF.1 (Go.Hg.gu h2)).2;refine ⟨by simp [I.al],fun x hx=>?_,fun j hj h' k hk=>?_⟩
   · rcases bz hx with h | h
     · exact I.alt x h
     · rw [h]; exact fD (I.alt _ (aP _)) (uX HU)
   · have Gy:j < (qS v p i).length:=by rw [I.al]; exact hj
     rw [C1N,← I.ab j hj Gy k hk,m9];by_cases c:A0t v p[i].2=j
     · subst c;rw [if_pos rfl,fp,Go.Hg.lL];congr 1;rw [decide_eq_decide];constructor
       · intro h; subst h; exact Prod.ext g1 g2
       · intro h;have h3:v[k]=p[i].1:=congrArg Prod.fst h;exact Go.Hg.kV ha hk HU (h3.trans g1.symm)
     · rw [if_neg c]
       have:¬ (v[k],v[j])=p[i]:=fun h=>by
        have h3:v[j]=p[i].2:=congrArg Prod.snd h;exact c (Go.Hg.kV ha ze hj (g2.trans h3.symm))
       simp [this]
section
variable {v:List Int} {es:List (List Int)} {p:PrV} (ha:asc v=true) (nv:v.length ≤ 14) (np:p.length ≤ 1000000) (hp:∀ q ∈ p,nbB es q.1 q.2=true∧q.1 ∈ v∧q.2 ∈ v)
include ha nv np hp
theorem D1a {F:Int} {dU:List Nat} (BC:dU.length=v.length) (eF:∀ x ∈ dU,x < 2 ^ v.length) (xS:∀ j (h:j < v.length) (h':j < dU.length) k (hk:k < v.length),dU[j].testBit k=nbB es v[j] v[k]) (H2:List Int×List (List Int)) :
 dm K0 (((v.length:Int),0,p,(p.length:Int),0),(v,es),[],H2,F,(jE dU,v.length),jE (aq v.length 0),v.length) =
  some (.inr (((v.length:Int),p.length),yj v p p.length,H2,F,(jE dU,v.length),jE (qS v p p.length),v.length)):=by
 have key:=r9 (f:=K0) p.length (fun i=>(((v.length:Int),i,p,(p.length:Int),(i:Int)),(v,es),yj v p i,H2,F,(jE dU,v.length),jE (qS v p i),v.length))
  (.inr (((v.length:Int),p.length),yj v p p.length,H2,F,(jE dU,v.length),jE (qS v p p.length),v.length)) (fun i hi=>by
  have eN:(i:Int) < (p.length:Int):=by omega
  obtain ⟨h0,h1,h2⟩:=hp _ (aP hi);have I:=VH ha (fun q hq=>(hp q hq).2) i (fM hi)
  have n6:v.length ≤ 1000000:=by omega
  have HU:=Go.Hg.iV h1;have ze:=Go.Hg.iV h2;have g1:v[A0t v p[i].1]=p[i].1:=(aF.1 (Go.Hg.gu h1)).2;have g2:v[A0t v p[i].2]=p[i].2:=(aF.1 (Go.Hg.gu h2)).2;have Eo:A0t v p[i].1 < dU.length:=by rw [BC]; exact HU
  have Ks:A0t v p[i].2 < (qS v p i).length:=by rw [I.al]; exact ze
  have VI:dU[A0t v p[i].1].testBit (A0t v p[i].2)=true:=by
   rw [xS _ HU Eo _ ze,g1,g2]; exact h0
  have b1:cQ 0 2=true:=rfl;have b2:cQ 1 2=true:=rfl;have z1:¬ (((A0t v p[i].1:Nat):Int) < 0):=by omega
  have z2:¬ (((A0t v p[i].2:Nat):Int) < 0):=by omega
  have AA:=D4G (k:=.u16) rfl (show A0t v p[i].2 ≤ 16 by omega) (by decide) (vR (eF _ (aP Eo)) (by omega))
  rw [VI,if_pos rfl] at AA;have c1:((1:Int) == 0)=false:=rfl;have el:(yj v p i).length=i:=by simp [yj]; omega
  have o1:=FK (k:=.u16) rfl (vR (I.alt _ (aP Ks)) (by omega)) (uX (show A0t v p[i].1 < 16 by omega))
  have e1:yj v p (i + 1)=yj v p i++[(((A0t v p[i].1:Nat):Int),((A0t v p[i].2:Nat):Int))]:=by
   unfold yj;rw [tw hi,b5]; rfl
  have e2:qS v p (i + 1)=(qS v p i).set (A0t v p[i].2) ((qS v p i)[A0t v p[i].2] ||| 1 <<< A0t v p[i].1):=by
   have:(qS v p i).getD (A0t v p[i].2) 0=(qS v p i)[A0t v p[i].2]:=by rw [bh,ah Ks]; rfl
   rw [C4k v hi];unfold Lx;rw [this]
  simp only [K0,eN,decide_true,cond_true,au,az,ah hi,ai,b1,b2,Pv ha n6,h1,h2,if_true,z1,z2,decide_false,cond_false,kU HU,kU ze,DA Eo,DA Ks,AA,c1,
   el,jC (ar _),jC (show (i + 1) * 16 ≤ 140737488355328 by omega),a7 (fQ el),FU (show A0t v p[i].1 < 16 by omega),o1,C4j,j5 (show i < 9223372036854775807 by omega),e1,e2]) (by
  simp only [K0,bx,decide_false,cond_false])
 exact key
end
theorem C5U (n:Nat) (hn:n ≤ 1000) (E:List (Int×Int)) (i:Int):∀ (j:Nat) (M:List (Int×Int)),j < n→M.length=n→(∀ x ∈ M,x ∈ E) →
 ∃ M',dm Hr ((n,0,(n:Int),(),i,(j:Int)),M)=some ((n,0,(n:Int),(),i),M')∧M'.length=n∧∀ x ∈ M',x ∈ E
 | 0,M,hj,hM,hE=>⟨M,oK (by simp [Hr]),hM,hE⟩
 | j + 1,M,hj,hM,hE=>by
   have h1:((j + 1:Nat):Int) > 0:=by omega
   have EI:j + 1 < M.length:=by omega
   have FV:j < M.length:=by omega
   obtain ⟨c,hc⟩:∃ c,Ur (M[j + 1],M[j])=some c:=⟨_,rfl⟩;by_cases d:c < 0
   · have st:Hr ((n,0,(n:Int),(),i,((j + 1:Nat):Int)),M)=some (.inl ((n,0,(n:Int),(),i,(j:Int)),(M.set (j + 1) M[j]).set j M[j + 1])):=by
      simp only [Hr,h1,decide_true,cond_true,au,az,kU hj,kU (show j < n by omega),ah EI,ah FV,ai,yh (show 1 ≤ j + 1 by omega) (by omega),dP,hc,d]
      have e4:(M.set (j + 1) M[j])[j]?=some M[j]:=by rw [eB (by omega),ah FV]
      rw [e4]; rfl
     rw [sC st];refine C5U n hn E i j _ (by omega) (by simpa using hM) fun x hx=>?_
     rcases bz hx with h | h
     · rcases bz h with h | h
       · exact hE x h
       · rw [h]; exact hE _ (aP _)
     · rw [h]; exact hE _ (aP _)
   · refine ⟨M,oK ?_,hM,hE⟩;simp only [Hr,h1,decide_true,cond_true,au,az,kU hj,kU (show j < n by omega),ah EI,ah FV,ai,yh (show 1 ≤ j + 1 by omega) (by omega),dP,hc,d,decide_false,cond_false]
theorem C7C {n:Nat} (hn:n ≤ 12) {E:List (Int×Int)} (hE:E.length=n):∃ M,OE ((n,()),E)=some M∧M.length=n∧∀ x ∈ M,x ∈ E:=by
 obtain ⟨y,hy⟩:=B4j n hn;have l0:∃ b,dm Hs ((n,0,(n:Int),(),1),E)=some b∧(b.length=n∧∀ x ∈ b,x ∈ E):=by
  by_cases h0:n ≤ 1
  · refine ⟨E,oK ?_,hE,fun x hx=>hx⟩
    have:¬ (1:Int) < (n:Int):=by omega
    simp only [Hs,this,decide_false,cond_false]
  · have key:=TX (f:=Hs) (n - 1) (fun i (M:List (Int×Int))=>((n,0,(n:Int),(),((i + 1:Nat):Int)),M)) (fun _ M=>M.length=n∧∀ x ∈ M,x ∈ E) (fun b=>b.length=n∧∀ x ∈ b,x ∈ E) E ⟨hE,fun x hx=>hx⟩ (fun i M hi hM=>by
     left;have eN:((i + 1:Nat):Int) < (n:Int):=by omega
     obtain ⟨M',h1,h2,h3⟩:=C5U n (by omega) E ((i + 1:Nat):Int) (i + 1) M (by omega) hM.1 hM.2
     refine ⟨M',?_,h2,h3⟩;simp only [Hs,eN,decide_true,cond_true,h1,ai,j5 (show i + 1 < 9223372036854775807 by omega)]) (fun M hM=>by
     refine ⟨M,?_,hM⟩
     have:¬ ((n - 1 + 1:Nat):Int) < (n:Int):=by omega
     simp only [Hs,this,decide_false,cond_false])
    exact key
 obtain ⟨M,h1,h2,h3⟩:=l0;refine ⟨M,?_,h2,h3⟩;have w1:af.wrap ((0:Int) + 1)=1:=by simp [hO,gx,fh]
 have w2:af.wrap ((n:Int) - 0)=(n:Int):=by rw [Int.sub_zero]; exact Og (by omega)
 have hle:(n:Int) ≤ 12:=by omega
 have hp:OD ((n,0,(n:Int),y,()),E)=some M:=by
  unfold OD
  have:dm Uu ((n,0,(n:Int),y,(),true,true),E)=some M:=by
   refine oK ?_;simp only [Uu,Ut,w1,w2,hle,decide_true,cond_true,h1,ai]
  simp only [this,ai]
 unfold OE;simp only [hy,ai,hp]
theorem C7D {n:Nat} (hn:n ≤ 1000) {E:List (Int×Int)} {k0:Nat} (hk0:k0 < n) {M:List (Int×Int)} (hM:M.length=n) (hE:∀ x ∈ M,x ∈ E) :
 ∃ (k:Nat) (M':List (Int×Int)),dm Ht ((n,(k0:Int),(k0,n - k0),1),M)=some ((n,(k:Int)),M')∧k ≤ n∧M'.length=n∧∀ x ∈ M',x ∈ E:=by
 have key:=TX (f:=Ht) (n - k0 - 1) (fun i (s:Nat×List (Int×Int))=>((n,(s.1:Int),(k0,n - k0),((i + 1:Nat):Int)),s.2)) (fun i s=>s.1 ≤ k0 + i∧s.2.length=n∧∀ x ∈ s.2,x ∈ E) (fun b=>∃ (k:Nat) (M':List (Int×Int)),b=((n,(k:Int)),M')∧k ≤ n∧M'.length=n∧∀ x ∈ M',x ∈ E) (k0,M) ⟨ar _,hM,hE⟩ (fun i s hi hs=>by
  left;obtain ⟨k,L⟩:=s;obtain ⟨h1,h2,h3⟩:=hs;simp only at h1 h2 h3;have eN:((i + 1:Nat):Int) < ((n - k0:Nat):Int):=by omega
  have g1:k0 + (i + 1) < L.length:=by omega
  have g2:k0 + i < L.length:=by omega
  have g3:k < L.length:=by omega
  by_cases c:(!(L[k0 + (i + 1)].1 == L[k0 + i].1 && L[k0 + (i + 1)].2 == L[k0 + i].2))=true
  · refine ⟨(k + 1,L.set k L[k0 + (i + 1)]),?_,by show k + 1 ≤ k0 + (i + 1); omega,by simpa using h2,fun x hx=>?_⟩
    · simp only [Ht,eN,decide_true,cond_true,au,az,kU (show i + 1 < n - k0 by omega),ah g1,ai,yh (show 1 ≤ i + 1 by omega) (by omega),dP,kU (show i < n - k0 by omega),ah g2,c,
       kU (show k < n by omega),ah g3,j5 (show k < 9223372036854775807 by omega),j5 (show i + 1 < 9223372036854775807 by omega)]
    · rcases bz hx with h | h
      · exact h3 x h
      · rw [h]; exact h3 _ (aP _)
  · have c':(!(L[k0 + (i + 1)].1 == L[k0 + i].1 && L[k0 + (i + 1)].2 == L[k0 + i].2))=false:=by simpa using c
    refine ⟨(k,L),?_,by show k ≤ k0 + (i + 1); omega,h2,h3⟩
    simp only [Ht,eN,decide_true,cond_true,au,az,kU (show i + 1 < n - k0 by omega),ah g1,ai,yh (show 1 ≤ i + 1 by omega) (by omega),dP,kU (show i < n - k0 by omega),ah g2,c',cond_false,
     j5 (show i + 1 < 9223372036854775807 by omega)]) (fun s hs=>by
  refine ⟨((n,(s.1:Int)),s.2),?_,s.1,s.2,rfl,by omega,hs.2.1,hs.2.2⟩
  have:¬ ((n - k0 - 1 + 1:Nat):Int) < ((n - k0:Nat):Int):=by omega
  simp only [Ht,this,decide_false,cond_false])
 obtain ⟨b,hb,k,M',rfl,h1,h2,h3⟩:=key;exact ⟨k,M',hb,h1,h2,h3⟩
theorem C1O {n:Nat} (hn:n ≤ 1000) {M:List (Int×Int)} (hM:M.length=n):∃ (k:Nat) (M':List (Int×Int)),KN (n,M)=some (k,M')∧k ≤ M'.length∧k ≤ n∧∀ x ∈ M'.take k,x ∈ M:=by
 by_cases h2:n < 2
 · have qZ:(n:Int) < 2:=by omega
   refine ⟨n,M,?_,by omega,ar _,fun x hx=>dh hx⟩
   unfold KN;simp only [qZ,decide_true,cond_true]
 · have qZ:¬ (n:Int) < 2:=by omega
   have key:=TX (f:=Hu) (n - 1) (fun i (_:Unit)=>((n,((i + 1:Nat):Int)),M)) (fun _ _=>True) (fun b=>∃ (k:Nat) (M':List (Int×Int)),(b=.inl (k,M')∨b=.inr (k,M'))∧k ≤ M'.length∧k ≤ n∧∀ x ∈ M'.take k,x ∈ M) () trivial (fun i _ hi _=>by
    have eN:((i + 1:Nat):Int) < (n:Int):=by omega
    have g1:i + 1 < M.length:=by omega
    have g2:i < M.length:=by omega
    by_cases c:(M[i + 1].1 == M[i].1 && M[i + 1].2 == M[i].2)=true
    · right;obtain ⟨k,M',h3,h4,h5,h6⟩:=C7D hn (E:=M) (k0:=i + 1) (by omega) hM (fun x hx=>hx)
      have hr:(k + (aq (n - k) ((0:Int),(0:Int))).length)=n:=by simp; omega
      refine ⟨.inl (k,mX M' (some k) (aq (n - k) ((0:Int),(0:Int)))),?_,k,_,.inl rfl,?_,h4,?_⟩
      · simp only [Hu,eN,decide_true,cond_true,au,az,kU (show i + 1 < n by omega),ah g1,ai,yh (show 1 ≤ i + 1 by omega) (by omega),dP,kU (show i < n by omega),ah g2,c,
         jC (show i + 1 ≤ n by omega),h3,jC h4,hr,jC (fQ h5.symm)]
      · unfold mX; simp; omega
      · intro x hx;have e:(mX M' (some k) (aq (n - k) ((0:Int),(0:Int)))).take k=M'.take k:=by
         unfold mX;simp only;rw [bf,List.take_append_of_le_length (by simp; omega)]
         rw [List.take_take]; simp
        rw [e] at hx;exact h6 x (dh hx)
    · left;have c':(M[i + 1].1 == M[i].1 && M[i + 1].2 == M[i].2)=false:=by simpa using c
      refine ⟨(),?_,trivial⟩;simp only [Hu,eN,decide_true,cond_true,au,az,kU (show i + 1 < n by omega),ah g1,ai,yh (show 1 ≤ i + 1 by omega) (by omega),dP,kU (show i < n by omega),ah g2,c',cond_false,
       j5 (show i + 1 < 9223372036854775807 by omega)]) (fun _ _=>by
    refine ⟨.inr (n,M),?_,n,M,.inr rfl,by omega,ar _,fun x hx=>dh hx⟩
    have:¬ ((n - 1 + 1:Nat):Int) < (n:Int):=by omega
    simp only [Hu,this,decide_false,cond_false])
   obtain ⟨b,hb,k,M',h3,h4,h5,h6⟩:=key;have hb:dm Hu ((n,1),M)=some b:=hb;refine ⟨k,M',?_,h4,h5,h6⟩;unfold KN;simp only [qZ,decide_false,cond_false,hb,ai];rcases h3 with rfl | rfl <;> rfl
end Go.Mid
namespace Go.Mid
open Go.Hg (asc less A2v A0t A5x Gr PrV nbB A5Z A4z Acy HOk idsP B89 A1E)
structure Ctx (v:List Int) (es:List (List Int)) (p:PrV):Prop where
 G:Gr v es
 hv:A5x v es=true
 nv:v.length ≤ 9
 ne:es.length ≤ 12
 np:p.length ≤ 12
 hp:∀ q ∈ p,nbB es q.1 q.2=true∧q.1 ∈ v∧q.2 ∈ v
 VJ:Acy p
abbrev D5C:=Option ((List Int×List (List Int))×Int×List Int×List Int)
abbrev gm (v:List Int) (es:List (List Int)) (F:Nat) (dU dp:List Nat):D5C:=some ((v,es),(F:Int),jE dU,jE dp)
section
variable {v:List Int} {es:List (List Int)} {p:PrV} (C:Ctx v es p)
include C
theorem Ctx.el:∀ e ∈ es,e.length ≤ 1000000:=fun e he=>by have:=C.G.two e he; omega
theorem Ctx.av:asc v=true:=C.G.l5.av
theorem Ctx.H:HOk v es:=⟨by have:=C.nv; omega,by have:=C.ne; omega,fun e he=>by have:=C.G.two e he; omega,C.G.l5.qQ⟩
theorem D1b:∃ (F:Nat) (dU dp:List Nat),Dv ((v,es),p)=some (gm v es F dU dp,0)∧rn v es p F dU dp:=by
 have nv:=C.nv;have ne:=C.ne;have np:=C.np;have ni:=C.av;have I:=VF C.G es.length (ar _);rw [oL] at I;have A:=VH ni (fun q hq=>(C.hp q hq).2) p.length (ar _)
 rw [oL] at A;have xS:∀ j (h:j < v.length) (h':j < (nU v es es.length).2.length) k (hk:k < v.length),(nU v es es.length).2[j].testBit k=nbB es v[j] v[k]:=by
  intro j hj h' k hk;rw [I.nb j hj h' k hk];have own:∀ a b:Int,es.contains [a,b]=true→a < b:=by
   intro a b h;have he:=a8.1 h;rcases C.G.cases he with ⟨x,e,_⟩ | ⟨x,y,e,vq,_⟩
   · simp at e
   · simp only [List.cons.injEq,and_true] at e;omega
  unfold nbB;by_cases eF:v[j] < v[k]
  · rw [Int.min_eq_left (by omega),Int.max_eq_right (by omega)]
    have h2:es.contains [v[k],v[j]]=false:=by
     cases hc:es.contains [v[k],v[j]] with
     | false=>rfl
     | true=>have:=own _ _ hc; omega
    have h3:v[j] ≠ v[k]:=by omega
    rw [h2]; simp [h3]
  · by_cases Ld:v[k] < v[j]
    · rw [Int.min_eq_right (by omega),Int.max_eq_left (by omega)]
      have h2:es.contains [v[j],v[k]]=false:=by
       cases hc:es.contains [v[j],v[k]] with
       | false=>rfl
       | true=>have:=own _ _ hc; omega
      have h3:v[j] ≠ v[k]:=by omega
      rw [h2]; simp [h3]
    · have e:v[j]=v[k]:=by omega
      have h2:es.contains [v[j],v[k]]=false:=by
       cases hc:es.contains [v[j],v[k]] with
       | false=>rfl
       | true=>have:=own _ _ hc; omega
      have h4:es.contains [v[k],v[j]]=false:=by rw [← e] at h2 ⊢; exact h2
      rw [h2,h4]; simp [e]
 have BK:rn v es p (nU v es es.length).1 (nU v es es.length).2 (qS v p p.length):=⟨I.fl,fun j hj=>by rw [I.fb j hj]; rfl,I.nl,I.Ba,xS,A.al,A.alt,fun j hj h' k hk=>A.ab j hj h' k hk⟩
 refine ⟨_,_,_,?_,BK⟩;have l0:=D09 C.G (show v.length ≤ 14 by omega) (show es.length ≤ 1000000 by omega) p (jE (aq v.length 0)) v.length
 have l1:=D1a ni (show v.length ≤ 14 by omega) (show p.length ≤ 1000000 by omega) C.hp (F:=(((nU v es es.length).1:Nat):Int)) I.nl I.Ba xS (v,es)
 have xi:OC (es,())=some false:=by
  have key:=zP (f:=KM) es (fun i=>(es,(),(es.length:Int),(i:Int))) (fun _=>false) (.inl 0) (.inr ()) (fun i hi=>by
   have eN:(i:Int) < (es.length:Int):=by omega
   have h2:¬ ((es[i].length:Int) > 2):=by have:=C.G.two _ (aP hi); omega
   simp only [KM,Up,eN,decide_true,cond_true,au,az,ah hi,ai,h2,decide_false,cond_false,j5 (show i < 9223372036854775807 by omega)]
   rfl) (by simp only [KM,bx,decide_false,cond_false])
  have key:dm KM (es,(),(es.length:Int),0)=_:=key;have FT:(es.any fun _=>false)=false:=by simp
  rw [FT] at key;unfold OC Uq;simp only [key];rfl
 have el:(yj v p p.length).length=p.length:=by simp [yj]
 obtain ⟨M,s1,s2,s3⟩:=C7C (n:=p.length) np el;obtain ⟨k,M',c1,c2,c3,c4⟩:=C1O (n:=p.length) (by omega) s2
 have dJ:∀ x ∈ M'.take k,x ∈ yj v p p.length:=fun x hx=>s3 x (c4 x hx)
 have DF:∀ x ∈ M'.take k,∃ q ∈ p,x=(((A0t v q.1:Nat):Int),((A0t v q.2:Nat):Int)):=by
  intro x hx
  have:=dJ x hx
  unfold yj at this;rw [oL] at this;obtain ⟨q,hq,rfl⟩:=bj.1 this;exact ⟨q,hq,rfl⟩
 have Ly:Cp v.length (M'.take k):=by
  intro x hx;obtain ⟨q,hq,rfl⟩:=DF x hx;have h1:=Go.Hg.iV (C.hp q hq).2.1;have h2:=Go.Hg.iV (C.hp q hq).2.2;simp only;omega
 have hlen:(M'.take k).length ≤ 12:=by rw [aW]; omega
 have fR:HN v.length (M'.take k)=0:=by
  unfold HN;have h1:¬ (v.length:Int) > 1000:=by omega
  have h2:¬ ((M'.take k).length:Int) > 20000:=by omega
  have h3:¬ (v.length:Int) < 0:=by omega
  have h4:(M'.take k).any (FN v.length)=false:=by
   rw [List.any_eq_false];intro x hx hb;rw [Vn] at hb
   have:=Ly x hx
   omega
  simp only [h1,h2,h3,h4,if_false,aI]
 obtain ⟨f,hf⟩:=C.VJ;have VK:=C7A (n:=v.length) (by omega) Ly (by omega) fR (f:=fun i=>f (v.getD i 0)) (fun u w h=>by
  obtain ⟨q,hq,e⟩:=DF _ h;have e1:u=A0t v q.1:=by have:=congrArg Prod.fst e; simp only at this; omega
  have e2:w=A0t v q.2:=by have:=congrArg Prod.snd e; simp only at this; omega
  have g1:=Go.Hg.gu (C.hp q hq).2.1;have g2:=Go.Hg.gu (C.hp q hq).2.2;show f (v.getD u 0) < f (v.getD w 0);rw [e1,e2,bh,bh,g1,g2];exact hf q hq)
 have VL:(aq v.length (0:Int))=jE (aq v.length 0):=by simp [jE]
 have hF:bg.wrap (qh bg 1 (v.length:Int) - 1)=((2 ^ v.length - 1:Nat):Int):=by
  rw [FU (show v.length < 16 by omega),Nat.one_shiftLeft]
  have Ki:=fG v.length
  have:(((2 ^ v.length:Nat):Int) - 1)=((2 ^ v.length - 1:Nat):Int):=by omega
  rw [this];exact FJ (k:=.u16) rfl (vR (show 2 ^ v.length - 1 < 2 ^ v.length by omega) (by omega))
 have hrl:(jE (aq v.length 0)).length=v.length:=by simp
 have h14:¬ (v.length:Int) > 14:=by omega
 have nl1:(jE (nU v es es.length).2).length=v.length:=by rw [A5,I.nl]
 have nl2:(jE (qS v p p.length)).length=v.length:=by rw [A5,A.al]
 unfold Dv;simp only [B6m (show v.length ≤ 1000000 by omega) C.el,C.hv,ai,b3,cond_false,xi,h14,decide_false,au,decide_true,cond_true,lr,az,jC (show v.length * 2 ≤ 140737488355328 by omega),VL,hrl,
  jC (ar _),hF,l0,l1,Sum.elim_inr,s1,c1,jC c2,VK,a7 (fQ nl1),a7 (fQ nl2)]
omit C in
theorem C5V (ni:asc v=true) (nv:v.length ≤ 16) {l:List Int} (hl:∀ x ∈ l,x ∈ v) (nl:l.length ≤ 1000000) (F:Nat) (dU dp:List Nat):FH (gm v es F dU dp,l)=some ((A2v v l:Nat):Int):=by
 have key:=r9 (f:=K5) l.length (fun i=>(gm v es F dU dp,((A2v v (l.take i):Nat):Int),l,(l.length:Int),(i:Int))) ((A2v v l:Nat):Int) (fun i hi=>by
  have eN:(i:Int) < (l.length:Int):=by omega
  have hx:=hl _ (aP hi);have hp:=Go.Hg.iV hx;have hb:=vR (C33 (v:=v) (e:=l.take i) fun y hy=>hl y (dh hy)) nv
  have e1:A2v v (l.take (i + 1))=A2v v (l.take i) ||| 1 <<< A0t v l[i]:=by
   unfold A2v Go.Hg.bitsFrom;rw [tw hi,iK]; rfl
  simp only [K5,eN,decide_true,cond_true,au,az,ah hi,ai,Pv ni (show v.length ≤ 1000000 by omega),hx,if_true,FU (show A0t v l[i] < 16 by omega),FK (k:=.u16) rfl hb (uX (show A0t v l[i] < 16 by omega)),e1,
   j5 (show i < 9223372036854775807 by omega)]) (by
  simp only [K5,bx,decide_false,cond_false,oL])
 have key:dm K5 (gm v es F dU dp,0,l,(l.length:Int),0)=_:=key;unfold FH;simp only [key,ai]
end
end Go.Mid
namespace Go.Mid
open Go.Hg (asc less A2v A0t A5x Gr PrV nbB A5Z A4z A2R Acy idsP B89 A1E Rep C7m C7n A2w pickL gRun A09)
theorem B5L {m:Nat} (hm:m < sf) (h:p8 m=[]):m=0:=by
 by_cases h0:m=0
 · exact h0
 · obtain ⟨k,hk,_⟩:=UU h0
   have:k ∈ p8 m:=cf.2 ⟨cA.2 (by have:=Lw hm hk; omega),hk⟩
   rw [h] at this; cases this
theorem B5M {m k:Nat} {r:List Nat} (hm:m < sf) (h:p8 m=k::r):m ≠ 0∧m.testBit k=true∧(∀ j,j < k→m.testBit j=false)∧p8 (m &&& (m - 1))=r∧m &&& (m - 1) < sf:=by
 have h0:m ≠ 0:=by
  intro e; subst e;have h0:p8 0=[]:=by unfold p8; rw [ky]; intro a _; simp
  rw [h0] at h; cases h
 obtain ⟨k',nR,w5⟩:=UU h0;rw [C4G (show k' < 32 by have:=Lw hm nR; omega) nR w5] at h
 obtain ⟨rfl,hr⟩:=List.cons.inj h;exact ⟨h0,nR,w5,hr,ez eM hm⟩
theorem LA {m k:Nat} (hm:m < sf):k ∈ p8 m↔m.testBit k=true:=by
 unfold p8;rw [cf,cA];exact ⟨fun h=>h.2,fun h=>⟨by have:=Lw hm h; omega,h⟩⟩
theorem xB {m n:Nat} (h:m < 2 ^ n) (hn:n ≤ 16):m < sf:=bp h (eD (by decide) hn)
section
variable {v:List Int} {es:List (List Int)} {p:PrV} (nv:v.length ≤ 14) {F:Nat} {dU dp:List Nat} (g:rn v es p F dU dp)
include nv g
omit nv in
theorem C1y {k:Nat} (hk:k < v.length):(jE dp)[k]?=some ((dp.getD k 0:Nat):Int)∧dp.getD k 0 < 2 ^ v.length∧∀ j (hj:j < v.length),(dp.getD k 0).testBit j=A4z p v[j] v[k]:=by
 have hl:k < dp.length:=by rw [g.al]; exact hk
 have d:dp.getD k 0=dp[k]:=by rw [bh,ah hl]; rfl
 rw [d];exact ⟨DA hl,g.alt _ (aP hl),fun j hj=>g.ab k hk hl j hj⟩
omit nv in
theorem C4m {k:Nat} (hk:k < v.length):(jE dU)[k]?=some ((dU.getD k 0:Nat):Int)∧dU.getD k 0 < 2 ^ v.length∧∀ j (hj:j < v.length),(dU.getD k 0).testBit j=nbB es v[k] v[j]:=by
 have hl:k < dU.length:=by rw [g.nl]; exact hk
 have d:dU.getD k 0=dU[k]:=by rw [bh,ah hl]; rfl
 rw [d];exact ⟨DA hl,g.Ba _ (aP hl),fun j hj=>g.nb k hk hl j hj⟩
omit nv g in
theorem C4n {a b n:Nat} (ha:a < 2 ^ n) (hb:b < 2 ^ n) (h:∀ j,j < n→a.testBit j=b.testBit j):a=b:=by
 apply jc;intro j;by_cases hj:j < n
 · exact h j hj
 · rw [Go.Hg.n8 ha (by omega),Go.Hg.n8 hb (by omega)]
end
end Go.Mid
namespace Go.Mid
open Go.Hg (asc less A2v A0t A5x Gr PrV nbB A5Z A4z A2R Acy idsP B89 A1E Rep C7m C7n A2w gRun A09 A0G A6T)
theorem B9p {α:Type} {p q:α→Bool}:∀ {l:List α},(∀ x ∈ l,p x=q x)→l.find? p=l.find? q
 | [],_=>rfl
 | x::r,h=>by
   rw [il,il,h x (by simp),B9p fun y hy=>h y (bC _ hy)]
theorem C4o (m:Nat):(p8 m).Pairwise (· < ·):=by
 unfold p8;exact fq _ List.pairwise_lt_range
section
variable {v:List Int} {es:List (List Int)} {p:PrV} (nv:v.length ≤ 14) (ni:asc v=true)
include nv ni
theorem VM {s:Nat} (hs:s < 2 ^ v.length):idsP v s=(p8 s).map fun k=>v.getD k 0:=by
 have lt:∀ k ∈ p8 s,k < v.length:=fun k hk=>bZ fun hc=>by
  rw [LA (xB hs (by omega)),Go.Hg.n8 hs (by omega)] at hk; cases hk
 have gd:∀ k (h:k < v.length),v.getD k 0=v[k]:=fun k h=>by rw [bh,ah h]; rfl
 refine Go.Hg.mB (Go.Hg.fA.1 (Go.Hg.l4 ni s)) ?_ fun x=>?_
 · rw [ed];refine (C4o s).imp_of_mem fun {a b} ha hb h=>?_
   rw [gd a (lt a ha),gd b (lt b hb)];exact Go.Hg.jD ni h (lt b hb)
 · rw [Go.Hg.lh,bj];constructor
   · rintro ⟨i,hi,rfl,hb⟩;exact ⟨i,(LA (xB hs (by omega))).2 hb,gd i hi⟩
   · rintro ⟨k,hk,rfl⟩;exact ⟨k,lt k hk,(gd k (lt k hk)).symm,(LA (xB hs (by omega))).1 hk⟩
theorem VN {s j:Nat} (hj:j < v.length):v[j] ∈ idsP v s↔s.testBit j=true:=by
 have:=nv
 rw [← a8,Go.Hg.uu ni hj]
theorem D1c {l:List Int} (hl:∀ x ∈ l,x ∈ v) (ha:asc l=true):idsP v (A2v v l)=l:=by
 have:=nv
 refine Go.Hg.mB (Go.Hg.fA.1 (Go.Hg.l4 ni _)) (Go.Hg.fA.1 ha) fun x=>?_
 rw [Go.Hg.lh];constructor
 · rintro ⟨i,hi,rfl,hb⟩;rw [Go.Hg.rk ni hl i hi] at hb;exact a8.1 hb
 · intro hx;obtain ⟨i,hi,rfl⟩:=dQ.1 (hl x hx);exact ⟨i,hi,rfl,by rw [Go.Hg.rk ni hl i hi]; exact a8.2 hx⟩
variable {F:Nat} {dU dp:List Nat} (g:rn v es p F dU dp)
include g
theorem C9p {k R:Nat} (hk:k < v.length) (hR:R < 2 ^ v.length):(dp.getD k 0 &&& R == 0)=A2R p (idsP v R) v[k]:=by
 obtain ⟨_,a2,a3⟩:=C1y g hk;apply de.2;rw [beq_iff_eq,Go.Hg.qj];constructor
 · intro h y hy;obtain ⟨j,hj,rfl,hb⟩:=Go.Hg.lh.1 hy;have h1:(dp.getD k 0 &&& R).testBit j=false:=by rw [h,eX]
   rw [gw,a3 j hj,hb,Bool.and_true] at h1;exact h1
 · intro h;refine C4n (ez eM a2) (fG _) fun j hj=>?_
   rw [gw,a3 j hj,eX];cases hb:R.testBit j with
   | false=>simp
   | true=>rw [h v[j] ((VN nv ni hj).2 hb)]; rfl
theorem C9q {al R:Nat} (sR:al < 2 ^ v.length) (hR:R < 2 ^ v.length):Go.Hg.pickL p (idsP v al) (idsP v R)=((p8 (R &&& al)).find? fun k=>dp.getD k 0 &&& R == 0).map fun k=>v.getD k 0:=by
 have gd:∀ k (h:k < v.length),v.getD k 0=v[k]:=fun k h=>by rw [bh,ah h]; rfl
 unfold Go.Hg.pickL;have e1:(idsP v R).find? (fun x=>(idsP v al).contains x && A2R p (idsP v R) x)=((p8 R).map fun k=>v.getD k 0).find? (fun x=>(idsP v al).contains x && A2R p (idsP v R) x):=by
  rw [← VM nv ni hR]
 rw [e1,List.find?_map];congr 1;have e2:p8 (R &&& al)=(p8 R).filter fun k=>al.testBit k:=by
  unfold p8;rw [List.filter_filter];congr 1;funext k;rw [gw,Bool.and_comm]
 rw [e2,List.find?_filter];refine B9p fun k hk=>?_
 have wO:k < v.length:=bZ fun hc=>by
  rw [LA (xB hR (by omega)),Go.Hg.n8 hR (by omega)] at hk; cases hk
 rw [C9p nv ni g wO hR];simp only [Function.comp,gd k wO,Go.Hg.uu ni wO];cases al.testBit k <;> cases A2R p (idsP v R) v[k] <;> rfl
omit nv in
theorem C7E {k R:Nat} (hk:k < v.length) (hR:R < 2 ^ v.length):A2w es (idsP v R) v[k]=idsP v (less R (1 <<< k ||| dU.getD k 0)):=by
 obtain ⟨_,a2,a3⟩:=C4m g hk;refine Go.Hg.mB ?_ (Go.Hg.fA.1 (Go.Hg.l4 ni _)) fun x=>?_
 · unfold A2w;exact fq _ (Go.Hg.fA.1 (Go.Hg.l4 ni R))
 · rw [Go.Hg.fF,Go.Hg.lh,Go.Hg.lh];have bit:∀ j,(less R (1 <<< k ||| dU.getD k 0)).testBit j=(R.testBit j && !(decide (j=k) || (dU.getD k 0).testBit j)):=fun j=>by
    rw [Go.Hg.pM,fp,Go.Hg.lL]
   constructor
   · rintro ⟨⟨j,hj,rfl,hb⟩,eA,xS⟩;refine ⟨j,hj,rfl,?_⟩;rw [bit,hb,a3 j hj,Go.Hg.n9,xS]
     have:¬ j=k:=fun h=>eA (by subst h; rfl)
     simp [this]
   · rintro ⟨j,hj,rfl,hb⟩;rw [bit,a3 j hj] at hb;simp only [aj,Bool.not_eq_true',Bool.or_eq_false_iff,decide_eq_false_iff_not] at hb;exact ⟨⟨j,hj,rfl,hb.1⟩,fun h=>hb.2.1 (Go.Hg.kV ni hj hk h),by rw [Go.Hg.n9]; exact hb.2.2⟩
omit ni in
theorem C9r {al K R:Nat} (hK:K < 2 ^ v.length) (hR:R < 2 ^ v.length):∀ (L:List Nat) (x:Nat),p8 x=L→x < 2 ^ v.length →
 dm FF (gm v es F dU dp,(al:Int),(K:Int),(R:Int),false,(x:Int))=some (match L.find? (fun k=>dp.getD k 0 &&& R == 0) with
  | some k=>(gm v es F dU dp,(al:Int),((K ||| 1 <<< k:Nat):Int),((less R (1 <<< k ||| dU.getD k 0):Nat):Int),true)
  | none=>(gm v es F dU dp,(al:Int),(K:Int),(R:Int),false))
 | [],x,h,hx=>by
   rw [B5L (xB hx (by omega)) h]
   refine oK ?_;simp [FF]
 | k::r,x,h,hx=>by
   obtain ⟨h0,hk,FW,hr,_⟩:=B5M (xB hx (by omega)) h
   have wO:k < v.length:=bZ fun hc=>by rw [Go.Hg.n8 hx (by omega)] at hk; cases hk
   obtain ⟨a1,a2,_⟩:=C1y g wO;obtain ⟨b1,b2,_⟩:=C4m g wO;have qI:((x:Int) > 0):=by omega
   rw [il];have o1:=FK (k:=.u16) rfl (vR hK (by omega)) (uX (show k < 16 by omega))
   have o2:=FK (k:=.u16) rfl (uX (show k < 16 by omega)) (vR b2 (by omega))
   have o3:=C5J (k:=.u16) rfl (vR hR (by omega)) (fD (uX (show k < 16 by omega)) (vR b2 (by omega)))
   have hst:∀ (c:Bool),(dp.getD k 0 &&& R == 0)=c→FF (gm v es F dU dp,(al:Int),(K:Int),(R:Int),false,(x:Int))=bif c then some (.inl (gm v es F dU dp,(al:Int),((K ||| 1 <<< k:Nat):Int),((less R (1 <<< k ||| dU.getD k 0):Nat):Int),true,((x &&& (x - 1):Nat):Int)))
    else some (.inl (gm v es F dU dp,(al:Int),(K:Int),(R:Int),false,((x &&& (x - 1):Nat):Int))):=fun c hc=>by
    simp only [FF,qI,decide_true,cond_true,ek,C5T (xB hx (by omega)) hk FW,ai,au,az,a1,b1,Lh (k:=.u16) rfl (vR a2 (by omega)) (vR hR (by omega)),C84,hc,FU (show k < 16 by omega),o1,o2,o3,C9o h0 (xB hx (by omega))]
   cases hc:dp.getD k 0 &&& R == 0 with
   | true =>
     have st:=hst true hc;rw [cond_true] at st;rw [sC st];refine oK ?_;by_cases hz:(((x &&& (x - 1):Nat):Int) > 0)
     · simp only [FF,hz,decide_true,cond_true,b3,cond_false]
     · simp only [FF,hz,decide_false,cond_false]
   | false =>
     have st:=hst false hc;rw [cond_false] at st;rw [sC st];exact C9r hK hR r _ hr (ez eM hx)
theorem D1d {al:Nat} (sR:al < 2 ^ v.length):∀ (m K R:Nat),(idsP v R).length ≤ m→K < 2 ^ v.length→R < 2 ^ v.length →
 ∃ K':Nat,K' < 2 ^ v.length∧(∀ j (h:j < v.length),K'.testBit j=(K.testBit j || (gRun es p (idsP v al) m (idsP v R)).1.contains v[j])) ∧
  dm Dw (gm v es F dU dp,(al:Int),(K:Int),(R:Int))=some (bif (gRun es p (idsP v al) m (idsP v R)).2 then .inr (K':Int) else .inl ((K':Int),false)):=by
 intro m
 induction m with
 | zero =>
   intro K R hm hK hR;have Uf:R=0:=by
    refine C4n hR (fG _) fun j hj=>?_
    rw [eX];cases hb:R.testBit j with
    | false=>rfl
    | true =>
      have:=List.length_pos_of_mem ((VN nv ni hj).2 hb)
      omega
   subst Uf;have e0:idsP v 0=[]:=dA.1 (by omega)
   refine ⟨K,hK,fun j hj=>by simp [gRun],?_⟩
   rw [e0];refine oK ?_;simp [Dw,gRun]
 | succ m ih =>
   intro K R hm hK hR;by_cases h0:R=0
   · subst h0;have e0:idsP v 0=[]:=by
      rw [VM nv ni (fG _)]
      have:p8 0=[]:=by unfold p8; rw [ky]; intro a _; simp
      rw [this]; rfl
     have Ki:Go.Hg.pickL p (idsP v al) []=none:=rfl;rw [e0];refine ⟨K,hK,fun j hj=>by simp [gRun,Ki],?_⟩
     refine oK ?_;simp [Dw,gRun,Ki]
   · have qI:((R:Int) > 0):=by omega
     have hand:=Lh (k:=.u16) rfl (vR hR (show v.length ≤ 16 by omega)) (vR sR (show v.length ≤ 16 by omega))
     have uY:=C9r nv g (al:=al) hK hR (p8 (R &&& al)) (R &&& al) rfl (ez eM hR);have vL:=C9q nv ni g sR hR;have eA:idsP v R ≠ []:=by
      obtain ⟨j,hj,_⟩:=UU h0;have hjn:j < v.length:=bZ fun hc=>by rw [Go.Hg.n8 hR (by omega)] at hj; cases hj
      exact List.ne_nil_of_mem ((VN nv ni hjn).2 hj)
     cases hf:(p8 (R &&& al)).find? (fun k=>dp.getD k 0 &&& R == 0) with
     | none =>
       rw [hf] at uY vL;simp only [Option.map_none] at vL;have hE:(idsP v R).isEmpty=false:=by cases hc:idsP v R with | nil=>exact absurd hc eA | cons _ _=>rfl
       refine ⟨K,hK,fun j hj=>by simp [gRun,vL],?_⟩
       simp only [gRun,vL,hE,cond_false];refine oK ?_;simp only [Dw,qI,decide_true,cond_true,hand,uY,ai,ek]
     | some k =>
       rw [hf] at uY vL;have HI:=List.mem_of_find?_eq_some hf;have wO:k < v.length:=bZ fun hc=>by
        have eF:R &&& al < 2 ^ v.length:=ez eM hR;rw [LA (xB eF (by omega)),Go.Hg.n8 eF (by omega)] at HI; cases HI
       have gd:v.getD k 0=v[k]:=by rw [bh,ah wO]; rfl
       simp only [ak,gd] at vL;have HO:=C7E ni g wO hR;have AZ:=(Go.Hg.nr vL).1;have eF:=Go.Hg.lR (es:=es) AZ;have T4:K ||| 1 <<< k < 2 ^ v.length:=fD hK (uX wO);have hR2:less R (1 <<< k ||| dU.getD k 0) < 2 ^ v.length:=U6 hR;obtain ⟨K',k1,k2,k3⟩:=ih (K ||| 1 <<< k) (less R (1 <<< k ||| dU.getD k 0)) (by rw [← HO]; omega) T4 hR2
       refine ⟨K',k1,fun j hj=>?_,?_⟩
       · rw [k2 j hj,← HO];simp only [gRun,vL];rw [fp,Go.Hg.lL,List.contains_cons]
         have:(v[j] == v[k])=decide (j=k):=by
          apply de.2;rw [beq_iff_eq,decide_eq_true_eq];exact ⟨fun h=>Go.Hg.kV ni hj wO h,fun h=>by subst h; rfl⟩
         rw [this,Bool.or_assoc]
       · have st:Dw (gm v es F dU dp,(al:Int),(K:Int),(R:Int))=some (.inl (gm v es F dU dp,(al:Int),((K ||| 1 <<< k:Nat):Int),((less R (1 <<< k ||| dU.getD k 0):Nat):Int))):=by
          simp only [Dw,qI,decide_true,cond_true,hand,uY,ai,b3,cond_false]
         rw [sC st,k3,← HO];simp only [gRun,vL]
theorem C1z:idsP v F=A09 v es:=by
 refine Go.Hg.mB (Go.Hg.fA.1 (Go.Hg.l4 ni F)) ?_ fun x=>?_
 · unfold A09;exact fq _ (Go.Hg.fA.1 ni)
 · rw [Go.Hg.lh];unfold A09;rw [cf]
   have:=nv
   constructor
   · rintro ⟨j,hj,rfl,hb⟩;rw [g.fb j hj] at hb;exact ⟨aP hj,hb⟩
   · rintro ⟨hx,hb⟩;obtain ⟨j,hj,rfl⟩:=dQ.1 hx;exact ⟨j,hj,rfl,by rw [g.fb j hj]; exact hb⟩
theorem C9s {al:Nat} (sR:al < 2 ^ v.length):∃ K:Nat,K < 2 ^ v.length∧(∀ j (h:j < v.length),K.testBit j=(gRun es p (idsP v al) (A09 v es).length (A09 v es)).1.contains v[j]) ∧
 K1 (gm v es F dU dp,(al:Int))=some ((K:Int),(gRun es p (idsP v al) (A09 v es).length (A09 v es)).2):=by
 have hf:=C1z nv ni g;obtain ⟨K,k1,k2,k3⟩:=D1d nv ni g sR (A09 v es).length 0 F (by rw [hf]; exact ar _) (fG _) g.fl
 rw [hf] at k2 k3;refine ⟨K,k1,fun j hj=>by rw [k2 j hj]; simp,?_⟩
 have k3:dm Dw (gm v es F dU dp,(al:Int),0,(F:Int))=_:=k3;unfold K1;simp only [ai,k3];cases (gRun es p (idsP v al) (A09 v es).length (A09 v es)).2 <;> rfl
omit g in
theorem D2X (F:Nat) (dU dp:List Nat) {s:Nat} (hs:s < 2 ^ v.length):OR (gm v es F dU dp,(s:Int))=some (idsP v s):=by
 have main:∀ (L:List Nat) (x:Nat) (acc:List Int),p8 x=L→x < 2 ^ v.length→acc.length + L.length ≤ 100 →
  dm HD ((gm v es F dU dp,(x:Int),acc.length),acc)=some ((acc++L.map fun k=>v.getD k 0).length,acc++L.map fun k=>v.getD k 0):=by
  intro L
  induction L with
  | nil =>
    intro x acc h hx _;rw [B5L (xB hx (by omega)) h]
    refine oK ?_;simp [HD]
  | cons k r ih =>
    intro x acc h hx hn;obtain ⟨h0,hk,FW,hr,_⟩:=B5M (xB hx (by omega)) h
    have wO:k < v.length:=bZ fun hc=>by rw [Go.Hg.n8 hx (by omega)] at hk; cases hk
    have gd:v.getD k 0=v[k]:=by rw [bh,ah wO]; rfl
    have qI:((x:Int) > 0):=by omega
    simp only [ba] at hn;have uY:(acc++[v[k]]).length=acc.length + 1:=by simp
    have st:HD ((gm v es F dU dp,(x:Int),acc.length),acc)=some (.inl ((gm v es F dU dp,((x &&& (x - 1):Nat):Int),(acc++[v[k]]).length),acc++[v[k]])):=by
     simp only [HD,qI,decide_true,cond_true,ai,C5T (xB hx (by omega)) hk FW,au,az,ah wO,jC (ar _),jC (show (acc.length + 1) * 8 ≤ 140737488355328 by omega),oL,C9o h0 (xB hx (by omega)),uY]
    rw [sC st,ih _ _ hr (ez eM hx) (by omega)]
    simp only [aD,gd,bf,List.singleton_append]
 have hlen:(p8 s).length ≤ 32:=du (dt ..) (by simp)
 have key:=main (p8 s) s [] rfl hs (by simp; omega)
 have key:dm HD ((gm v es F dU dp,(s:Int),0),[])=_:=key;rw [a6] at key;unfold OR;simp only [key,ai,jC (ar _),cond_true,oL];rw [VM nv ni hs]
end
end Go.Mid
namespace Go.Mid
open Go.Hg (asc less A2v A0t A5x Gr PrV nbB A5Z A4z A2R Acy idsP B89 D4C A1E Rep C7m C7n A2w gRun A09)
section
variable {v:List Int} {es:List (List Int)} {p:PrV} (C:Ctx v es p)
include C
theorem Pw {l:List Int} (h:A1E v es l=true):l.length ≤ 9∧asc l=true∧∀ x ∈ l,x ∈ v:=by
 have R:=(Go.Hg.oa C.G).1 h
 have:=C.nv
 have hs:=Go.Hg.mC (Go.Hg.fA.1 R.asc) (Go.Hg.fA.1 C.av) R.sub;exact ⟨by have:=hs.length_le; omega,R.asc,R.sub⟩
variable {F:Nat} {dU dp:List Nat} (hb:Dv ((v,es),p)=some (gm v es F dU dp,0)) (g:rn v es p F dU dp)
include hb
theorem D2Y {r s:List Int} (hr:r.length ≤ 20) (hs:s.length ≤ 20):OV ((v,es),p,r,s)=some (bif A1E v es r && A1E v es s then (gm v es F dU dp,((A2v v r:Nat):Int),((A2v v s:Nat):Int),0) else (none,0,0,1)):=by
 have nv:=C.nv;have ne:=C.ne;have m1:=A8Y (l:=r) C.av (show v.length ≤ 100000 by omega) (show es.length ≤ 1000000 by omega) C.el (show r.length ≤ 100000 by omega)
 have m2:=A8Y (l:=s) C.av (show v.length ≤ 100000 by omega) (show es.length ≤ 1000000 by omega) C.el (show s.length ≤ 100000 by omega)
 unfold OV;simp only [hb,ai,bne_self_eq_false,cond_false,m1,m2];cases h1:A1E v es r with
 | false=>rfl
 | true =>
   cases h2:A1E v es s with
   | false=>rfl
   | true =>
     have o1:=C5V (es:=es) C.av (show v.length ≤ 16 by omega) (Pw C h1).2.2 (show r.length ≤ 1000000 by omega) F dU dp
     have o2:=C5V (es:=es) C.av (show v.length ≤ 16 by omega) (Pw C h2).2.2 (show s.length ≤ 1000000 by omega) F dU dp
     simp only [b3,cond_false,o1,o2,ai,fV,cond_true]
include g
theorem D2Z {r:List Int} (hr:r.length ≤ 20):K6 ((v,es),p,r)=some (bif A1E v es r then (FL es p r (A09 v es).length (A09 v es),0) else (false,1)):=by
 have nv:=C.nv;unfold K6;simp only [D2Y C hb hr hr,ai,fV];cases h1:A1E v es r with
 | false=>rfl
 | true =>
   obtain ⟨_,ha,dJ⟩:=Pw C h1;obtain ⟨K,_,_,k3⟩:=C9s (show v.length ≤ 14 by omega) C.av g (al:=A2v v r) (C33 dJ)
   rw [D1c (show v.length ≤ 14 by omega) C.av dJ ha] at k3
   simp only [cond_true,bne_self_eq_false,cond_false,k3,ai];have R:=(Go.Hg.oa C.G).1 h1
   have:(gRun es p r (A09 v es).length (A09 v es)).2=FL es p r (A09 v es).length (A09 v es):=by
    apply de.2;rw [Pb _ _ (ar _)];constructor
    · intro h;obtain ⟨h2,h3⟩:=Go.Hg.s7 r _ _ h;exact ⟨_,h2,h3⟩
    · rintro ⟨ks,h2,h3⟩;exact Go.Hg.oU R.ind _ _ ks (ar _) h2 h3
   rw [this]
theorem C9t:∃ l,FG ((v,es),p)=some (l,0)∧A1E v es l=true∧l.length ≤ 9∧HG ((v,es),p)=some l∧∃ ks,Go.Hg.Run es p (A09 v es) ks∧∀ x,x ∈ l↔x ∈ ks:=by
 have nv:=C.nv;have ne:=C.ne;have np:=C.np;obtain ⟨K,k1,k2,k3⟩:=C9s (show v.length ≤ 14 by omega) C.av g (al:=F) g.fl
 rw [C1z (show v.length ≤ 14 by omega) C.av g] at k2 k3
 have ht:=Go.Hg.rl (es:=es) (p:=p) (r:=A09 v es) (Go.Hg.uv C.VJ) (A09 v es).length (A09 v es) (ar _) (fun _ h=>h)
 obtain ⟨gr,_⟩:=Go.Hg.s7 _ _ _ ht;have nn:∀ x,x ∈ idsP v K↔x ∈ (gRun es p (A09 v es) (A09 v es).length (A09 v es)).1:=by
  intro x;rw [Go.Hg.lh];constructor
  · rintro ⟨j,hj,rfl,Gf⟩;rw [k2 j hj] at Gf;exact a8.1 Gf
  · intro hx;have hv:=(cf.1 (gr.sub x hx)).1;obtain ⟨j,hj,rfl⟩:=dQ.1 hv;exact ⟨j,hj,rfl,by rw [k2 j hj]; exact a8.2 hx⟩
 have hR:=Go.Hg.Cm gr (Go.Hg.l4 C.av K) nn;have hm:=(Go.Hg.oa C.G).2 hR;refine ⟨idsP v K,?_,hm,(Pw C hm).1,?_,_,gr,nn⟩
 · unfold FG;simp only [hb,ai,bne_self_eq_false,cond_false,k3,D2X (es:=es) (show v.length ≤ 14 by omega) C.av F dU dp k1]
 · rw [C1J (show es.length ≤ 1000000 by omega) C.el (show p.length ≤ 1000000 by omega) C.VJ (show v.length ≤ 100000 by omega)]
   congr 1;obtain ⟨s1,s2⟩:=C4L (C1q gr);exact Go.Hg.mB (Go.Hg.fA.1 s1) (Go.Hg.fA.1 (Go.Hg.l4 C.av K)) fun x=>by rw [s2 x,nn x]
end
end Go.Mid
namespace Go.Mid
open Go.Hg (asc Gr PrV nbB A5Z A4z A2R Acy D4C A1E Rep C7m C7n A09 A06 hEs)
theorem D4O {N:Nat} {E:List Nat} {R:List Int} {skip:Nat} (hR:∀ r ∈ R,0 ≤ r):Ctx (A06 (N % 9)) (hEs N (E.map pf)) (zS (A06 (N % 9)) R skip (hEs N (E.map pf))):=by
 have G:Gr (A06 (N % 9)) (hEs N (E.map pf)):=D5y;have hl:(A06 (N % 9)).length=N % 9:=Go.Hg.lM _;have he:=Go.Hg.pe N (E.map pf);exact ⟨G,Go.Hg.xx N (E.map pf),by omega,he,du D4M he,fun q hq=>D5z G hq,D4L G hR (C89 (by omega))⟩
section
variable {v:List Int} {es:List (List Int)} {p:PrV} (C:Ctx v es p)
include C
theorem C7F {l ks:List Int} (h:Go.Hg.Run es p (A09 v es) ks) (hm:∀ x,x ∈ l↔x ∈ ks):FL es p l (A09 v es).length (A09 v es)=true:=by
 have:=C
 rw [Pb _ _ (ar _)];exact ⟨ks,h,fun k hk=>(hm k).2 hk⟩
theorem D5D:((FG ((v,es),p)).bind fun w =>
 (K6 ((v,es),p,w.1)).bind fun q =>
   bif w.2 == (0:Int) then (HG ((v,es),p)).bind fun r=>(Dx (w.1,r)).bind fun s=>bif s then bif q.2 == (0:Int) then some q.1 else some false else some false else some false)=some true:=by
 obtain ⟨F,dU,dp,hb,g⟩:=D1b C;obtain ⟨l,h1,h2,h3,h4,ks,h5,h6⟩:=C9t C hb g;simp only [h1,ai,D2Z C hb g (show l.length ≤ 20 by omega),h2,cond_true,C7F C h5 h6,beq_self_eq_true,h4,B9d (show l.length ≤ 1000000 by omega),decide_true]
end
section
variable {N:Nat} {E:List Nat} {R:List Int} {skip:Nat} (hE:E.length ≤ reachBytes) (hR:∀ r ∈ R,0 ≤ r)
include hE hR
theorem D5E:O4 (((N:Int),jE E),R,(skip:Int))=some true:=by
 unfold O4;simp only [C88 hE,ai,b3,cond_false];cases decide (E.length ≤ 12) with
 | false=>rfl
 | true=>exact D5D (D4O hR)
end
theorem VO {x:Int} (h:(Lit.int .u8 x).wf=true):0 ≤ x∧x ≤ 255:=by
 simp only [Lit.wf,aj,decide_eq_true_eq] at h;have h1:dk.min=0:=rfl;have h2:dk.max=255:=rfl;rw [h1,h2] at h;exact h
theorem D4P {x:Int} (h:(Lit.int .u16 x).wf=true):0 ≤ x:=by
 simp only [Lit.wf,aj,decide_eq_true_eq] at h;have h1:bg.min=0:=rfl;rw [h1] at h;exact h.1
theorem C5W:∀ {l:List Int},(∀ x ∈ l,0 ≤ x)→∃ L:List Nat,l=jE L
 | [],_=>⟨[],rfl⟩
 | x::r,h=>by
   obtain ⟨n,hn⟩:=eE (h x (by simp))
   obtain ⟨L,hL⟩:=C5W (l:=r) fun y hy=>h y (bC _ hy)
   exact ⟨n::L,by rw [hn,hL]; rfl⟩
section
variable (g:Int×List Int) (q:List Int×Int) (h1:(Lit.int .u8 g.1).wf=true) (h2:g.2.length ≤ reachBytes) (h3:∀ x ∈ g.2,(Lit.int .u8 x).wf=true) (h4:∀ x ∈ q.1,(Lit.int .u8 x).wf=true) (h5:(Lit.int .u16 q.2).wf=true)
include h1 h3 h5
theorem C9u:∃ (N:Nat) (E:List Nat) (skip:Nat),g=((N:Int),jE E)∧q.2=(skip:Int):=by
 obtain ⟨N,hN⟩:=eE (VO h1).1;obtain ⟨E,hE⟩:=C5W fun x hx=>(VO (h3 x hx)).1
 obtain ⟨k,hk⟩:=eE (D4P h5);exact ⟨N,E,k,Prod.ext hN hE,hk⟩
include h2 h4
theorem D20:O4 (g,q)=some true:=by
 obtain ⟨N,E,k,rfl,hk⟩:=C9u g q h1 h3 h5;obtain ⟨R,s⟩:=q;subst hk;exact D5E (by rw [A5] at h2; exact h2) fun r hr=>(VO (h4 r hr)).1
end
end Go.Mid
