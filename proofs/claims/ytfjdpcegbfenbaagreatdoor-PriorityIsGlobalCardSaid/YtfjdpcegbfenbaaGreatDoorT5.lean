/- Closures of relations, ascending lists: plain Lean, no program. -/
import Derived.Test.YtfjdpcegbfenbaaGreatDoorT4
import Derived.Test.YtfjdpcegbfenbaaGreatDoorN2
import Derived.Test.YtfjdpcegbfenbaaGreatDoorT2
set_option linter.unusedSimpArgs false
set_option linter.unusedVariables false
open Bool renaming eq_iff_iff → cn, false_eq_true → aF, not_true → bJ, and_eq_true → ak, not_eq_true' → db, and_self → gT
open Classical renaming byContradiction → bz
open Go.IntKind renaming i64 → ai, u64 → aK, u16 → bg, u32 → cM, wrap → gE, bits → fT, signed → eQ, u8 → dw
open Int renaming toNat_natCast → aq, natCast_nonneg → aj, lt_irrefl → aY, eq_ofNat_of_zero_le → eM, le_refl → lI, natCast_zero → cj, toNat → l4
open List renaming pairwise_cons → bM, mem_cons → aM, mem_cons_of_mem → bU, length_cons → ba, cons_append → aS, length_take → aX, length_append → aQ, length_drop → cz, getElem?_append_right → bH, length → cE, length_nil → cX, getElem?_eq_getElem → af, set_append_right → ez, drop_eq_getElem_cons → b4, set_cons_zero → dZ, getElem?_eq_some_iff → aL, ext_getElem? → fG, getElem?_set → dG, take_of_length_le → aZ, length_set → iP, set_set → nJ, take_append_drop → bO, replicate → az, length_replicate → gv, append_assoc → bf, map → fy, range → bp, filter_append → eJ, map_append → b8, getElem?_eq_none → bK, length_map → aD, length_filter_le → dU, mem_map → bh, mem_filter → cA, getElem_mem → aJ, drop_length → ff, append_nil → bF, map_congr_left → eU, mem_range → bX, take → aR, getElem_of_mem → gZ, nodup_cons → b5, pairwise_append → cB, mem_singleton → aW, mem_append → ay, mem_append_left → c9, mem_append_right → kS, nodup_append → aT, contains_iff_mem → bD, mem_cons_self → gu, take_length → dS, mem_of_getElem? → bI, map_cons → aG, length_eq_zero_iff → ib, filter_eq_nil_iff → iI, length_pos_iff → jP, map_set → gC, mem_or_eq_of_mem_set → bm, getElem?_set_ne → eK, pairwise_map → ek, foldl_append → fK, mem_iff_getElem → fB, getD_eq_getElem?_getD → bu, getElem_set → nm, eq_of_mem_replicate → fp, getElem?_cons_zero → bQ, mem_of_mem_take → c8, length_singleton → dz, any_cons → ft, any_eq_true → b6
open Nat renaming le_trans → dJ, min_eq_left → da, le_refl → au, sub_self → gD, add_assoc → bY, blt → cZ, beq → jc, zero_le → dt, le_of_lt → fU, min_eq_right → jC, zero_add → bS, lt_of_lt_of_le → br, pow_le_pow_right → cN, zero_testBit → dT, eq_of_testBit_eq → dH, testBit_and → eV, or_lt_two_pow → eT, testBit_or → bR, two_pow_pos → gA, le_of_eq → eG, add_sub_cancel → dK, lt_of_le_of_lt → iK, and_le_left → iT
open Option renaming bind_some → ah, map_some → ar, isSome_iff_exists → fm
open Sum renaming elim_inl → qc, elim_inr → iL
namespace Go.Mid
theorem pX {R:Int→Int→Prop} (F2:∀ a,¬ R a a) (L8:∀ a b,R a b→R b a→False):∀ {l m:List Int},l.Pairwise R→m.Pairwise R→(∀ x,x∈l↔x∈m)→l=m
 | [],[],_,_,_=>rfl
 | [],b::m,_,_,h=>absurd ((h b).2 (by simp)) (by simp)
 | a::l,[],_,_,h=>absurd ((h a).1 (by simp)) (by simp)
 | a::l,b::m,hl,hm,h=>by
   have xk:=bM.1 hl;have vI:=bM.1 hm;have s5:a=b:=by
    rcases aM.1 ((h a).1 (by simp)) with e | e
    · exact e
    · rcases aM.1 ((h b).2 (by simp)) with e2 | e2
      · exact e2.symm
      · exact (L8 _ _ (xk.1 b e2) (vI.1 a e)).elim
   subst s5;congr 1;refine pX F2 L8 xk.2 vI.2 fun x=>?_
   constructor
   · intro hx;rcases aM.1 ((h x).1 (bU _ hx)) with e | e
     · subst e;exact (F2 _ (xk.1 _ hx)).elim
     · exact e
   · intro hx;rcases aM.1 ((h x).2 (bU _ hx)) with e | e
     · subst e;exact (F2 _ (vI.1 _ hx)).elim
     · exact e
theorem Qr {l:List Int} {x:Int}:x∈lT l↔x∈l:=(KB l).mem_iff
theorem D0d {l:List Int} (h:l.Nodup):(lT l).Pairwise (· < ·):=by
 have h1:=Vg l;have h2:(lT l).Nodup:=(KB l).nodup_iff.2 h;exact (h1.and h2).imp fun ⟨a,b⟩=>by omega
end Go.Mid
namespace Go.Mid
def jz:List Int→List Int
 | []=>[]
 | [x]=>[x]
 | x::y::r=>if x=y then jz (y::r) else x::jz (y::r)
theorem Qs:∀ (l:List Int) (x:Int),x∈jz l↔x∈l
 | [],x=>by simp [jz]
 | [a],x=>by simp [jz]
 | a::b::r,x=>by
   unfold jz;split
   · rename_i h;rw [Qs (b::r) x,h];simp
   · rw [aM,Qs (b::r) x];simp
theorem L9:∀ l:List Int,(jz l).length≤l.length
 | []=>by simp [jz]
 | [a]=>by simp [jz]
 | a::b::r=>by
   unfold jz
   have:=L9 (b::r)
   split<;>simp only [ba] at * <;> omega
theorem B7s:∀ (l:List Int) (x:Int),l ≠ []→jz (l++[x])=if l.getLast?=some x then jz l else jz l++[x]
 | [],_,h=>absurd rfl h
 | [a],x,_=>by
   simp only [aS,List.nil_append,jz,List.getLast?_singleton,Option.some.injEq];by_cases h:a=x
   · simp [h]
   · simp [h]
 | a::b::r,x,_=>by
   have ih:=B7s (b::r) x (by simp)
   have e:(a::b::r).getLast?=(b::r).getLast?:=by simp
   rw [e];simp only [aS] at ih ⊢;rw [jz,ih]
   conv=>rhs;rw [jz]
   by_cases h1:a=b<;>by_cases h2:(b::r).getLast?=some x<;>simp [h1,h2]
def pA (l:List Int) (m:Nat):List Int:=jz (l.take m)++l.drop (jz (l.take m)).length
theorem C2m (l:List Int) (m:Nat):(jz (l.take m)).length≤m:=dJ (L9 _) (by rw [aX];omega)
theorem C4P (l:List Int) (m:Nat):(pA l m).length=l.length:=by
 unfold pA;have h1:=L9 (l.take m);rw [aX] at h1;rw [aQ,cz];omega
theorem C4Q {l:List Int} {m i:Nat} (h:(jz (l.take m)).length≤i):(pA l m)[i]?=l[i]?:=by
 unfold pA;rw [bH h,List.getElem?_drop];congr 1;omega
theorem D0e {l:List Int} {m:Nat} (h0:0<m) (h:m≤l.length):(l.take m).getLast?=l[m-1]?:=by
 rw [List.getLast?_eq_getElem?,aX,da h,List.getElem?_take_of_lt (by omega)]
theorem H3 {l:List Int} {m:Nat} (h0:0<m) (h:m<l.length):jz (l.take (m+1))=if l[m]'h=l[m-1]'(by omega) then jz (l.take m) else jz (l.take m)++[l[m]'h]:=by
 have ev:l.take m ≠ []:=by
  intro e
  have:=congrArg cE e
  rw [aX,cX] at this;omega
 rw [sM h,B7s _ _ ev,D0e h0 (by omega),af (by omega:m-1<l.length)]
 simp only [Option.some.injEq];by_cases e:l[m]'h=l[m-1]'(by omega)
 · rw [if_pos e.symm,if_pos e]
 · rw [if_neg (fun h=>e h.symm),if_neg e]
theorem D1Z {l:List Int} {m:Nat} (h0:0<m) (h:m<l.length) (hk:(jz (l.take m)).length≤m-1) (ev:l[m]'h≠l[m-1]'(by omega)):pA l (m+1)=(pA l m).set (jz (l.take m)).length (l[m]'h):=by
 unfold pA;rw [H3 h0 h,if_neg ev];generalize jz (l.take m)=D at hk;rw [ez _ _ (au _),gD,aQ]
 have:D.length<l.length:=by omega
 rw [b4 this,dZ];simp
theorem B7t {l:List Int} {m k:Nat} (L0:k<m) (hk:(jz (l.take m)).length≤m-1):∀ j,m+j≤l.length→(jz (l.take (m+j))).length≤m+j-1
 | 0,_=>by simpa using hk
 | j+1,h=>by
   have ih:=B7t L0 hk j (by omega)
   rw [← bY,H3 (by omega) (by omega)]
   split
   · omega
   · rw [aQ];simp;omega
theorem WR {LL:List (List Int)} {I:Nat} {l:List Int} (h:LL[I]?=some l):LL.set I l=LL:=by
 have eE:=(aL.1 h).1;apply fG;intro i;rw [dG];by_cases e:I=i
 · subst e;rw [if_pos rfl,if_pos eE,h]
 · rw [if_neg e]
theorem C2n {LL:List (List Int)} {I N off:Nat} {l:List Int} (hI:I<LL.length) (hN:l.length=N) (hN2:N≤1000) (ho:0<off) (hoN:off<N) (hd:(jz (l.take (off+1))).length=off) :
 dq HJ (((I,N),(off:Int),(I,off,N-off),1),LL.set I (pA l (off+1)))=some (((I,N),((jz l).length:Int)),LL.set I (pA l N)):=by
 have ko:jz (l.take N)=jz l:=by rw [aZ (by omega)]
 have:dq HJ (((I,N),((jz (l.take (off+1+0))).length:Int),(I,off,N-off),((0+1:Nat):Int)),LL.set I (pA l (off+1+0)))=_ :=
  qE (f:=HJ) (N-off-1) (fun i=>(((I,N),((jz (l.take (off+1+i))).length:Int),(I,off,N-off),((i+1:Nat):Int)),LL.set I (pA l (off+1+i)))) (((I,N),((jz l).length:Int)),LL.set I (pA l N)) (fun i hi=>by
   have hm:off+1+i<l.length:=by omega
   have hsm:=B7t (l:=l) (m:=off+1) (k:=off) (by omega) (by omega) i (by omega)
   have hk0:=C2m l (off+1+i);have hj:((i+1:Nat):Int)<((N-off:Nat):Int):=by omega
   have CY:(0:Int)≤((i+1:Nat):Int):=by omega
   have hw:ai.wrap (((i+1:Nat):Int)-1)=(i:Int):=by rw [wrap_i64 (by omega) (by omega)];omega
   have e1:(LL.set I (pA l (off+1+i)))[I]?=some (pA l (off+1+i)):=by simp [hI]
   have g1:(pA l (off+1+i))[off+(i+1)]?=some (l[off+1+i]'hm):=by
    rw [C4Q (by omega),show off+(i+1)=off+1+i by omega,af hm]
   have g2:(pA l (off+1+i))[off+i]?=some (l[off+i]'(by omega)):=by
    rw [C4Q (by omega),af (by omega)]
   have hlen:=C4P l (off+1+i);have qD:=H3 (l:=l) (m:=off+1+i) (by omega) hm
   have Ma:off+1+i-1=off+i:=by omega
   simp only [Ma] at qD;simp only [HJ,hj,decide_true,cond_true,e1,ah,CY,aq,ln (show i+1<N-off by omega),g1,hw,aj,ln (show i<N-off by omega),g2]
   by_cases ev:l[off+1+i]'hm=l[off+i]'(by omega)
   · rw [if_pos ev] at qD;have hb:(l[off+1+i]'hm != l[off+i]'(by omega))=false:=by simp [ev]
     have ha:pA l (off+1+(i+1))=pA l (off+1+i):=by
      rw [← bY];unfold pA;rw [qD]
     rw [ha,← bY (off+1) i 1,qD];simp only [hb,cond_false,gW (show i+1<9223372036854775807 by omega)]
   · rw [if_neg ev] at qD;have hb:(l[off+1+i]'hm != l[off+i]'(by omega))=true:=by simpa using ev
     have ha:=D1Z (l:=l) (m:=off+1+i) (by omega) hm (by omega) (by simp only [Ma];exact ev)
     rw [← bY (off+1) i 1,ha,qD];have hDl:(jz (l.take (off+1+i))).length<(pA l (off+1+i)).length:=by omega
     simp only [hb,cond_true,ln (show (jz (l.take (off+1+i))).length<N by omega),af hDl,ah,beq_self_eq_true,iP,ln hI,nJ,aQ,ba,cX,gW (show (jz (l.take (off+1+i))).length<9223372036854775807 by omega),gW (show i+1<9223372036854775807 by omega)]) (by
   have hm:off+1+(N-off-1)=N:=by omega
   have e1:(LL.set I (pA l N))[I]?=some (pA l N):=by simp [hI]
   have hj:¬ ((N-off-1+1:Nat):Int)<((N-off:Nat):Int):=by omega
   rw [hm,ko];simp only [HJ,hj,decide_false,cond_false,e1,ah])
 have h0:((jz (l.take (off+1+0))).length:Int)=(off:Int):=by rw [Nat.add_zero,hd]
 rw [h0] at this;exact this
theorem WS {l:List Int} {k:Nat} (h:∀ j (h0:0<j) (hj:j<k) (hl:j<l.length),l[j]≠l[j-1]'(by omega)):∀ m,m≤k→m≤l.length→jz (l.take m)=l.take m
 | 0,_,_=>by simp [jz]
 | 1,_,hl=>by
   rw [sM (by omega:0<l.length)];simp [jz]
 | m+2,hk,hl=>by
   rw [H3 (by omega) (by omega:m+1<l.length),if_neg (h (m+1) (by omega) (by omega) (by omega)),WS h (m+1) (by omega) (by omega),← sM (by omega)]
theorem C8p {LL:List (List Int)} {I:Nat} {l:List Int} (hL:LL[I]?=some l) (hN2:l.length≤1000) :
 ∃ l',PE ((I,l.length),LL)=some ((I,(jz l).length),LL.set I l')∧l'.take (jz l).length=jz l∧(jz l).length≤l'.length:=by
 have hI:=(aL.1 hL).1;unfold PE;by_cases h2:(l.length:Int)<2
 · have hd:jz l=l:=by
    match l,h2 with
    | [],_=>rfl
    | [_],_=>rfl
    | _::_::_,h=>simp at h;omega
   refine ⟨l,?_,by rw [hd,mX],by rw [hd];exact au _⟩
   simp only [h2,decide_true,cond_true,hL,ah,hd,WR hL]
 simp only [h2,decide_false,cond_false,hL,ah];have key:∀ n k,n+k=l.length→0<k→(∀ j (h0:0<j) (hj:j<k) (hl:j<l.length),l[j]≠l[j-1]'(by omega)) →
  ∃ b,dq HK (((I,l.length),(k:Int)),LL)=some b ∧
   ((∃ l',b=.inl ((I,(jz l).length),LL.set I l')∧l'.take (jz l).length=jz l∧(jz l).length≤l'.length)∨(b=.inr ((I,l.length),LL)∧jz l=l)):=by
  intro n
  induction n with
  | zero =>
    intro k hk h0 hp;have xr:k=l.length:=by omega
    refine ⟨.inr ((I,l.length),LL),pV ?_,.inr ⟨rfl,?_⟩⟩
    · subst xr;simp only [HK,aY,decide_false,cond_false,hL,ah]
    · have:=WS hp l.length (by omega) (au _)
      rwa [mX] at this
  | succ n ih =>
    intro k hk h0 hp;have xr:k<l.length:=by omega
    have nu:(k:Int)<(l.length:Int):=by omega
    have hw:ai.wrap ((k:Int)-1)=((k-1:Nat):Int):=by rw [wrap_i64 (by omega) (by omega)];omega
    by_cases he:l[k]=l[k-1]'(by omega)
    · have hd:jz (l.take k)=l.take k:=WS hp k (au _) (by omega)
      have hd1:(jz (l.take (k+1))).length=k:=by
       rw [H3 h0 xr,if_pos he,hd,aX];omega
      have ha:pA l (k+1)=l:=by
       unfold pA;rw [hd1,H3 h0 xr,if_pos he,hd,bO]
      have DD:=C2n (LL:=LL) (I:=I) (N:=l.length) (off:=k) (l:=l) hI rfl hN2 h0 xr hd1;rw [ha,WR hL] at DD;have hle:=L9 l;have hD:pA l l.length=jz l++l.drop (jz l).length:=by unfold pA;rw [mX]
      have WT:=C4P l l.length;refine ⟨.inl ((I,(jz l).length),LL.set I (m8 (pA l l.length) (some (jz l).length) (az (l.length-(jz l).length) 0))),pV ?_,.inl ⟨_,rfl,?_,?_⟩⟩
      · have e1:(LL.set I (pA l l.length))[I]?=some (pA l l.length):=by simp [hI]
        have e3:(m8 (pA l l.length) (some (jz l).length) (az (l.length-(jz l).length) 0)).length=(pA l l.length).length:=by
         unfold m8;simp only [aQ,aX,gv,cz,WT];omega
        simp only [HK,nu,decide_true,cond_true,hL,ah,aj,aq,ln xr,af xr,hw,ln (show k-1<l.length by omega),af (show k-1<l.length by omega),he,beq_self_eq_true,iy (show k≤l.length by omega),DD,e1,iy hle,iP,ln hI,e3,nJ]
        rw [iy (by rw [gv,WT];omega)]
        rfl
      · unfold m8;simp only;rw [hD,bf,List.take_append_of_le_length (by rw [aX];simp),List.take_take,Nat.min_self,List.take_left' rfl]
      · unfold m8;simp only [aQ,aX,gv,cz,WT];omega
    · have hb:(l[k]==l[k-1]'(by omega))=false:=by simpa using he
      obtain ⟨b,h1,h3⟩:=ih (k+1) (by omega) (by omega) (fun j a b c=>by
       by_cases e:j=k
       · subst e;exact he
       · exact hp j a (by omega) c)
      refine ⟨b,?_,h3⟩;rw [← h1];exact uG (by
       simp only [HK,nu,decide_true,cond_true,hL,ah,aj,aq,ln xr,af xr,hw,ln (show k-1<l.length by omega),af (show k-1<l.length by omega),hb,cond_false,gW (show k<9223372036854775807 by omega)])
 obtain ⟨b,h1,h3⟩:=key (l.length-1) 1 (by omega) (by omega) (fun j a b c=>by omega)
 have h1:dq HK (((I,l.length),(1:Int)),LL)=some b:=h1;rw [h1];rcases h3 with ⟨l',rfl,h4,h5⟩ | ⟨rfl,h4⟩
 · refine ⟨l',?_,h4,h5⟩;have e1:(LL.set I l')[I]?=some l':=by simp [hI]
   simp only [ah,qc,e1]
 · refine ⟨l,?_,by rw [h4,mX],by rw [h4];exact au _⟩
   simp only [ah,iL,hL,h4,WR hL]
end Go.Mid
namespace Go.Mid
structure NB (n:Nat) (next:List (List Int)):Prop where
 len:next.length=n
 vY:∀ l∈next,∀ w∈l,0≤w∧w<n
 Qt:∀ l∈next,l.length≤1000
 small:n≤1000
end Go.Mid
namespace Go.Mid
theorem D0f (x:List Int):s9 (Ty.vec 1 (Ty.int ai)) x=x:=by
 show fy (s9 (Ty.int ai)) x=x
 have:(s9 (Ty.int ai):Int→Int)=id:=by funext y;rfl
 exact (congrArg (fun f=>fy f x) this).trans (List.map_id x)
theorem B4V (l:List (List Int)):fy (s9 (Ty.vec 1 (Ty.int ai))) l=l:=by
 have:(s9 (Ty.vec 1 (Ty.int ai)):List Int→List Int)=id:=by funext y;exact D0f y
 exact (congrArg (fun f=>fy f l) this).trans (List.map_id l)
abbrev oL:=List (Int×Int)
def p0 (E:oL) (v:Nat):List Int:=(E.filter fun e=>e.1==(v:Int)).map (·.2)
def xK (n:Nat) (E:oL):List (List Int):=(bp n).map (p0 E)
theorem Qu {n v:Nat} {E:oL} (h:v<n):(xK n E)[v]?=some (p0 E v):=by simp [xK,h]
theorem Mb (n:Nat) (E:oL):(xK n E).length=n:=by simp [xK]
theorem D10 (E:oL) (e:Int×Int) (v:Nat):p0 (E++[e]) v=if e.1=(v:Int) then p0 E v++[e.2] else p0 E v:=by
 unfold p0;rw [eJ,b8];by_cases h:e.1=(v:Int)<;>simp [h]
theorem D0g {n:Nat} {E:oL} {u:Nat} {w:Int} (hu:u<n):xK n (E++[((u:Int),w)])=(xK n E).set u (p0 E u++[w]):=by
 apply fG;intro v;rw [dG,Mb];by_cases hv:v<n
 · rw [Qu hv,D10];by_cases e:u=v
   · subst e;simp [hv]
   · have:¬ ((u:Int)=(v:Int)):=by omega
     simp [e,this,Qu hv]
 · rw [bK (by rw [Mb];omega)]
   have:¬ u=v:=by omega
   rw [if_neg this,bK (by rw [Mb];omega)]
theorem WU (E:oL) (v:Nat):(p0 E v).length≤E.length:=by
 unfold p0;rw [aD];exact dU ..
theorem C6F {E:oL} {v:Nat} {w:Int}:w∈p0 E v↔((v:Int),w)∈E:=by
 unfold p0;rw [bh];constructor
 · rintro ⟨⟨a,b⟩,h1,rfl⟩;rw [cA] at h1
   have:=h1.2
   simp at this;rw [← this];exact h1.1
 · intro h;exact ⟨((v:Int),w),cA.2 ⟨h,by simp⟩,rfl⟩
def CC (n:Nat) (E:oL):Prop:=∀ e∈E,0≤e.1∧e.1<n∧0≤e.2∧e.2<n
theorem D11 {n:Nat} {E:oL} (hr:CC n E) (hE:E.length≤1000):dq Lg ((n,E,(E.length:Int),0),az n [])=some (n,xK n E):=by
 have h0:az n []=xK n (E.take 0):=by
  apply fG;intro v;by_cases hv:v<n
  · rw [Qu hv];simp [hv,p0]
  · rw [bK (by simp;omega),bK (by rw [Mb];omega)]
 rw [h0]
 have:=qE (f:=Lg) E.length (fun i=>((n,E,(E.length:Int),(i:Int)),xK n (E.take i))) (n,xK n E) (fun i hi=>by
  have dP:(i:Int)<E.length:=by omega
  have he:=hr E[i] (aJ hi);obtain ⟨u,hu⟩:∃ u:Nat,(E[i]).1=(u:Int):=eM he.1;have WV:u<n:=by have:=he.2.1;rw [hu] at this;omega
  have hei:E[i]=((u:Int),(E[i]).2):=Prod.ext hu rfl;rw [sM hi,hei,D0g WV];have hl:=WU (E.take i) u;rw [aX] at hl;have b0:cZ 0 2=true:=rfl;have b1:cZ 1 2=true:=rfl;simp only [Lg,dP,decide_true,cond_true,aj,aq,af hi,ah,b0,b1,hu,ln WV,Qu WV,beq_self_eq_true,iy (au _),Mb,mX,aQ,ba,cX,gW (show i<9223372036854775807 by omega)]
  rw [iy (show ((p0 (E.take i) u).length+1)*8≤140737488355328 by omega)]
  rfl) (by
  simp only [Lg,aY,decide_false,cond_false,mX])
 simpa using this
def qW (n:Nat) (E:oL):List (List Int):=(bp n).map fun v=>jz (lT (p0 E v))
def vZ (n:Nat) (E:oL) (i:Nat):List (List Int):=(bp n).map fun v=>if v<i then jz (lT (p0 E v)) else p0 E v
theorem WW {n v i:Nat} {E:oL} (h:v<n):(vZ n E i)[v]?=some (if v<i then jz (lT (p0 E v)) else p0 E v):=by simp [vZ,h]
theorem Mc (n i:Nat) (E:oL):(vZ n E i).length=n:=by simp [vZ]
theorem D12 {n i:Nat} {E:oL} (hi:i<n):vZ n E (i+1)=(vZ n E i).set i (jz (lT (p0 E i))):=by
 apply fG;intro v;rw [dG,Mc];by_cases hv:v<n
 · rw [WW hv];by_cases e:i=v
   · subst e;simp [hv]
   · rw [if_neg e,WW hv];by_cases h1:v<i
     · rw [if_pos h1,if_pos (by omega)]
     · rw [if_neg h1,if_neg (by omega)]
 · rw [bK (by rw [Mc];omega)]
   have:¬ i=v:=by omega
   rw [if_neg this,bK (by rw [Mc];omega)]
theorem D3Y {LL:List (List Int)} {I:Nat} {l:List Int} (hL:LL[I]?=some l) (hl:l.length≤1000):PD ((I,l.length),LL)=some (LL.set I (lT l)):=by
 unfold PD;have h1:m8 l none (lT l)=lT l:=by
  unfold m8;simp only;rw [FM,ff,bF]
 simp only [hL,ah,mX,h1,FM,iy (au _),cond_true,beq_self_eq_true];rw [ln (by omega)]
 rfl
theorem D13 {n:Nat} {E:oL} (hn:n≤1000) (hE:E.length≤1000):dq Lh ((n,(n:Int),0),xK n E)=some (n,qW n E):=by
 have h0:xK n E=vZ n E 0:=by simp [xK,vZ]
 have h1:qW n E=vZ n E n:=by
  unfold qW vZ;apply eU;intro v hv;rw [if_pos (bX.1 hv)]
 rw [h0,h1]
 have:=qE (f:=Lh) n (fun i=>((n,(n:Int),(i:Int)),vZ n E i)) (n,vZ n E n) (fun i hi=>by
  have dP:(i:Int)<n:=by omega
  have hl:=WU E i;have g0:(vZ n E i)[i]?=some (p0 E i):=by rw [WW hi,if_neg (Nat.lt_irrefl i)]
  have hs:=D3Y g0 (by omega)
  have tK:(lT (p0 E i)).length=(p0 E i).length:=FM _;have g1:((vZ n E i).set i (lT (p0 E i)))[i]?=some (lT (p0 E i)):=by simp [Mc,hi]
  obtain ⟨l',c1,c2,c3⟩:=C8p g1 (by omega)
  have g2:((vZ n E i).set i l')[i]?=some l':=by simp [Mc,hi]
  have g3:(jz (lT (p0 E i))).length=(aR (jz (lT (p0 E i))).length l').length:=by rw [c2]
  have bq:jc i i=true:=by simp
  simp only [Lh,dP,decide_true,cond_true,aj,aq,ln hi,g0,ah,hs,g1,c1,g2,bq,iy c3,c2,beq_self_eq_true,nJ,D12 hi,gW (show i<9223372036854775807 by omega)]) (by
  simp only [Lh,aY,decide_false,cond_false])
 simpa using this
theorem WX (n:Nat) (E:oL):(qW n E).length=n:=by simp [qW]
theorem C2o {n:Nat} {E:oL} (hn:n≤1000) (hr:CC n E) (hE:E.length≤1000):HL ((n:Int),E)=some (qW n E):=by
 unfold HL;simp only [aj,decide_true,cond_true,aq,lI];rw [iy (show n*24≤140737488355328 by omega)]
 simp only [cond_true,D11 hr hE,ah,D13 hn hE];rw [iy (show n≤(qW n E).length by rw [WX];exact au _)]
 have e:aR n (qW n E)=qW n E:=aZ (by rw [WX];exact au _)
 refine congrArg some ?_;refine Eq.trans ?_ (B4V (qW n E));exact congrArg (fun l:List (List Int)=>fy (s9 (Ty.vec 1 (Ty.int ai))) l) e
theorem C19 {n v:Nat} {E:oL} (h:v<(qW n E).length):(qW n E)[v]=jz (lT (p0 E v)):=by simp [qW]
theorem D0h {n v:Nat} {E:oL} {w:Int} (h:v<(qW n E).length):w∈(qW n E)[v]↔((v:Int),w)∈E:=by
 rw [C19 h,Qs,Qr,C6F]
theorem D14 {n:Nat} {E:oL} (hn:n≤1000) (hr:CC n E) (hE:E.length≤1000):NB n (qW n E) where
 len:=WX n E
 vY:=by
  intro l hl w hw;obtain ⟨v,hv,rfl⟩:=gZ hl
  have:=hr _ ((D0h hv).1 hw)
  exact this.2.2
 Qt:=by
  intro l hl;obtain ⟨v,hv,rfl⟩:=gZ hl;rw [C19 hv];have h1:=L9 (lT (p0 E v));rw [FM] at h1;have h2:=WU E v;omega
 small:=hn
end Go.Mid
namespace Go.Mid
def F3 (n:Int) (e:Int×Int):Bool:=decide (e.1<0) || decide (e.1 ≥ n) || decide (e.2<0) || decide (e.2 ≥ n)
def H4 (n:Int) (l:List (Int×Int)):Int:=if n>1000 then 3 else if (l.length:Int)>20000 then 3 else if n<0 then 1 else if l.any (F3 n) then 1 else 0
theorem D6T:cZ 0 2=true:=rfl
theorem D6U:cZ 1 2=true:=rfl
theorem WY {n:Int} {e:Int×Int}:F3 n e=true↔e.1<0∨e.1 ≥ n∨e.2<0∨e.2 ≥ n:=by
 simp [F3,or_assoc]
theorem C0W (n:Int) (l:List (Int×Int)):Lf (n,l)=some (H4 n l):=by
 unfold Lf H4;simp only [gt_iff_lt];by_cases h1:1000<n
 · simp [h1]
 by_cases h2:(20000:Int)<l.length
 · simp [h1,h2]
 by_cases h3:n<0
 · simp [h1,h2,h3]
 simp only [h1,h2,h3,decide_false,cond_false,if_false]
 have:=th (f:=PC) l (fun i=>(n,l,(l.length:Int),(i:Int))) (F3 n) (.inl 1) (.inr ()) (fun i hi=>by
  have dP:(i:Int)<l.length:=by omega
  simp only [PC,dP,decide_true,cond_true,aj,aq,af hi,ah,D6T,D6U,gW (show i<9223372036854775807 by omega)]
  generalize l[i]=e;by_cases hb:F3 n e=true
  · rw [if_pos hb];rw [WY] at hb;by_cases c1:(if e.2<e.1 then e.2 else e.1)<0
    · simp only [c1,decide_true,cond_true]
    · have c2:(if e.2>e.1 then e.2 else e.1) ≥ n:=by
       split at c1<;>split<;>omega
      simp only [c1,c2,decide_true,decide_false,cond_true,cond_false]
  · rw [if_neg hb];rw [WY] at hb;have c1:¬ (if e.2<e.1 then e.2 else e.1)<0:=by split<;>omega
    have c2:¬ (if e.2>e.1 then e.2 else e.1) ≥ n:=by split<;>omega
    simp only [c1,c2,decide_false,cond_false]) (by
  simp only [PC,aY,decide_false,cond_false])
 simp only [cj] at this;rw [this];by_cases h4:l.any (F3 n)=true
 · simp [h4]
 · simp only [h4];rfl
end Go.Mid
namespace Go.Mid
def Af (n:Nat) (g:Nat→Bool):List Bool:=(bp n).map g
theorem Qv (n:Nat) (g:Nat→Bool):(Af n g).length=n:=by simp [Af]
theorem Qw {n j:Nat} {g:Nat→Bool} (h:j<n):(Af n g)[j]?=some (g j):=by simp [Af,h]
theorem WZ {n:Nat} {g h:Nat→Bool} (e:∀ j,j<n→g j=h j):Af n g=Af n h :=
 eU fun j hj=>e j (bX.1 hj)
theorem C4R {n j:Nat} {g:Nat→Bool} (h:j<n) (x:Bool):(Af n g).set j x=Af n (fun b=>if b=j then x else g b):=by
 apply fG;intro v;rw [dG,Qv];by_cases hv:v<n
 · rw [Qw hv];by_cases e:j=v
   · subst e;rw [Qw hv];simp [h]
   · have:¬ v=j:=fun h=>e h.symm
     simp [e,this,Qw hv]
 · rw [bK (by rw [Qv];omega),bK (by rw [Qv];omega)]
   have:¬ j=v:=by omega
   rw [if_neg this]
theorem D15 (n:Nat):az n false=Af n (fun _=>false):=by
 simp [Af,List.map_const']
end Go.Mid
namespace Go.Mid
end Go.Mid
namespace Go.Mid
theorem W0 {α:Type} {p q:α→Bool}:∀ {l:List α},(∀ x∈l,p x=true→q x=true)→(∃ x∈l,p x=false∧q x=true)→l.countP p<l.countP q
 | [],_,h=>by obtain ⟨x,hx,_⟩:=h;cases hx
 | a::l,hm,h=>by
   have hle:l.countP p≤l.countP q:=List.countP_mono_left fun x hx=>hm x (bU _ hx)
   have ha:=hm a (by simp)
   rw [List.countP_cons,List.countP_cons];obtain ⟨x,hx,h1,h2⟩:=h;rcases aM.1 hx with e | e
   · subst e;simp only [h1,h2,if_true];simp;omega
   · have:=W0 (fun x hx=>hm x (bU _ hx)) ⟨x,e,h1,h2⟩
     by_cases qY:p a=true
     · simp only [qY,ha qY,if_true];omega
     · rw [if_neg qY];omega
theorem Md {α:Type} [DecidableEq α]:∀ {l m:List α},l.Nodup→(∀ x∈l,x∈m)→l.length≤m.length
 | [],_,_,_=>dt _
 | a::l,m,h,hs=>by
   have h':=b5.1 h;have ham:=hs a (by simp)
   have:=Md (l:=l) (m:=m.erase a) h'.2 fun x hx=>by
    have ev:x≠a:=fun e=>h'.1 (e ▸ hx)
    exact (List.mem_erase_of_ne ev).2 (hs x (bU _ hx))
   rw [List.length_erase_of_mem ham] at this
   have:=List.length_pos_of_mem ham
   simp only [ba];omega
end Go.Mid
namespace Go.Mid
def tp (n:Nat) (o:List Nat):List Bool:=Af n (fun v=>o.contains v)
def jS (o:List Nat):List Int:=o.map fun k:Nat=>(k:Int)
theorem Bn (o:List Nat):(jS o).length=o.length:=by simp [jS]
theorem D0i (o:List Nat) (v:Nat):jS (o++[v])=jS o++[(v:Int)]:=by simp [jS]
theorem D0j (n:Nat) (o:List Nat):(tp n o).length=n:=Qv ..
theorem C2a {n v:Nat} {o:List Nat} (h:v<n):(tp n o).set v true=tp n (o++[v]):=by
 unfold tp;rw [C4R h];refine WZ fun j _=>?_
 by_cases e:j=v
 · subst e;simp
 · rw [if_neg e,cn];simp [e]
end Go.Mid
namespace Go.Mid
def Ag (n:Nat) (g:Nat→Int):List Int:=(bp n).map g
theorem W2 (n:Nat) (g:Nat→Int):(Ag n g).length=n:=by simp [Ag]
theorem Qx {n j:Nat} {g:Nat→Int} (h:j<n):(Ag n g)[j]?=some (g j):=by simp [Ag,h]
theorem D16 {n:Nat} {g h:Nat→Int} (e:∀ j,j<n→g j=h j):Ag n g=Ag n h :=
 eU fun j hj=>e j (bX.1 hj)
theorem D17 {n j:Nat} {g:Nat→Int} (h:j<n) (x:Int):(Ag n g).set j x=Ag n (fun b=>if b=j then x else g b):=by
 apply fG;intro v;rw [dG,W2];by_cases hv:v<n
 · rw [Qx hv];by_cases e:j=v
   · subst e;rw [Qx hv];simp [h]
   · have:¬ v=j:=fun h=>e h.symm
     simp [e,this,Qx hv]
 · rw [bK (by rw [W2];omega),bK (by rw [W2];omega)]
   have:¬ j=v:=by omega
   rw [if_neg this]
end Go.Mid
namespace Go.Mid
def sm (E:oL) (u:Nat):List Int:=jz (lT (p0 E u))
theorem C6G {E:oL} {u:Nat} {w:Int}:w∈sm E u↔((u:Int),w)∈E:=by
 unfold sm;rw [Qs,Qr,C6F]
theorem W3 {n u:Nat} {E:oL} (h:u<n):(qW n E)[u]?=some (sm E u):=by simp [qW,h,sm]
end Go.Mid
namespace Go.Mid
end Go.Mid
namespace Go.Mid
theorem W4 {o:List Nat} {i:Nat} (h:i<o.length):(jS o)[i]?=some (o[i]:Int):=by simp [jS,h]
end Go.Mid
namespace Go.Mid
end Go.Mid
namespace Go.Mid
def D7J (E:oL) (u v:Nat):Bool:=E.any fun e=>e.1==(u:Int)&&e.2==(v:Int)
def Me (p:List Nat):Nat:=p.getLast?.getD 0
theorem B9U (p:List Nat) (v:Nat):Me (p++[v])=v:=by simp [Me]
def lq (M:List (List Nat)):List (List Int):=M.map jS
theorem Qy (M:List (List Nat)):(lq M).length=M.length:=by simp [lq]
def H5 (n:Nat) (S:Nat→Bool):Nat:=(bp n).countP S
structure LV (n:Nat) (S:Nat→Bool) (L:List (List Nat)):Prop where
 ne:∀ p∈L,p ≠ []
 vY:∀ p∈L,Me p<n
 seen:∀ p∈L,S (Me p)=true
 len:∀ p∈L,p.length≤H5 n S
 Qt:L.length≤H5 n S
theorem D3Z {n:Nat} {S S':Nat→Bool} (h:∀ v,S v=true→S' v=true) {v:Nat} (hv:v<n) (h1:S v=false) (h2:S' v=true):H5 n S<H5 n S' :=
 W0 (fun x _ hx=>h x hx) ⟨v,bX.2 hv,h1,h2⟩
theorem LV.next {n:Nat} {E:oL} {S S':Nat→Bool} {L N:List (List Nat)} (h:LV n S L) (h2:∀ v,S v=true→S' v=true)
 (h4:∀ q∈N,∃ p∈L,∃ v,v<n∧q=p++[v]∧D7J E (Me p) v=true∧S v=false∧S' v=true) (h5:H5 n S'=H5 n S+N.length):LV n S' N where
 ne:=fun q hq=>by
  obtain ⟨p,_,v,_,rfl,_⟩:=h4 q hq;simp
 vY:=fun q hq=>by
  obtain ⟨p,_,v,hv,rfl,_⟩:=h4 q hq;rw [B9U];exact hv
 seen:=fun q hq=>by
  obtain ⟨p,_,v,hv,rfl,_,_,e⟩:=h4 q hq;rw [B9U];exact e
 len:=fun q hq=>by
  obtain ⟨p,hp,v,hv,rfl,_,e1,e2⟩:=h4 q hq
  have:=h.len p hp
  have:=D3Z h2 hv e1 e2
  simp;omega
 Qt:=by omega
end Go.Mid
namespace Go.Mid
end Go.Mid
namespace Go.Mid
inductive Rc (Ed:Nat→Nat→Prop) (a:Nat):Nat→Prop
 | refl:Rc Ed a a
 | tail {b c:Nat}:Rc Ed a b→Ed b c→Rc Ed a c
section
variable {Ed:Nat→Nat→Prop}
theorem Rc.trans {a b c:Nat} (h:Rc Ed a b):Rc Ed b c→Rc Ed a c:=fun h2=>by
 induction h2 with
 | refl=>exact h
 | tail _ e ih=>exact ih.tail e
theorem Rc.one {a b:Nat} (h:Ed a b):Rc Ed a b:=Rc.refl.tail h
theorem Rc.closed {P:Nat→Prop} (hP:∀ a b,P a→Ed a b→P b) {a b:Nat} (h:Rc Ed a b) (ha:P a):P b:=by
 induction h with
 | refl=>exact ha
 | tail _ e ih=>exact hP _ _ ih e
structure kY (Ed:Nat→Nat→Prop) (n:Nat) (G:List Nat) (ix:Nat→Nat) (ot:List Nat) (cnt:Nat) (out:List (List Nat)):Prop where
 cc:(bp n).countP (fun v=>ix v != 0)=cnt
 DQ:∀ v,ix v≤cnt
 vY:∀ v,ix v≠0→v<n
 inj:∀ u v,ix u≠0→ix u=ix v→u=v
 F4:ot.Pairwise (fun a b=>ix a<ix b)
 p5:∀ v∈ot,ix v≠0
 H6:∀ g∈G,g∈ot
 Mf:∀ u w,ix u≠0→u∉ot→Ed u w→ix w≠0∧w∉ot
 blk:∀ u∈ot,u∉G→∀ w,Ed u w→ix w≠0
 i7:∀ u∈ot,∃ g∈G,ix g≤ix u∧Rc Ed u g
 i8:∀ g∈G,∀ u∈ot,ix g≤ix u→Rc Ed g u
 Mg:∀ v,ix v≠0→v∉ot→∃ C∈out,v∈C
 v7:∀ C∈out,C ≠ []∧C.Nodup∧∀ u∈C,(ix u≠0∧u∉ot)∧∀ w,(w∈C↔Rc Ed u w∧Rc Ed w u)
 H7:out.Pairwise (fun C D=>∀ x∈C,x∉D)
def w5 {α:Type} (f:Nat→α) (v:Nat) (x:α):Nat→α:=fun b=>if b=v then x else f b
theorem rU {α:Type} (f:Nat→α) (v:Nat) (x:α):w5 f v x v=x:=by simp [w5]
theorem v8 {α:Type} {f:Nat→α} {v b:Nat} {x:α} (h:b≠v):w5 f v x b=f b:=by simp [w5,h]
theorem B7u {ix:Nat→Nat} {v c:Nat} (h0:ix v=0) (hc:c≠0):∀ m,(bp m).countP (fun u=>w5 ix v c u != 0)=(bp m).countP (fun u=>ix u != 0)+if v<m then 1 else 0
 | 0=>by simp
 | m+1=>by
   rw [List.range_succ,List.countP_append,List.countP_append,B7u h0 hc m];by_cases e:m=v
   · subst e;have h1:¬ m<m:=by omega
     have h2:m<m+1:=by omega
     simp [rU,h0,hc]
   · have h3:v<m+1↔v<m:=by omega
     simp only [List.countP_singleton,v8 e,h3];omega
theorem kY.nil (n:Nat):kY Ed n [] (fun _=>0) [] 0 [] where
 cc:=by simp
 DQ:=by simp
 vY:=by simp
 inj:=by simp
 F4:=by simp
 p5:=by simp
 H6:=by simp
 Mf:=by simp
 blk:=by simp
 i7:=by simp
 i8:=by simp
 Mg:=by simp
 v7:=by simp
 H7:=by simp
theorem kY.W5 {n:Nat} {G:List Nat} {ix:Nat→Nat} {ot:List Nat} {cnt:Nat} {out:List (List Nat)} (h:kY Ed n G ix ot cnt out):ot.Nodup :=
 h.F4.imp fun {a b} s5 e=>by subst e;omega
theorem kY.push {n:Nat} {G:List Nat} {ix:Nat→Nat} {ot:List Nat} {cnt:Nat} {out:List (List Nat)} (h:kY Ed n G ix ot cnt out) {v:Nat} (hv:v<n) (h0:ix v=0) (hG:∀ g∈G,Rc Ed g v) :
 kY Ed n (v::G) (w5 ix v (cnt+1)) (ot++[v]) (cnt+1) out:=by
 have fY:v∉ot:=fun hm=>h.p5 v hm h0
 have ev:∀ u,ix u≠0→u≠v:=fun u hu e=>hu (e ▸ h0)
 have xL:∀ u,ix u≠0→w5 ix v (cnt+1) u=ix u:=fun u hu=>v8 (ev u hu)
 have DR:∀ u∈ot,w5 ix v (cnt+1) u=ix u:=fun u hu=>xL u (h.p5 u hu)
 have F5:∀ u,w5 ix v (cnt+1) u≠0↔u=v∨ix u≠0:=fun u=>by
  by_cases e:u=v
  · subst e;simp [rU]
  · simp [v8 e,e]
 refine ⟨?_,?_,?_,?_,?_,?_,?_,?_,?_,?_,?_,?_,?_,h.H7⟩
 · rw [B7u h0 (by omega),h.cc,if_pos hv]
 · intro u;by_cases e:u=v
   · subst e;rw [rU];exact au _
   · rw [v8 e];have:=h.DQ u;omega
 · intro u hu;rcases (F5 u).1 hu with e | e
   · subst e;exact hv
   · exact h.vY u e
 · intro u w hu he;by_cases e1:u=v<;>by_cases e2:w=v
   · rw [e1,e2]
   · subst e1;rw [rU,v8 e2] at he
     have:=h.DQ w;omega
   · subst e2;rw [rU,v8 e1] at he
     have:=h.DQ u;omega
   · rw [v8 e1] at hu;rw [v8 e1,v8 e2] at he;exact h.inj u w hu he
 · rw [cB];refine ⟨h.F4.imp_of_mem fun {a b} ha hb s5=>by rw [DR a ha,DR b hb];exact s5,by simp,fun a ha b hb=>?_⟩
   rw [aW] at hb;subst hb;rw [DR a ha,rU]
   have:=h.DQ a;omega
 · intro u hu;rw [F5];rcases ay.1 hu with h1 | h1
   · exact .inr (h.p5 u h1)
   · exact .inl (aW.1 h1)
 · intro g hg;rcases aM.1 hg with e | e
   · subst e;simp
   · exact c9 _ (h.H6 g e)
 · intro u w hu hs he;rcases (F5 u).1 hu with e | e
   · subst e;exact (hs (by simp)).elim
   · obtain ⟨a,b⟩:=h.Mf u w e (fun hm=>hs (c9 _ hm)) he
     refine ⟨(F5 w).2 (.inr a),fun hm=>?_⟩
     rcases ay.1 hm with h1 | h1
     · exact b h1
     · rw [aW] at h1;exact ev w a h1
 · intro u hu hg w he;rcases ay.1 hu with h1 | h1
   · exact (F5 w).2 (.inr (h.blk u h1 (fun hm=>hg (bU _ hm)) w he))
   · rw [aW] at h1;subst h1;exact (hg (by simp)).elim
 · intro u hu;rcases ay.1 hu with h1 | h1
   · obtain ⟨g,hg,a,b⟩:=h.i7 u h1;exact ⟨g,bU _ hg,by rw [DR g (h.H6 g hg),DR u h1];exact a,b⟩
   · rw [aW] at h1;subst h1;exact ⟨u,by simp,au _,.refl⟩
 · intro g hg u hu hle;rcases ay.1 hu with h1 | h1
   · rcases aM.1 hg with e | e
     · subst e;rw [rU,DR u h1] at hle
       have:=h.DQ u;omega
     · rw [DR g (h.H6 g e),DR u h1] at hle;exact h.i8 g e u h1 hle
   · rw [aW] at h1;subst h1;rcases aM.1 hg with e | e
     · subst e;exact .refl
     · exact hG g e
 · intro u hu hs;rcases (F5 u).1 hu with e | e
   · subst e;exact (hs (by simp)).elim
   · exact h.Mg u e fun hm=>hs (c9 _ hm)
 · intro C hC;obtain ⟨a,b,c⟩:=h.v7 C hC;refine ⟨a,b,fun u hu=>?_⟩
   obtain ⟨⟨c1,c2⟩,c3⟩:=c u hu;refine ⟨⟨(F5 u).2 (.inr c1),fun hm=>?_⟩,c3⟩
   rcases ay.1 hm with h1 | h1
   · exact c2 h1
   · rw [aW] at h1;exact ev u c1 h1
theorem kY.stay {n:Nat} {G:List Nat} {ix:Nat→Nat} {ot:List Nat} {cnt:Nat} {out:List (List Nat)} {v:Nat} (h:kY Ed n (v::G) ix ot cnt out) (ko:∀ w,Ed v w→ix w≠0)
 {w:Nat} (hw:w∈ot) (eE:ix w<ix v) (W6:Rc Ed v w):kY Ed n G ix ot cnt out:=by
 refine ⟨h.cc,h.DQ,h.vY,h.inj,h.F4,h.p5,fun g hg=>h.H6 g (bU _ hg),h.Mf,fun u hu hg x he=>?_,fun u hu=>?_,fun g hg=>h.i8 g (bU _ hg),h.Mg,h.v7,h.H7⟩
 · by_cases e:u=v
   · subst e;exact ko x he
   · exact h.blk u hu (fun hm=>by
      rcases aM.1 hm with h1 | h1
      · exact e h1
      · exact hg h1) x he
 · have key:∃ g∈G,ix g≤ix w∧Rc Ed w g:=by
    obtain ⟨g,hg,a,b⟩:=h.i7 w hw;rcases aM.1 hg with e | e
    · subst e;omega
    · exact ⟨g,e,a,b⟩
   obtain ⟨g,hg,a,b⟩:=h.i7 u hu;rcases aM.1 hg with e | e
   · subst e;obtain ⟨k,hk,c,d⟩:=key;exact ⟨k,hk,by omega,b.trans (W6.trans d)⟩
   · exact ⟨g,e,a,b⟩
theorem kY.pop {n:Nat} {G:List Nat} {ix:Nat→Nat} {S0 T:List Nat} {cnt:Nat} {out:List (List Nat)} {v:Nat} (h:kY Ed n (v::G) ix (S0++v::T) cnt out) (ko:∀ w,Ed v w→ix w≠0)
 (Mh:∀ g∈G,g∈S0) (W7:∀ u∈v::T,∀ w∈S0,¬ Ed u w):kY Ed n G ix S0 cnt (out++[v::T]):=by
 have hp:=cB.1 h.F4;have H8:∀ u,u∈S0→u∈S0++v::T:=fun u hu=>c9 _ hu
 have hT:∀ u,u∈v::T→u∈S0++v::T:=fun u hu=>kS _ hu
 have lM:∀ u∈v::T,u∉S0:=fun u hu hs=>by
  have:=hp.2.2 u hs u hu;omega
 have W8:∀ u∈v::T,ix v≤ix u:=fun u hu=>by
  rcases aM.1 hu with e | e
  · subst e;exact au _
  · exact fU ((bM.1 hp.2.1).1 u e)
 have xL:∀ u∈v::T,∀ w,Ed u w→ix w≠0:=fun u hu w he=>by
  by_cases e:u=v
  · subst e;exact ko w he
  · refine h.blk u (hT u hu) (fun hm=>?_) w he
    rcases aM.1 hm with h1 | h1
    · exact e h1
    · exact lM u hu (Mh u h1)
 have F6:∀ u w,(ix u≠0∧u∉S0)→Ed u w→(ix w≠0∧w∉S0):=by
  rintro u w ⟨h1,h2⟩ he;by_cases hu:u∈v::T
  · exact ⟨xL u hu w he,fun hs=>W7 u hu w hs he⟩
  · obtain ⟨a,b⟩:=h.Mf u w h1 (fun hm=>by
     rcases ay.1 hm with h3 | h3
     · exact h2 h3
     · exact hu h3) he
    exact ⟨a,fun hs=>b (H8 w hs)⟩
 have Mi:∀ u w,(ix u≠0∧u∉S0++v::T)→Ed u w→(ix w≠0∧w∉S0++v::T):=fun u w h1 he=>h.Mf u w h1.1 h1.2 he
 have lL:∀ u∈v::T,ix u≠0∧u∉S0:=fun u hu=>⟨h.p5 u (hT u hu),lM u hu⟩
 have hto:∀ u∈v::T,Rc Ed u v:=fun u hu=>by
  obtain ⟨g,hg,a,b⟩:=h.i7 u (hT u hu);rcases aM.1 hg with e | e
  · subst e;exact b
  · exact ((b.closed F6 (lL u hu)).2 (Mh g e)).elim
 have EN:∀ u∈v::T,Rc Ed v u:=fun u hu=>h.i8 v (by simp) u (hT u hu) (W8 u hu)
 refine ⟨h.cc,h.DQ,h.vY,h.inj,hp.1,fun u hu=>h.p5 u (H8 u hu),Mh,fun u w h1 h2 he=>F6 u w ⟨h1,h2⟩ he,fun u hu hg x he=>?_,fun u hu=>?_,fun g hg u hu=>h.i8 g (bU _ hg) u (H8 u hu),fun u hu hs=>?_,fun C hC=>?_,?_⟩
 · refine h.blk u (H8 u hu) (fun hm=>?_) x he
   rcases aM.1 hm with h1 | h1
   · subst h1;exact lM u (by simp) hu
   · exact hg h1
 · obtain ⟨g,hg,a,b⟩:=h.i7 u (H8 u hu);rcases aM.1 hg with e | e
   · subst e
     have:=hp.2.2 u hu g (by simp)
     omega
   · exact ⟨g,e,a,b⟩
 · by_cases hm:u∈v::T
   · exact ⟨v::T,by simp,hm⟩
   · obtain ⟨C,hC,h1⟩:=h.Mg u hu fun hh=>by
      rcases ay.1 hh with h3 | h3
      · exact hs h3
      · exact hm h3
     exact ⟨C,c9 _ hC,h1⟩
 · rcases ay.1 hC with h1 | h1
   · obtain ⟨a,b,c⟩:=h.v7 C h1;exact ⟨a,b,fun u hu=>⟨⟨(c u hu).1.1,fun hs=>(c u hu).1.2 (H8 u hs)⟩,(c u hu).2⟩⟩
   · rw [aW] at h1;subst h1;have iq:=h.W5;rw [aT] at iq;refine ⟨by simp,iq.2.1,fun u hu=>⟨lL u hu,fun w=>⟨fun hw=>⟨(hto u hu).trans (EN w hw),(hto w hw).trans (EN u hu)⟩,fun ⟨h1,h2⟩=>?_⟩⟩⟩
     obtain ⟨a,b⟩:=h1.closed F6 (lL u hu);refine bz fun mG=>?_
     have:=h2.closed Mi ⟨a,fun hm=>by
      rcases ay.1 hm with h3 | h3
      · exact b h3
      · exact mG h3⟩
     exact this.2 (hT u hu)
 · rw [cB];refine ⟨h.H7,by simp,fun C hC D hD x hx hxD=>?_⟩
   rw [aW] at hD;subst hD;exact ((h.v7 C hC).2.2 x hx).1.2 (hT x hxD)
theorem kY.fin {n:Nat} {ix:Nat→Nat} {ot:List Nat} {cnt:Nat} {out:List (List Nat)} (h:kY Ed n [] ix ot cnt out):ot=[]:=by
 cases ot with
 | nil=>rfl
 | cons a l =>
   obtain ⟨g,hg,_⟩:=h.i7 a (by simp)
   cases hg
structure w6 (Ed:Nat→Nat→Prop) (n:Nat) (G:List Nat) (v:Nat) (ix lo:Nat→Nat) (S0:List Nat) (cnt:Nat) (out:List (List Nat)) (iu km:Nat→Nat) (T:List Nat) (jL:Nat) (jM:List (List Nat)):Prop where
 inv:kY Ed n G iu (S0++T) jL jM
 bn:∀ u,ix u≠0→iu u=ix u∧km u=lo u
 W9:iu v≠0
 new:∀ u,ix u=0→iu u≠0→cnt<iu u
 Ah:km v≤iu v
 xM:cnt≤jL
 sn:out <+: jM
 eds:∀ u∈T,∀ w∈S0,Ed u w→km v≤iu w
 low:(T=[]∧km v=iu v)∨(km v<iu v∧∃ w∈S0,iu w=km v∧Rc Ed v w)
structure j8 (Ed:Nat→Nat→Prop) (n:Nat) (G:List Nat) (v:Nat) (ix lo:Nat→Nat) (S0:List Nat) (cnt:Nat) (out:List (List Nat)) (D:List Nat) (iu km:Nat→Nat) (T:List Nat) (jL:Nat) (jM:List (List Nat)):Prop where
 inv:kY Ed n (v::G) iu (S0++v::T) jL jM
 bn:∀ u,ix u≠0→iu u=ix u∧km u=lo u
 Bo:iu v=cnt+1
 new:∀ u,ix u=0→iu u≠0→cnt<iu u
 xM:cnt+1≤jL
 sn:out <+: jM
 Ah:km v≤iu v
 tq:∀ x∈D,iu x≠0
 uK:∀ x∈D,x∈S0→km v≤iu x
 uL:∀ u∈T,∀ w∈S0,Ed u w→km v≤iu w
 low:∃ w∈S0++v::T,iu w=km v∧Rc Ed v w
theorem j8.start {n:Nat} {G:List Nat} {v:Nat} {ix lo:Nat→Nat} {S0:List Nat} {cnt:Nat} {out:List (List Nat)} (h:kY Ed n G ix S0 cnt out) (hv:v<n) (h0:ix v=0) (hG:∀ g∈G,Rc Ed g v) :
 j8 Ed n G v ix lo S0 cnt out [] (w5 ix v (cnt+1)) (w5 lo v (cnt+1)) [] (cnt+1) out where
 inv:=h.push hv h0 hG
 bn:=fun u hu=>by
  have:u≠v:=fun e=>hu (e ▸ h0)
  rw [v8 this,v8 this];exact ⟨rfl,rfl⟩
 Bo:=rU ..
 new:=fun u h1 h2=>by
  by_cases e:u=v
  · subst e;rw [rU];omega
  · rw [v8 e] at h2;exact (h2 h1).elim
 xM:=au _
 sn:=List.prefix_refl _
 Ah:=by rw [rU,rU];exact au _
 tq:=by simp
 uK:=by simp
 uL:=by simp
 low:=⟨v,by simp,by rw [rU,rU],.refl⟩
section
variable {n:Nat} {G:List Nat} {v:Nat} {ix lo:Nat→Nat} {S0:List Nat} {cnt:Nat} {out:List (List Nat)} {D:List Nat} {iu km:Nat→Nat} {T:List Nat} {jL:Nat} {jM:List (List Nat)}
theorem j8.sv (h:j8 Ed n G v ix lo S0 cnt out D iu km T jL jM):∀ u∈v::T,iu v≤iu u:=fun u hu=>by
 have hp:=cB.1 h.inv.F4;rcases aM.1 hu with e | e
 · subst e;exact au _
 · exact fU ((bM.1 hp.2.1).1 u e)
theorem j8.on (h:j8 Ed n G v ix lo S0 cnt out D iu km T jL jM) {x:Nat} (hx:Ed v x) (hs:x∈S0++v::T) (ev:∀ u,ix u≠0→u≠v) :
 j8 Ed n G v ix lo S0 cnt out (D++[x]) iu (w5 km v (min (km v) (iu x))) T jL jM where
 inv:=h.inv
 bn:=fun u hu=>⟨(h.bn u hu).1,by rw [v8 (ev u hu)];exact (h.bn u hu).2⟩
 Bo:=h.Bo
 new:=h.new
 xM:=h.xM
 sn:=h.sn
 Ah:=by rw [rU];have:=h.Ah;omega
 tq:=fun y hy=>by
  rcases ay.1 hy with h1 | h1
  · exact h.tq y h1
  · rw [aW] at h1;subst h1;exact h.inv.p5 y hs
 uK:=fun y hy h2=>by
  rw [rU];rcases ay.1 hy with h1 | h1
  · have:=h.uK y h1 h2;omega
  · rw [aW] at h1;subst h1;omega
 uL:=fun u hu w hw he=>by
  rw [rU]
  have:=h.uL u hu w hw he;omega
 low:=by
  rw [rU];by_cases hc:km v≤iu x
  · rw [da hc];exact h.low
  · rw [jC (by omega)];exact ⟨x,hs,rfl,.one hx⟩
theorem j8.off (h:j8 Ed n G v ix lo S0 cnt out D iu km T jL jM) {x:Nat} (hv:iu x≠0) (hs:x∉S0++v::T) :
 j8 Ed n G v ix lo S0 cnt out (D++[x]) iu km T jL jM where
 inv:=h.inv
 bn:=h.bn
 Bo:=h.Bo
 new:=h.new
 xM:=h.xM
 sn:=h.sn
 Ah:=h.Ah
 tq:=fun y hy=>by
  rcases ay.1 hy with h1 | h1
  · exact h.tq y h1
  · rw [aW] at h1;subst h1;exact hv
 uK:=fun y hy h2=>by
  rcases ay.1 hy with h1 | h1
  · exact h.uK y h1 h2
  · rw [aW] at h1;subst h1;exact (hs (c9 _ h2)).elim
 uL:=h.uL
 low:=h.low
theorem j8.call (h:j8 Ed n G v ix lo S0 cnt out D iu km T jL jM) {x:Nat} (hx:Ed v x) (h0:iu x=0) (ev:∀ u,ix u≠0→u≠v)
 {tt rV:Nat→Nat} {T2:List Nat} {p6:Nat} {na:List (List Nat)} (h2:w6 Ed n (v::G) x iu km (S0++v::T) jL jM tt rV T2 p6 na) :
 j8 Ed n G v ix lo S0 cnt out (D++[x]) tt (w5 rV v (min (rV v) (rV x))) (T++T2) p6 na:=by
 have wH:iu v≠0:=by rw [h.Bo];omega
 have F7:=h2.bn v wH;have hkS:∀ u∈S0,tt u=iu u:=fun u hu=>(h2.bn u (h.inv.p5 u (c9 _ hu))).1
 have xL:∀ u,ix u≠0→iu u≠0:=fun u hu=>by rw [(h.bn u hu).1];exact hu
 have rE:S0++v::(T++T2)=(S0++v::T)++T2:=by simp
 refine ⟨by rw [rE];exact h2.inv,fun u hu=>?_,by rw [F7.1];exact h.Bo,fun u h3 h4=>?_,by have:=h2.xM;have:=h.xM;omega,h.sn.trans h2.sn,?_,fun y hy=>?_,fun y hy hs=>?_,fun u hu w hw he=>?_,?_⟩
 · rw [v8 (ev u hu),(h2.bn u (xL u hu)).1,(h2.bn u (xL u hu)).2];exact h.bn u hu
 · by_cases e:iu u=0
   · have:=h2.new u e h4;have:=h.xM;omega
   · rw [(h2.bn u e).1];exact h.new u h3 e
 · rw [rU,F7.1,F7.2]
   have:=h.Ah;omega
 · rcases ay.1 hy with h1 | h1
   · rw [(h2.bn y (h.tq y h1)).1];exact h.tq y h1
   · rw [aW] at h1;subst h1;exact h2.W9
 · rw [rU];rcases ay.1 hy with h1 | h1
   · rw [F7.2,hkS y hs]
     have:=h.uK y h1 hs;omega
   · rw [aW] at h1;subst h1;exact (h.inv.p5 y (c9 _ hs) h0).elim
 · rw [rU];rcases ay.1 hu with h1 | h1
   · rw [F7.2,hkS w hw]
     have:=h.uL u h1 w hw he;omega
   · have:=h2.eds u h1 w (c9 _ hw) he;omega
 · rw [rU];by_cases hc:rV v≤rV x
   · rw [da hc];obtain ⟨w,a,b,c⟩:=h.low;exact ⟨w,by rw [rE];exact c9 _ a,by rw [(h2.bn w (h.inv.p5 w a)).1,F7.2];exact b,c⟩
   · rw [jC (by omega)]
     rcases h2.low with ⟨h3,h4⟩ | ⟨h3,w,a,b,c⟩
     · have h5:=h2.new x h0 h2.W9;have h6:=h.Ah;have h7:=h.xM;rw [F7.2,h4] at hc;have h8:=h.Bo;omega
     · exact ⟨w,by rw [rE];exact c9 _ a,b,(Rc.one hx).trans c⟩
theorem j8.stay (h:j8 Ed n G v ix lo S0 cnt out D iu km T jL jM) (hD:∀ w,Ed v w→w∈D) (eE:km v<iu v) :
 w6 Ed n G v ix lo S0 cnt out iu km (v::T) jL jM:=by
 obtain ⟨w,a,b,c⟩:=h.low;have hw:w∈S0:=by
  rcases ay.1 a with h1 | h1
  · exact h1
  · have:=h.sv w h1;omega
 refine ⟨h.inv.stay (fun x hx=>h.tq x (hD x hx)) a (by omega) c,h.bn,by rw [h.Bo];omega,h.new,h.Ah,by have:=h.xM;omega,h.sn,fun u hu x hx he=>?_,.inr ⟨eE,w,hw,b,c⟩⟩
 rcases aM.1 hu with e | e
 · subst e;exact h.uK x (hD x he) hx
 · exact h.uL u e x hx he
theorem j8.pop (h:j8 Ed n G v ix lo S0 cnt out D iu km T jL jM) (hD:∀ w,Ed v w→w∈D) (heq:km v=iu v) (Mh:∀ g∈G,g∈S0) :
 w6 Ed n G v ix lo S0 cnt out iu km [] jL (jM++[v::T]):=by
 have eE:∀ w∈S0,iu w<iu v:=fun w hw=>(cB.1 h.inv.F4).2.2 w hw v (by simp)
 refine ⟨?_,h.bn,by rw [h.Bo];omega,h.new,h.Ah,by have:=h.xM;omega,h.sn.trans (List.prefix_append _ _),by simp,.inl ⟨rfl,heq⟩⟩
 rw [bF];refine h.inv.pop (fun x hx=>h.tq x (hD x hx)) Mh fun u hu w hw he=>?_
 have h1:=eE w hw;rcases aM.1 hu with e | e
 · subst e
   have:=h.uK w (hD w he) hw;omega
 · have:=h.uL u e w hw he;omega
end
end
end Go.Mid
namespace Go.Mid
def Ai (E:oL):Nat→Nat→Prop:=fun u w=>((u:Int),(w:Int))∈E
def rW (n:Nat) (f:Nat→Nat):List Int:=Ag n fun v=>((f v:Nat):Int)
theorem Aj {n j:Nat} {f:Nat→Nat} (h:j<n):(rW n f)[j]?=some ((f j:Nat):Int):=Qx h
theorem Qz {n v c:Nat} {f:Nat→Nat} (h:v<n):(rW n f).set v (c:Int)=rW n (w5 f v c):=by
 unfold rW;rw [D17 h];refine D16 fun j _=>?_
 by_cases e:j=v
 · subst e;simp [rU]
 · simp [e,v8 e]
abbrev TSt:=List (List Int)×(List Int×Nat)×(List Int×Nat)×(List Bool×Nat)×(List Int×Nat)×Int×List (List Int)×Nat
def so (n:Nat) (E:oL) (ix lo:Nat→Nat) (ot:List Nat) (cnt:Nat) (out:List (List Nat)):TSt :=
 (qW n E,(rW n ix,n),(rW n lo,n),(tp n ot,n),(jS ot,ot.length),(cnt:Int),lq out,out.length)
theorem C6H (a b:Nat):(if (b:Int)<(a:Int) then (b:Int) else (a:Int))=((min a b:Nat):Int):=by
 split<;>omega
theorem Mj {n v:Nat} {o:List Nat} (h:v<n):(tp n o)[v]?=some (o.contains v):=Qw h
theorem B4W {o:List Nat} {v:Nat} (h:v∈o):o.contains v=true:=bD.2 h
theorem B3E {o:List Nat} {v:Nat} (h:v∉o):o.contains v=false:=by
 cases hc:o.contains v
 · rfl
 · exact (h (bD.1 hc)).elim
theorem C4S {n:Nat} {ix:Nat→Nat} {v:Nat} (hv:v<n) (h0:ix v=0):(bp n).countP (fun u=>ix u != 0)<n:=by
 have h1:(bp n).countP (fun u=>ix u != 0)<(bp n).countP (fun _=>true) :=
  W0 (fun _ _ _=>rfl) ⟨v,bX.2 hv,by simp [h0],rfl⟩
 simpa using h1
theorem C8q {S0 T:List Nat} {v:Nat} (h:v∉S0) (hl:(S0++v::T).length≤1000000):Li (jS (S0++v::T),(v:Int))=some (S0.length:Int):=by
 unfold Li;have hL:(jS (S0++v::T)).length=(S0++v::T).length:=Bn _;have hlen:S0.length<(S0++v::T).length:=by simp
 have:=qE (f:=PF) S0.length (fun i=>(jS (S0++v::T),(v:Int),((S0++v::T).length:Int),(i:Int))) (.inl (S0.length:Int)) (fun i hi=>by
  have oR:i<(S0++v::T).length:=by omega
  have dP:(i:Int)<((S0++v::T).length:Int):=by omega
  have hg:(jS (S0++v::T))[i]?=some ((S0[i]:Nat):Int):=by
   rw [W4 oR,List.getElem_append_left hi]
  have ev:(((v:Nat):Int)==((S0[i]:Nat):Int))=false:=by
   rw [beq_eq_false_iff_ne];intro e
   have:v=S0[i]:=by omega
   exact h (this ▸ aJ hi)
  simp only [PF,dP,decide_true,cond_true,aj,aq,hg,ah,ev,cond_false,gW (show i<9223372036854775807 by omega)]) (by
  have dP:(S0.length:Int)<((S0++v::T).length:Int):=by omega
  have hg:(jS (S0++v::T))[S0.length]?=some (v:Int):=by
   rw [W4 hlen,List.getElem_append_right (au _)];simp
  simp only [PF,dP,decide_true,cond_true,aj,aq,hg,ah,beq_self_eq_true])
 simp only [cj] at this;simp only [hL,this,ah,qc]
theorem D30 {n:Nat} {E:oL} {ix lo:Nat→Nat} {S0 L st:List Nat} {cnt:Nat} {out:List (List Nat)} (hL:∀ x∈L,x<n) (iq:(S0++L).Nodup) (hl:L.length≤1000000) :
 dq Lj ((L.length,L.length,(L.length:Int),0),jS L,qW n E,(rW n ix,n),(rW n lo,n),(tp n (S0++L),n),(jS st,st.length),(cnt:Int),lq out,out.length) =
  some (L.length,jS L,so n E ix lo st cnt out |>.1,(rW n ix,n),(rW n lo,n),(tp n S0,n),(jS st,st.length),(cnt:Int),lq out,out.length):=by
 have:=qE (f:=Lj) L.length (fun i=>((L.length,L.length,(L.length:Int),(i:Int)),jS L,qW n E,(rW n ix,n),(rW n lo,n),(tp n (S0++L.drop i),n),(jS st,st.length),(cnt:Int),lq out,out.length))
  (L.length,jS L,qW n E,(rW n ix,n),(rW n lo,n),(tp n S0,n),(jS st,st.length),(cnt:Int),lq out,out.length) (fun i hi=>by
  have dP:(i:Int)<(L.length:Int):=by omega
  have hn:L[i]<n:=hL _ (aJ hi);have hg:(tp n (S0++L.drop i))[L[i]]?=some true:=by
   rw [Mj hn,B4W];rw [b4 hi];exact kS _ gu
  have rl:(tp n (S0++L.drop i)).set L[i] false=tp n (S0++L.drop (i+1)):=by
   unfold tp;rw [C4R hn];refine WZ fun j _=>?_
   have CD:(S0++L.drop i).Nodup:=iq.sublist (List.Sublist.append_left (List.drop_sublist i L) S0);rw [b4 hi] at CD ⊢;by_cases e:j=L[i]
   · subst e;rw [if_pos rfl,B3E];rw [aT] at CD;intro hm;rcases ay.1 hm with h1 | h1
     · exact CD.2.2 _ h1 _ gu rfl
     · exact (b5.1 CD.2.1).1 h1
   · rw [if_neg e,cn,bD,bD,ay,ay,aM];simp only [e,false_or]
  simp only [Lj,dP,decide_true,cond_true,aj,aq,ln hi,W4 hi,ah,ln hn,hg,rl,gW (show i<9223372036854775807 by omega)]) (by
  simp only [Lj,aY,decide_false,cond_false,ff,bF])
 simpa [so] using this
section
variable {n:Nat} {E:oL}
def D0k (n:Nat) (E:oL) (m:Nat):Prop:=∀ (v:Nat) (ix lo:Nat→Nat) (S0:List Nat) (cnt:Nat) (out:List (List Nat)) (G:List Nat),n-cnt≤m→kY (Ai E) n G ix S0 cnt out→v<n→ix v=0→(∀ g∈G,Rc (Ai E) g v) →
 ∃ iu km T jL jM,(∀ k,m<k→DJ k ((v:Int),so n E ix lo S0 cnt out)=some (so n E iu km (S0++T) jL jM))∧w6 (Ai E) n G v ix lo S0 cnt out iu km T jL jM
theorem QA (hn:n≤1000) (hr:CC n E) (hE:E.length≤1000) {m:Nat} (IH:D0k n E m) {v:Nat} (hv:v<n) {ix lo:Nat→Nat} (h0:ix v=0) {S0:List Nat} {cnt:Nat} {out:List (List Nat)} {G:List Nat} (hG:∀ g∈G,Rc (Ai E) g v) (hm:n-(cnt+1)≤m) :
 ∀ (R:List Int) (i:Nat) (iu km:Nat→Nat) (T:List Nat) (jL:Nat) (jM:List (List Nat)),(sm E v).drop i=R→i≤(sm E v).length→j8 (Ai E) n G v ix lo S0 cnt out (((sm E v).take i).map l4) iu km T jL jM →
  ∃ tt rV T2 p6 na,(∀ k,m<k→dq (HM (DJ k)) (((v:Int),sm E v,((sm E v).length:Int),(i:Int)),so n E iu km (S0++v::T) jL jM)=some ((v:Int),so n E tt rV (S0++v::T2) p6 na)) ∧
   j8 (Ai E) n G v ix lo S0 cnt out ((sm E v).map l4) tt rV T2 p6 na
 | [],i,iu,km,T,jL,jM,hd,hi,h=>by
   have hie:i=(sm E v).length:=by
    have:=congrArg cE hd
    rw [cz] at this;simp at this;omega
   subst hie;rw [dS] at h;refine ⟨iu,km,T,jL,jM,fun k _=>pV ?_,h⟩
   simp only [HM,so,aY,decide_false,cond_false]
 | x::R,i,iu,km,T,jL,jM,hd,hi,h=>by
   have oR:i<(sm E v).length:=by
    have:=congrArg cE hd
    rw [cz] at this;simp at this;omega
   have hx:(sm E v)[i]=x∧(sm E v).drop (i+1)=R:=by
    rw [b4 oR] at hd;exact List.cons.inj hd
   have hN:=D14 hn hr hE;have pf:sm E v∈qW n E:=bI (W3 hv);have hf:=hN.Qt _ pf;obtain ⟨w,hw⟩:∃ w:Nat,(sm E v)[i]=(w:Int):=eM (hN.vY _ pf _ (aJ oR)).1;have CE:w<n:=by have:=(hN.vY _ pf _ (aJ oR)).2;rw [hw] at this;omega
   have QB:Ai E v w:=C6G.1 (hw ▸ aJ oR);have Ak:((sm E v).take (i+1)).map l4=((sm E v).take i).map l4++[w]:=by
    rw [sM oR,b8,hw];rfl
   have ev:∀ u,ix u≠0→u≠v:=fun u hu e=>hu (e ▸ h0)
   have dP:(i:Int)<((sm E v).length:Int):=by omega
   by_cases c0:iu w=0
   · obtain ⟨tt,rV,T2,p6,na,e1,hp⟩:=IH w iu km (S0++v::T) jL jM (v::G) (by have:=h.xM;omega) h.inv CE c0 (fun g hg=>by
      rcases aM.1 hg with e | e
      · subst e;exact .one QB
      · exact (hG g e).trans (.one QB))
     have h2:=h.call QB c0 ev hp;rw [← Ak] at h2;obtain ⟨Mk,Ml,T3,Al,Am,e3,h3⟩:=QA hn hr hE IH hv h0 hG hm R (i+1) _ _ _ _ _ hx.2 oR h2;refine ⟨Mk,Ml,T3,Al,Am,fun k hk=>?_,h3⟩
     rw [← e3 k hk];refine uG ?_;have e1:=e1 k hk;have hz:(((iu w:Nat):Int)==0)=true:=by rw [c0];rfl
     have rE:S0++v::(T++T2)=(S0++v::T)++T2:=by simp
     rw [rE];simp only [so] at e1 ⊢;simp only [HM,dP,decide_true,cond_true,aj,aq,af oR,hw,ah,ln CE,ln hv,Aj CE,Aj hv,hz,e1,C6H,Qz hv,gW (show i<9223372036854775807 by omega)]
   · have hz:(((iu w:Nat):Int)==0)=false:=by rw [beq_eq_false_iff_ne];omega
     by_cases c1:w∈S0++v::T
     · have h2:=h.on QB c1 ev;rw [← Ak] at h2;obtain ⟨Mk,Ml,T3,Al,Am,e3,h3⟩:=QA hn hr hE IH hv h0 hG hm R (i+1) _ _ _ _ _ hx.2 oR h2;refine ⟨Mk,Ml,T3,Al,Am,fun k hk=>?_,h3⟩
       rw [← e3 k hk];refine uG ?_;simp only [so];simp only [HM,dP,decide_true,cond_true,aj,aq,af oR,hw,ah,ln CE,ln hv,Aj CE,Aj hv,hz,cond_false,Mj CE,B4W c1,C6H,Qz hv,gW (show i<9223372036854775807 by omega)]
     · have h2:=h.off c0 c1;rw [← Ak] at h2;obtain ⟨Mk,Ml,T3,Al,Am,e3,h3⟩:=QA hn hr hE IH hv h0 hG hm R (i+1) _ _ _ _ _ hx.2 oR h2;refine ⟨Mk,Ml,T3,Al,Am,fun k hk=>?_,h3⟩
       rw [← e3 k hk];refine uG ?_;simp only [so];simp only [HM,dP,decide_true,cond_true,aj,aq,af oR,hw,ah,ln CE,ln hv,Aj CE,hz,cond_false,Mj CE,B3E c1,gW (show i<9223372036854775807 by omega)]
theorem kY.len {Ed:Nat→Nat→Prop} {G:List Nat} {ix:Nat→Nat} {ot:List Nat} {cnt:Nat} {out:List (List Nat)} (h:kY Ed n G ix ot cnt out):ot.length≤n:=by
 have:=Md h.W5 (m:=bp n) fun x hx=>bX.2 (h.vY x (h.p5 x hx))
 simpa using this
theorem B7v:∀ {out:List (List Nat)},(∀ C∈out,C ≠ [])→out.Pairwise (fun C D=>∀ x∈C,x∉D)→(out.map fun C=>C.headD 0).Nodup
 | [],_,_=>by simp
 | C::r,h1,h2=>by
   have rk:=bM.1 h2;rw [aG,b5];refine ⟨fun hm=>?_,B7v (fun D hD=>h1 D (bU _ hD)) rk.2⟩
   obtain ⟨D,hD,e⟩:=bh.1 hm;have hC:C.headD 0∈C:=by
    cases C with
    | nil=>exact (h1 [] (by simp) rfl).elim
    | cons a l=>simp
   have hD2:D.headD 0∈D:=by
    cases D with
    | nil=>exact (h1 [] (bU _ hD) rfl).elim
    | cons a l=>simp
   rw [e] at hD2;exact rk.1 D hD _ hC hD2
theorem kY.Ao {Ed:Nat→Nat→Prop} {G:List Nat} {ix:Nat→Nat} {ot:List Nat} {cnt:Nat} {out:List (List Nat)} (h:kY Ed n G ix ot cnt out):out.length≤n:=by
 have h1:=B7v (fun C hC=>(h.v7 C hC).1) h.H7
 have:=Md h1 (m:=bp n) fun x hx=>by
  obtain ⟨C,hC,rfl⟩:=bh.1 hx;have hm:C.headD 0∈C:=by
   cases C with
   | nil=>exact ((h.v7 [] hC).1 rfl).elim
   | cons a l=>simp
  exact bX.2 (h.vY _ ((h.v7 C hC).2.2 _ hm).1.1)
 simpa using this
theorem D31 (hn:n≤1000) (hr:CC n E) (hE:E.length≤1000):∀ m,D0k n E m:=by
 intro m
 induction m with
 | zero =>
   intro v ix lo S0 cnt out G hm h hv h0 hG
   have:=C4S hv h0
   rw [h.cc] at this;omega
 | succ m IH =>
   intro v ix lo S0 cnt out G hm h hv h0 hG;have hcn:=C4S hv h0;rw [h.cc] at hcn;have hst:=j8.start (lo:=lo) h hv h0 hG;obtain ⟨tt,rV,T2,p6,na,e1,hL⟩:=QA hn hr hE IH hv h0 hG (by omega) (sm E v) 0 _ _ _ _ _ rfl (dt _) hst
   have hD:∀ w,Ai E v w→w∈(sm E v).map l4:=fun w hw=>bh.2 ⟨(w:Int),C6G.2 hw,aq w⟩
   have tK:=h.len;have aqX:=hL.inv.len;have IK:=hL.inv.Ao;have Np:aR S0.length (jS S0)=jS S0:=aZ (by rw [Bn];exact au _)
   have hwr:ai.wrap ((cnt:Int)+1)=((cnt+1:Nat):Int):=gW (by omega)
   have hsn:jS S0++[(v:Int)]=jS (S0++[v]):=(D0i _ _).symm;have aqY:S0.length+1=(S0++[v]).length:=by simp
   by_cases hc:rV v=tt v
   · have hp:=hL.pop hD hc h.H6;refine ⟨tt,rV,[],p6,na++[v::T2],fun k hk=>?_,hp⟩
     obtain ⟨k',rfl⟩:∃ k',k=k'+1:=⟨k-1,by omega⟩
     have e1:=e1 k' (by omega)
     have hb:(((rV v:Nat):Int) != ((tt v:Nat):Int))=false:=by rw [hc];simp
     have hvS:v∉S0:=fun hs=>h.p5 v hs h0
     have AM:=C8q (T:=T2) hvS (by omega)
     have tk1:aR (S0++v::T2).length (jS (S0++v::T2))=jS (S0++v::T2):=aZ (by rw [Bn];exact au _)
     have dr:List.drop S0.length (jS (S0++v::T2))=jS (v::T2):=by
      unfold jS;rw [← List.map_drop,List.drop_left]
     have tk2:aR S0.length (jS (S0++v::T2))=jS S0:=by
      unfold jS;rw [← List.map_take,List.take_left]
     have BN:(S0++v::T2).length-S0.length=(v::T2).length:=by simp
     have tk3:aR (v::T2).length (jS (v::T2))=jS (v::T2):=aZ (by rw [Bn];exact au _)
     have hlT:(v::T2).length≤1000:=by
      have:(S0++v::T2).length=S0.length+(v::T2).length:=by simp
      omega
     have nP:Cx 8 (jS (v::T2))=some ((v::T2).length,jS (v::T2)):=by
      unfold Cx;rw [Bn,iy (show (v::T2).length*8≤140737488355328 by omega)]
      rfl
     have Ad:=D30 (n:=n) (E:=E) (ix:=tt) (lo:=rV) (S0:=S0) (L:=v::T2) (st:=S0) (cnt:=p6) (out:=na) (fun x hx=>hL.inv.vY x (hL.inv.p5 x (kS _ hx))) hL.inv.W5 (by omega)
     simp only [so] at e1 Ad ⊢;have tk4:aR na.length (lq na)=lq na:=aZ (by rw [Qy];exact au _)
     have qg:lq na++[jS (v::T2)]=lq (na++[v::T2]):=by simp [lq]
     have q1:jc 0 0=true:=rfl;have q2:jc 1 1=true:=rfl;show Lk (DJ k') _=_;have bb:Nat.ble (S0.length+(v::T2).length) (S0++v::T2).length=true:=iy (by simp)
     simp only [Lk,aj,decide_true,cond_true,aq,ln hv,Aj hv,ah,beq_self_eq_true,Bn,iy (au _),Np,aQ,ba,cX,Mj hv,W3 hv,hwr,Qz hv,C2a hv,hsn];simp only [aQ,ba,cX,cj,bS] at e1 AM bb BN nP Ad tk1 tk3 hlT;rw [iy (show (S0.length+1)*8≤140737488355328 by omega)]
     simp only [cond_true,bS,iy (au _),e1,ah,aj,decide_true,aq,ln hv,Aj hv,hb,cond_false,tk1,AM,iy (Nat.le_add_right _ _),BN,bb,dr,tk3,nP,tk2,Ad,Bn,ba,q1,q2,beq_self_eq_true,Qy,tk4,qg,bF];rw [iy (show (na.length+1)*24≤140737488355328 by omega),iy (show S0.length+(T2.length+1)≤(S0++v::T2).length by simp)]
     rfl
   · have eE:rV v<tt v:=by have:=hL.Ah;omega
     have hp:=hL.stay hD eE;refine ⟨tt,rV,v::T2,p6,na,fun k hk=>?_,hp⟩
     obtain ⟨k',rfl⟩:∃ k',k=k'+1:=⟨k-1,by omega⟩
     have e1:=e1 k' (by omega)
     have hb:(((rV v:Nat):Int) != ((tt v:Nat):Int))=true:=by simp;omega
     simp only [so] at e1 ⊢;show Lk (DJ k') _=_;simp only [Lk,aj,decide_true,cond_true,aq,ln hv,Aj hv,ah,beq_self_eq_true,Bn,iy (au _),Np,aQ,ba,cX,Mj hv,W3 hv,hwr,Qz hv,C2a hv,hsn];simp only [aQ,ba,cX,cj,bS] at e1;rw [iy (show (S0.length+1)*8≤140737488355328 by omega)]
     simp only [cond_true,bS,iy (au _),e1,ah,aj,decide_true,aq,ln hv,Aj hv,hb]
end
end Go.Mid
namespace Go.Mid
def kh (C:List Nat):Nat:=C.headD 0
def wa (M:List (List Nat)):Nat→List (List Nat)
 | 0=>M
 | j+1=>match M[j+1]?,M[j]? with
   | some x,some y=>if kh x<kh y then wa ((M.set (j+1) y).set j x) j else M
   | _,_=>M
theorem C6I:∀ (j:Nat) (M:List (List Nat)),(wa M j).length=M.length
 | 0,M=>rfl
 | j+1,M=>by
   unfold wa;split
   · split
     · rw [C6I j];simp
     · rfl
   · rfl
def DS (x:List Nat) (P:List (List Nat)):List (List Nat):=(P.filter fun y=>!decide (kh x<kh y))++x::P.filter fun y=>decide (kh x<kh y)
theorem C6J:∀ (j:Nat) (P:List (List Nat)) (x:List Nat) (R:List (List Nat)),P.length=j→P.Pairwise (fun a b=>kh a≤kh b)→wa (P++x::R) j=DS x P++R
 | 0,P,x,R,hl,hp=>by
   have:P=[]:=ib.1 hl
   subst this;rfl
 | j+1,P,x,R,hl,hp=>by
   have ev:P ≠ []:=fun e=>by rw [e] at hl;simp at hl
   obtain ⟨Q,y,rfl⟩:∃ Q y,P=Q++[y]:=⟨P.dropLast,P.getLast ev,(List.dropLast_concat_getLast ev).symm⟩;have hQ:Q.length=j:=by simpa using hl
   have h1:(Q++[y]++x::R)[j+1]?=some x:=by rw [bH (by omega),hl];simp
   have h2:(Q++[y]++x::R)[j]?=some y:=by rw [bf,bH (by omega),hQ];simp
   have iM:=cB.1 hp;unfold wa;rw [h1,h2]
   dsimp only
   by_cases c:kh x<kh y
   · rw [if_pos c];have hs:(((Q++[y]++x::R).set (j+1) y).set j x)=Q++x::(y::R):=by
      rw [ez _ _ (by omega),hl]
      simp only [gD,dZ];rw [bf,ez _ _ (by omega),hQ]
      simp
     rw [hs,C6J j Q x (y::R) hQ iM.1];unfold DS;simp [eJ,c]
   · rw [if_neg c];have ko:∀ z∈Q++[y],¬ kh x<kh z:=fun z hz=>by
      rcases ay.1 hz with h | h
      · have:=iM.2.2 z h y (by simp)
        omega
      · rw [aW] at h;subst h;exact c
     have f1:(Q++[y]).filter (fun z=>!decide (kh x<kh z))=Q++[y]:=List.filter_eq_self.2 fun z hz=>by simp;have:=ko z hz;omega
     have f2:(Q++[y]).filter (fun z=>decide (kh x<kh z))=[]:=iI.2 fun z hz=>by simp;have:=ko z hz;omega
     unfold DS;rw [f1,f2];simp
theorem D0l (x:List Nat) (P:List (List Nat)):(DS x P).Perm (x::P):=by
 unfold DS;refine List.perm_middle.trans (List.Perm.cons x ?_)
 have:=List.filter_append_perm (fun y=>!decide (kh x<kh y)) P
 simpa using this
theorem C5F {x:List Nat} {P:List (List Nat)} (h:P.Pairwise (fun a b=>kh a≤kh b)):(DS x P).Pairwise (fun a b=>kh a≤kh b):=by
 unfold DS;rw [cB,bM];refine ⟨h.filter _,⟨fun y hy=>?_,h.filter _⟩,fun a ha b hb=>?_⟩
 · have:=(cA.1 hy).2
   simp at this;omega
 · have h1:=(cA.1 ha).2;simp at h1;rcases aM.1 hb with e | e
   · subst e;exact h1
   · have h2:=(cA.1 e).2;simp at h2;omega
def yw (M:List (List Nat)):Nat→List (List Nat)
 | 0=>M
 | i+1=>wa (yw M i) (i+1)
theorem C4T (M:List (List Nat)):∀ i,(yw M i).length=M.length
 | 0=>rfl
 | i+1=>by unfold yw;rw [C6I,C4T M i]
theorem C2b (M:List (List Nat)):∀ k,k<M.length→∃ P,yw M k=P++M.drop (k+1)∧P.Perm (M.take (k+1))∧P.Pairwise (fun a b=>kh a≤kh b)
 | 0,h=>⟨M.take 1,(bO 1 M).symm,List.Perm.refl _,by
    cases M with
    | nil=>simp
    | cons a l=>simp⟩
 | k+1,h=>by
   obtain ⟨P,h1,h2,h3⟩:=C2b M k (by omega)
   have hPl:P.length=k+1:=by rw [h2.length_eq,aX];omega
   have hd:M.drop (k+1)=M[k+1]::M.drop (k+1+1):=b4 h;refine ⟨DS M[k+1] P,?_,?_,C5F h3⟩
   · unfold yw;rw [h1,hd,C6J (k+1) P _ _ hPl h3]
   · rw [sM h];refine (D0l _ _).trans ?_;refine (List.Perm.cons _ h2).trans ?_;exact List.perm_append_comm (l₁:=[M[k+1]])
def vk (M:List (List Nat)):List (List Nat):=yw M (M.length-1)
theorem C2c (M:List (List Nat)):(vk M).Perm M∧(vk M).Pairwise (fun a b=>kh a≤kh b):=by
 by_cases h:M=[]
 · subst h;exact ⟨List.Perm.refl _,by simp [vk,yw]⟩
 · have hl:=jP.2 h;obtain ⟨P,h1,h2,h3⟩:=C2b M (M.length-1) (by omega)
   have e:M.length-1+1=M.length:=by omega
   rw [e,ff,bF] at h1;rw [e,dS] at h2;unfold vk;rw [h1];exact ⟨h2,h3⟩
theorem D0m {x y:List Nat} (hx:x ≠ []) (hy:y ≠ []):PI (jS x,jS y)=some (if kh x<kh y then -1 else if kh y<kh x then 1 else 0):=by
 have g:∀ {z:List Nat},z ≠ []→(jS z)[0]?=some ((kh z:Nat):Int):=fun {z} hz=>by
  cases z with
  | nil=>exact (hz rfl).elim
  | cons a l=>rfl
 simp only [PI,g hx,g hy,ah,VH,PH,bne_self_eq_false,cond_false,gt_iff_lt];by_cases h1:kh x<kh y
 · have:((kh x:Nat):Int)<(kh y:Nat):=by omega
   simp [h1,this]
 · have n1:¬ ((kh x:Nat):Int)<(kh y:Nat):=by omega
   by_cases h2:kh y<kh x
   · have:((kh y:Nat):Int)<(kh x:Nat):=by omega
     simp [h1,h2,n1,this]
   · have n2:¬ ((kh y:Nat):Int)<(kh x:Nat):=by omega
     simp [h1,h2,n1,n2]
theorem QC {M:List (List Nat)} {j:Nat}:(lq M)[j]?=(M[j]?).map jS:=by simp [lq]
theorem C6K {M:List (List Nat)} {j:Nat} {x:List Nat}:(lq M).set j (jS x)=lq (M.set j x):=by simp [lq,gC]
section
variable (q1:List (List Int)) (qG:List Int) (qH:Nat) (qI:List Int) (qJ:Nat) (qK:List Bool) (qL:Nat) (qM:List Int) (qN:Nat) (q6:Int) (m:Nat)
theorem D0n (i b:Int):∀ (j:Nat) (M:List (List Nat)),(∀ C∈M,C ≠ [])→j<M.length→M.length≤1000 →
 dq Ll ((M.length,0,b,(),i,(j:Int)),q1,(qG,qH),(qI,qJ),(qK,qL),(qM,qN),q6,lq M,m)=some ((M.length,0,b,(),i),q1,(qG,qH),(qI,qJ),(qK,qL),(qM,qN),q6,lq (wa M j),m)
 | 0,M,ev,hj,hl=>by
   refine pV ?_;simp only [Ll,gt_iff_lt,cj,aY,decide_false,cond_false,wa]
 | j+1,M,ev,hj,hl=>by
   have BU:j<M.length:=by omega
   have FY:(((j+1:Nat):Int)>0):=by omega
   have hw:ai.wrap (((j+1:Nat):Int)-1)=(j:Int):=by rw [wrap_i64 (by omega) (by omega)];omega
   have g1:M[j+1]?=some M[j+1]:=af hj;have g2:M[j]?=some M[j]:=af BU;have n1:=ev _ (aJ hj);have n2:=ev _ (aJ BU);by_cases c:kh M[j+1]<kh M[j]
   · have hb:wa M (j+1)=wa ((M.set (j+1) M[j]).set j M[j+1]) j:=by
      conv=>lhs;unfold wa
      rw [g1,g2]
      dsimp only
      rw [if_pos c]
     have ih:=D0n i b j ((M.set (j+1) M[j]).set j M[j+1]) (fun C hC=>by
      rcases bm hC with h | h
      · rcases bm h with h | h
        · exact ev C h
        · subst h;exact n2
      · subst h;exact n1) (by simpa using BU) (by simpa using hl)
     rw [hb];have e:((M.set (j+1) M[j]).set j M[j+1]).length=M.length:=by simp
     rw [e] at ih;rw [← ih];refine uG ?_;have eE:(-1:Int)<0:=by decide
     have g3:(M.set (j+1) M[j])[j]?=some M[j]:=by rw [eK (by omega)];exact g2
     simp only [Ll,FY,decide_true,cond_true,aj,aq,ln hj,ln BU,hw,QC,g1,g2,g3,ar,ah,D0m n1 n2,c,if_true,eE,C6K]
   · have hb:wa M (j+1)=M:=by
      unfold wa;rw [g1,g2]
      dsimp only
      rw [if_neg c]
     rw [hb];refine pV ?_;have BQ:¬ (if kh M[j]<kh M[j+1] then (1:Int) else 0)<0:=by split<;>decide
     simp only [Ll,FY,decide_true,cond_true,aj,aq,ln hj,ln BU,hw,QC,g1,g2,ar,ah,D0m n1 n2,c,if_false,BQ,decide_false,cond_false]
theorem D32 {M:List (List Nat)} {j:Nat} {C:List Nat} (h:C∈wa M j):C∈M:=by
 induction j generalizing M with
 | zero=>exact h
 | succ j ih =>
   unfold wa at h;split at h
   · rename_i x y h1 h2;split at h
     · rcases bm (ih h) with h3 | h3
       · rcases bm h3 with h4 | h4
         · exact h4
         · subst h4;exact bI h2
       · subst h3;exact bI h1
     · exact h
   · exact h
theorem C4U {M:List (List Nat)} {C:List Nat}:∀ {i:Nat},C∈yw M i→C∈M
 | 0,h=>h
 | i+1,h=>C4U (i:=i) (D32 h)
theorem C4V (M:List (List Nat)) (ev:∀ C∈M,C ≠ []) (hl:M.length≤1000) :
 PJ ((M.length,0,(M.length:Int),()),q1,(qG,qH),(qI,qJ),(qK,qL),(qM,qN),q6,lq M,m)=some (q1,(qG,qH),(qI,qJ),(qK,qL),(qM,qN),q6,lq (vk M),m):=by
 unfold PJ;have w1:ai.wrap ((0:Int)+1)=((0+1:Nat):Int):=rfl;by_cases h0:M=[]
 · subst h0
   have:=pV (f:=Lm) (a:=((0,0,0,(),((0+1:Nat):Int)),q1,(qG,qH),(qI,qJ),(qK,qL),(qM,qN),q6,lq [],m)) (r:=(q1,(qG,qH),(qI,qJ),(qK,qL),(qM,qN),q6,lq [],m)) rfl
   simp only [cX,cj,w1,this,ah];rfl
 · have hlp:=jP.2 h0
   have:=qE (f:=Lm) (M.length-1) (fun i=>((M.length,0,(M.length:Int),(),((i+1:Nat):Int)),q1,(qG,qH),(qI,qJ),(qK,qL),(qM,qN),q6,lq (yw M i),m)) (q1,(qG,qH),(qI,qJ),(qK,qL),(qM,qN),q6,lq (vk M),m) (fun i hi=>by
    have dP:((i+1:Nat):Int)<(M.length:Int):=by omega
    have Bh:=C4T M i;have h1:=D0n q1 qG qH qI qJ qK qL qM qN q6 m ((i+1:Nat):Int) (M.length:Int) (i+1) (yw M i) (fun C hC=>ev C (C4U hC)) (by omega) (by omega)
    rw [Bh] at h1;simp only [Lm,dP,decide_true,cond_true,h1,ah,gW (show i+1<9223372036854775807 by omega),yw]) (by
    have e:M.length-1+1=M.length:=by omega
    simp only [Lm,e,aY,decide_false,cond_false,vk])
   simp only [yw] at this;simp only [w1,this,ah]
theorem D18 (M:List (List Nat)) (ev:∀ C∈M,C ≠ []) (hl:M.length≤12) (y:Int) (hy:HE (aK.wrap (M.length:Int))=some y) :
 Ln ((M.length,()),q1,(qG,qH),(qI,qJ),(qK,qL),(qM,qN),q6,lq M,m)=some (q1,(qG,qH),(qI,qJ),(qK,qL),(qM,qN),q6,lq (vk M),m):=by
 unfold Ln VJ;have h1:=C4V q1 qG qH qI qJ qK qL qM qN q6 m M ev (by omega)
 have hw:ai.wrap ((M.length:Int)-0)≤12:=by rw [wrap_i64 (by omega) (by omega)];omega
 have:=pV (f:=VI) (a:=((M.length,0,(M.length:Int),y,(),true,true),q1,(qG,qH),(qI,qJ),(qK,qL),(qM,qN),q6,lq M,m)) (r:=(q1,(qG,qH),(qI,qJ),(qK,qL),(qM,qN),q6,lq (vk M),m)) (by
  simp only [VI,hw,decide_true,cond_true,h1,ah])
 simp only [hy,ah,this]
end
end Go.Mid
namespace Go.Mid
def qx (C:List Nat):List Nat:=(lT (jS C)).map l4
theorem QD (C:List Nat):jS (qx C)=lT (jS C):=by
 unfold jS qx;rw [List.map_map]
 have:∀ l:List Int,(∀ x∈l,0≤x)→l.map ((fun k:Nat=>(k:Int)) ∘ l4)=l:=by
  intro l h
  induction l with
  | nil=>rfl
  | cons a l ih =>
    rw [aG,ih fun x hx=>h x (bU _ hx)]
    have:=h a (by simp)
    simp only [Function.comp];congr 1;omega
 refine this _ fun x hx=>?_
 have hx:=Qr.1 hx;obtain ⟨k,_,rfl⟩:=bh.1 hx;omega
theorem C4W {C:List Nat} {v:Nat}:(v:Int)∈jS C↔v∈C:=by
 unfold jS;rw [bh];constructor
 · rintro ⟨k,hk,e⟩
   have:k=v:=by omega
   exact this ▸ hk
 · intro h;exact ⟨v,h,rfl⟩
theorem H9 {C:List Nat} {v:Nat}:v∈qx C↔v∈C:=by
 rw [← C4W,QD,Qr,C4W]
theorem C8r {C:List Nat} (h:C.Nodup):(jS C).Nodup:=by
 unfold jS;unfold List.Nodup at h ⊢;rw [ek];exact h.imp fun h e=>h (by omega)
theorem D33 {C:List Nat} (h:C.Nodup):(qx C).Pairwise (· < ·):=by
 have h1:=D0d (C8r h);rw [← QD] at h1;unfold jS at h1;rw [ek] at h1;exact h1.imp fun h=>by omega
theorem QE {C:List Nat} (h:C ≠ []):qx C ≠ []:=by
 cases C with
 | nil=>exact (h rfl).elim
 | cons a l =>
   have:a∈qx (a::l):=H9.2 (by simp)
   intro e;rw [e] at this;cases this
theorem Xa {C:List Nat} (h:C ≠ []):kh C∈C:=by
 cases C with
 | nil=>exact (h rfl).elim
 | cons a l=>simp [kh]
structure Ap (n:Nat) (Ed:Nat→Nat→Prop) (L:List (List Nat)):Prop where
 ne:∀ C∈L,C ≠ []
 asc:∀ C∈L,C.Pairwise (· < ·)
 hd:L.Pairwise (fun C D=>kh C<kh D)
 cls:∀ C∈L,∀ u∈C,u<n∧∀ w,(w∈C↔Rc Ed u w∧Rc Ed w u)
 all:∀ v,v<n→∃ C∈L,v∈C
theorem D51 {n:Nat} {Ed:Nat→Nat→Prop} {ix:Nat→Nat} {cnt:Nat} {out:List (List Nat)} (h:kY Ed n [] ix [] cnt out) (ko:∀ v,v<n→ix v≠0):Ap n Ed (vk (out.map qx)):=by
 obtain ⟨h1,h2⟩:=C2c (out.map qx);have hm:∀ C,C∈vk (out.map qx)↔∃ D∈out,qx D=C:=fun C=>by rw [h1.mem_iff,bh]
 refine ⟨fun C hC=>?_,fun C hC=>?_,?_,fun C hC u hu=>?_,fun v hv=>?_⟩
 · obtain ⟨D,hD,rfl⟩:=(hm C).1 hC;exact QE (h.v7 D hD).1
 · obtain ⟨D,hD,rfl⟩:=(hm C).1 hC;exact D33 (h.v7 D hD).2.1
 · have hd:(out.map qx).Pairwise (fun C D=>kh C≠kh D):=by
    rw [ek];refine h.H7.imp_of_mem fun {C D} hC hD lM e=>?_
    have a:=H9.1 (Xa (QE (h.v7 C hC).1));have b:=H9.1 (Xa (QE (h.v7 D hD).1));rw [e] at a;exact lM _ a b
   have hd2:=(h1.pairwise_iff (R:=fun C D=>kh C≠kh D) (fun {a b} s5 e=>s5 e.symm)).2 hd
   exact (h2.and hd2).imp fun ⟨a,b⟩=>by omega
 · obtain ⟨D,hD,rfl⟩:=(hm C).1 hC;have hu:=H9.1 hu;obtain ⟨a,b⟩:=(h.v7 D hD).2.2 u hu;exact ⟨h.vY u a.1,fun w=>by rw [H9];exact b w⟩
 · obtain ⟨D,hD,vA⟩:=h.Mg v (ko v hv) (by simp)
   exact ⟨qx D,(hm _).2 ⟨D,hD,rfl⟩,H9.2 vA⟩
section
variable (q1:List (List Int)) (qG:List Int) (qH:Nat) (qI:List Int) (qJ:Nat) (qK:List Bool) (qL:Nat) (qM:List Int) (qN:Nat) (q6:Int)
theorem C8s (M:List (List Nat)) (ev:∀ C∈M,C.length≤1000) (hl:M.length≤1000) :
 dq Lo ((M.length,M.length,(M.length:Int),0),q1,(qG,qH),(qI,qJ),(qK,qL),(qM,qN),q6,lq M,M.length)=some (M.length,q1,(qG,qH),(qI,qJ),(qK,qL),(qM,qN),q6,lq (M.map qx),M.length):=by
 let T:Nat→List (List Nat):=fun i=>(M.take i).map qx++M.drop i
 have hT0:T 0=M:=by simp [T]
 have hTn:T M.length=M.map qx:=by simp [T]
 have:=qE (f:=Lo) M.length (fun i=>((M.length,M.length,(M.length:Int),(i:Int)),q1,(qG,qH),(qI,qJ),(qK,qL),(qM,qN),q6,lq (T i),M.length)) (M.length,q1,(qG,qH),(qI,qJ),(qK,qL),(qM,qN),q6,lq (T M.length),M.length) (fun i hi=>by
  have dP:(i:Int)<(M.length:Int):=by omega
  have hTi:((M.take i).map qx).length=i:=by rw [aD,aX];omega
  have hg:(lq (T i))[i]?=some (jS M[i]):=by
   rw [QC];simp only [T];rw [bH (by omega),hTi,gD,b4 hi]
   rfl
  have rl:(T i).set i (qx M[i])=T (i+1):=by
   simp only [T];rw [ez _ _ (by omega),hTi,gD,b4 hi,dZ,sM hi,b8]
   simp
  have hlen:=ev _ (aJ hi);have tk:aR (jS M[i]).length (jS M[i])=jS M[i]:=mX _;have ov:m8 (jS M[i]) none (lT (jS M[i]))=jS (qx M[i]):=by
   unfold m8;simp only;rw [FM,ff,bF,QD]
  have hle:((jS M[i]).length==(jS (qx M[i])).length)=true:=by rw [QD,FM];simp
  have hS:PG ((i,(jS M[i]).length),q1,(qG,qH),(qI,qJ),(qK,qL),(qM,qN),q6,lq (T i),M.length)=some (q1,(qG,qH),(qI,qJ),(qK,qL),(qM,qN),q6,lq (T (i+1)),M.length):=by
   simp only [PG,hg,ah,iy (au _),cond_true,tk,ov,hle,C6K,rl];rw [ln (by rw [Bn];omega)]
   rfl
  simp only [Lo,dP,decide_true,cond_true,aj,aq,ln hi,hg,ah,hS,gW (show i<9223372036854775807 by omega)]) (by
  simp only [Lo,aY,decide_false,cond_false])
 rw [hT0,hTn] at this;exact this
theorem B4X (k:Nat) (h:k≤12):∃ y,HE (aK.wrap (k:Int))=some y:=by
 have:((bp 13).all fun k=>(HE (aK.wrap ((k:Nat):Int))).isSome)=true:=by kernel_rfl
 exact fm.1 (List.all_eq_true.1 this k (bX.2 (by omega)))
theorem C8t (M:List (List Nat)) (ev:∀ C∈M,C ≠ []) (hlen:∀ C∈M,C.length≤1000) (hl:M.length≤12) :
 PK (M.length,q1,(qG,qH),(qI,qJ),(qK,qL),(qM,qN),q6,lq M,M.length)=some (M.length,q1,(qG,qH),(qI,qJ),(qK,qL),(qM,qN),q6,lq (vk (M.map qx)),M.length):=by
 obtain ⟨y,hy⟩:=B4X M.length hl;have h1:=C8s q1 qG qH qI qJ qK qL qM qN q6 M hlen (by omega)
 have e:(M.map qx).length=M.length:=by simp
 have h2:=D18 q1 qG qH qI qJ qK qL qM qN q6 M.length (M.map qx) (fun C hC=>by
  obtain ⟨D,hD,rfl⟩:=bh.1 hC;exact QE (ev D hD)) (by omega) y (by rw [e];exact hy)
 rw [e] at h2;unfold PK;have hp:=B4V (lq (M.map qx));simp only [h1,ah,cond_true];exact (congrArg (fun l=>(Ln ((M.length,()),q1,(qG,qH),(qI,qJ),(qK,qL),(qM,qN),q6,l,M.length)).bind fun w=>some (M.length,w.1,(w.2.1.1,w.2.1.2),(w.2.2.1.1,w.2.2.1.2),(w.2.2.2.1.1,w.2.2.2.1.2),(w.2.2.2.2.1.1,w.2.2.2.2.1.2),w.2.2.2.2.2.1,w.2.2.2.2.2.2.1,w.2.2.2.2.2.2.2)) hp).trans (by simp only [h2,ah])
end
theorem Xb {n:Nat} {E:oL} (hn:n≤1000) (hr:CC n E) (hE:E.length≤1000):∀ (k i:Nat) (ix lo:Nat→Nat) (cnt:Nat) (out:List (List Nat)),i+k=n→kY (Ai E) n [] ix [] cnt out→(∀ v,v<i→ix v≠0) →
 ∃ iu km jL jM,dq HN (((n:Int),(i:Int)),so n E ix lo [] cnt out)=some (so n E iu km [] jL jM)∧kY (Ai E) n [] iu [] jL jM∧∀ v,v<n→iu v≠0
 | 0,i,ix,lo,cnt,out,hk,h,hv=>by
   have:i=n:=by omega
   subst this;refine ⟨ix,lo,cnt,out,pV ?_,h,hv⟩;simp only [HN,so,aY,decide_false,cond_false]
 | k+1,i,ix,lo,cnt,out,hk,h,hv=>by
   have hi:i<n:=by omega
   have dP:(i:Int)<(n:Int):=by omega
   by_cases c:ix i=0
   · obtain ⟨iu,km,T,jL,jM,e1,hp⟩:=D31 hn hr hE (n-cnt) i ix lo [] cnt out [] (au _) h hi c (by simp)
     have hT:T=[]:=by
      have:=hp.inv.fin
      simpa using this
     subst hT;have e2:=C6p (n-cnt+1) (fun m hm=>e1 m (by omega))
     have e2:VG ((i:Int),so n E ix lo [] cnt out)=some (so n E iu km [] jL jM):=e2;obtain ⟨tt,rV,p6,na,e3,h3,h4⟩:=Xb hn hr hE k (i+1) iu km jL jM (by omega) hp.inv fun v vA=>by
      rcases Nat.lt_succ_iff_lt_or_eq.1 vA with e | e
      · rw [(hp.bn v (hv v e)).1];exact hv v e
      · subst e;exact hp.W9
     refine ⟨tt,rV,p6,na,?_,h3,h4⟩;rw [← e3];refine uG ?_;have hz:(((ix i:Nat):Int)==0)=true:=by rw [c];rfl
     simp only [so] at e2 ⊢;simp only [HN,dP,decide_true,cond_true,aj,aq,ln hi,Aj hi,ah,hz,e2,gW (show i<9223372036854775807 by omega)]
   · obtain ⟨tt,rV,p6,na,e3,h3,h4⟩:=Xb hn hr hE k (i+1) ix lo cnt out (by omega) h fun v vA=>by
      rcases Nat.lt_succ_iff_lt_or_eq.1 vA with e | e
      · exact hv v e
      · subst e;exact c
     refine ⟨tt,rV,p6,na,?_,h3,h4⟩;rw [← e3];refine uG ?_;have hz:(((ix i:Nat):Int)==0)=false:=by rw [beq_eq_false_iff_ne];omega
     simp only [so];simp only [HN,dP,decide_true,cond_true,aj,aq,ln hi,Aj hi,ah,hz,cond_false,gW (show i<9223372036854775807 by omega)]
theorem B9W {n:Nat} {E:oL} (h:H4 n E=0) (hn:n≤12) (hr:CC n E) (hE:E.length≤1000):∃ L,PL ((n:Int),E)=some (lq L,0)∧Ap n (Ai E) L:=by
 obtain ⟨ix,lo,cnt,out,e1,h1,h2⟩:=Xb (show n≤1000 by omega) hr hE n 0 (fun _=>0) (fun _=>0) 0 [] (by omega) (kY.nil n) (fun v hv=>by omega)
 have IK:=h1.Ao;have hz:az n (0:Int)=rW n (fun _=>0):=by simp [rW,Ag,List.map_const']
 have hd:az n false=tp n []:=by
  unfold tp;rw [D15];exact WZ fun _ _=>rfl
 have h3:=C8t (qW n E) (rW n ix) n (rW n lo) n (tp n []) n (jS []) ([]:List Nat).length (cnt:Int) out (fun C hC=>(h1.v7 C hC).1) (fun C hC=>by
  obtain ⟨_,a,b⟩:=h1.v7 C hC
  have:=Md a (m:=bp n) fun x hx=>bX.2 (h1.vY x (b x hx).1.1)
  rw [List.length_range] at this;omega) (by omega)
 refine ⟨vk (out.map qx),?_,D51 h1 h2⟩;have e1:dq HN (((n:Int),0),qW n E,(rW n (fun _=>0),n),(rW n (fun _=>0),n),(tp n [],n),([],0),0,[],0)=some (so n E ix lo [] cnt out):=e1
 have IQ:(rW n (fun _=>0)).length=n:=by simp [rW,Ag]
 have hld:(tp n []).length=n:=D0j n [];simp only [PL,C0W,ah,h,bne_self_eq_false,cond_false,C2o (show n≤1000 by omega) hr hE,aj,decide_true,cond_true,lI,aq,hz,hd,IQ,hld,iy (au _)]
 rw [iy (show n*8≤140737488355328 by omega),iy (show n*1≤140737488355328 by omega)]
 simp only [cond_true,e1,ah,so,h3];have tD:(vk (out.map qx)).length=out.length:=by rw [(C2c _).1.length_eq,aD]
 rw [iy (show out.length≤(lq (vk (out.map qx))).length by rw [Qy,tD];exact au _),aZ (show (lq (vk (out.map qx))).length≤out.length by rw [Qy,tD];exact au _)]
 rfl
end Go.Mid
namespace Go.Mid
theorem Ap.count {n:Nat} {Ed:Nat→Nat→Prop} {L:List (List Nat)} (h:Ap n Ed L):L.length≤n:=by
 have h1:(L.map kh).Nodup:=by
  unfold List.Nodup;rw [ek];exact h.hd.imp fun h=>Nat.ne_of_lt h
 have:=Md h1 (m:=bp n) fun x hx=>by
  obtain ⟨C,hC,rfl⟩:=bh.1 hx;exact bX.2 (h.cls C hC _ (Xa (h.ne C hC))).1
 simpa using this
end Go.Mid
namespace Go.Mid
theorem C6L {Ed:Nat→Nat→Prop} {f:Nat→Nat} (hf:∀ u w,Ed u w→f u<f w) {a b:Nat} (h:Rc Ed a b):a=b∨f a<f b:=by
 induction h with
 | refl=>exact .inl rfl
 | tail _ h2 ih =>
   right
   have:=hf _ _ h2
   rcases ih with rfl | h
   · exact this
   · omega
theorem C8u {n:Nat} {Ed:Nat→Nat→Prop} {f:Nat→Nat} (hf:∀ u w,Ed u w→f u<f w) {L:List (List Nat)} (h:Ap n Ed L) {C:List Nat} (hC:C∈L):C.length=1:=by
 have h1:=h.ne C hC;have h2:=h.asc C hC
 match C,h1,h2,hC with
 | [],h1,_,_=>exact absurd rfl h1
 | [a],_,_,_=>rfl
 | a::b::r,_,h2,hC =>
   have s5:a<b:=(bM.1 h2).1 b (by simp)
   have h3:=((h.cls _ hC a (by simp)).2 b).1 (by simp)
   rcases C6L hf h3.1 with e | e
   · omega
   · rcases C6L hf h3.2 with e2 | e2<;>omega
theorem C8v {n:Nat} {E:oL} (hn:n≤12) (hr:CC n E) (hE:E.length≤1000) (hv:H4 n E=0) {f:Nat→Nat} (hf:∀ u w:Nat,((u:Int),(w:Int))∈E→f u<f w):PM ((n:Int),E)=some ([],false):=by
 obtain ⟨L,h1,h2⟩:=B9W hv hn hr hE;have arn:=h2.count;have l0:=th (f:=Lp) E (fun i=>((n:Int),E,lq L,E,(E.length:Int),(i:Int))) (fun _=>false) (.inl ((0,true),[])) (.inr ((n:Int),E,lq L)) (fun i hi=>by
  have dP:(i:Int)<(E.length:Int):=by omega
  have b1:cZ 0 2=true:=rfl;have b2:cZ 1 2=true:=rfl;have ev:(E[i].1==E[i].2)=false:=by
   rw [beq_eq_false_iff_ne];intro e;have h3:=hr _ (aJ hi);obtain ⟨u,hu⟩:=eM h3.1
   have:((u:Int),(u:Int))∈E:=by
    have h4:=aJ hi;have h5:E[i]=((u:Int),(u:Int)):=Prod.ext hu (e ▸ hu);rw [← h5];exact h4
   have:=hf u u this
   omega
  simp only [Lp,dP,decide_true,cond_true,aj,aq,af hi,ah,b1,b2,ev,cond_false,gW (show i<9223372036854775807 by omega)]
  rfl) (by
  simp only [Lp,aY,decide_false,cond_false])
 have l0:dq Lp ((n:Int),E,lq L,E,(E.length:Int),0)=_:=l0;have xN:(E.any fun _=>false)=false:=by simp
 rw [xN] at l0;have l1:=qE (f:=Lq) (lq L).length (fun i=>((n:Int),E,lq L,((lq L).length:Int),(i:Int))) (.inr ()) (fun i hi=>by
  have dP:(i:Int)<((lq L).length:Int):=by omega
  have hL:(lq L).length=L.length:=by simp [lq]
  have oR:i<L.length:=by omega
  have hg:(lq L)[i]?=some (jS L[i]):=by rw [QC,af oR];rfl
  have hb:(((jS L[i]).length:Int)==1)=true:=by rw [Bn,C8u hf h2 (aJ oR)];rfl
  simp only [Lq,dP,decide_true,cond_true,aj,aq,hg,ah,hb,gW (show i<9223372036854775807 by omega)]) (by
  simp only [Lq,aY,decide_false,cond_false])
 have l1:dq Lq ((n:Int),E,lq L,((lq L).length:Int),0)=_:=l1;unfold PM;simp only [h1,ah,bne_self_eq_false,cond_false,l0,aF,if_false,iL,l1];rfl
end Go.Mid
namespace Go.Mid
open Go.Hg (asc less A0z A0o A4V Gr PrV nbB A8c A4k Acy HOk)
abbrev sq:Nat:=65536
theorem xO {m n:Nat} (h:m<2 ^ n) (hn:n≤16):m<2 ^ bg.bits:=br h (cN (by decide) hn)
theorem Mm {m i:Nat} (hm:m<sq) (h:m.testBit i=true):i<16:=by
 refine bz fun hc=>?_
 have:m<2 ^ i:=br hm (cN (show 2>0 by decide) (show 16≤i by omega))
 rw [Nat.testBit_lt_two_pow this] at h;cases h
noncomputable def D2w (y:Int):Option Int :=
 bif decide ((0:Int)≤jW cM (cM.wrap (cM.wrap y*(125613361:Int))) (27:Int)) then
  bif (jW cM (cM.wrap (cM.wrap y*(125613361:Int))) (27:Int)).toNat.blt 32 then
   [(0:Int),(1:Int),(28:Int),(2:Int),(29:Int),(14:Int),(24:Int),(3:Int),(30:Int),(22:Int),(20:Int),(15:Int),(25:Int),(17:Int),(4:Int),(8:Int),(31:Int),(27:Int),(13:Int),(23:Int),
      (21:Int),(19:Int),(16:Int),(7:Int),(26:Int),(12:Int),(18:Int),(6:Int),(11:Int),(5:Int),(10:Int),
      (9:Int)][(jW cM (cM.wrap (cM.wrap y*(125613361:Int))) (27:Int)).toNat]?.bind
     fun y=>some (ai.wrap y)
  else none
 else none
theorem D0o:∀ k:Nat,k<16→D2w ((2 ^ k:Nat):Int)=some (k:Int)
 | 0,_=>by kernel_rfl
 | 1,_=>by kernel_rfl
 | 2,_=>by kernel_rfl
 | 3,_=>by kernel_rfl
 | 4,_=>by kernel_rfl
 | 5,_=>by kernel_rfl
 | 6,_=>by kernel_rfl
 | 7,_=>by kernel_rfl
 | 8,_=>by kernel_rfl
 | 9,_=>by kernel_rfl
 | 10,_=>by kernel_rfl
 | 11,_=>by kernel_rfl
 | 12,_=>by kernel_rfl
 | 13,_=>by kernel_rfl
 | 14,_=>by kernel_rfl
 | 15,_=>by kernel_rfl
 | n+16,h=>by omega
theorem C8w {m:Nat} (h0:m≠0) (hm:m<sq):bg.wrap ((0:Int)-(m:Int))=((sq-m:Nat):Int):=by
 have h:(m:Int)<65536:=by unfold sq at hm;omega
 have h2:((sq-m:Nat):Int)=65536-(m:Int):=by unfold sq at hm ⊢;omega
 rw [h2];simp only [gE,fT,eQ];simp;omega
theorem D0p {m k:Nat} (hm:m<sq) (hk:m.testBit k=true) (hl:∀ j,j<k→m.testBit j=false):(m &&& (sq-m))=2 ^ k:=by
 have h0:m≠0:=by intro e;rw [e,dT] at hk;cases hk
 apply dH;intro j;have e:sq-m=2 ^ 16-((m-1)+1):=by unfold sq;omega
 rw [eV,e,Nat.testBit_two_pow_sub_succ (show m-1<2 ^ 16 by unfold sq at hm;omega),C4v hk hl,Nat.testBit_two_pow]
 have Xc:=Mm hm hk;by_cases h1:j<k
 · have:¬ k=j:=by omega
   simp [hl j h1,this]
 · by_cases h2:j=k
   · subst h2;simp [hk,Xc]
   · have:¬ k=j:=by omega
     simp [h1,h2,this];cases m.testBit j<;>simp
theorem D0q (x:Int):HP x=bif x==(0:Int) then some (16:Int) else D2w (o5 bg x (bg.wrap ((0:Int)-x))):=rfl
theorem D34 {m k:Nat} (hm:m<sq) (hk:m.testBit k=true) (hl:∀ j,j<k→m.testBit j=false):HP (m:Int)=some (k:Int):=by
 have h0:m≠0:=by intro e;rw [e,dT] at hk;cases hk
 have e0:((m:Int)==0)=false:=by rw [beq_eq_false_iff_ne];omega
 rw [D0q,e0,cond_false,C8w h0 hm,L1 (k:=.u16) rfl hm (show sq-m<2 ^ bg.bits from Nat.sub_lt (by decide) (Nat.pos_of_ne_zero h0)),D0p hm hk hl]
 exact D0o k (Mm hm hk)
theorem D52 {m:Nat} (h0:m≠0) (hm:m<sq):o5 .u16 (m:Int) (bg.wrap ((m:Int)-1))=((m &&& (m-1):Nat):Int):=by
 have e1:bg.wrap ((m:Int)-1)=((m-1:Nat):Int):=by
  have:(m:Int)-1=((m-1:Nat):Int):=by omega
  rw [this];exact DN (k:=.u16) rfl (show m-1<2 ^ 16 by unfold sq at hm;omega)
 rw [e1,L1 (k:=.u16) rfl hm (show m-1<2 ^ 16 by unfold sq at hm;omega)]
theorem Ia {i:Nat} (hi:i<16):nW .u16 1 (i:Int)=((1 <<< i:Nat):Int):=Wv (k:=.u16) rfl (m:=1) (show i≤16 by omega) (vh hi)
theorem QF {v:List Int} (ha:asc v=true) (nv:v.length≤1000000) (es:List (List Int)) (x:Int):DI ((v,es),x)=some (if x∈v then ((A0o v x:Nat):Int) else -1):=by
 obtain ⟨i,h1,hp⟩:=Wx ha nv x;unfold DI;simp only [h1,ah];have hf:=hp.found ha;by_cases hx:x∈v
 · have hc:v.contains x=true:=bD.2 hx;rw [hc] at hf ⊢;cases hv:v[i]? with
   | none=>rw [hv] at hf;cases hf
   | some y =>
     rw [hv] at hf;have hy:y=x:=by simpa using hf.symm
     subst hy;obtain ⟨hi,e⟩:=aL.1 hv;have Xd:=Go.Hg.gz hx;obtain ⟨oR,e2⟩:=aL.1 Xd
     have:=Go.Hg.mH ha hi oR (e.trans e2.symm)
     subst this;simp [hx]
 · have hc:v.contains x=false:=by
    cases tF:v.contains x with
    | false=>rfl
    | true=>exact absurd (bD.1 tF) hx
   rw [hc];simp [hx]
theorem Xe {v:List Int} (ha:asc v=true) {i:Nat} (h:i<v.length):A0o v v[i]=i:=by
 have Xd:=Go.Hg.gz (aJ h);obtain ⟨oR,e2⟩:=aL.1 Xd;exact Go.Hg.mH ha oR h e2
structure rF (v:List Int) (es:List (List Int)) (p:PrV) (F:Nat) (fN dx:List Nat):Prop where
 fl:F<2 ^ v.length
 fb:∀ j (h:j<v.length),F.testBit j=!A8c es v[j]
 nl:fN.length=v.length
 CF:∀ x∈fN,x<2 ^ v.length
 nb:∀ j (h:j<v.length) (h':j<fN.length) k (hk:k<v.length),fN[j].testBit k=nbB es v[j] v[k]
 al:dx.length=v.length
 alt:∀ x∈dx,x<2 ^ v.length
 ab:∀ j (h:j<v.length) (h':j<dx.length) k (hk:k<v.length),dx[j].testBit k=A4k p v[k] v[j]
def Aq (v:List Int) (s:Nat×List Nat) (e:List Int):Nat×List Nat :=
 let i:=A0o v (e.headD 0)
 let k:=A0o v (e.getLastD 0)
 if i=k then (less s.1 (1 <<< i),s.2) else (s.1,(s.2.set i (s.2.getD i 0 ||| 1 <<< k)).set k (s.2.getD k 0 ||| 1 <<< i))
def n4 (v:List Int) (es:List (List Int)) (i:Nat):Nat×List Nat:=(es.take i).foldl (Aq v) (2 ^ v.length-1,az v.length 0)
theorem C4Y (v:List Int) {es:List (List Int)} {i:Nat} (h:i<es.length):n4 v es (i+1)=Aq v (n4 v es i) es[i]:=by
 unfold n4;rw [sM h,fK];rfl
structure GI (v:List Int) (L:List (List Int)) (s:Nat×List Nat):Prop where
 fl:s.1<2 ^ v.length
 fb:∀ j (h:j<v.length),s.1.testBit j=!L.contains [v[j]]
 nl:s.2.length=v.length
 CF:∀ x∈s.2,x<2 ^ v.length
 nb:∀ j (h:j<v.length) (h':j<s.2.length) k (hk:k<v.length),s.2[j].testBit k=(L.contains [v[j],v[k]] || L.contains [v[k],v[j]])
theorem D35 {v:List Int} {es:List (List Int)} (G:Gr v es) {L:List (List Int)} {s:Nat×List Nat} (I:GI v L s) {e:List Int} (he:e∈es):GI v (L++[e]) (Aq v s e):=by
 have rX:=G.kQ.av;have cont:∀ x:List Int,(L++[e]).contains x=(L.contains x || decide (x=e)):=fun x=>by
  apply cn.2;simp
 rcases G.cases he with ⟨a,rfl,_⟩ | ⟨a,b,rfl,s5,_⟩
 · have ha:a∈v:=G.kQ.fR _ he a (by simp)
   obtain ⟨i,hi,rfl⟩:=fB.1 ha;have hp:=Xe rX hi;have hg:Aq v s [v[i]]=(less s.1 (1 <<< i),s.2):=by simp [Aq,hp]
   rw [hg];refine ⟨Qi I.fl,fun j hj=>?_,I.nl,I.CF,fun j hj h' k hk=>?_⟩
   · rw [Go.Hg.iN,I.fb j hj,Go.Hg.eh,cont];by_cases c:j=i
     · subst c;simp
     · have:¬ v[j]=v[i]:=fun h=>c (Go.Hg.mH rX hj hi h)
       simp [c,this]
   · rw [I.nb j hj h' k hk,cont,cont];simp
 · have ha:a∈v:=G.kQ.fR _ he a (by simp)
   have hb:b∈v:=G.kQ.fR _ he b (by simp)
   obtain ⟨i,hi,rfl⟩:=fB.1 ha;obtain ⟨k,hk,rfl⟩:=fB.1 hb;have hpi:=Xe rX hi;have WL:=Xe rX hk;have A6:i≠k:=fun h=>by subst h;omega
   have hg:Aq v s [v[i],v[k]]=(s.1,(s.2.set i (s.2.getD i 0 ||| 1 <<< k)).set k (s.2.getD k 0 ||| 1 <<< i)):=by
    simp [Aq,hpi,WL,A6]
   have Bh:i<s.2.length:=by rw [I.nl];exact hi
   have xr:k<s.2.length:=by rw [I.nl];exact hk
   have d1:s.2.getD i 0=s.2[i]:=by rw [bu,af Bh];rfl
   have d2:s.2.getD k 0=s.2[k]:=by rw [bu,af xr];rfl
   rw [hg,d1,d2];refine ⟨I.fl,fun j hj=>?_,by simp [I.nl],fun x hx=>?_,fun j hj h' m hm=>?_⟩
   · rw [I.fb j hj,cont];simp
   · rcases bm hx with h | h
     · rcases bm h with h | h
       · exact I.CF x h
       · rw [h];exact eT (I.CF _ (aJ _)) (vh hk)
     · rw [h];exact eT (I.CF _ (aJ _)) (vh hi)
   · have inj:∀ {x y:Nat} (hx:x<v.length) (hy:y<v.length),v[x]=v[y]↔x=y:=fun hx hy=>⟨fun h=>Go.Hg.mH rX hx hy h,fun h=>by subst h;rfl⟩
     have GM:j<s.2.length:=by rw [I.nl];exact hj
     have AV:j<((s.2.set i (s.2[i] ||| 1 <<< k)).set k (s.2[k] ||| 1 <<< i)).length:=by simpa using GM
     have key:(((s.2.set i (s.2[i] ||| 1 <<< k)).set k (s.2[k] ||| 1 <<< i))[j]'AV).testBit m=(s.2[j].testBit m || (decide (j=i)&&decide (m=k)) || (decide (j=k)&&decide (m=i))):=by
      rw [nm];by_cases c:k=j
      · subst c;rw [if_pos rfl,bR,Go.Hg.eh];have Xf:¬ k=i:=fun h=>A6 h.symm
        simp [Xf]
      · rw [if_neg c,nm];have c':¬ j=k:=fun h=>c h.symm
        by_cases c2:i=j
        · subst c2;rw [if_pos rfl,bR,Go.Hg.eh];simp [c']
        · rw [if_neg c2];have CB:¬ j=i:=fun h=>c2 h.symm
          simp [c',CB]
     rw [key,I.nb j hj (by rw [I.nl];exact hj) m hm,cont,cont]
     simp only [List.cons.injEq,inj hj hi,inj hm hk,inj hm hi,inj hj hk,and_true];cases L.contains [v[j],v[m]]<;>cases L.contains [v[m],v[j]]<;>by_cases a1:j=i<;>by_cases a2:m=k<;>by_cases a3:j=k<;>by_cases a4:m=i<;>simp [a1,a2,a3,a4]
theorem Xg {v:List Int} {es:List (List Int)} (G:Gr v es):∀ i,i≤es.length→GI v (es.take i) (n4 v es i)
 | 0,_=>by
   have hp:0<2 ^ v.length:=gA _;refine ⟨by show 2 ^ v.length-1<_;omega,fun j hj=>?_,by simp [n4],fun x hx=>?_,fun j hj h' k hk=>?_⟩
   · show (2 ^ v.length-1).testBit j=_;rw [Nat.testBit_two_pow_sub_one];simp [hj]
   · have:x=0:=by
      have:=fp (show x∈az v.length 0 from hx)
      exact this
     omega
   · have:(n4 v es 0).2[j]=0:=by simp [n4]
     rw [this];simp
 | i+1,h=>by
   rw [C4Y v (by omega),sM (by omega)]
   exact D35 G (Xg G i (by omega)) (aJ _)
theorem C40 (l:List Nat) (i x:Nat):(gf l).set i (x:Int)=gf (l.set i x):=by simp [gf,gC]
end Go.Mid
namespace Go.Mid
open Go.Hg (asc less A0z A0o A4V Gr PrV nbB A8c A4k Acy HOk)
section
variable {v:List Int} {es:List (List Int)} (G:Gr v es) (nv:v.length≤14) (ne:es.length≤1000000)
include G nv ne
theorem D19 (p:PrV) (AB:List Int) (m:Nat):dq HO ((p,(v.length:Int),es,(es.length:Int),0),(v,es),(v,es),((2 ^ v.length-1:Nat):Int),(gf (az v.length 0),v.length),AB,m) =
 some ((p,(v.length:Int)),(v,es),(v,es),(((n4 v es es.length).1:Nat):Int),(gf (n4 v es es.length).2,v.length),AB,m):=by
 have rX:=G.kQ.av;have key:=qE (f:=HO) es.length (fun i=>((p,(v.length:Int),es,(es.length:Int),(i:Int)),(v,es),(v,es),(((n4 v es i).1:Nat):Int),(gf (n4 v es i).2,v.length),AB,m))
  ((p,(v.length:Int)),(v,es),(v,es),(((n4 v es es.length).1:Nat):Int),(gf (n4 v es es.length).2,v.length),AB,m) (fun i hi=>by
  have dP:(i:Int)<(es.length:Int):=by omega
  have I:=Xg G i (fU hi);have he:=aJ hi;have n6:v.length≤1000000:=by omega
  rw [C4Y v hi];rcases G.cases he with ⟨a,e,_⟩ | ⟨a,b,e,s5,_⟩
  · have ha:a∈v:=G.kQ.fR _ he a (by rw [e];simp)
    have hp:=Go.Hg.iO ha;have w1:ai.wrap ((([a]:List Int).length:Int)-1)=0:=by simp [gE,fT,eQ]
    have hg:Aq v (n4 v es i) [a]=(less (n4 v es i).1 (1 <<< A0o v a),(n4 v es i).2):=by simp [Aq]
    simp only [HO,dP,decide_true,cond_true,aj,aq,af hi,ah,e,bQ,QF rX n6,ha,if_true,w1,lI,Int.toNat_zero,beq_self_eq_true,
     Ia (show A0o v a<16 by omega),H0 (k:=.u16) rfl (xO I.fl (by omega)) (vh (show A0o v a<16 by omega)),gW (show i<9223372036854775807 by omega),hg]
  · have ha:a∈v:=G.kQ.fR _ he a (by rw [e];simp)
    have hb:b∈v:=G.kQ.fR _ he b (by rw [e];simp)
    have hp:=Go.Hg.iO ha;have hq:=Go.Hg.iO hb;have w1:ai.wrap ((([a,b]:List Int).length:Int)-1)=1:=by simp [gE,fT,eQ]
    have t1:(1:Int).toNat=1:=rfl;have ev:A0o v a≠A0o v b:=fun h=>by
     have h1:=Go.Hg.gz ha;have h2:=Go.Hg.gz hb;rw [h,h2] at h1
     have:=Option.some.inj h1
     omega
    have Xh:(((A0o v a:Nat):Int)==((A0o v b:Nat):Int))=false:=by rw [beq_eq_false_iff_ne];omega
    have xt:A0o v a<(n4 v es i).2.length:=by rw [I.nl];exact hp
    have tD:A0o v b<(n4 v es i).2.length:=by rw [I.nl];exact hq
    have d1:(n4 v es i).2.getD (A0o v a) 0=(n4 v es i).2[A0o v a]:=by rw [bu,af xt];rfl
    have d2:(n4 v es i).2.getD (A0o v b) 0=(n4 v es i).2[A0o v b]:=by rw [bu,af tD];rfl
    have hg:Aq v (n4 v es i) [a,b]=((n4 v es i).1,((n4 v es i).2.set (A0o v a) ((n4 v es i).2[A0o v a] ||| 1 <<< A0o v b)).set (A0o v b) ((n4 v es i).2[A0o v b] ||| 1 <<< A0o v a)):=by
     simp only [Aq,List.headD_cons,List.getLastD_cons,List.getLastD_nil,ev,if_false,d1,d2]
    have o1:=Cz (k:=.u16) rfl (xO (I.CF _ (aJ xt)) (by omega)) (vh (show A0o v b<16 by omega))
    have o2:=Cz (k:=.u16) rfl (xO (I.CF _ (aJ tD)) (by omega)) (vh (show A0o v a<16 by omega))
    have rl:(gf ((n4 v es i).2.set (A0o v a) ((n4 v es i).2[A0o v a] ||| 1 <<< A0o v b)))[A0o v b]?=some (((n4 v es i).2[A0o v b]:Nat):Int):=by
     rw [Bk (by simpa using tD),List.getElem_set_ne ev]
    have zl:(0:Int)≤1:=by decide
    simp only [HO,dP,decide_true,cond_true,aj,aq,af hi,ah,e,bQ,List.getElem?_cons_succ,QF rX n6,ha,hb,if_true,w1,zl,t1,Xh,cond_false,
     ln hp,ln hq,Bk xt,Ia (show A0o v a<16 by omega),Ia (show A0o v b<16 by omega),o1,C40,rl,o2,gW (show i<9223372036854775807 by omega),hg]) (by
  simp only [HO,aY,decide_false,cond_false])
 exact key
end
def Mn (v:List Int) (s:List Nat) (q:Int×Int):List Nat:=s.set (A0o v q.2) (s.getD (A0o v q.2) 0 ||| 1 <<< A0o v q.1)
def q8 (v:List Int) (p:PrV) (i:Nat):List Nat:=(p.take i).foldl (Mn v) (az v.length 0)
def yA (v:List Int) (p:PrV) (i:Nat):List (Int×Int):=(p.take i).map fun q=>(((A0o v q.1:Nat):Int),((A0o v q.2:Nat):Int))
theorem C2p (L:PrV) (a b:Int×Int):(L++[b]).contains a=(L.contains a || decide (a=b)):=by
 apply cn.2;simp
theorem C41 (v:List Int) {p:PrV} {i:Nat} (h:i<p.length):q8 v p (i+1)=Mn v (q8 v p i) p[i]:=by
 unfold q8;rw [sM h,fK];rfl
structure AI (v:List Int) (p:PrV) (s:List Nat):Prop where
 al:s.length=v.length
 alt:∀ x∈s,x<2 ^ v.length
 ab:∀ j (_:j<v.length) (h':j<s.length) k (_:k<v.length),s[j].testBit k=p.contains (v[k],v[j])
theorem Xi {v:List Int} {p:PrV} (ha:asc v=true) (hp:∀ q∈p,q.1∈v∧q.2∈v):∀ i,i≤p.length→AI v (p.take i) (q8 v p i)
 | 0,_=>by
   refine ⟨by simp [q8],fun x hx=>?_,fun j hj h' k hk=>?_⟩
   · have:x=0:=fp (show x∈az v.length 0 from hx)
     have:=gA v.length
     omega
   · have:(q8 v p 0)[j]=0:=by simp [q8]
     rw [this];simp
 | i+1,h=>by
   have I:=Xi ha hp i (by omega)
   have hi:i<p.length:=by omega
   have e1:q8 v p (i+1)=Mn v (q8 v p i) p[i]:=C41 v hi;obtain ⟨h1,h2⟩:=hp _ (aJ hi);have Ib:=Go.Hg.iO h1;have zr:=Go.Hg.iO h2;have hl:A0o v p[i].2<(q8 v p i).length:=by rw [I.al];exact zr
   have d:(q8 v p i).getD (A0o v p[i].2) 0=(q8 v p i)[A0o v p[i].2]:=by rw [bu,af hl];rfl
   rw [e1,sM hi];unfold Mn;rw [d];have g1:v[A0o v p[i].1]=p[i].1:=(aL.1 (Go.Hg.gz h1)).2;have g2:v[A0o v p[i].2]=p[i].2:=(aL.1 (Go.Hg.gz h2)).2;refine ⟨by simp [I.al],fun x hx=>?_,fun j hj h' k hk=>?_⟩
   · rcases bm hx with h | h
     · exact I.alt x h
     · rw [h];exact eT (I.alt _ (aJ _)) (vh Ib)
   · have GM:j<(q8 v p i).length:=by rw [I.al];exact hj
     rw [C2p,← I.ab j hj GM k hk,nm];by_cases c:A0o v p[i].2=j
     · subst c;rw [if_pos rfl,bR,Go.Hg.eh];congr 1;rw [decide_eq_decide];constructor
       · intro h;subst h;exact Prod.ext g1 g2
       · intro h;have h3:v[k]=p[i].1:=congrArg Prod.fst h;exact Go.Hg.mH ha hk Ib (h3.trans g1.symm)
     · rw [if_neg c]
       have:¬ (v[k],v[j])=p[i]:=fun h=>by
        have h3:v[j]=p[i].2:=congrArg Prod.snd h;exact c (Go.Hg.mH ha zr hj (g2.trans h3.symm))
       simp [this]
section
variable {v:List Int} {es:List (List Int)} {p:PrV} (ha:asc v=true) (nv:v.length≤14) (np:p.length≤1000000) (hp:∀ q∈p,nbB es q.1 q.2=true∧q.1∈v∧q.2∈v)
include ha nv np hp
theorem D2a {F:Int} {fN:List Nat} (BQ:fN.length=v.length) (eE:∀ x∈fN,x<2 ^ v.length) (AW:∀ j (h:j<v.length) (h':j<fN.length) k (hk:k<v.length),fN[j].testBit k=nbB es v[j] v[k]) (H2:List Int×List (List Int)) :
 dq Lr (((v.length:Int),0,p,(p.length:Int),0),(v,es),[],H2,F,(gf fN,v.length),gf (az v.length 0),v.length) =
  some (.inr (((v.length:Int),p.length),yA v p p.length,H2,F,(gf fN,v.length),gf (q8 v p p.length),v.length)):=by
 have key:=qE (f:=Lr) p.length (fun i=>(((v.length:Int),i,p,(p.length:Int),(i:Int)),(v,es),yA v p i,H2,F,(gf fN,v.length),gf (q8 v p i),v.length))
  (.inr (((v.length:Int),p.length),yA v p p.length,H2,F,(gf fN,v.length),gf (q8 v p p.length),v.length)) (fun i hi=>by
  have dP:(i:Int)<(p.length:Int):=by omega
  obtain ⟨h0,h1,h2⟩:=hp _ (aJ hi);have I:=Xi ha (fun q hq=>(hp q hq).2) i (fU hi)
  have n6:v.length≤1000000:=by omega
  have Ib:=Go.Hg.iO h1;have zr:=Go.Hg.iO h2;have g1:v[A0o v p[i].1]=p[i].1:=(aL.1 (Go.Hg.gz h1)).2;have g2:v[A0o v p[i].2]=p[i].2:=(aL.1 (Go.Hg.gz h2)).2;have EE:A0o v p[i].1<fN.length:=by rw [BQ];exact Ib
  have KJ:A0o v p[i].2<(q8 v p i).length:=by rw [I.al];exact zr
  have FZ:fN[A0o v p[i].1].testBit (A0o v p[i].2)=true:=by
   rw [AW _ Ib EE _ zr,g1,g2];exact h0
  have b1:cZ 0 2=true:=rfl;have b2:cZ 1 2=true:=rfl;have z1:¬ (((A0o v p[i].1:Nat):Int)<0):=by omega
  have z2:¬ (((A0o v p[i].2:Nat):Int)<0):=by omega
  have AU:=L2 (k:=.u16) rfl (show A0o v p[i].2≤16 by omega) (by decide) (xO (eE _ (aJ EE)) (by omega))
  rw [FZ,if_pos rfl] at AU;have c1:((1:Int)==0)=false:=rfl;have el:(yA v p i).length=i:=by simp [yA];omega
  have o1:=Cz (k:=.u16) rfl (xO (I.alt _ (aJ KJ)) (by omega)) (vh (show A0o v p[i].1<16 by omega))
  have e1:yA v p (i+1)=yA v p i++[(((A0o v p[i].1:Nat):Int),((A0o v p[i].2:Nat):Int))]:=by
   unfold yA;rw [sM hi,b8];rfl
  have e2:q8 v p (i+1)=(q8 v p i).set (A0o v p[i].2) ((q8 v p i)[A0o v p[i].2] ||| 1 <<< A0o v p[i].1):=by
   have:(q8 v p i).getD (A0o v p[i].2) 0=(q8 v p i)[A0o v p[i].2]:=by rw [bu,af KJ];rfl
   rw [C41 v hi];unfold Mn;rw [this]
  simp only [Lr,dP,decide_true,cond_true,aj,aq,af hi,ah,b1,b2,QF ha n6,h1,h2,if_true,z1,z2,decide_false,cond_false,ln Ib,ln zr,Bk EE,Bk KJ,AU,c1,
   el,iy (au _),iy (show (i+1)*16≤140737488355328 by omega),aZ (eG el),Ia (show A0o v p[i].1<16 by omega),o1,C40,gW (show i<9223372036854775807 by omega),e1,e2]) (by
  simp only [Lr,aY,decide_false,cond_false])
 exact key
end
theorem C6M (n:Nat) (hn:n≤1000) (E:List (Int×Int)) (i:Int):∀ (j:Nat) (M:List (Int×Int)),j<n→M.length=n→(∀ x∈M,x∈E) →
 ∃ M',dq HF ((n,0,(n:Int),(),i,(j:Int)),M)=some ((n,0,(n:Int),(),i),M')∧M'.length=n∧∀ x∈M',x∈E
 | 0,M,hj,hM,hE=>⟨M,pV (by simp [HF]),hM,hE⟩
 | j+1,M,hj,hM,hE=>by
   have h1:((j+1:Nat):Int)>0:=by omega
   have EX:j+1<M.length:=by omega
   have F8:j<M.length:=by omega
   obtain ⟨c,hc⟩:∃ c,VD (M[j+1],M[j])=some c:=⟨_,rfl⟩;by_cases d:c<0
   · have st:HF ((n,0,(n:Int),(),i,((j+1:Nat):Int)),M)=some (.inl ((n,0,(n:Int),(),i,(j:Int)),(M.set (j+1) M[j]).set j M[j+1])):=by
      simp only [HF,h1,decide_true,cond_true,aj,aq,ln hj,ln (show j<n by omega),af EX,af F8,ah,wZ (show 1≤j+1 by omega) (by omega),dK,hc,d]
      have e4:(M.set (j+1) M[j])[j]?=some M[j]:=by rw [eK (by omega),af F8]
      rw [e4];rfl
     rw [uG st];refine C6M n hn E i j _ (by omega) (by simpa using hM) fun x hx=>?_
     rcases bm hx with h | h
     · rcases bm h with h | h
       · exact hE x h
       · rw [h];exact hE _ (aJ _)
     · rw [h];exact hE _ (aJ _)
   · refine ⟨M,pV ?_,hM,hE⟩;simp only [HF,h1,decide_true,cond_true,aj,aq,ln hj,ln (show j<n by omega),af EX,af F8,ah,wZ (show 1≤j+1 by omega) (by omega),dK,hc,d,decide_false,cond_false]
theorem C8x {n:Nat} (hn:n≤12) {E:List (Int×Int)} (hE:E.length=n):∃ M,PB ((n,()),E)=some M∧M.length=n∧∀ x∈M,x∈E:=by
 obtain ⟨y,hy⟩:=B4X n hn;have l0:∃ b,dq HG ((n,0,(n:Int),(),1),E)=some b∧(b.length=n∧∀ x∈b,x∈E):=by
  by_cases h0:n≤1
  · refine ⟨E,pV ?_,hE,fun x hx=>hx⟩
    have:¬ (1:Int)<(n:Int):=by omega
    simp only [HG,this,decide_false,cond_false]
  · have key:=U9 (f:=HG) (n-1) (fun i (M:List (Int×Int))=>((n,0,(n:Int),(),((i+1:Nat):Int)),M)) (fun _ M=>M.length=n∧∀ x∈M,x∈E) (fun b=>b.length=n∧∀ x∈b,x∈E) E ⟨hE,fun x hx=>hx⟩ (fun i M hi hM=>by
     left;have dP:((i+1:Nat):Int)<(n:Int):=by omega
     obtain ⟨M',h1,h2,h3⟩:=C6M n (by omega) E ((i+1:Nat):Int) (i+1) M (by omega) hM.1 hM.2
     refine ⟨M',?_,h2,h3⟩;simp only [HG,dP,decide_true,cond_true,h1,ah,gW (show i+1<9223372036854775807 by omega)]) (fun M hM=>by
     refine ⟨M,?_,hM⟩
     have:¬ ((n-1+1:Nat):Int)<(n:Int):=by omega
     simp only [HG,this,decide_false,cond_false])
    exact key
 obtain ⟨M,h1,h2,h3⟩:=l0;refine ⟨M,?_,h2,h3⟩;have w1:ai.wrap ((0:Int)+1)=1:=by simp [gE,fT,eQ]
 have w2:ai.wrap ((n:Int)-0)=(n:Int):=by rw [Int.sub_zero];exact Ky (by omega)
 have hle:(n:Int)≤12:=by omega
 have hp:PA ((n,0,(n:Int),y,()),E)=some M:=by
  unfold PA
  have:dq VF ((n,0,(n:Int),y,(),true,true),E)=some M:=by
   refine pV ?_;simp only [VF,VE,w1,w2,hle,decide_true,cond_true,h1,ah]
  simp only [this,ah]
 unfold PB;simp only [hy,ah,hp]
theorem C8y {n:Nat} (hn:n≤1000) {E:List (Int×Int)} {k0:Nat} (hk0:k0<n) {M:List (Int×Int)} (hM:M.length=n) (hE:∀ x∈M,x∈E) :
 ∃ (k:Nat) (M':List (Int×Int)),dq HH ((n,(k0:Int),(k0,n-k0),1),M)=some ((n,(k:Int)),M')∧k≤n∧M'.length=n∧∀ x∈M',x∈E:=by
 have key:=U9 (f:=HH) (n-k0-1) (fun i (s:Nat×List (Int×Int))=>((n,(s.1:Int),(k0,n-k0),((i+1:Nat):Int)),s.2)) (fun i s=>s.1≤k0+i∧s.2.length=n∧∀ x∈s.2,x∈E) (fun b=>∃ (k:Nat) (M':List (Int×Int)),b=((n,(k:Int)),M')∧k≤n∧M'.length=n∧∀ x∈M',x∈E) (k0,M) ⟨au _,hM,hE⟩ (fun i s hi hs=>by
  left;obtain ⟨k,L⟩:=s;obtain ⟨h1,h2,h3⟩:=hs;simp only at h1 h2 h3;have dP:((i+1:Nat):Int)<((n-k0:Nat):Int):=by omega
  have g1:k0+(i+1)<L.length:=by omega
  have g2:k0+i<L.length:=by omega
  have g3:k<L.length:=by omega
  by_cases c:(!(L[k0+(i+1)].1==L[k0+i].1&&L[k0+(i+1)].2==L[k0+i].2))=true
  · refine ⟨(k+1,L.set k L[k0+(i+1)]),?_,by show k+1≤k0+(i+1);omega,by simpa using h2,fun x hx=>?_⟩
    · simp only [HH,dP,decide_true,cond_true,aj,aq,ln (show i+1<n-k0 by omega),af g1,ah,wZ (show 1≤i+1 by omega) (by omega),dK,ln (show i<n-k0 by omega),af g2,c,
       ln (show k<n by omega),af g3,gW (show k<9223372036854775807 by omega),gW (show i+1<9223372036854775807 by omega)]
    · rcases bm hx with h | h
      · exact h3 x h
      · rw [h];exact h3 _ (aJ _)
  · have c':(!(L[k0+(i+1)].1==L[k0+i].1&&L[k0+(i+1)].2==L[k0+i].2))=false:=by simpa using c
    refine ⟨(k,L),?_,by show k≤k0+(i+1);omega,h2,h3⟩
    simp only [HH,dP,decide_true,cond_true,aj,aq,ln (show i+1<n-k0 by omega),af g1,ah,wZ (show 1≤i+1 by omega) (by omega),dK,ln (show i<n-k0 by omega),af g2,c',cond_false,
     gW (show i+1<9223372036854775807 by omega)]) (fun s hs=>by
  refine ⟨((n,(s.1:Int)),s.2),?_,s.1,s.2,rfl,by omega,hs.2.1,hs.2.2⟩
  have:¬ ((n-k0-1+1:Nat):Int)<((n-k0:Nat):Int):=by omega
  simp only [HH,this,decide_false,cond_false])
 obtain ⟨b,hb,k,M',rfl,h1,h2,h3⟩:=key;exact ⟨k,M',hb,h1,h2,h3⟩
theorem C2q {n:Nat} (hn:n≤1000) {M:List (Int×Int)} (hM:M.length=n):∃ (k:Nat) (M':List (Int×Int)),Le (n,M)=some (k,M')∧k≤M'.length∧k≤n∧∀ x∈M'.take k,x∈M:=by
 by_cases h2:n<2
 · have rk:(n:Int)<2:=by omega
   refine ⟨n,M,?_,by omega,au _,fun x hx=>c8 hx⟩
   unfold Le;simp only [rk,decide_true,cond_true]
 · have rk:¬ (n:Int)<2:=by omega
   have key:=U9 (f:=HI) (n-1) (fun i (_:Unit)=>((n,((i+1:Nat):Int)),M)) (fun _ _=>True) (fun b=>∃ (k:Nat) (M':List (Int×Int)),(b=.inl (k,M')∨b=.inr (k,M'))∧k≤M'.length∧k≤n∧∀ x∈M'.take k,x∈M) () trivial (fun i _ hi _=>by
    have dP:((i+1:Nat):Int)<(n:Int):=by omega
    have g1:i+1<M.length:=by omega
    have g2:i<M.length:=by omega
    by_cases c:(M[i+1].1==M[i].1&&M[i+1].2==M[i].2)=true
    · right;obtain ⟨k,M',h3,h4,h5,h6⟩:=C8y hn (E:=M) (k0:=i+1) (by omega) hM (fun x hx=>hx)
      have hr:(k+(az (n-k) ((0:Int),(0:Int))).length)=n:=by simp;omega
      refine ⟨.inl (k,m8 M' (some k) (az (n-k) ((0:Int),(0:Int)))),?_,k,_,.inl rfl,?_,h4,?_⟩
      · simp only [HI,dP,decide_true,cond_true,aj,aq,ln (show i+1<n by omega),af g1,ah,wZ (show 1≤i+1 by omega) (by omega),dK,ln (show i<n by omega),af g2,c,
         iy (show i+1≤n by omega),h3,iy h4,hr,iy (eG h5.symm)]
      · unfold m8;simp;omega
      · intro x hx;have e:(m8 M' (some k) (az (n-k) ((0:Int),(0:Int)))).take k=M'.take k:=by
         unfold m8;simp only;rw [bf,List.take_append_of_le_length (by simp;omega)]
         rw [List.take_take];simp
        rw [e] at hx;exact h6 x (c8 hx)
    · left;have c':(M[i+1].1==M[i].1&&M[i+1].2==M[i].2)=false:=by simpa using c
      refine ⟨(),?_,trivial⟩;simp only [HI,dP,decide_true,cond_true,aj,aq,ln (show i+1<n by omega),af g1,ah,wZ (show 1≤i+1 by omega) (by omega),dK,ln (show i<n by omega),af g2,c',cond_false,
       gW (show i+1<9223372036854775807 by omega)]) (fun _ _=>by
    refine ⟨.inr (n,M),?_,n,M,.inr rfl,by omega,au _,fun x hx=>c8 hx⟩
    have:¬ ((n-1+1:Nat):Int)<(n:Int):=by omega
    simp only [HI,this,decide_false,cond_false])
   obtain ⟨b,hb,k,M',h3,h4,h5,h6⟩:=key;have hb:dq HI ((n,1),M)=some b:=hb;refine ⟨k,M',?_,h4,h5,h6⟩;unfold Le;simp only [rk,decide_false,cond_false,hb,ah];rcases h3 with rfl | rfl<;>rfl
end Go.Mid
namespace Go.Mid
open Go.Hg (asc less A0z A0o A4V Gr PrV nbB A8c A4k Acy HOk idsP A5M A0L)
structure Ctx (v:List Int) (es:List (List Int)) (p:PrV):Prop where
 G:Gr v es
 hv:A4V v es=true
 nv:v.length≤9
 ne:es.length≤12
 np:p.length≤12
 hp:∀ q∈p,nbB es q.1 q.2=true∧q.1∈v∧q.2∈v
 acy:Acy p
abbrev D6V:=Option ((List Int×List (List Int))×Int×List Int×List Int)
abbrev gm (v:List Int) (es:List (List Int)) (F:Nat) (fN dx:List Nat):D6V:=some ((v,es),(F:Int),gf fN,gf dx)
section
variable {v:List Int} {es:List (List Int)} {p:PrV} (C:Ctx v es p)
include C
theorem Ctx.el:∀ e∈es,e.length≤1000000:=fun e he=>by have:=C.G.two e he;omega
theorem Ctx.av:asc v=true:=C.G.kQ.av
theorem Ctx.H:HOk v es:=⟨by have:=C.nv;omega,by have:=C.ne;omega,fun e he=>by have:=C.G.two e he;omega,C.G.kQ.fR⟩
theorem D2b:∃ (F:Nat) (fN dx:List Nat),DK ((v,es),p)=some (gm v es F fN dx,0)∧rF v es p F fN dx:=by
 have nv:=C.nv;have ne:=C.ne;have np:=C.np;have rX:=C.av;have I:=Xg C.G es.length (au _);rw [mX] at I;have A:=Xi rX (fun q hq=>(C.hp q hq).2) p.length (au _)
 rw [mX] at A;have AW:∀ j (h:j<v.length) (h':j<(n4 v es es.length).2.length) k (hk:k<v.length),(n4 v es es.length).2[j].testBit k=nbB es v[j] v[k]:=by
  intro j hj h' k hk;rw [I.nb j hj h' k hk];have own:∀ a b:Int,es.contains [a,b]=true→a<b:=by
   intro a b h;have he:=bD.1 h;rcases C.G.cases he with ⟨x,e,_⟩ | ⟨x,y,e,vH,_⟩
   · simp at e
   · simp only [List.cons.injEq,and_true] at e;omega
  unfold nbB;by_cases eE:v[j]<v[k]
  · rw [Int.min_eq_left (by omega),Int.max_eq_right (by omega)]
    have h2:es.contains [v[k],v[j]]=false:=by
     cases hc:es.contains [v[k],v[j]] with
     | false=>rfl
     | true=>have:=own _ _ hc;omega
    have h3:v[j]≠v[k]:=by omega
    rw [h2];simp [h3]
  · by_cases FY:v[k]<v[j]
    · rw [Int.min_eq_right (by omega),Int.max_eq_left (by omega)]
      have h2:es.contains [v[j],v[k]]=false:=by
       cases hc:es.contains [v[j],v[k]] with
       | false=>rfl
       | true=>have:=own _ _ hc;omega
      have h3:v[j]≠v[k]:=by omega
      rw [h2];simp [h3]
    · have e:v[j]=v[k]:=by omega
      have h2:es.contains [v[j],v[k]]=false:=by
       cases hc:es.contains [v[j],v[k]] with
       | false=>rfl
       | true=>have:=own _ _ hc;omega
      have h4:es.contains [v[k],v[j]]=false:=by rw [← e] at h2 ⊢;exact h2
      rw [h2,h4];simp [e]
 have BZ:rF v es p (n4 v es es.length).1 (n4 v es es.length).2 (q8 v p p.length):=⟨I.fl,fun j hj=>by rw [I.fb j hj];rfl,I.nl,I.CF,AW,A.al,A.alt,fun j hj h' k hk=>A.ab j hj h' k hk⟩
 refine ⟨_,_,_,?_,BZ⟩;have l0:=D19 C.G (show v.length≤14 by omega) (show es.length≤1000000 by omega) p (gf (az v.length 0)) v.length
 have l1:=D2a rX (show v.length≤14 by omega) (show p.length≤1000000 by omega) C.hp (F:=(((n4 v es es.length).1:Nat):Int)) I.nl I.CF AW (v,es)
 have xy:Pz (es,())=some false:=by
  have key:=th (f:=Ld) es (fun i=>(es,(),(es.length:Int),(i:Int))) (fun _=>false) (.inl 0) (.inr ()) (fun i hi=>by
   have dP:(i:Int)<(es.length:Int):=by omega
   have h2:¬ ((es[i].length:Int)>2):=by have:=C.G.two _ (aJ hi);omega
   simp only [Ld,VA,dP,decide_true,cond_true,aj,aq,af hi,ah,h2,decide_false,cond_false,gW (show i<9223372036854775807 by omega)]
   rfl) (by simp only [Ld,aY,decide_false,cond_false])
  have key:dq Ld (es,(),(es.length:Int),0)=_:=key;have xN:(es.any fun _=>false)=false:=by simp
  rw [xN] at key;unfold Pz VC;simp only [key];rfl
 have el:(yA v p p.length).length=p.length:=by simp [yA]
 obtain ⟨M,s1,s2,s3⟩:=C8x (n:=p.length) np el;obtain ⟨k,M',c1,c2,c3,c4⟩:=C2q (n:=p.length) (by omega) s2
 have dM:∀ x∈M'.take k,x∈yA v p p.length:=fun x hx=>s3 x (c4 x hx)
 have DT:∀ x∈M'.take k,∃ q∈p,x=(((A0o v q.1:Nat):Int),((A0o v q.2:Nat):Int)):=by
  intro x hx
  have:=dM x hx
  unfold yA at this;rw [mX] at this;obtain ⟨q,hq,rfl⟩:=bh.1 this;exact ⟨q,hq,rfl⟩
 have Mo:CC v.length (M'.take k):=by
  intro x hx;obtain ⟨q,hq,rfl⟩:=DT x hx;have h1:=Go.Hg.iO (C.hp q hq).2.1;have h2:=Go.Hg.iO (C.hp q hq).2.2;simp only;omega
 have hlen:(M'.take k).length≤12:=by rw [aX];omega
 have fY:H4 v.length (M'.take k)=0:=by
  unfold H4;have h1:¬ (v.length:Int)>1000:=by omega
  have h2:¬ ((M'.take k).length:Int)>20000:=by omega
  have h3:¬ (v.length:Int)<0:=by omega
  have h4:(M'.take k).any (F3 v.length)=false:=by
   rw [List.any_eq_false];intro x hx hb;rw [WY] at hb
   have:=Mo x hx
   omega
  simp only [h1,h2,h3,h4,if_false,aF]
 obtain ⟨f,hf⟩:=C.acy;have Xj:=C8v (n:=v.length) (by omega) Mo (by omega) fY (f:=fun i=>f (v.getD i 0)) (fun u w h=>by
  obtain ⟨q,hq,e⟩:=DT _ h;have e1:u=A0o v q.1:=by have:=congrArg Prod.fst e;simp only at this;omega
  have e2:w=A0o v q.2:=by have:=congrArg Prod.snd e;simp only at this;omega
  have g1:=Go.Hg.gz (C.hp q hq).2.1;have g2:=Go.Hg.gz (C.hp q hq).2.2;show f (v.getD u 0)<f (v.getD w 0);rw [e1,e2,bu,bu,g1,g2];exact hf q hq)
 have CG:(az v.length (0:Int))=gf (az v.length 0):=by simp [gf]
 have hF:bg.wrap (nW bg 1 (v.length:Int)-1)=((2 ^ v.length-1:Nat):Int):=by
  rw [Ia (show v.length<16 by omega),Nat.one_shiftLeft]
  have hp0:=gA v.length
  have:(((2 ^ v.length:Nat):Int)-1)=((2 ^ v.length-1:Nat):Int):=by omega
  rw [this];exact DN (k:=.u16) rfl (xO (show 2 ^ v.length-1<2 ^ v.length by omega) (by omega))
 have hrl:(gf (az v.length 0)).length=v.length:=by simp
 have Xk:¬ (v.length:Int)>14:=by omega
 have nl1:(gf (n4 v es es.length).2).length=v.length:=by rw [vX,I.nl]
 have nl2:(gf (q8 v p p.length)).length=v.length:=by rw [vX,A.al]
 unfold DK;simp only [B0S (show v.length≤1000000 by omega) C.el,C.hv,ah,bJ,cond_false,xy,Xk,decide_false,aj,decide_true,cond_true,lI,aq,iy (show v.length*2≤140737488355328 by omega),CG,hrl,
  iy (au _),hF,l0,l1,iL,s1,c1,iy c2,Xj,aZ (eG nl1),aZ (eG nl2)]
omit C in
theorem Xl (rX:asc v=true) (nv:v.length≤16) {l:List Int} (hl:∀ x∈l,x∈v) (nl:l.length≤1000000) (F:Nat) (fN dx:List Nat):FV (gm v es F fN dx,l)=some ((A0z v l:Nat):Int):=by
 have key:=qE (f:=Lu) l.length (fun i=>(gm v es F fN dx,((A0z v (l.take i):Nat):Int),l,(l.length:Int),(i:Int))) ((A0z v l:Nat):Int) (fun i hi=>by
  have dP:(i:Int)<(l.length:Int):=by omega
  have hx:=hl _ (aJ hi);have hp:=Go.Hg.iO hx;have hb:=xO (L6 (v:=v) (e:=l.take i) fun y hy=>hl y (c8 hy)) nv
  have e1:A0z v (l.take (i+1))=A0z v (l.take i) ||| 1 <<< A0o v l[i]:=by
   unfold A0z Go.Hg.bitsFrom;rw [sM hi,fK];rfl
  simp only [Lu,dP,decide_true,cond_true,aj,aq,af hi,ah,QF rX (show v.length≤1000000 by omega),hx,if_true,Ia (show A0o v l[i]<16 by omega),Cz (k:=.u16) rfl hb (vh (show A0o v l[i]<16 by omega)),e1,
   gW (show i<9223372036854775807 by omega)]) (by
  simp only [Lu,aY,decide_false,cond_false,mX])
 have key:dq Lu (gm v es F fN dx,0,l,(l.length:Int),0)=_:=key;unfold FV;simp only [key,ah]
theorem C8z (F:Nat) (fN dx:List Nat):PZ (gm v es F fN dx)=some (A5M v es)∧VP (gm v es F fN dx)=some ((A5M v es).length,A5M v es):=by
 have nv:=C.nv;have H:=C.H;have wA:Pk (v,es)=some 0:=by
  unfold Pk
  have:¬ (v.length:Int)>40:=by omega
  simp only [B0S (show v.length≤1000000 by omega) C.el,ah,C.hv,bJ,cond_false,this,decide_false]
 have eE:∀ s∈Go.Hg.allS v es,s<2 ^ v.length:=fun s hs=>((Go.Hg.rC C.G.kQ).1 hs).1
 have hlen:(Go.Hg.allS v es).length≤20000:=by
  have h1:=L7 (es.map (A0z v)) v.length 0 0 0;have h2:2 ^ v.length≤2 ^ 14:=cN (by decide) (by omega)
  have h3:2 ^ 14=16384:=by decide
  unfold Go.Hg.allS;omega
 have key:=WE (f:=KZ) (Go.Hg.allS v es) (fun s=>[idsP v s]) (fun i acc=>((acc.length,gf (Go.Hg.allS v es),((gf (Go.Hg.allS v es)).length:Int),(i:Int)),(v,es),acc)) (fun acc=>(acc.length,acc)) (fun i hi=>by
  have dP:(i:Int)<((gf (Go.Hg.allS v es)).length:Int):=by rw [vX];omega
  have hl:(((Go.Hg.allS v es).take i).flatMap fun s=>[idsP v s]).length≤i:=by
   rw [B7q];simp;omega
  simp only [KZ,dP,decide_true,cond_true,aj,aq,Bk hi,ah,D5V H (eE _ (aJ hi)),gW (show i<9223372036854775807 by omega),iy (au _),mX,aQ,dz]
  rw [iy (by omega),cond_true]) (by
  simp only [KZ,vX,aY,decide_false,cond_false])
 have uo:((Go.Hg.allS v es).flatMap fun s=>[idsP v s])=A5M v es:=by rw [B7q];rfl
 rw [uo] at key;have key:dq KZ ((0,gf (Go.Hg.allS v es),((gf (Go.Hg.allS v es)).length:Int),0),(v,es),[])=_:=key;have hA:K0 ((v,es),20000)=some (((A5M v es).length,0),A5M v es):=by
  unfold K0;simp only [wA,ah,D3W H C.el (show v.length≤14 by omega)]
  simp only [bne_self_eq_false,cond_false,bJ,key,ah]
 refine ⟨?_,?_⟩
 · unfold PZ;simp only [ah,hA,iy (au _),cond_true,mX]
 · unfold VP;simp only [ah,hA]
end
end Go.Mid
namespace Go.Mid
open Go.Hg (asc less A0z A0o A4V Gr PrV nbB A8c A4k A5N Acy idsP A5M A0L Rep ImpP C8h B0E pickL C8g B57)
theorem C43 {m:Nat} (hm:m<sq) (h:tM m=[]):m=0:=by
 by_cases h0:m=0
 · exact h0
 · obtain ⟨k,hk,_⟩:=We h0
   have:k∈tM m:=cA.2 ⟨bX.2 (by have:=Mm hm hk;omega),hk⟩
   rw [h] at this;cases this
theorem C44 {m k:Nat} {r:List Nat} (hm:m<sq) (h:tM m=k::r):m≠0∧m.testBit k=true∧(∀ j,j<k→m.testBit j=false)∧tM (m &&& (m-1))=r∧m &&& (m-1)<sq:=by
 have h0:m≠0:=by
  intro e;subst e;have h0:tM 0=[]:=by unfold tM;rw [iI];intro a _;simp
  rw [h0] at h;cases h
 obtain ⟨k',nu,xk⟩:=We h0;rw [C5v (show k'<32 by have:=Mm hm nu;omega) nu xk] at h
 obtain ⟨rfl,hr⟩:=List.cons.inj h;exact ⟨h0,nu,xk,hr,iK iT hm⟩
theorem B6h {m k:Nat} (hm:m<sq):k∈tM m↔m.testBit k=true:=by
 unfold tM;rw [cA,bX];exact ⟨fun h=>h.2,fun h=>⟨by have:=Mm hm h;omega,h⟩⟩
theorem Ic {m n:Nat} (h:m<2 ^ n) (hn:n≤16):m<sq:=br h (cN (by decide) hn)
section
variable {v:List Int} {es:List (List Int)} {p:PrV} (nv:v.length≤14) {F:Nat} {fN dx:List Nat} (g:rF v es p F fN dx)
include nv g
omit nv in
theorem Xm {k:Nat} (hk:k<v.length):(gf dx)[k]?=some ((dx.getD k 0:Nat):Int)∧dx.getD k 0<2 ^ v.length∧∀ j (hj:j<v.length),(dx.getD k 0).testBit j=A4k p v[j] v[k]:=by
 have hl:k<dx.length:=by rw [g.al];exact hk
 have d:dx.getD k 0=dx[k]:=by rw [bu,af hl];rfl
 rw [d];exact ⟨Bk hl,g.alt _ (aJ hl),fun j hj=>g.ab k hk hl j hj⟩
theorem B7w {a b:Nat} (ha:a<2 ^ v.length) (hb:b<2 ^ v.length):∀ (L:List Nat) (x:Nat),tM x=L→x<2 ^ v.length →
 dq Lx (gm v es F fN dx,(a:Int),(b:Int),(x:Int))=some (bif L.any (fun k=>less (dx.getD k 0 &&& b) a==0) then .inl false else .inr ((a:Int),(b:Int)))
 | [],x,h,hx=>by
   rw [C43 (Ic hx (by omega)) h]
   refine pV ?_;simp [Lx]
 | k::r,x,h,hx=>by
   obtain ⟨h0,hk,Xn,hr,_⟩:=C44 (Ic hx (by omega)) h
   have DU:k<v.length:=bz fun hc=>by rw [Go.Hg.mT hx (by omega)] at hk;cases hk
   obtain ⟨a1,a2,_⟩:=Xm g DU;have vN:((x:Int)>0):=by omega
   have st:Lx (gm v es F fN dx,(a:Int),(b:Int),(x:Int))=if (less (dx.getD k 0 &&& b) a==0)=true then some (.inr (.inl false)) else some (.inl (gm v es F fN dx,(a:Int),(b:Int),((x &&& (x-1):Nat):Int))):=by
    simp only [Lx,vN,decide_true,cond_true,ah,D34 (Ic hx (by omega)) hk Xn,aj,aq,a1,L1 (k:=.u16) rfl (xO a2 (by omega)) (xO hb (by omega)),
     H0 (k:=.u16) rfl (xO (iK iT a2) (by omega)) (xO ha (by omega)),WJ,D52 h0 (Ic hx (by omega))]
    cases less (dx.getD k 0 &&& b) a==0<;>rfl
   simp only [ft];by_cases hc:(less (dx.getD k 0 &&& b) a==0)=true
   · rw [if_pos hc] at st;rw [pV st,hc,Bool.true_or,cond_true]
   · rw [if_neg hc] at st;have vD:(less (dx.getD k 0 &&& b) a==0)=false:=by simpa using hc
     rw [uG st,B7w ha hb r _ hr (iK iT hx),vD,Bool.false_or]
omit nv g in
theorem D2c {a b n:Nat} (ha:a<2 ^ n) (hb:b<2 ^ n) (h:∀ j,j<n→a.testBit j=b.testBit j):a=b:=by
 apply dH;intro j;by_cases hj:j<n
 · exact h j hj
 · rw [Go.Hg.mT ha (by omega),Go.Hg.mT hb (by omega)]
theorem D0r {a b:Nat} (rX:asc v=true) (ha:a<2 ^ v.length) (hb:b<2 ^ v.length) (hr:Rep v es (idsP v a)) (hs:Rep v es (idsP v b)) :
 P0 (gm v es F fN dx,(a:Int),(b:Int))=some (tn p (idsP v a) (idsP v b)):=by
 have hd:zR .u16 (a:Int) (b:Int)=((less a b:Nat):Int):=H0 (k:=.u16) rfl (xO ha (by omega)) (xO hb (by omega))
 have eE:less a b<2 ^ v.length:=Qi ha;have key:=B7w nv g ha hb (tM (less a b)) (less a b) rfl eE;unfold P0;simp only [hd,key];have mem:∀ {s j:Nat} (hj:j<v.length),v[j]∈idsP v s↔s.testBit j=true:=fun {s j} hj=>by
  rw [← bD,Go.Hg.lD rX hj]
 have xN:(tM (less a b)).any (fun k=>less (dx.getD k 0 &&& b) a==0)=true↔¬ ∀ x∈idsP v a,x∉idsP v b→∃ y∈idsP v b,y∉idsP v a∧A4k p y x=true:=by
  rw [b6];constructor
  · rintro ⟨k,hk,h0⟩ ko;rw [B6h (Ic eE (by omega)),Go.Hg.iN] at hk
    simp only [ak,db] at hk;have DU:k<v.length:=bz fun hc=>by rw [Go.Hg.mT ha (by omega)] at hk;exact absurd hk.1 (by simp)
    obtain ⟨y,hy,hny,hyb⟩:=ko v[k] ((mem DU).2 hk.1) (fun h=>(by rw [mem DU,hk.2] at h;cases h))
    obtain ⟨j,hj,rfl,hyj⟩:=Go.Hg.mg.1 hy;obtain ⟨_,_,a3⟩:=Xm g DU;have h1:(less (dx.getD k 0 &&& b) a).testBit j=true:=by
     rw [Go.Hg.iN,eV,a3 j hj,hyb,hyj]
     have:a.testBit j=false:=by
      cases hc:a.testBit j with
      | false=>rfl
      | true=>exact absurd ((mem hj).2 hc) hny
     simp [this]
    rw [eq_of_beq h0,dT] at h1;cases h1
  · intro h;refine bz fun hc=>h fun x hx SK=>?_
    obtain ⟨k,DU,rfl,hka⟩:=Go.Hg.mg.1 hx;have hkb:b.testBit k=false:=by
     cases zj:b.testBit k with
     | false=>rfl
     | true=>exact absurd ((mem DU).2 zj) SK
    have L0:k∈tM (less a b):=by rw [B6h (Ic eE (by omega)),Go.Hg.iN,hka,hkb];rfl
    have ev:less (dx.getD k 0 &&& b) a≠0:=fun e=>hc ⟨k,L0,by rw [e];rfl⟩
    obtain ⟨j,hj,_⟩:=We ev;obtain ⟨_,a2,a3⟩:=Xm g DU;rw [Go.Hg.iN,eV] at hj;simp only [ak,db] at hj;have Xo:j<v.length:=bz fun hc=>by rw [Go.Hg.mT hb (by omega)] at hj;exact absurd hj.1.2 (by simp)
    refine ⟨v[j],(mem Xo).2 hj.1.2,fun h=>(by rw [mem Xo,hj.2] at h;cases h),?_⟩
    rw [← a3 j Xo];exact hj.1.1
 have ev:(a != b)=true↔∃ y∈idsP v b,y∉idsP v a:=by
  rw [bne_iff_ne];constructor
  · intro h;refine bz fun hc=>h ?_
    have dM:∀ y∈idsP v b,y∈idsP v a:=fun y hy=>bz fun hn=>hc ⟨y,hy,hn⟩
    have:=Go.Hg.F0 hr hs dM
    refine D2c ha hb fun j hj=>?_
    rw [← Go.Hg.lD rX hj (s:=a),← Go.Hg.lD rX hj (s:=b),this]
  · rintro ⟨y,h1,h2⟩ e;subst e;exact h2 h1
 have Xp:(((a:Nat):Int) != ((b:Nat):Int))=(a != b):=by
  cases hc:a != b with
  | true =>
    rw [bne_iff_ne] at hc ⊢;omega
  | false =>
    have:a=b:=by simpa using hc
    subst this;simp
 have goal:(bif (tM (less a b)).any (fun k=>less (dx.getD k 0 &&& b) a==0) then false else (a != b))=tn p (idsP v a) (idsP v b):=by
  apply cn.2;rw [D1W];unfold ImpP;cases hc:(tM (less a b)).any (fun k=>less (dx.getD k 0 &&& b) a==0) with
  | true =>
    have:=xN.1 hc
    exact ⟨fun h=>(by cases h),fun h=>absurd h.1 this⟩
  | false =>
    rw [cond_false,ev]
    have:∀ x∈idsP v a,x∉idsP v b→∃ y∈idsP v b,y∉idsP v a∧A4k p y x=true:=bz fun h=>(by have:=xN.2 h;rw [hc] at this;cases this)
    exact ⟨fun h=>⟨this,h⟩,fun h=>h.2⟩
 rw [← goal];cases (tM (less a b)).any (fun k=>less (dx.getD k 0 &&& b) a==0) with
 | true=>rfl
 | false=>simp only [cond_false,ah,iL,Xp]
end
end Go.Mid
namespace Go.Mid
open Go.Hg (asc less A0z A0o A4V Gr PrV nbB A8c A4k A5N Acy idsP A5M A0L Rep ImpP C8h B0E C8g B57 A0y A5L)
section
variable {v:List Int} {es:List (List Int)} {p:PrV} (nv:v.length≤14) (rX:asc v=true)
include nv rX
theorem C45 {l:List Int} (hl:∀ x∈l,x∈v) (ha:asc l=true):idsP v (A0z v l)=l:=by
 have:=nv
 refine Go.Hg.pX (Go.Hg.iz.1 (Go.Hg.uI rX _)) (Go.Hg.iz.1 ha) fun x=>?_
 rw [Go.Hg.mg];constructor
 · rintro ⟨i,hi,rfl,hb⟩;rw [Go.Hg.mf rX hl i hi] at hb;exact bD.1 hb
 · intro hx;obtain ⟨i,hi,rfl⟩:=fB.1 (hl x hx);exact ⟨i,hi,rfl,by rw [Go.Hg.mf rX hl i hi];exact bD.2 hx⟩
variable {F:Nat} {fN dx:List Nat} (g:rF v es p F fN dx)
include g
end
end Go.Mid
namespace Go.Mid
open Go.Hg (asc less A0z A0o A4V Gr PrV nbB A8c A4k A5N Acy idsP A5M refR A0L Rep ImpP C8h B0E C8g B57)
theorem C5G {α:Type} (q:α→Bool):∀ (l:List α),l.find? q=match pG (fun _ x=>q x) l 0 with | some i=>l[i]? | none=>none:=by
 intro l;rw [B9A,List.find?_eq_bind_findIdx?_getElem?];cases List.findIdx? q l<;>rfl
theorem C0Z {l:List Int} (hl:l.length≤1000000) (x:Int):P2 (l,x)=some (l.filter fun y=>y != x):=by
 have key:=WE (f:=LD) l (fun y=>if (y != x) then [y] else []) (fun i acc=>((l,x,acc.length,(i:Int)),acc)) (fun acc=>(acc.length,acc)) (fun i hi=>by
  have dP:(i:Int)<(l.length:Int):=by omega
  have hl:=C4I (fun y=>y != x) l i
  simp only [LD,dP,decide_true,cond_true,aj,aq,af hi,ah,gW (show i<9223372036854775807 by omega),iy (au _)]
  cases l[i] != x with
  | false=>simp
  | true =>
    simp only [cond_true,if_true,mX,aQ,dz];rw [iy (by omega),cond_true]) (by
  simp only [LD,aY,decide_false,cond_false])
 rw [WG] at key;have key:dq LD ((l,x,0,0),[])=_:=key;unfold P2;simp only [key,ah,iy (au _),cond_true,mX]
theorem C46 {p:PrV} (np:p.length≤1000000) (ha:Acy p):∀ (m:Nat) (rest:List Int),rest.length≤m→rest.length≤1000000→dq LI (p,rest)=some (.inr ())
 | m,rest,hm,hl=>by
   by_cases h0:rest=[]
   · subst h0;exact pV (by simp [LI])
   · match m,hm with
     | 0,hm=>exact absurd (ib.1 (by omega)) h0
     | m+1,hm =>
       obtain ⟨x,hx,hb⟩:=Go.Hg.Ac ha rest h0;have hf:(pG (fun _ x=>A5N p rest x) rest 0).isSome=true:=by
        rw [Ht (fun x=>A5N p rest x)]
        exact b6.2 ⟨x,hx,hb⟩
       obtain ⟨k,hk⟩:=fm.1 hf;obtain ⟨_,k1,⟨k2,k3⟩,k4⟩:=O5 hk;simp only [Nat.sub_zero,bS] at k1 k2 k3 k4;have l3:dq LH (p,rest,(rest.length:Int),0)=some (p,rest.filter (fun y=>y != rest[k]),(rest.length:Int)):=by
        have key:=qE (f:=LH) k (fun i=>(p,rest,(rest.length:Int),(i:Int))) (p,rest.filter (fun y=>y != rest[k]),(rest.length:Int)) (fun i hi=>by
         have dP:(i:Int)<(rest.length:Int):=by omega
         simp only [LH,dP,aj,decide_true,cond_true,aq,af (show i<rest.length by omega),ah,WH np hl,k4 i (by omega) hi,cond_false,gW (show i<9223372036854775807 by omega)]) (by
         have nu:(k:Int)<(rest.length:Int):=by omega
         simp only [LH,nu,aj,decide_true,cond_true,aq,af k2,ah,WH np hl,k3,C0Z hl])
        exact key
       have eE:(rest.filter fun y=>y != rest[k]).length<rest.length:=by
        refine Nat.lt_of_le_of_ne (dU _ _) fun e=>?_
        have:=List.length_filter_eq_length_iff.1 e rest[k] (aJ k2)
        simp at this
       have vN:((rest.length:Int)>0):=by omega
       have ev:(((rest.filter fun y=>y != rest[k]).length:Int)==(rest.length:Int))=false:=by rw [beq_eq_false_iff_ne];omega
       have st:LI (p,rest)=some (.inl (p,rest.filter fun y=>y != rest[k])):=by
        simp only [LI,vN,decide_true,cond_true,l3,ah,ev,cond_false]
       rw [uG st];exact C46 np ha m _ (by omega) (by omega)
section
variable {v:List Int} {es:List (List Int)} {p:PrV} (C:Ctx v es p)
include C
theorem C00:LJ ((v,es),p)=some 0:=by
 have nv:=C.nv;have ne:=C.ne;have np:=C.np;have l0:=th (f:=LF) es (fun i=>((p,(i:Int)),v,es)) (fun _=>false) (.inl 14) (.inr (p,v,es)) (fun i hi=>by
  have dP:(i:Int)<(es.length:Int):=by omega
  have h2:¬ ((es[i].length:Int)>2):=by have:=C.G.two _ (aJ hi);omega
  simp only [LF,dP,decide_true,cond_true,aj,aq,af hi,ah,h2,decide_false,cond_false,gW (show i<9223372036854775807 by omega)]
  rfl) (by simp only [LF,aY,decide_false,cond_false])
 have l0:dq LF ((p,0),v,es)=_:=l0;have l1:=th (f:=LG) p (fun i=>((p,(i:Int)),v,es)) (fun _=>false) (.inl 1) (.inr (p,v,es)) (fun i hi=>by
  have dP:(i:Int)<(p.length:Int):=by omega
  have hb:=(C.hp _ (aJ hi)).1;simp only [LG,dP,decide_true,cond_true,aj,aq,af hi,ah,C96 (show es.length≤1000000 by omega) C.el,hb,bJ,cond_false,gW (show i<9223372036854775807 by omega)]
  rfl) (by simp only [LG,aY,decide_false,cond_false])
 have l1:dq LG ((p,0),v,es)=_:=l1;have h1:(es.any fun _=>false)=false:=by simp
 have h2:(p.any fun _=>false)=false:=by simp
 rw [h1] at l0;rw [h2] at l1;have Xk:¬ (v.length:Int)>14:=by omega
 unfold LJ;simp only [C0S (show v.length≤1000000 by omega) C.el,C.hv,ah,bJ,cond_false,l0,if_false,aF,iL,Xk,decide_false,l1,C46 (show p.length≤1000000 by omega) C.acy v.length v (au _) (by omega)]
theorem C47 {L:List (List Int)} (hL:L.length≤10) (hl:∀ l∈L,l.length≤100000):HT ((v,es),p,L)=some (bif L.all (A0L v es) then 0 else 1):=by
 have nv:=C.nv;have ne:=C.ne;have key:=th (f:=LM) L (fun i=>((L,(i:Int)),v,es)) (fun l=>!A0L v es l) (.inl 1) (.inr ()) (fun i hi=>by
  have dP:(i:Int)<(L.length:Int):=by omega
  simp only [LM,dP,decide_true,cond_true,aj,aq,af hi,ah,WA (show v.length≤100000 by omega) (show es.length≤1000000 by omega) C.el (hl _ (aJ hi)),gW (show i<9223372036854775807 by omega)]
  cases A0L v es L[i]<;>rfl) (by simp only [LM,aY,decide_false,cond_false])
 have key:dq LM ((L,0),v,es)=_:=key;unfold HT;simp only [C00 C,ah,bne_self_eq_false,cond_false,key];rw [Wy];cases L.any fun l=>!A0L v es l<;>rfl
theorem Ie {l:List Int} (h:A0L v es l=true):l.length≤9∧asc l=true∧∀ x∈l,x∈v:=by
 have R:=(Go.Hg.oq C.G).1 h
 have:=C.nv
 have hs:=Go.Hg.mI (Go.Hg.iz.1 R.asc) (Go.Hg.iz.1 C.av) R.sub;exact ⟨by have:=hs.length_le;omega,R.asc,R.sub⟩
theorem Xq {l:List Int} (h:l∈refR v es):A0L v es l=true:=by
 obtain ⟨_,hm⟩:=Go.Hg.qu C.G.kQ;obtain ⟨_,_,_,h2⟩:=(hm l).1 h;exact h2
theorem C2d:A5M v es=refR v es:=Go.Hg.Ab C.G.kQ
theorem C48:(refR v es).length≤1024:=by
 rw [← C2d C];unfold A5M Go.Hg.allS;rw [aD];have h1:=L7 (es.map (A0z v)) v.length 0 0 0
 have:=C.nv
 have h2:2 ^ v.length≤2 ^ 10:=cN (by decide) (by omega)
 have h3:2 ^ 10=1024:=by decide
 omega
theorem D2d:HU (v,es)=some (refR v es):=C0R (by have:=C.nv;omega) (by have:=C.ne;omega) C.el
theorem B90 {r:List Int} (hr:r.length≤1000):HW ((v,es),p,r)=some (!(refR v es).any (tn p r)):=by
 have hl:=C48 C;have np:=C.np;have key:=th (f:=LS) (refR v es) (fun i=>(p,r,refR v es,(i:Int))) (tn p r) (.inl false) (.inr ()) (fun i hi=>by
  have dP:(i:Int)<((refR v es).length:Int):=by omega
  have h1:=(Ie C (Xq C (aJ hi))).1;simp only [LS,dP,decide_true,cond_true,aj,aq,af hi,ah,B2C (show p.length≤1000000 by omega) (show r.length≤1000000 by omega) (show (refR v es)[i].length≤1000000 by omega),gW (show i<9223372036854775807 by omega)]
  cases tn p r (refR v es)[i]<;>rfl) (by simp only [LS,aY,decide_false,cond_false])
 have key:dq LS (p,r,refR v es,0)=_:=key;unfold HW;simp only [D2d C,ah,key];cases (refR v es).any (tn p r)<;>rfl
variable {F:Nat} {fN dx:List Nat} (hb:DK ((v,es),p)=some (gm v es F fN dx,0)) (g:rF v es p F fN dx)
include hb
theorem D36 {r s:List Int} (hr:r.length≤20) (hs:s.length≤20):PR ((v,es),p,r,s)=some (bif A0L v es r&&A0L v es s then (gm v es F fN dx,((A0z v r:Nat):Int),((A0z v s:Nat):Int),0) else (none,0,0,1)):=by
 have nv:=C.nv;have ne:=C.ne;have m1:=A9J (l:=r) C.av (show v.length≤100000 by omega) (show es.length≤1000000 by omega) C.el (show r.length≤100000 by omega)
 have m2:=A9J (l:=s) C.av (show v.length≤100000 by omega) (show es.length≤1000000 by omega) C.el (show s.length≤100000 by omega)
 unfold PR;simp only [hb,ah,bne_self_eq_false,cond_false,m1,m2];cases h1:A0L v es r with
 | false=>rfl
 | true =>
   cases h2:A0L v es s with
   | false=>rfl
   | true =>
     have o1:=Xl (es:=es) C.av (show v.length≤16 by omega) (Ie C h1).2.2 (show r.length≤1000000 by omega) F fN dx
     have o2:=Xl (es:=es) C.av (show v.length≤16 by omega) (Ie C h2).2.2 (show s.length≤1000000 by omega) F fN dx
     simp only [bJ,cond_false,o1,o2,ah,gT,cond_true]
include g
omit hb in
theorem C8A {r:List Int} (h1:A0L v es r=true):LA (gm v es F fN dx,((A0z v r:Nat):Int),gm v es F fN dx)=some (match (refR v es).find? (tn p r) with | some l=>(l,false) | none=>([],true)):=by
 have nv:=C.nv;have hl:=C48 C;obtain ⟨_,ha,dM⟩:=Ie C h1;have eR:=C45 (show v.length≤14 by omega) C.av dM ha
 have key:=Cw (f:=Ly) (refR v es) (fun i=>(gm v es F fN dx,((A0z v r:Nat):Int),gm v es F fN dx,refR v es,((refR v es).length:Int),(i:Int))) (fun _ l=>tn p r l) (fun i=>.inl ((refR v es).getD i [],false)) (.inr ()) (fun i hi=>by
  have dP:(i:Int)<((refR v es).length:Int):=by omega
  have hm:=Xq C (aJ hi);obtain ⟨h3,h4,h5⟩:=Ie C hm;have eL:=C45 (show v.length≤14 by omega) C.av h5 h4
  have o1:=Xl (es:=es) C.av (show v.length≤16 by omega) h5 (show (refR v es)[i].length≤1000000 by omega) F fN dx
  have g1:=D0r (show v.length≤14 by omega) g C.av (L6 dM) (L6 h5) (by rw [eR];exact (Go.Hg.oq C.G).1 h1) (by rw [eL];exact (Go.Hg.oq C.G).1 hm)
  rw [eR,eL] at g1;have gd:(refR v es).getD i []=(refR v es)[i]:=by rw [bu,af hi];rfl
  simp only [Ly,dP,decide_true,cond_true,aj,aq,af hi,ah,o1,g1,gd,gW (show i<9223372036854775807 by omega)]
  cases tn p r (refR v es)[i]<;>rfl) (by simp only [Ly,aY,decide_false,cond_false])
 have key:dq Ly (gm v es F fN dx,((A0z v r:Nat):Int),gm v es F fN dx,refR v es,((refR v es).length:Int),0)=_:=key;have CG:=(C8z C F fN dx).1;rw [C2d C] at CG;unfold LA;simp only [CG,ah,key];rw [C5G (tn p r) (refR v es)];cases hf:pG (fun _ l=>tn p r l) (refR v es) 0 with
 | none=>rfl
 | some i =>
   obtain ⟨_,hi,_⟩:=O5 hf;have hi:i<(refR v es).length:=by omega
   simp only [bu,af hi,Option.getD_some,qc]
theorem C5H {r:List Int} (hr:r.length≤20):LB ((v,es),p,r)=some (bif A0L v es r then (match (refR v es).find? (tn p r) with | some l=>(l,false,(0:Int)) | none=>([],true,0)) else ([],false,1)):=by
 unfold LB;simp only [D36 C hb hr hr,ah,gT];cases h1:A0L v es r with
 | false=>rfl
 | true =>
   simp only [cond_true,bne_self_eq_false,cond_false,C8A C g h1,ah];cases (refR v es).find? (tn p r)<;>rfl
end
end Go.Mid
namespace Go.Mid
open Go.Hg (asc Gr PrV nbB A8c A4k A5N Acy refR A0L Rep ImpP C8h B57 A1e hEs)
theorem D53 {N:Nat} {E:List Nat} {R:List Int} {skip:Nat} (hR:∀ r∈R,0≤r):Ctx (A1e (N%9)) (hEs N (E.map pw)) (Ae (A1e (N%9)) R skip (hEs N (E.map pw))):=by
 have G:Gr (A1e (N%9)) (hEs N (E.map pw)):=D6R;have hl:(A1e (N%9)).length=N%9:=Go.Hg.lW _;have he:=Go.Hg.pt N (E.map pw);exact ⟨G,Go.Hg.xI N (E.map pw),by omega,he,dJ D50 he,fun q hq=>D6S G hq,D5Z G hR (D0c (by omega))⟩
section
variable {v:List Int} {es:List (List Int)} {p:PrV} (C:Ctx v es p)
include C
theorem D37 {r:List Int} (hr:r.length≤20):HT ((v,es),p,[r])=some (bif A0L v es r then 0 else 1):=by
 rw [C47 C (L:=[r]) (by simp) (fun l hl=>by simp only [aW] at hl;subst hl;omega)]
 simp
theorem D2e {α:Type} (q:α→Bool) (l:List α):l.any q=(l.find? q).isSome:=by
 have:=C
 induction l with
 | nil=>rfl
 | cons x r ih =>
   rw [ft,List.find?_cons,ih];cases q x<;>rfl
theorem D6W {r:List Int} (hr:r.length≤20):((LB ((v,es),p,r)).bind fun q =>
 (HT ((v,es),p,[r])).bind fun s =>
   bif s != (0:Int) then bif q.2.2==s then bif !q.2.1 then some ((q.1.length:Int)==(0:Int)) else some false else some false
   else
    bif q.2.1 then bif q.2.2==(0:Int) then bif (q.1.length:Int)==(0:Int) then (HW ((v,es),p,r)).bind fun t=>some t else some false else some false
    else bif q.2.2==(0:Int) then (FW ((v,es),q.1)).bind fun t=>bif t then (HV (p,r,q.1)).bind fun u=>some u else some false else some false)=some true:=by
 obtain ⟨F,fN,dx,hb,g⟩:=D2b C;have ne:=C.ne;have nv:=C.nv;have np:=C.np;simp only [C5H C hb g hr,ah,D37 C hr];cases hm:A0L v es r with
 | false=>rfl
 | true =>
   have ha:=D2e C (tn p r) (refR v es);cases hf:(refR v es).find? (tn p r) with
   | none =>
     rw [hf] at ha;simp [B90 C (show r.length≤1000 by omega),ha]
   | some l =>
     have hl:=Xq C (List.mem_of_find?_eq_some hf);have hi:=List.find?_some hf;have h9:=(Ie C hl).1;simp [WA (show v.length≤100000 by omega) (show es.length≤1000000 by omega) C.el (show l.length≤100000 by omega),hl,B2C (show p.length≤1000000 by omega) (show r.length≤1000000 by omega) (show l.length≤1000000 by omega),hi]
end
section
variable {N:Nat} {E:List Nat} {R:List Int} {skip:Nat} (hE:E.length≤reachBytes) (hR:∀ r∈R,0≤r)
include hE hR
theorem D6X (r:List Int):P7 (((N:Int),gf E),(R,(skip:Int)),r)=some true:=by
 unfold P7;simp only [D0b hE,ah,bJ,cond_false];cases decide (E.length≤12) with
 | false=>rfl
 | true =>
   by_cases h:(r.length:Int)>20
   · simp [h]
   · simp only [bJ,cond_false,h,decide_false];exact D6W (D53 hR) (by omega)
end
theorem Xr {x:Int} (h:(Lit.int .u8 x).wf=true):0≤x∧x≤255:=by
 simp only [Lit.wf,ak,decide_eq_true_eq] at h;have h1:dw.min=0:=rfl;have h2:dw.max=255:=rfl;rw [h1,h2] at h;exact h
theorem D54 {x:Int} (h:(Lit.int .u16 x).wf=true):0≤x:=by
 simp only [Lit.wf,ak,decide_eq_true_eq] at h;have h1:bg.min=0:=rfl;rw [h1] at h;exact h.1
theorem C6N:∀ {l:List Int},(∀ x∈l,0≤x)→∃ L:List Nat,l=gf L
 | [],_=>⟨[],rfl⟩
 | x::r,h=>by
   obtain ⟨n,hn⟩:=eM (h x (by simp))
   obtain ⟨L,hL⟩:=C6N (l:=r) fun y hy=>h y (bU _ hy)
   exact ⟨n::L,by rw [hn,hL];rfl⟩
section
variable (g:Int×List Int) (q:List Int×Int) (h1:(Lit.int .u8 g.1).wf=true) (h2:g.2.length≤reachBytes) (h3:∀ x∈g.2,(Lit.int .u8 x).wf=true) (h4:∀ x∈q.1,(Lit.int .u8 x).wf=true) (h5:(Lit.int .u16 q.2).wf=true)
include h1 h3 h5
theorem D0s:∃ (N:Nat) (E:List Nat) (skip:Nat),g=((N:Int),gf E)∧q.2=(skip:Int):=by
 obtain ⟨N,hN⟩:=eM (Xr h1).1;obtain ⟨E,hE⟩:=C6N fun x hx=>(Xr (h3 x hx)).1
 obtain ⟨k,hk⟩:=eM (D54 h5);exact ⟨N,E,k,Prod.ext hN hE,hk⟩
include h2 h4
theorem D38 (r:List Int):P7 (g,q,r)=some true:=by
 obtain ⟨N,E,k,rfl,hk⟩:=D0s g q h1 h3 h5;obtain ⟨R,s⟩:=q;subst hk;exact D6X (by rw [vX] at h2;exact h2) (fun r hr=>(Xr (h4 r hr)).1) r
end
end Go.Mid
