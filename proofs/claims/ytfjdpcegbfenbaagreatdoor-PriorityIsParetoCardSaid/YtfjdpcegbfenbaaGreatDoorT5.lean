/- Closures of relations, ascending lists: plain Lean, no program. -/
import Derived.Test.YtfjdpcegbfenbaaGreatDoorT4
import Derived.Test.YtfjdpcegbfenbaaGreatDoorN2
import Derived.Test.YtfjdpcegbfenbaaGreatDoorT2
set_option linter.unusedSimpArgs false
set_option linter.unusedVariables false
open Bool renaming eq_iff_iff → cn, false_eq_true → aF, not_true → bI, and_eq_true → ak, not_eq_true' → dt, and_self → gn
open Classical renaming byContradiction → b4
open Go.IntKind renaming i64 → ai, u64 → aK, u16 → ba, u32 → cM, wrap → gF, bits → fS, signed → eQ, u8 → dx
open Int renaming toNat_natCast → aq, natCast_nonneg → aj, lt_irrefl → aX, eq_ofNat_of_zero_le → eK, le_refl → lH, natCast_zero → cj, toNat → lZ
open List renaming pairwise_cons → bL, mem_cons → aM, mem_cons_of_mem → bU, length_cons → bf, cons_append → aS, length_take → aY, length_append → aQ, length_drop → cz, getElem?_append_right → bG, length → cF, length_nil → cX, getElem?_eq_getElem → af, set_append_right → ez, drop_eq_getElem_cons → b3, set_cons_zero → dY, getElem?_eq_some_iff → aL, ext_getElem? → fE, getElem?_set → dG, take_of_length_le → aZ, length_set → iN, set_set → nI, take_append_drop → bN, replicate → az, length_replicate → gv, append_assoc → bh, map → fv, range → bp, filter_append → eI, map_append → b8, getElem?_eq_none → bJ, length_map → aE, length_filter_le → dT, mem_map → bj, mem_filter → cA, getElem_mem → aJ, drop_length → fe, append_nil → bE, map_congr_left → eU, mem_range → bW, take → aR, getElem_of_mem → gZ, nodup_cons → b5, pairwise_append → cB, mem_singleton → aW, mem_append → ay, mem_append_left → c9, mem_append_right → kS, nodup_append → aT, contains_iff_mem → bB, mem_cons_self → gu, take_length → dR, mem_of_getElem? → bH, map_cons → aH, length_eq_zero_iff → ib, filter_eq_nil_iff → iH, length_pos_iff → jN, map_set → gD, mem_or_eq_of_mem_set → bm, getElem?_set_ne → eJ, pairwise_map → ep, all_eq_true → bg, foldl_append → fG, mem_iff_getElem → fy, getD_eq_getElem?_getD → bu, getElem_set → nm, eq_of_mem_replicate → fm, getElem?_cons_zero → bP, mem_of_mem_take → c8, length_singleton → dz
open Nat renaming le_trans → dI, min_eq_left → da, le_refl → au, sub_self → gE, add_assoc → bX, blt → cZ, beq → iZ, zero_le → dq, le_of_lt → fT, min_eq_right → jz, zero_add → bS, lt_of_lt_of_le → br, pow_le_pow_right → cN, zero_testBit → dS, testBit_and → fK, or_lt_two_pow → eT, testBit_or → bQ, two_pow_pos → gB, le_of_eq → eF, add_sub_cancel → dJ, lt_of_le_of_lt → iJ, and_le_left → iQ
open Option renaming bind_some → ah, map_some → ar, isSome_iff_exists → fj
open Sum renaming elim_inl → qa, elim_inr → jB
namespace Go.Mid
theorem qZ {R:Int→Int→Prop}(F2:∀ a,¬ R a a)(Ma:∀ a b,R a b→R b a→False):∀ {l m:List Int},l.Pairwise R→m.Pairwise R→(∀ x,x∈l↔x∈m)→l=m
 | [],[],_,_,_=>rfl
 | [],b::m,_,_,h=>absurd ((h b).2 (by simp)) (by simp)
 | a::l,[],_,_,h=>absurd ((h a).1 (by simp)) (by simp)
 | a::l,b::m,hl,hm,h=>by
   have xj:=bL.1 hl;have vG:=bL.1 hm;have s0:a=b:=by
    rcases aM.1 ((h a).1 (by simp)) with e | e
    · exact e
    · rcases aM.1 ((h b).2 (by simp)) with e2 | e2
      · exact e2.symm
      · exact (Ma _ _ (xj.1 b e2) (vG.1 a e)).elim
   subst s0;congr 1;refine qZ F2 Ma xj.2 vG.2 fun x=>?_
   constructor
   · intro hx;rcases aM.1 ((h x).1 (bU _ hx)) with e | e
     · subst e;exact (F2 _ (xj.1 _ hx)).elim
     · exact e
   · intro hx;rcases aM.1 ((h x).2 (bU _ hx)) with e | e
     · subst e;exact (F2 _ (vG.1 _ hx)).elim
     · exact e
theorem Qr {l:List Int}{x:Int}:x∈lS l↔x∈l:=(KA l).mem_iff
theorem D0n {l:List Int}(h:l.Nodup):(lS l).Pairwise (· < ·):=by
 have h1:=Vg l;have h2:(lS l).Nodup:=(KA l).nodup_iff.2 h;exact (h1.and h2).imp fun ⟨a,b⟩=>by omega
end Go.Mid
namespace Go.Mid
def jw:List Int→List Int
 | []=>[]
 | [x]=>[x]
 | x::y::r=>if x=y then jw (y::r) else x::jw (y::r)
theorem Qs:∀ (l:List Int) (x:Int),x∈jw l↔x∈l
 | [],x=>by simp [jw]
 | [a],x=>by simp [jw]
 | a::b::r,x=>by
   unfold jw;split
   · rename_i h;rw [Qs (b::r) x,h];simp
   · rw [aM,Qs (b::r) x];simp
theorem Mb:∀ l:List Int,(jw l).length≤l.length
 | []=>by simp [jw]
 | [a]=>by simp [jw]
 | a::b::r=>by
   unfold jw
   have:=Mb (b::r)
   split<;>simp only [bf] at * <;> omega
theorem B7C:∀ (l:List Int) (x:Int),l ≠ []→jw (l++[x])=if l.getLast?=some x then jw l else jw l++[x]
 | [],_,h=>absurd rfl h
 | [a],x,_=>by
   simp only [aS,List.nil_append,jw,List.getLast?_singleton,Option.some.injEq];by_cases h:a=x
   · simp [h]
   · simp [h]
 | a::b::r,x,_=>by
   have ih:=B7C (b::r) x (by simp)
   have e:(a::b::r).getLast?=(b::r).getLast?:=by simp
   rw [e];simp only [aS] at ih ⊢;rw [jw,ih]
   conv=>rhs;rw [jw]
   by_cases h1:a=b<;>by_cases h2:(b::r).getLast?=some x<;>simp [h1,h2]
def pA (l:List Int)(m:Nat):List Int:=jw (l.take m)++l.drop (jw (l.take m)).length
theorem C2v (l:List Int)(m:Nat):(jw (l.take m)).length≤m:=dI (Mb _) (by rw [aY];omega)
theorem C4Y (l:List Int)(m:Nat):(pA l m).length=l.length:=by
 unfold pA;have h1:=Mb (l.take m);rw [aY] at h1;rw [aQ,cz];omega
theorem C4Z {l:List Int}{m i:Nat}(h:(jw (l.take m)).length≤i):(pA l m)[i]?=l[i]?:=by
 unfold pA;rw [bG h,List.getElem?_drop];congr 1;omega
theorem D0o {l:List Int}{m:Nat}(h0:0<m)(h:m≤l.length):(l.take m).getLast?=l[m-1]?:=by
 rw [List.getLast?_eq_getElem?,aY,da h,List.getElem?_take_of_lt (by omega)]
theorem H0 {l:List Int}{m:Nat}(h0:0<m)(h:m<l.length):jw (l.take (m+1))=if l[m]'h=l[m-1]'(by omega) then jw (l.take m) else jw (l.take m)++[l[m]'h]:=by
 have eD:l.take m ≠ []:=by
  intro e
  have:=congrArg cF e
  rw [aY,cX] at this;omega
 rw [si h,B7C _ _ eD,D0o h0 (by omega),af (by omega:m-1<l.length)]
 simp only [Option.some.injEq];by_cases e:l[m]'h=l[m-1]'(by omega)
 · rw [if_pos e.symm,if_pos e]
 · rw [if_neg (fun h=>e h.symm),if_neg e]
theorem D19 {l:List Int}{m:Nat}(h0:0<m)(h:m<l.length)(hk:(jw (l.take m)).length≤m-1)(eD:l[m]'h≠l[m-1]'(by omega)):pA l (m+1)=(pA l m).set (jw (l.take m)).length (l[m]'h):=by
 unfold pA;rw [H0 h0 h,if_neg eD];generalize jw (l.take m)=D at hk;rw [ez _ _ (au _),gE,aQ]
 have:D.length<l.length:=by omega
 rw [b3 this,dY];simp
theorem B7D {l:List Int}{m k:Nat}(L1:k<m)(hk:(jw (l.take m)).length≤m-1):∀ j,m+j≤l.length→(jw (l.take (m+j))).length≤m+j-1
 | 0,_=>by simpa using hk
 | j+1,h=>by
   have ih:=B7D L1 hk j (by omega)
   rw [← bX,H0 (by omega) (by omega)]
   split
   · omega
   · rw [aQ];simp;omega
theorem WR {LL:List (List Int)}{I:Nat}{l:List Int}(h:LL[I]?=some l):LL.set I l=LL:=by
 have eC:=(aL.1 h).1;apply fE;intro i;rw [dG];by_cases e:I=i
 · subst e;rw [if_pos rfl,if_pos eC,h]
 · rw [if_neg e]
theorem C2w {LL:List (List Int)}{I N off:Nat}{l:List Int}(hI:I<LL.length)(hN:l.length=N)(hN2:N≤1000)(ho:0<off)(hoN:off<N)(hd:(jw (l.take (off+1))).length=off) :
 di HK (((I,N),(off:Int),(I,off,N-off),1),LL.set I (pA l (off+1)))=some (((I,N),((jw l).length:Int)),LL.set I (pA l N)):=by
 have ko:jw (l.take N)=jw l:=by rw [aZ (by omega)]
 have:di HK (((I,N),((jw (l.take (off+1+0))).length:Int),(I,off,N-off),((0+1:Nat):Int)),LL.set I (pA l (off+1+0)))=_ :=
  qs (f:=HK) (N-off-1) (fun i=>(((I,N),((jw (l.take (off+1+i))).length:Int),(I,off,N-off),((i+1:Nat):Int)),LL.set I (pA l (off+1+i)))) (((I,N),((jw l).length:Int)),LL.set I (pA l N)) (fun i hi=>by
   have hm:off+1+i<l.length:=by omega
   have hsm:=B7D (l:=l) (m:=off+1) (k:=off) (by omega) (by omega) i (by omega)
   have hk0:=C2v l (off+1+i);have hj:((i+1:Nat):Int)<((N-off:Nat):Int):=by omega
   have CW:(0:Int)≤((i+1:Nat):Int):=by omega
   have hw:ai.wrap (((i+1:Nat):Int)-1)=(i:Int):=by rw [wrap_i64 (by omega) (by omega)];omega
   have e1:(LL.set I (pA l (off+1+i)))[I]?=some (pA l (off+1+i)):=by simp [hI]
   have g1:(pA l (off+1+i))[off+(i+1)]?=some (l[off+1+i]'hm):=by
    rw [C4Z (by omega),show off+(i+1)=off+1+i by omega,af hm]
   have g2:(pA l (off+1+i))[off+i]?=some (l[off+i]'(by omega)):=by
    rw [C4Z (by omega),af (by omega)]
   have hlen:=C4Y l (off+1+i);have qC:=H0 (l:=l) (m:=off+1+i) (by omega) hm
   have Mc:off+1+i-1=off+i:=by omega
   simp only [Mc] at qC;simp only [HK,hj,decide_true,cond_true,e1,ah,CW,aq,ln (show i+1<N-off by omega),g1,hw,aj,ln (show i<N-off by omega),g2]
   by_cases eD:l[off+1+i]'hm=l[off+i]'(by omega)
   · rw [if_pos eD] at qC;have hb:(l[off+1+i]'hm != l[off+i]'(by omega))=false:=by simp [eD]
     have ha:pA l (off+1+(i+1))=pA l (off+1+i):=by
      rw [← bX];unfold pA;rw [qC]
     rw [ha,← bX (off+1) i 1,qC];simp only [hb,cond_false,gV (show i+1<9223372036854775807 by omega)]
   · rw [if_neg eD] at qC;have hb:(l[off+1+i]'hm != l[off+i]'(by omega))=true:=by simpa using eD
     have ha:=D19 (l:=l) (m:=off+1+i) (by omega) hm (by omega) (by simp only [Mc];exact eD)
     rw [← bX (off+1) i 1,ha,qC];have hDl:(jw (l.take (off+1+i))).length<(pA l (off+1+i)).length:=by omega
     simp only [hb,cond_true,ln (show (jw (l.take (off+1+i))).length<N by omega),af hDl,ah,beq_self_eq_true,iN,ln hI,nI,aQ,bf,cX,gV (show (jw (l.take (off+1+i))).length<9223372036854775807 by omega),gV (show i+1<9223372036854775807 by omega)]) (by
   have hm:off+1+(N-off-1)=N:=by omega
   have e1:(LL.set I (pA l N))[I]?=some (pA l N):=by simp [hI]
   have hj:¬ ((N-off-1+1:Nat):Int)<((N-off:Nat):Int):=by omega
   rw [hm,ko];simp only [HK,hj,decide_false,cond_false,e1,ah])
 have h0:((jw (l.take (off+1+0))).length:Int)=(off:Int):=by rw [Nat.add_zero,hd]
 rw [h0] at this;exact this
theorem WS {l:List Int}{k:Nat}(h:∀ j (h0:0<j) (hj:j<k) (hl:j<l.length),l[j]≠l[j-1]'(by omega)):∀ m,m≤k→m≤l.length→jw (l.take m)=l.take m
 | 0,_,_=>by simp [jw]
 | 1,_,hl=>by
   rw [si (by omega:0<l.length)];simp [jw]
 | m+2,hk,hl=>by
   rw [H0 (by omega) (by omega:m+1<l.length),if_neg (h (m+1) (by omega) (by omega) (by omega)),WS h (m+1) (by omega) (by omega),← si (by omega)]
theorem C8y {LL:List (List Int)}{I:Nat}{l:List Int}(hL:LL[I]?=some l)(hN2:l.length≤1000) :
 ∃ l',PH ((I,l.length),LL)=some ((I,(jw l).length),LL.set I l')∧l'.take (jw l).length=jw l∧(jw l).length≤l'.length:=by
 have hI:=(aL.1 hL).1;unfold PH;by_cases h2:(l.length:Int)<2
 · have hd:jw l=l:=by
    match l,h2 with
    | [],_=>rfl
    | [_],_=>rfl
    | _::_::_,h=>simp at h;omega
   refine ⟨l,?_,by rw [hd,mS],by rw [hd];exact au _⟩
   simp only [h2,decide_true,cond_true,hL,ah,hd,WR hL]
 simp only [h2,decide_false,cond_false,hL,ah];have key:∀ n k,n+k=l.length→0<k→(∀ j (h0:0<j) (hj:j<k) (hl:j<l.length),l[j]≠l[j-1]'(by omega)) →
  ∃ b,di HL (((I,l.length),(k:Int)),LL)=some b ∧
   ((∃ l',b=.inl ((I,(jw l).length),LL.set I l')∧l'.take (jw l).length=jw l∧(jw l).length≤l'.length)∨(b=.inr ((I,l.length),LL)∧jw l=l)):=by
  intro n
  induction n with
  | zero =>
    intro k hk h0 hp;have xr:k=l.length:=by omega
    refine ⟨.inr ((I,l.length),LL),qi ?_,.inr ⟨rfl,?_⟩⟩
    · subst xr;simp only [HL,aX,decide_false,cond_false,hL,ah]
    · have:=WS hp l.length (by omega) (au _)
      rwa [mS] at this
  | succ n ih =>
    intro k hk h0 hp;have xr:k<l.length:=by omega
    have mV:(k:Int)<(l.length:Int):=by omega
    have hw:ai.wrap ((k:Int)-1)=((k-1:Nat):Int):=by rw [wrap_i64 (by omega) (by omega)];omega
    by_cases he:l[k]=l[k-1]'(by omega)
    · have hd:jw (l.take k)=l.take k:=WS hp k (au _) (by omega)
      have hd1:(jw (l.take (k+1))).length=k:=by
       rw [H0 h0 xr,if_pos he,hd,aY];omega
      have ha:pA l (k+1)=l:=by
       unfold pA;rw [hd1,H0 h0 xr,if_pos he,hd,bN]
      have DB:=C2w (LL:=LL) (I:=I) (N:=l.length) (off:=k) (l:=l) hI rfl hN2 h0 xr hd1;rw [ha,WR hL] at DB;have hle:=Mb l;have hD:pA l l.length=jw l++l.drop (jw l).length:=by unfold pA;rw [mS]
      have WT:=C4Y l l.length;refine ⟨.inl ((I,(jw l).length),LL.set I (m7 (pA l l.length) (some (jw l).length) (az (l.length-(jw l).length) 0))),qi ?_,.inl ⟨_,rfl,?_,?_⟩⟩
      · have e1:(LL.set I (pA l l.length))[I]?=some (pA l l.length):=by simp [hI]
        have e3:(m7 (pA l l.length) (some (jw l).length) (az (l.length-(jw l).length) 0)).length=(pA l l.length).length:=by
         unfold m7;simp only [aQ,aY,gv,cz,WT];omega
        simp only [HL,mV,decide_true,cond_true,hL,ah,aj,aq,ln xr,af xr,hw,ln (show k-1<l.length by omega),af (show k-1<l.length by omega),he,beq_self_eq_true,iy (show k≤l.length by omega),DB,e1,iy hle,iN,ln hI,e3,nI]
        rw [iy (by rw [gv,WT];omega)]
        rfl
      · unfold m7;simp only;rw [hD,bh,List.take_append_of_le_length (by rw [aY];simp),List.take_take,Nat.min_self,List.take_left' rfl]
      · unfold m7;simp only [aQ,aY,gv,cz,WT];omega
    · have hb:(l[k]==l[k-1]'(by omega))=false:=by simpa using he
      obtain ⟨b,h1,h3⟩:=ih (k+1) (by omega) (by omega) (fun j a b c=>by
       by_cases e:j=k
       · subst e;exact he
       · exact hp j a (by omega) c)
      refine ⟨b,?_,h3⟩;rw [← h1];exact uE (by
       simp only [HL,mV,decide_true,cond_true,hL,ah,aj,aq,ln xr,af xr,hw,ln (show k-1<l.length by omega),af (show k-1<l.length by omega),hb,cond_false,gV (show k<9223372036854775807 by omega)])
 obtain ⟨b,h1,h3⟩:=key (l.length-1) 1 (by omega) (by omega) (fun j a b c=>by omega)
 have h1:di HL (((I,l.length),(1:Int)),LL)=some b:=h1;rw [h1];rcases h3 with ⟨l',rfl,h4,h5⟩ | ⟨rfl,h4⟩
 · refine ⟨l',?_,h4,h5⟩;have e1:(LL.set I l')[I]?=some l':=by simp [hI]
   simp only [ah,qa,e1]
 · refine ⟨l,?_,by rw [h4,mS],by rw [h4];exact au _⟩
   simp only [ah,jB,hL,h4,WR hL]
end Go.Mid
namespace Go.Mid
structure NB (n:Nat)(next:List (List Int)):Prop where
 len:next.length=n
 vW:∀ l∈next,∀ w∈l,0≤w∧w<n
 Qt:∀ l∈next,l.length≤1000
 small:n≤1000
end Go.Mid
namespace Go.Mid
theorem D0p (x:List Int):s8 (Ty.vec 1 (Ty.int ai)) x=x:=by
 show fv (s8 (Ty.int ai)) x=x
 have:(s8 (Ty.int ai):Int→Int)=id:=by funext y;rfl
 exact (congrArg (fun f=>fv f x) this).trans (List.map_id x)
theorem B41 (l:List (List Int)):fv (s8 (Ty.vec 1 (Ty.int ai))) l=l:=by
 have:(s8 (Ty.vec 1 (Ty.int ai)):List Int→List Int)=id:=by funext y;exact D0p y
 exact (congrArg (fun f=>fv f l) this).trans (List.map_id l)
abbrev oM:=List (Int×Int)
def pY (E:oM)(v:Nat):List Int:=(E.filter fun e=>e.1==(v:Int)).map (·.2)
def xK (n:Nat)(E:oM):List (List Int):=(bp n).map (pY E)
theorem Qu {n v:Nat}{E:oM}(h:v<n):(xK n E)[v]?=some (pY E v):=by simp [xK,h]
theorem Md (n:Nat)(E:oM):(xK n E).length=n:=by simp [xK]
theorem D2a (E:oM)(e:Int×Int)(v:Nat):pY (E++[e]) v=if e.1=(v:Int) then pY E v++[e.2] else pY E v:=by
 unfold pY;rw [eI,b8];by_cases h:e.1=(v:Int)<;>simp [h]
theorem D0q {n:Nat}{E:oM}{u:Nat}{w:Int}(hu:u<n):xK n (E++[((u:Int),w)])=(xK n E).set u (pY E u++[w]):=by
 apply fE;intro v;rw [dG,Md];by_cases hv:v<n
 · rw [Qu hv,D2a];by_cases e:u=v
   · subst e;simp [hv]
   · have:¬ ((u:Int)=(v:Int)):=by omega
     simp [e,this,Qu hv]
 · rw [bJ (by rw [Md];omega)]
   have:¬ u=v:=by omega
   rw [if_neg this,bJ (by rw [Md];omega)]
theorem WU (E:oM)(v:Nat):(pY E v).length≤E.length:=by
 unfold pY;rw [aE];exact dT ..
theorem C6O {E:oM}{v:Nat}{w:Int}:w∈pY E v↔((v:Int),w)∈E:=by
 unfold pY;rw [bj];constructor
 · rintro ⟨⟨a,b⟩,h1,rfl⟩;rw [cA] at h1
   have:=h1.2
   simp at this;rw [← this];exact h1.1
 · intro h;exact ⟨((v:Int),w),cA.2 ⟨h,by simp⟩,rfl⟩
def CA (n:Nat)(E:oM):Prop:=∀ e∈E,0≤e.1∧e.1<n∧0≤e.2∧e.2<n
theorem D2b {n:Nat}{E:oM}(hr:CA n E)(hE:E.length≤1000):di Lf ((n,E,(E.length:Int),0),az n [])=some (n,xK n E):=by
 have h0:az n []=xK n (E.take 0):=by
  apply fE;intro v;by_cases hv:v<n
  · rw [Qu hv];simp [hv,pY]
  · rw [bJ (by simp;omega),bJ (by rw [Md];omega)]
 rw [h0]
 have:=qs (f:=Lf) E.length (fun i=>((n,E,(E.length:Int),(i:Int)),xK n (E.take i))) (n,xK n E) (fun i hi=>by
  have dN:(i:Int)<E.length:=by omega
  have he:=hr E[i] (aJ hi);obtain ⟨u,hu⟩:∃ u:Nat,(E[i]).1=(u:Int):=eK he.1;have WV:u<n:=by have:=he.2.1;rw [hu] at this;omega
  have hei:E[i]=((u:Int),(E[i]).2):=Prod.ext hu rfl;rw [si hi,hei,D0q WV];have hl:=WU (E.take i) u;rw [aY] at hl;have b0:cZ 0 2=true:=rfl;have b1:cZ 1 2=true:=rfl;simp only [Lf,dN,decide_true,cond_true,aj,aq,af hi,ah,b0,b1,hu,ln WV,Qu WV,beq_self_eq_true,iy (au _),Md,mS,aQ,bf,cX,gV (show i<9223372036854775807 by omega)]
  rw [iy (show ((pY (E.take i) u).length+1)*8≤140737488355328 by omega)]
  rfl) (by
  simp only [Lf,aX,decide_false,cond_false,mS])
 simpa using this
def qU (n:Nat)(E:oM):List (List Int):=(bp n).map fun v=>jw (lS (pY E v))
def vX (n:Nat)(E:oM)(i:Nat):List (List Int):=(bp n).map fun v=>if v<i then jw (lS (pY E v)) else pY E v
theorem WW {n v i:Nat}{E:oM}(h:v<n):(vX n E i)[v]?=some (if v<i then jw (lS (pY E v)) else pY E v):=by simp [vX,h]
theorem Me (n i:Nat)(E:oM):(vX n E i).length=n:=by simp [vX]
theorem D2c {n i:Nat}{E:oM}(hi:i<n):vX n E (i+1)=(vX n E i).set i (jw (lS (pY E i))):=by
 apply fE;intro v;rw [dG,Me];by_cases hv:v<n
 · rw [WW hv];by_cases e:i=v
   · subst e;simp [hv]
   · rw [if_neg e,WW hv];by_cases h1:v<i
     · rw [if_pos h1,if_pos (by omega)]
     · rw [if_neg h1,if_neg (by omega)]
 · rw [bJ (by rw [Me];omega)]
   have:¬ i=v:=by omega
   rw [if_neg this,bJ (by rw [Me];omega)]
theorem D37 {LL:List (List Int)}{I:Nat}{l:List Int}(hL:LL[I]?=some l)(hl:l.length≤1000):PG ((I,l.length),LL)=some (LL.set I (lS l)):=by
 unfold PG;have h1:m7 l none (lS l)=lS l:=by
  unfold m7;simp only;rw [FL,fe,bE]
 simp only [hL,ah,mS,h1,FL,iy (au _),cond_true,beq_self_eq_true];rw [ln (by omega)]
 rfl
theorem D2d {n:Nat}{E:oM}(hn:n≤1000)(hE:E.length≤1000):di Lg ((n,(n:Int),0),xK n E)=some (n,qU n E):=by
 have h0:xK n E=vX n E 0:=by simp [xK,vX]
 have h1:qU n E=vX n E n:=by
  unfold qU vX;apply eU;intro v hv;rw [if_pos (bW.1 hv)]
 rw [h0,h1]
 have:=qs (f:=Lg) n (fun i=>((n,(n:Int),(i:Int)),vX n E i)) (n,vX n E n) (fun i hi=>by
  have dN:(i:Int)<n:=by omega
  have hl:=WU E i;have g0:(vX n E i)[i]?=some (pY E i):=by rw [WW hi,if_neg (Nat.lt_irrefl i)]
  have hs:=D37 g0 (by omega)
  have tG:(lS (pY E i)).length=(pY E i).length:=FL _;have g1:((vX n E i).set i (lS (pY E i)))[i]?=some (lS (pY E i)):=by simp [Me,hi]
  obtain ⟨l',c1,c2,c3⟩:=C8y g1 (by omega)
  have g2:((vX n E i).set i l')[i]?=some l':=by simp [Me,hi]
  have g3:(jw (lS (pY E i))).length=(aR (jw (lS (pY E i))).length l').length:=by rw [c2]
  have bq:iZ i i=true:=by simp
  simp only [Lg,dN,decide_true,cond_true,aj,aq,ln hi,g0,ah,hs,g1,c1,g2,bq,iy c3,c2,beq_self_eq_true,nI,D2c hi,gV (show i<9223372036854775807 by omega)]) (by
  simp only [Lg,aX,decide_false,cond_false])
 simpa using this
theorem WX (n:Nat)(E:oM):(qU n E).length=n:=by simp [qU]
theorem C2x {n:Nat}{E:oM}(hn:n≤1000)(hr:CA n E)(hE:E.length≤1000):HM ((n:Int),E)=some (qU n E):=by
 unfold HM;simp only [aj,decide_true,cond_true,aq,lH];rw [iy (show n*24≤140737488355328 by omega)]
 simp only [cond_true,D2b hr hE,ah,D2d hn hE];rw [iy (show n≤(qU n E).length by rw [WX];exact au _)]
 have e:aR n (qU n E)=qU n E:=aZ (by rw [WX];exact au _)
 refine congrArg some ?_;refine Eq.trans ?_ (B41 (qU n E));exact congrArg (fun l:List (List Int)=>fv (s8 (Ty.vec 1 (Ty.int ai))) l) e
theorem C2j {n v:Nat}{E:oM}(h:v<(qU n E).length):(qU n E)[v]=jw (lS (pY E v)):=by simp [qU]
theorem D0r {n v:Nat}{E:oM}{w:Int}(h:v<(qU n E).length):w∈(qU n E)[v]↔((v:Int),w)∈E:=by
 rw [C2j h,Qs,Qr,C6O]
theorem D2e {n:Nat}{E:oM}(hn:n≤1000)(hr:CA n E)(hE:E.length≤1000):NB n (qU n E) where
 len:=WX n E
 vW:=by
  intro l hl w hw;obtain ⟨v,hv,rfl⟩:=gZ hl
  have:=hr _ ((D0r hv).1 hw)
  exact this.2.2
 Qt:=by
  intro l hl;obtain ⟨v,hv,rfl⟩:=gZ hl;rw [C2j hv];have h1:=Mb (lS (pY E v));rw [FL] at h1;have h2:=WU E v;omega
 small:=hn
end Go.Mid
namespace Go.Mid
def F3 (n:Int)(e:Int×Int):Bool:=decide (e.1<0) || decide (e.1 ≥ n) || decide (e.2<0) || decide (e.2 ≥ n)
def H3 (n:Int)(l:List (Int×Int)):Int:=if n>1000 then 3 else if (l.length:Int)>20000 then 3 else if n<0 then 1 else if l.any (F3 n) then 1 else 0
theorem D62:cZ 0 2=true:=rfl
theorem D63:cZ 1 2=true:=rfl
theorem WY {n:Int}{e:Int×Int}:F3 n e=true↔e.1<0∨e.1 ≥ n∨e.2<0∨e.2 ≥ n:=by
 simp [F3,or_assoc]
theorem C06 (n:Int)(l:List (Int×Int)):Le (n,l)=some (H3 n l):=by
 unfold Le H3;simp only [gt_iff_lt];by_cases h1:1000<n
 · simp [h1]
 by_cases h2:(20000:Int)<l.length
 · simp [h1,h2]
 by_cases h3:n<0
 · simp [h1,h2,h3]
 simp only [h1,h2,h3,decide_false,cond_false,if_false]
 have:=tg (f:=PF) l (fun i=>(n,l,(l.length:Int),(i:Int))) (F3 n) (.inl 1) (.inr ()) (fun i hi=>by
  have dN:(i:Int)<l.length:=by omega
  simp only [PF,dN,decide_true,cond_true,aj,aq,af hi,ah,D62,D63,gV (show i<9223372036854775807 by omega)]
  generalize l[i]=e;by_cases hb:F3 n e=true
  · rw [if_pos hb];rw [WY] at hb;by_cases c1:(if e.2<e.1 then e.2 else e.1)<0
    · simp only [c1,decide_true,cond_true]
    · have c2:(if e.2>e.1 then e.2 else e.1) ≥ n:=by
       split at c1<;>split<;>omega
      simp only [c1,c2,decide_true,decide_false,cond_true,cond_false]
  · rw [if_neg hb];rw [WY] at hb;have c1:¬ (if e.2<e.1 then e.2 else e.1)<0:=by split<;>omega
    have c2:¬ (if e.2>e.1 then e.2 else e.1) ≥ n:=by split<;>omega
    simp only [c1,c2,decide_false,cond_false]) (by
  simp only [PF,aX,decide_false,cond_false])
 simp only [cj] at this;rw [this];by_cases h4:l.any (F3 n)=true
 · simp [h4]
 · simp only [h4];rfl
end Go.Mid
namespace Go.Mid
def Ad (n:Nat)(g:Nat→Bool):List Bool:=(bp n).map g
theorem Qv (n:Nat)(g:Nat→Bool):(Ad n g).length=n:=by simp [Ad]
theorem Qw {n j:Nat}{g:Nat→Bool}(h:j<n):(Ad n g)[j]?=some (g j):=by simp [Ad,h]
theorem WZ {n:Nat}{g h:Nat→Bool}(e:∀ j,j<n→g j=h j):Ad n g=Ad n h :=
 eU fun j hj=>e j (bW.1 hj)
theorem C40 {n j:Nat}{g:Nat→Bool}(h:j<n)(x:Bool):(Ad n g).set j x=Ad n (fun b=>if b=j then x else g b):=by
 apply fE;intro v;rw [dG,Qv];by_cases hv:v<n
 · rw [Qw hv];by_cases e:j=v
   · subst e;rw [Qw hv];simp [h]
   · have:¬ v=j:=fun h=>e h.symm
     simp [e,this,Qw hv]
 · rw [bJ (by rw [Qv];omega),bJ (by rw [Qv];omega)]
   have:¬ j=v:=by omega
   rw [if_neg this]
theorem D2f (n:Nat):az n false=Ad n (fun _=>false):=by
 simp [Ad,List.map_const']
end Go.Mid
namespace Go.Mid
end Go.Mid
namespace Go.Mid
theorem W0 {α:Type}{p q:α→Bool}:∀ {l:List α},(∀ x∈l,p x=true→q x=true)→(∃ x∈l,p x=false∧q x=true)→l.countP p<l.countP q
 | [],_,h=>by obtain ⟨x,hx,_⟩:=h;cases hx
 | a::l,hm,h=>by
   have hle:l.countP p≤l.countP q:=List.countP_mono_left fun x hx=>hm x (bU _ hx)
   have ha:=hm a (by simp)
   rw [List.countP_cons,List.countP_cons];obtain ⟨x,hx,h1,h2⟩:=h;rcases aM.1 hx with e | e
   · subst e;simp only [h1,h2,if_true];simp;omega
   · have:=W0 (fun x hx=>hm x (bU _ hx)) ⟨x,e,h1,h2⟩
     by_cases qW:p a=true
     · simp only [qW,ha qW,if_true];omega
     · rw [if_neg qW];omega
theorem Mf {α:Type} [DecidableEq α]:∀ {l m:List α},l.Nodup→(∀ x∈l,x∈m)→l.length≤m.length
 | [],_,_,_=>dq _
 | a::l,m,h,hs=>by
   have h':=b5.1 h;have ham:=hs a (by simp)
   have:=Mf (l:=l) (m:=m.erase a) h'.2 fun x hx=>by
    have eD:x≠a:=fun e=>h'.1 (e ▸ hx)
    exact (List.mem_erase_of_ne eD).2 (hs x (bU _ hx))
   rw [List.length_erase_of_mem ham] at this
   have:=List.length_pos_of_mem ham
   simp only [bf];omega
end Go.Mid
namespace Go.Mid
def tj (n:Nat)(o:List Nat):List Bool:=Ad n (fun v=>o.contains v)
def jQ (o:List Nat):List Int:=o.map fun k:Nat=>(k:Int)
theorem Bl (o:List Nat):(jQ o).length=o.length:=by simp [jQ]
theorem D0s (o:List Nat)(v:Nat):jQ (o++[v])=jQ o++[(v:Int)]:=by simp [jQ]
theorem D0t (n:Nat)(o:List Nat):(tj n o).length=n:=Qv ..
theorem C2k {n v:Nat}{o:List Nat}(h:v<n):(tj n o).set v true=tj n (o++[v]):=by
 unfold tj;rw [C40 h];refine WZ fun j _=>?_
 by_cases e:j=v
 · subst e;simp
 · rw [if_neg e,cn];simp [e]
end Go.Mid
namespace Go.Mid
def Ae (n:Nat)(g:Nat→Int):List Int:=(bp n).map g
theorem W2 (n:Nat)(g:Nat→Int):(Ae n g).length=n:=by simp [Ae]
theorem Qx {n j:Nat}{g:Nat→Int}(h:j<n):(Ae n g)[j]?=some (g j):=by simp [Ae,h]
theorem D2g {n:Nat}{g h:Nat→Int}(e:∀ j,j<n→g j=h j):Ae n g=Ae n h :=
 eU fun j hj=>e j (bW.1 hj)
theorem D2h {n j:Nat}{g:Nat→Int}(h:j<n)(x:Int):(Ae n g).set j x=Ae n (fun b=>if b=j then x else g b):=by
 apply fE;intro v;rw [dG,W2];by_cases hv:v<n
 · rw [Qx hv];by_cases e:j=v
   · subst e;rw [Qx hv];simp [h]
   · have:¬ v=j:=fun h=>e h.symm
     simp [e,this,Qx hv]
 · rw [bJ (by rw [W2];omega),bJ (by rw [W2];omega)]
   have:¬ j=v:=by omega
   rw [if_neg this]
end Go.Mid
namespace Go.Mid
def sj (E:oM)(u:Nat):List Int:=jw (lS (pY E u))
theorem C6P {E:oM}{u:Nat}{w:Int}:w∈sj E u↔((u:Int),w)∈E:=by
 unfold sj;rw [Qs,Qr,C6O]
theorem W3 {n u:Nat}{E:oM}(h:u<n):(qU n E)[u]?=some (sj E u):=by simp [qU,h,sj]
end Go.Mid
namespace Go.Mid
end Go.Mid
namespace Go.Mid
theorem W4 {o:List Nat}{i:Nat}(h:i<o.length):(jQ o)[i]?=some (o[i]:Int):=by simp [jQ,h]
end Go.Mid
namespace Go.Mid
end Go.Mid
namespace Go.Mid
def D7S (E:oM)(u v:Nat):Bool:=E.any fun e=>e.1==(u:Int)&&e.2==(v:Int)
def Mg (p:List Nat):Nat:=p.getLast?.getD 0
theorem B94 (p:List Nat)(v:Nat):Mg (p++[v])=v:=by simp [Mg]
def lq (M:List (List Nat)):List (List Int):=M.map jQ
theorem Qy (M:List (List Nat)):(lq M).length=M.length:=by simp [lq]
def H4 (n:Nat)(S:Nat→Bool):Nat:=(bp n).countP S
structure LV (n:Nat)(S:Nat→Bool)(L:List (List Nat)):Prop where
 ne:∀ p∈L,p ≠ []
 vW:∀ p∈L,Mg p<n
 seen:∀ p∈L,S (Mg p)=true
 len:∀ p∈L,p.length≤H4 n S
 Qt:L.length≤H4 n S
theorem D38 {n:Nat}{S S':Nat→Bool}(h:∀ v,S v=true→S' v=true){v:Nat}(hv:v<n)(h1:S v=false)(h2:S' v=true):H4 n S<H4 n S' :=
 W0 (fun x _ hx=>h x hx) ⟨v,bW.2 hv,h1,h2⟩
theorem LV.next {n:Nat}{E:oM}{S S':Nat→Bool}{L N:List (List Nat)}(h:LV n S L)(h2:∀ v,S v=true→S' v=true)
 (h4:∀ q∈N,∃ p∈L,∃ v,v<n∧q=p++[v]∧D7S E (Mg p) v=true∧S v=false∧S' v=true) (h5:H4 n S'=H4 n S+N.length):LV n S' N where
 ne:=fun q hq=>by
  obtain ⟨p,_,v,_,rfl,_⟩:=h4 q hq;simp
 vW:=fun q hq=>by
  obtain ⟨p,_,v,hv,rfl,_⟩:=h4 q hq;rw [B94];exact hv
 seen:=fun q hq=>by
  obtain ⟨p,_,v,hv,rfl,_,_,e⟩:=h4 q hq;rw [B94];exact e
 len:=fun q hq=>by
  obtain ⟨p,hp,v,hv,rfl,_,e1,e2⟩:=h4 q hq
  have:=h.len p hp
  have:=D38 h2 hv e1 e2
  simp;omega
 Qt:=by omega
end Go.Mid
namespace Go.Mid
end Go.Mid
namespace Go.Mid
inductive Rc (Ed:Nat→Nat→Prop) (a:Nat):Nat→Prop
 | refl:Rc Ed a a
 | tail {b c:Nat}:Rc Ed a b→Ed b c→Rc Ed a c
section
variable {Ed:Nat→Nat→Prop}
theorem Rc.trans {a b c:Nat}(h:Rc Ed a b):Rc Ed b c→Rc Ed a c:=fun h2=>by
 induction h2 with
 | refl=>exact h
 | tail _ e ih=>exact ih.tail e
theorem Rc.one {a b:Nat}(h:Ed a b):Rc Ed a b:=Rc.refl.tail h
theorem Rc.closed {P:Nat→Prop}(hP:∀ a b,P a→Ed a b→P b){a b:Nat}(h:Rc Ed a b)(ha:P a):P b:=by
 induction h with
 | refl=>exact ha
 | tail _ e ih=>exact hP _ _ ih e
structure kY (Ed:Nat→Nat→Prop)(n:Nat)(G:List Nat)(ix:Nat→Nat)(ot:List Nat)(cnt:Nat)(out:List (List Nat)):Prop where
 cc:(bp n).countP (fun v=>ix v != 0)=cnt
 DP:∀ v,ix v≤cnt
 vW:∀ v,ix v≠0→v<n
 inj:∀ u v,ix u≠0→ix u=ix v→u=v
 F4:ot.Pairwise (fun a b=>ix a<ix b)
 pZ:∀ v∈ot,ix v≠0
 H5:∀ g∈G,g∈ot
 Mh:∀ u w,ix u≠0→u∉ot→Ed u w→ix w≠0∧w∉ot
 blk:∀ u∈ot,u∉G→∀ w,Ed u w→ix w≠0
 i7:∀ u∈ot,∃ g∈G,ix g≤ix u∧Rc Ed u g
 i8:∀ g∈G,∀ u∈ot,ix g≤ix u→Rc Ed g u
 Mi:∀ v,ix v≠0→v∉ot→∃ C∈out,v∈C
 vY:∀ C∈out,C ≠ []∧C.Nodup∧∀ u∈C,(ix u≠0∧u∉ot)∧∀ w,(w∈C↔Rc Ed u w∧Rc Ed w u)
 H6:out.Pairwise (fun C D=>∀ x∈C,x∉D)
def wZ {α:Type}(f:Nat→α)(v:Nat)(x:α):Nat→α:=fun b=>if b=v then x else f b
theorem rT {α:Type}(f:Nat→α)(v:Nat)(x:α):wZ f v x v=x:=by simp [wZ]
theorem vZ {α:Type}{f:Nat→α}{v b:Nat}{x:α}(h:b≠v):wZ f v x b=f b:=by simp [wZ,h]
theorem B7E {ix:Nat→Nat}{v c:Nat}(h0:ix v=0)(hc:c≠0):∀ m,(bp m).countP (fun u=>wZ ix v c u != 0)=(bp m).countP (fun u=>ix u != 0)+if v<m then 1 else 0
 | 0=>by simp
 | m+1=>by
   rw [List.range_succ,List.countP_append,List.countP_append,B7E h0 hc m];by_cases e:m=v
   · subst e;have h1:¬ m<m:=by omega
     have h2:m<m+1:=by omega
     simp [rT,h0,hc]
   · have h3:v<m+1↔v<m:=by omega
     simp only [List.countP_singleton,vZ e,h3];omega
theorem kY.nil (n:Nat):kY Ed n [] (fun _=>0) [] 0 [] where
 cc:=by simp
 DP:=by simp
 vW:=by simp
 inj:=by simp
 F4:=by simp
 pZ:=by simp
 H5:=by simp
 Mh:=by simp
 blk:=by simp
 i7:=by simp
 i8:=by simp
 Mi:=by simp
 vY:=by simp
 H6:=by simp
theorem kY.W5 {n:Nat}{G:List Nat}{ix:Nat→Nat}{ot:List Nat}{cnt:Nat}{out:List (List Nat)}(h:kY Ed n G ix ot cnt out):ot.Nodup :=
 h.F4.imp fun {a b} s0 e=>by subst e;omega
theorem kY.push {n:Nat}{G:List Nat}{ix:Nat→Nat}{ot:List Nat}{cnt:Nat}{out:List (List Nat)}(h:kY Ed n G ix ot cnt out){v:Nat}(hv:v<n)(h0:ix v=0)(hG:∀ g∈G,Rc Ed g v) :
 kY Ed n (v::G) (wZ ix v (cnt+1)) (ot++[v]) (cnt+1) out:=by
 have fX:v∉ot:=fun hm=>h.pZ v hm h0
 have eD:∀ u,ix u≠0→u≠v:=fun u hu e=>hu (e ▸ h0)
 have xL:∀ u,ix u≠0→wZ ix v (cnt+1) u=ix u:=fun u hu=>vZ (eD u hu)
 have DQ:∀ u∈ot,wZ ix v (cnt+1) u=ix u:=fun u hu=>xL u (h.pZ u hu)
 have F5:∀ u,wZ ix v (cnt+1) u≠0↔u=v∨ix u≠0:=fun u=>by
  by_cases e:u=v
  · subst e;simp [rT]
  · simp [vZ e,e]
 refine ⟨?_,?_,?_,?_,?_,?_,?_,?_,?_,?_,?_,?_,?_,h.H6⟩
 · rw [B7E h0 (by omega),h.cc,if_pos hv]
 · intro u;by_cases e:u=v
   · subst e;rw [rT];exact au _
   · rw [vZ e];have:=h.DP u;omega
 · intro u hu;rcases (F5 u).1 hu with e | e
   · subst e;exact hv
   · exact h.vW u e
 · intro u w hu he;by_cases e1:u=v<;>by_cases e2:w=v
   · rw [e1,e2]
   · subst e1;rw [rT,vZ e2] at he
     have:=h.DP w;omega
   · subst e2;rw [rT,vZ e1] at he
     have:=h.DP u;omega
   · rw [vZ e1] at hu;rw [vZ e1,vZ e2] at he;exact h.inj u w hu he
 · rw [cB];refine ⟨h.F4.imp_of_mem fun {a b} ha hb s0=>by rw [DQ a ha,DQ b hb];exact s0,by simp,fun a ha b hb=>?_⟩
   rw [aW] at hb;subst hb;rw [DQ a ha,rT]
   have:=h.DP a;omega
 · intro u hu;rw [F5];rcases ay.1 hu with h1 | h1
   · exact .inr (h.pZ u h1)
   · exact .inl (aW.1 h1)
 · intro g hg;rcases aM.1 hg with e | e
   · subst e;simp
   · exact c9 _ (h.H5 g e)
 · intro u w hu hs he;rcases (F5 u).1 hu with e | e
   · subst e;exact (hs (by simp)).elim
   · obtain ⟨a,b⟩:=h.Mh u w e (fun hm=>hs (c9 _ hm)) he
     refine ⟨(F5 w).2 (.inr a),fun hm=>?_⟩
     rcases ay.1 hm with h1 | h1
     · exact b h1
     · rw [aW] at h1;exact eD w a h1
 · intro u hu hg w he;rcases ay.1 hu with h1 | h1
   · exact (F5 w).2 (.inr (h.blk u h1 (fun hm=>hg (bU _ hm)) w he))
   · rw [aW] at h1;subst h1;exact (hg (by simp)).elim
 · intro u hu;rcases ay.1 hu with h1 | h1
   · obtain ⟨g,hg,a,b⟩:=h.i7 u h1;exact ⟨g,bU _ hg,by rw [DQ g (h.H5 g hg),DQ u h1];exact a,b⟩
   · rw [aW] at h1;subst h1;exact ⟨u,by simp,au _,.refl⟩
 · intro g hg u hu hle;rcases ay.1 hu with h1 | h1
   · rcases aM.1 hg with e | e
     · subst e;rw [rT,DQ u h1] at hle
       have:=h.DP u;omega
     · rw [DQ g (h.H5 g e),DQ u h1] at hle;exact h.i8 g e u h1 hle
   · rw [aW] at h1;subst h1;rcases aM.1 hg with e | e
     · subst e;exact .refl
     · exact hG g e
 · intro u hu hs;rcases (F5 u).1 hu with e | e
   · subst e;exact (hs (by simp)).elim
   · exact h.Mi u e fun hm=>hs (c9 _ hm)
 · intro C hC;obtain ⟨a,b,c⟩:=h.vY C hC;refine ⟨a,b,fun u hu=>?_⟩
   obtain ⟨⟨c1,c2⟩,c3⟩:=c u hu;refine ⟨⟨(F5 u).2 (.inr c1),fun hm=>?_⟩,c3⟩
   rcases ay.1 hm with h1 | h1
   · exact c2 h1
   · rw [aW] at h1;exact eD u c1 h1
theorem kY.stay {n:Nat}{G:List Nat}{ix:Nat→Nat}{ot:List Nat}{cnt:Nat}{out:List (List Nat)}{v:Nat}(h:kY Ed n (v::G) ix ot cnt out)(ko:∀ w,Ed v w→ix w≠0)
 {w:Nat} (hw:w∈ot) (eC:ix w<ix v) (W6:Rc Ed v w):kY Ed n G ix ot cnt out:=by
 refine ⟨h.cc,h.DP,h.vW,h.inj,h.F4,h.pZ,fun g hg=>h.H5 g (bU _ hg),h.Mh,fun u hu hg x he=>?_,fun u hu=>?_,fun g hg=>h.i8 g (bU _ hg),h.Mi,h.vY,h.H6⟩
 · by_cases e:u=v
   · subst e;exact ko x he
   · exact h.blk u hu (fun hm=>by
      rcases aM.1 hm with h1 | h1
      · exact e h1
      · exact hg h1) x he
 · have key:∃ g∈G,ix g≤ix w∧Rc Ed w g:=by
    obtain ⟨g,hg,a,b⟩:=h.i7 w hw;rcases aM.1 hg with e | e
    · subst e;omega
    · exact ⟨g,e,a,b⟩
   obtain ⟨g,hg,a,b⟩:=h.i7 u hu;rcases aM.1 hg with e | e
   · subst e;obtain ⟨k,hk,c,d⟩:=key;exact ⟨k,hk,by omega,b.trans (W6.trans d)⟩
   · exact ⟨g,e,a,b⟩
theorem kY.pop {n:Nat}{G:List Nat}{ix:Nat→Nat}{S0 T:List Nat}{cnt:Nat}{out:List (List Nat)}{v:Nat}(h:kY Ed n (v::G) ix (S0++v::T) cnt out)(ko:∀ w,Ed v w→ix w≠0)
 (Mj:∀ g∈G,g∈S0) (W7:∀ u∈v::T,∀ w∈S0,¬ Ed u w):kY Ed n G ix S0 cnt (out++[v::T]):=by
 have hp:=cB.1 h.F4;have H7:∀ u,u∈S0→u∈S0++v::T:=fun u hu=>c9 _ hu
 have hT:∀ u,u∈v::T→u∈S0++v::T:=fun u hu=>kS _ hu
 have lL:∀ u∈v::T,u∉S0:=fun u hu hs=>by
  have:=hp.2.2 u hs u hu;omega
 have W8:∀ u∈v::T,ix v≤ix u:=fun u hu=>by
  rcases aM.1 hu with e | e
  · subst e;exact au _
  · exact fT ((bL.1 hp.2.1).1 u e)
 have xL:∀ u∈v::T,∀ w,Ed u w→ix w≠0:=fun u hu w he=>by
  by_cases e:u=v
  · subst e;exact ko w he
  · refine h.blk u (hT u hu) (fun hm=>?_) w he
    rcases aM.1 hm with h1 | h1
    · exact e h1
    · exact lL u hu (Mj u h1)
 have F6:∀ u w,(ix u≠0∧u∉S0)→Ed u w→(ix w≠0∧w∉S0):=by
  rintro u w ⟨h1,h2⟩ he;by_cases hu:u∈v::T
  · exact ⟨xL u hu w he,fun hs=>W7 u hu w hs he⟩
  · obtain ⟨a,b⟩:=h.Mh u w h1 (fun hm=>by
     rcases ay.1 hm with h3 | h3
     · exact h2 h3
     · exact hu h3) he
    exact ⟨a,fun hs=>b (H7 w hs)⟩
 have Mk:∀ u w,(ix u≠0∧u∉S0++v::T)→Ed u w→(ix w≠0∧w∉S0++v::T):=fun u w h1 he=>h.Mh u w h1.1 h1.2 he
 have lK:∀ u∈v::T,ix u≠0∧u∉S0:=fun u hu=>⟨h.pZ u (hT u hu),lL u hu⟩
 have hto:∀ u∈v::T,Rc Ed u v:=fun u hu=>by
  obtain ⟨g,hg,a,b⟩:=h.i7 u (hT u hu);rcases aM.1 hg with e | e
  · subst e;exact b
  · exact ((b.closed F6 (lK u hu)).2 (Mj g e)).elim
 have EM:∀ u∈v::T,Rc Ed v u:=fun u hu=>h.i8 v (by simp) u (hT u hu) (W8 u hu)
 refine ⟨h.cc,h.DP,h.vW,h.inj,hp.1,fun u hu=>h.pZ u (H7 u hu),Mj,fun u w h1 h2 he=>F6 u w ⟨h1,h2⟩ he,fun u hu hg x he=>?_,fun u hu=>?_,fun g hg u hu=>h.i8 g (bU _ hg) u (H7 u hu),fun u hu hs=>?_,fun C hC=>?_,?_⟩
 · refine h.blk u (H7 u hu) (fun hm=>?_) x he
   rcases aM.1 hm with h1 | h1
   · subst h1;exact lL u (by simp) hu
   · exact hg h1
 · obtain ⟨g,hg,a,b⟩:=h.i7 u (H7 u hu);rcases aM.1 hg with e | e
   · subst e
     have:=hp.2.2 u hu g (by simp)
     omega
   · exact ⟨g,e,a,b⟩
 · by_cases hm:u∈v::T
   · exact ⟨v::T,by simp,hm⟩
   · obtain ⟨C,hC,h1⟩:=h.Mi u hu fun hh=>by
      rcases ay.1 hh with h3 | h3
      · exact hs h3
      · exact hm h3
     exact ⟨C,c9 _ hC,h1⟩
 · rcases ay.1 hC with h1 | h1
   · obtain ⟨a,b,c⟩:=h.vY C h1;exact ⟨a,b,fun u hu=>⟨⟨(c u hu).1.1,fun hs=>(c u hu).1.2 (H7 u hs)⟩,(c u hu).2⟩⟩
   · rw [aW] at h1;subst h1;have iq:=h.W5;rw [aT] at iq;refine ⟨by simp,iq.2.1,fun u hu=>⟨lK u hu,fun w=>⟨fun hw=>⟨(hto u hu).trans (EM w hw),(hto w hw).trans (EM u hu)⟩,fun ⟨h1,h2⟩=>?_⟩⟩⟩
     obtain ⟨a,b⟩:=h1.closed F6 (lK u hu);refine b4 fun mF=>?_
     have:=h2.closed Mk ⟨a,fun hm=>by
      rcases ay.1 hm with h3 | h3
      · exact b h3
      · exact mF h3⟩
     exact this.2 (hT u hu)
 · rw [cB];refine ⟨h.H6,by simp,fun C hC D hD x hx hxD=>?_⟩
   rw [aW] at hD;subst hD;exact ((h.vY C hC).2.2 x hx).1.2 (hT x hxD)
theorem kY.fin {n:Nat}{ix:Nat→Nat}{ot:List Nat}{cnt:Nat}{out:List (List Nat)}(h:kY Ed n [] ix ot cnt out):ot=[]:=by
 cases ot with
 | nil=>rfl
 | cons a l =>
   obtain ⟨g,hg,_⟩:=h.i7 a (by simp)
   cases hg
structure w5 (Ed:Nat→Nat→Prop)(n:Nat)(G:List Nat)(v:Nat)(ix lo:Nat→Nat)(S0:List Nat)(cnt:Nat)(out:List (List Nat))(iu km:Nat→Nat)(T:List Nat)(jJ:Nat)(jK:List (List Nat)):Prop where
 inv:kY Ed n G iu (S0++T) jJ jK
 bn:∀ u,ix u≠0→iu u=ix u∧km u=lo u
 W9:iu v≠0
 new:∀ u,ix u=0→iu u≠0→cnt<iu u
 Af:km v≤iu v
 xM:cnt≤jJ
 sm:out <+: jK
 eds:∀ u∈T,∀ w∈S0,Ed u w→km v≤iu w
 low:(T=[]∧km v=iu v)∨(km v<iu v∧∃ w∈S0,iu w=km v∧Rc Ed v w)
structure j7 (Ed:Nat→Nat→Prop)(n:Nat)(G:List Nat)(v:Nat)(ix lo:Nat→Nat)(S0:List Nat)(cnt:Nat)(out:List (List Nat))(D:List Nat)(iu km:Nat→Nat)(T:List Nat)(jJ:Nat)(jK:List (List Nat)):Prop where
 inv:kY Ed n (v::G) iu (S0++v::T) jJ jK
 bn:∀ u,ix u≠0→iu u=ix u∧km u=lo u
 Bm:iu v=cnt+1
 new:∀ u,ix u=0→iu u≠0→cnt<iu u
 xM:cnt+1≤jJ
 sm:out <+: jK
 Af:km v≤iu v
 tm:∀ x∈D,iu x≠0
 uJ:∀ x∈D,x∈S0→km v≤iu x
 uK:∀ u∈T,∀ w∈S0,Ed u w→km v≤iu w
 low:∃ w∈S0++v::T,iu w=km v∧Rc Ed v w
theorem j7.start {n:Nat}{G:List Nat}{v:Nat}{ix lo:Nat→Nat}{S0:List Nat}{cnt:Nat}{out:List (List Nat)}(h:kY Ed n G ix S0 cnt out)(hv:v<n)(h0:ix v=0)(hG:∀ g∈G,Rc Ed g v) :
 j7 Ed n G v ix lo S0 cnt out [] (wZ ix v (cnt+1)) (wZ lo v (cnt+1)) [] (cnt+1) out where
 inv:=h.push hv h0 hG
 bn:=fun u hu=>by
  have:u≠v:=fun e=>hu (e ▸ h0)
  rw [vZ this,vZ this];exact ⟨rfl,rfl⟩
 Bm:=rT ..
 new:=fun u h1 h2=>by
  by_cases e:u=v
  · subst e;rw [rT];omega
  · rw [vZ e] at h2;exact (h2 h1).elim
 xM:=au _
 sm:=List.prefix_refl _
 Af:=by rw [rT,rT];exact au _
 tm:=by simp
 uJ:=by simp
 uK:=by simp
 low:=⟨v,by simp,by rw [rT,rT],.refl⟩
section
variable {n:Nat}{G:List Nat}{v:Nat}{ix lo:Nat→Nat}{S0:List Nat}{cnt:Nat}{out:List (List Nat)}{D:List Nat}{iu km:Nat→Nat}{T:List Nat}{jJ:Nat}{jK:List (List Nat)}
theorem j7.sv (h:j7 Ed n G v ix lo S0 cnt out D iu km T jJ jK):∀ u∈v::T,iu v≤iu u:=fun u hu=>by
 have hp:=cB.1 h.inv.F4;rcases aM.1 hu with e | e
 · subst e;exact au _
 · exact fT ((bL.1 hp.2.1).1 u e)
theorem j7.on (h:j7 Ed n G v ix lo S0 cnt out D iu km T jJ jK){x:Nat}(hx:Ed v x)(hs:x∈S0++v::T)(eD:∀ u,ix u≠0→u≠v) :
 j7 Ed n G v ix lo S0 cnt out (D++[x]) iu (wZ km v (min (km v) (iu x))) T jJ jK where
 inv:=h.inv
 bn:=fun u hu=>⟨(h.bn u hu).1,by rw [vZ (eD u hu)];exact (h.bn u hu).2⟩
 Bm:=h.Bm
 new:=h.new
 xM:=h.xM
 sm:=h.sm
 Af:=by rw [rT];have:=h.Af;omega
 tm:=fun y hy=>by
  rcases ay.1 hy with h1 | h1
  · exact h.tm y h1
  · rw [aW] at h1;subst h1;exact h.inv.pZ y hs
 uJ:=fun y hy h2=>by
  rw [rT];rcases ay.1 hy with h1 | h1
  · have:=h.uJ y h1 h2;omega
  · rw [aW] at h1;subst h1;omega
 uK:=fun u hu w hw he=>by
  rw [rT]
  have:=h.uK u hu w hw he;omega
 low:=by
  rw [rT];by_cases hc:km v≤iu x
  · rw [da hc];exact h.low
  · rw [jz (by omega)];exact ⟨x,hs,rfl,.one hx⟩
theorem j7.off (h:j7 Ed n G v ix lo S0 cnt out D iu km T jJ jK){x:Nat}(hv:iu x≠0)(hs:x∉S0++v::T) :
 j7 Ed n G v ix lo S0 cnt out (D++[x]) iu km T jJ jK where
 inv:=h.inv
 bn:=h.bn
 Bm:=h.Bm
 new:=h.new
 xM:=h.xM
 sm:=h.sm
 Af:=h.Af
 tm:=fun y hy=>by
  rcases ay.1 hy with h1 | h1
  · exact h.tm y h1
  · rw [aW] at h1;subst h1;exact hv
 uJ:=fun y hy h2=>by
  rcases ay.1 hy with h1 | h1
  · exact h.uJ y h1 h2
  · rw [aW] at h1;subst h1;exact (hs (c9 _ h2)).elim
 uK:=h.uK
 low:=h.low
theorem j7.call (h:j7 Ed n G v ix lo S0 cnt out D iu km T jJ jK){x:Nat}(hx:Ed v x)(h0:iu x=0)(eD:∀ u,ix u≠0→u≠v)
 {tn rU:Nat→Nat} {T2:List Nat} {p0:Nat} {na:List (List Nat)} (h2:w5 Ed n (v::G) x iu km (S0++v::T) jJ jK tn rU T2 p0 na) :
 j7 Ed n G v ix lo S0 cnt out (D++[x]) tn (wZ rU v (min (rU v) (rU x))) (T++T2) p0 na:=by
 have wF:iu v≠0:=by rw [h.Bm];omega
 have F7:=h2.bn v wF;have hkS:∀ u∈S0,tn u=iu u:=fun u hu=>(h2.bn u (h.inv.pZ u (c9 _ hu))).1
 have xL:∀ u,ix u≠0→iu u≠0:=fun u hu=>by rw [(h.bn u hu).1];exact hu
 have rD:S0++v::(T++T2)=(S0++v::T)++T2:=by simp
 refine ⟨by rw [rD];exact h2.inv,fun u hu=>?_,by rw [F7.1];exact h.Bm,fun u h3 h4=>?_,by have:=h2.xM;have:=h.xM;omega,h.sm.trans h2.sm,?_,fun y hy=>?_,fun y hy hs=>?_,fun u hu w hw he=>?_,?_⟩
 · rw [vZ (eD u hu),(h2.bn u (xL u hu)).1,(h2.bn u (xL u hu)).2];exact h.bn u hu
 · by_cases e:iu u=0
   · have:=h2.new u e h4;have:=h.xM;omega
   · rw [(h2.bn u e).1];exact h.new u h3 e
 · rw [rT,F7.1,F7.2]
   have:=h.Af;omega
 · rcases ay.1 hy with h1 | h1
   · rw [(h2.bn y (h.tm y h1)).1];exact h.tm y h1
   · rw [aW] at h1;subst h1;exact h2.W9
 · rw [rT];rcases ay.1 hy with h1 | h1
   · rw [F7.2,hkS y hs]
     have:=h.uJ y h1 hs;omega
   · rw [aW] at h1;subst h1;exact (h.inv.pZ y (c9 _ hs) h0).elim
 · rw [rT];rcases ay.1 hu with h1 | h1
   · rw [F7.2,hkS w hw]
     have:=h.uK u h1 w hw he;omega
   · have:=h2.eds u h1 w (c9 _ hw) he;omega
 · rw [rT];by_cases hc:rU v≤rU x
   · rw [da hc];obtain ⟨w,a,b,c⟩:=h.low;exact ⟨w,by rw [rD];exact c9 _ a,by rw [(h2.bn w (h.inv.pZ w a)).1,F7.2];exact b,c⟩
   · rw [jz (by omega)]
     rcases h2.low with ⟨h3,h4⟩ | ⟨h3,w,a,b,c⟩
     · have h5:=h2.new x h0 h2.W9;have h6:=h.Af;have h7:=h.xM;rw [F7.2,h4] at hc;have h8:=h.Bm;omega
     · exact ⟨w,by rw [rD];exact c9 _ a,b,(Rc.one hx).trans c⟩
theorem j7.stay (h:j7 Ed n G v ix lo S0 cnt out D iu km T jJ jK)(hD:∀ w,Ed v w→w∈D)(eC:km v<iu v) :
 w5 Ed n G v ix lo S0 cnt out iu km (v::T) jJ jK:=by
 obtain ⟨w,a,b,c⟩:=h.low;have hw:w∈S0:=by
  rcases ay.1 a with h1 | h1
  · exact h1
  · have:=h.sv w h1;omega
 refine ⟨h.inv.stay (fun x hx=>h.tm x (hD x hx)) a (by omega) c,h.bn,by rw [h.Bm];omega,h.new,h.Af,by have:=h.xM;omega,h.sm,fun u hu x hx he=>?_,.inr ⟨eC,w,hw,b,c⟩⟩
 rcases aM.1 hu with e | e
 · subst e;exact h.uJ x (hD x he) hx
 · exact h.uK u e x hx he
theorem j7.pop (h:j7 Ed n G v ix lo S0 cnt out D iu km T jJ jK)(hD:∀ w,Ed v w→w∈D)(heq:km v=iu v)(Mj:∀ g∈G,g∈S0) :
 w5 Ed n G v ix lo S0 cnt out iu km [] jJ (jK++[v::T]):=by
 have eC:∀ w∈S0,iu w<iu v:=fun w hw=>(cB.1 h.inv.F4).2.2 w hw v (by simp)
 refine ⟨?_,h.bn,by rw [h.Bm];omega,h.new,h.Af,by have:=h.xM;omega,h.sm.trans (List.prefix_append _ _),by simp,.inl ⟨rfl,heq⟩⟩
 rw [bE];refine h.inv.pop (fun x hx=>h.tm x (hD x hx)) Mj fun u hu w hw he=>?_
 have h1:=eC w hw;rcases aM.1 hu with e | e
 · subst e
   have:=h.uJ w (hD w he) hw;omega
 · have:=h.uK u e w hw he;omega
end
end
end Go.Mid
namespace Go.Mid
def Ag (E:oM):Nat→Nat→Prop:=fun u w=>((u:Int),(w:Int))∈E
def rV (n:Nat)(f:Nat→Nat):List Int:=Ae n fun v=>((f v:Nat):Int)
theorem Ah {n j:Nat}{f:Nat→Nat}(h:j<n):(rV n f)[j]?=some ((f j:Nat):Int):=Qx h
theorem Qz {n v c:Nat}{f:Nat→Nat}(h:v<n):(rV n f).set v (c:Int)=rV n (wZ f v c):=by
 unfold rV;rw [D2h h];refine D2g fun j _=>?_
 by_cases e:j=v
 · subst e;simp [rT]
 · simp [e,vZ e]
abbrev TSt:=List (List Int)×(List Int×Nat)×(List Int×Nat)×(List Bool×Nat)×(List Int×Nat)×Int×List (List Int)×Nat
def sn (n:Nat)(E:oM)(ix lo:Nat→Nat)(ot:List Nat)(cnt:Nat)(out:List (List Nat)):TSt :=
 (qU n E,(rV n ix,n),(rV n lo,n),(tj n ot,n),(jQ ot,ot.length),(cnt:Int),lq out,out.length)
theorem C6Q (a b:Nat):(if (b:Int)<(a:Int) then (b:Int) else (a:Int))=((min a b:Nat):Int):=by
 split<;>omega
theorem Ml {n v:Nat}{o:List Nat}(h:v<n):(tj n o)[v]?=some (o.contains v):=Qw h
theorem B42 {o:List Nat}{v:Nat}(h:v∈o):o.contains v=true:=bB.2 h
theorem B3J {o:List Nat}{v:Nat}(h:v∉o):o.contains v=false:=by
 cases hc:o.contains v
 · rfl
 · exact (h (bB.1 hc)).elim
theorem C41 {n:Nat}{ix:Nat→Nat}{v:Nat}(hv:v<n)(h0:ix v=0):(bp n).countP (fun u=>ix u != 0)<n:=by
 have h1:(bp n).countP (fun u=>ix u != 0)<(bp n).countP (fun _=>true) :=
  W0 (fun _ _ _=>rfl) ⟨v,bW.2 hv,by simp [h0],rfl⟩
 simpa using h1
theorem C8z {S0 T:List Nat}{v:Nat}(h:v∉S0)(hl:(S0++v::T).length≤1000000):Lh (jQ (S0++v::T),(v:Int))=some (S0.length:Int):=by
 unfold Lh;have hL:(jQ (S0++v::T)).length=(S0++v::T).length:=Bl _;have hlen:S0.length<(S0++v::T).length:=by simp
 have:=qs (f:=PI) S0.length (fun i=>(jQ (S0++v::T),(v:Int),((S0++v::T).length:Int),(i:Int))) (.inl (S0.length:Int)) (fun i hi=>by
  have oS:i<(S0++v::T).length:=by omega
  have dN:(i:Int)<((S0++v::T).length:Int):=by omega
  have hg:(jQ (S0++v::T))[i]?=some ((S0[i]:Nat):Int):=by
   rw [W4 oS,List.getElem_append_left hi]
  have eD:(((v:Nat):Int)==((S0[i]:Nat):Int))=false:=by
   rw [beq_eq_false_iff_ne];intro e
   have:v=S0[i]:=by omega
   exact h (this ▸ aJ hi)
  simp only [PI,dN,decide_true,cond_true,aj,aq,hg,ah,eD,cond_false,gV (show i<9223372036854775807 by omega)]) (by
  have dN:(S0.length:Int)<((S0++v::T).length:Int):=by omega
  have hg:(jQ (S0++v::T))[S0.length]?=some (v:Int):=by
   rw [W4 hlen,List.getElem_append_right (au _)];simp
  simp only [PI,dN,decide_true,cond_true,aj,aq,hg,ah,beq_self_eq_true])
 simp only [cj] at this;simp only [hL,this,ah,qa]
theorem D39 {n:Nat}{E:oM}{ix lo:Nat→Nat}{S0 L st:List Nat}{cnt:Nat}{out:List (List Nat)}(hL:∀ x∈L,x<n)(iq:(S0++L).Nodup)(hl:L.length≤1000000) :
 di Li ((L.length,L.length,(L.length:Int),0),jQ L,qU n E,(rV n ix,n),(rV n lo,n),(tj n (S0++L),n),(jQ st,st.length),(cnt:Int),lq out,out.length) =
  some (L.length,jQ L,sn n E ix lo st cnt out |>.1,(rV n ix,n),(rV n lo,n),(tj n S0,n),(jQ st,st.length),(cnt:Int),lq out,out.length):=by
 have:=qs (f:=Li) L.length (fun i=>((L.length,L.length,(L.length:Int),(i:Int)),jQ L,qU n E,(rV n ix,n),(rV n lo,n),(tj n (S0++L.drop i),n),(jQ st,st.length),(cnt:Int),lq out,out.length))
  (L.length,jQ L,qU n E,(rV n ix,n),(rV n lo,n),(tj n S0,n),(jQ st,st.length),(cnt:Int),lq out,out.length) (fun i hi=>by
  have dN:(i:Int)<(L.length:Int):=by omega
  have hn:L[i]<n:=hL _ (aJ hi);have hg:(tj n (S0++L.drop i))[L[i]]?=some true:=by
   rw [Ml hn,B42];rw [b3 hi];exact kS _ gu
  have rk:(tj n (S0++L.drop i)).set L[i] false=tj n (S0++L.drop (i+1)):=by
   unfold tj;rw [C40 hn];refine WZ fun j _=>?_
   have CB:(S0++L.drop i).Nodup:=iq.sublist (List.Sublist.append_left (List.drop_sublist i L) S0);rw [b3 hi] at CB ⊢;by_cases e:j=L[i]
   · subst e;rw [if_pos rfl,B3J];rw [aT] at CB;intro hm;rcases ay.1 hm with h1 | h1
     · exact CB.2.2 _ h1 _ gu rfl
     · exact (b5.1 CB.2.1).1 h1
   · rw [if_neg e,cn,bB,bB,ay,ay,aM];simp only [e,false_or]
  simp only [Li,dN,decide_true,cond_true,aj,aq,ln hi,W4 hi,ah,ln hn,hg,rk,gV (show i<9223372036854775807 by omega)]) (by
  simp only [Li,aX,decide_false,cond_false,fe,bE])
 simpa [sn] using this
section
variable {n:Nat}{E:oM}
def D0u (n:Nat)(E:oM)(m:Nat):Prop:=∀ (v:Nat) (ix lo:Nat→Nat) (S0:List Nat) (cnt:Nat) (out:List (List Nat)) (G:List Nat),n-cnt≤m→kY (Ag E) n G ix S0 cnt out→v<n→ix v=0→(∀ g∈G,Rc (Ag E) g v) →
 ∃ iu km T jJ jK,(∀ k,m<k→DH k ((v:Int),sn n E ix lo S0 cnt out)=some (sn n E iu km (S0++T) jJ jK))∧w5 (Ag E) n G v ix lo S0 cnt out iu km T jJ jK
theorem QA (hn:n≤1000)(hr:CA n E)(hE:E.length≤1000){m:Nat}(IH:D0u n E m){v:Nat}(hv:v<n){ix lo:Nat→Nat}(h0:ix v=0){S0:List Nat}{cnt:Nat}{out:List (List Nat)}{G:List Nat}(hG:∀ g∈G,Rc (Ag E) g v)(hm:n-(cnt+1)≤m) :
 ∀ (R:List Int) (i:Nat) (iu km:Nat→Nat) (T:List Nat) (jJ:Nat) (jK:List (List Nat)),(sj E v).drop i=R→i≤(sj E v).length→j7 (Ag E) n G v ix lo S0 cnt out (((sj E v).take i).map lZ) iu km T jJ jK →
  ∃ tn rU T2 p0 na,(∀ k,m<k→di (HN (DH k)) (((v:Int),sj E v,((sj E v).length:Int),(i:Int)),sn n E iu km (S0++v::T) jJ jK)=some ((v:Int),sn n E tn rU (S0++v::T2) p0 na)) ∧
   j7 (Ag E) n G v ix lo S0 cnt out ((sj E v).map lZ) tn rU T2 p0 na
 | [],i,iu,km,T,jJ,jK,hd,hi,h=>by
   have hie:i=(sj E v).length:=by
    have:=congrArg cF hd
    rw [cz] at this;simp at this;omega
   subst hie;rw [dR] at h;refine ⟨iu,km,T,jJ,jK,fun k _=>qi ?_,h⟩
   simp only [HN,sn,aX,decide_false,cond_false]
 | x::R,i,iu,km,T,jJ,jK,hd,hi,h=>by
   have oS:i<(sj E v).length:=by
    have:=congrArg cF hd
    rw [cz] at this;simp at this;omega
   have hx:(sj E v)[i]=x∧(sj E v).drop (i+1)=R:=by
    rw [b3 oS] at hd;exact List.cons.inj hd
   have hN:=D2e hn hr hE;have pf:sj E v∈qU n E:=bH (W3 hv);have hf:=hN.Qt _ pf;obtain ⟨w,hw⟩:∃ w:Nat,(sj E v)[i]=(w:Int):=eK (hN.vW _ pf _ (aJ oS)).1;have CC:w<n:=by have:=(hN.vW _ pf _ (aJ oS)).2;rw [hw] at this;omega
   have QB:Ag E v w:=C6P.1 (hw ▸ aJ oS);have Ai:((sj E v).take (i+1)).map lZ=((sj E v).take i).map lZ++[w]:=by
    rw [si oS,b8,hw];rfl
   have eD:∀ u,ix u≠0→u≠v:=fun u hu e=>hu (e ▸ h0)
   have dN:(i:Int)<((sj E v).length:Int):=by omega
   by_cases c0:iu w=0
   · obtain ⟨tn,rU,T2,p0,na,e1,hp⟩:=IH w iu km (S0++v::T) jJ jK (v::G) (by have:=h.xM;omega) h.inv CC c0 (fun g hg=>by
      rcases aM.1 hg with e | e
      · subst e;exact .one QB
      · exact (hG g e).trans (.one QB))
     have h2:=h.call QB c0 eD hp;rw [← Ai] at h2;obtain ⟨Mm,Mn,T3,Aj,Ak,e3,h3⟩:=QA hn hr hE IH hv h0 hG hm R (i+1) _ _ _ _ _ hx.2 oS h2;refine ⟨Mm,Mn,T3,Aj,Ak,fun k hk=>?_,h3⟩
     rw [← e3 k hk];refine uE ?_;have e1:=e1 k hk;have hz:(((iu w:Nat):Int)==0)=true:=by rw [c0];rfl
     have rD:S0++v::(T++T2)=(S0++v::T)++T2:=by simp
     rw [rD];simp only [sn] at e1 ⊢;simp only [HN,dN,decide_true,cond_true,aj,aq,af oS,hw,ah,ln CC,ln hv,Ah CC,Ah hv,hz,e1,C6Q,Qz hv,gV (show i<9223372036854775807 by omega)]
   · have hz:(((iu w:Nat):Int)==0)=false:=by rw [beq_eq_false_iff_ne];omega
     by_cases c1:w∈S0++v::T
     · have h2:=h.on QB c1 eD;rw [← Ai] at h2;obtain ⟨Mm,Mn,T3,Aj,Ak,e3,h3⟩:=QA hn hr hE IH hv h0 hG hm R (i+1) _ _ _ _ _ hx.2 oS h2;refine ⟨Mm,Mn,T3,Aj,Ak,fun k hk=>?_,h3⟩
       rw [← e3 k hk];refine uE ?_;simp only [sn];simp only [HN,dN,decide_true,cond_true,aj,aq,af oS,hw,ah,ln CC,ln hv,Ah CC,Ah hv,hz,cond_false,Ml CC,B42 c1,C6Q,Qz hv,gV (show i<9223372036854775807 by omega)]
     · have h2:=h.off c0 c1;rw [← Ai] at h2;obtain ⟨Mm,Mn,T3,Aj,Ak,e3,h3⟩:=QA hn hr hE IH hv h0 hG hm R (i+1) _ _ _ _ _ hx.2 oS h2;refine ⟨Mm,Mn,T3,Aj,Ak,fun k hk=>?_,h3⟩
       rw [← e3 k hk];refine uE ?_;simp only [sn];simp only [HN,dN,decide_true,cond_true,aj,aq,af oS,hw,ah,ln CC,ln hv,Ah CC,hz,cond_false,Ml CC,B3J c1,gV (show i<9223372036854775807 by omega)]
theorem kY.len {Ed:Nat→Nat→Prop}{G:List Nat}{ix:Nat→Nat}{ot:List Nat}{cnt:Nat}{out:List (List Nat)}(h:kY Ed n G ix ot cnt out):ot.length≤n:=by
 have:=Mf h.W5 (m:=bp n) fun x hx=>bW.2 (h.vW x (h.pZ x hx))
 simpa using this
theorem B7F:∀ {out:List (List Nat)},(∀ C∈out,C ≠ [])→out.Pairwise (fun C D=>∀ x∈C,x∉D)→(out.map fun C=>C.headD 0).Nodup
 | [],_,_=>by simp
 | C::r,h1,h2=>by
   have rh:=bL.1 h2;rw [aH,b5];refine ⟨fun hm=>?_,B7F (fun D hD=>h1 D (bU _ hD)) rh.2⟩
   obtain ⟨D,hD,e⟩:=bj.1 hm;have hC:C.headD 0∈C:=by
    cases C with
    | nil=>exact (h1 [] (by simp) rfl).elim
    | cons a l=>simp
   have hD2:D.headD 0∈D:=by
    cases D with
    | nil=>exact (h1 [] (bU _ hD) rfl).elim
    | cons a l=>simp
   rw [e] at hD2;exact rh.1 D hD _ hC hD2
theorem kY.Al {Ed:Nat→Nat→Prop}{G:List Nat}{ix:Nat→Nat}{ot:List Nat}{cnt:Nat}{out:List (List Nat)}(h:kY Ed n G ix ot cnt out):out.length≤n:=by
 have h1:=B7F (fun C hC=>(h.vY C hC).1) h.H6
 have:=Mf h1 (m:=bp n) fun x hx=>by
  obtain ⟨C,hC,rfl⟩:=bj.1 hx;have hm:C.headD 0∈C:=by
   cases C with
   | nil=>exact ((h.vY [] hC).1 rfl).elim
   | cons a l=>simp
  exact bW.2 (h.vW _ ((h.vY C hC).2.2 _ hm).1.1)
 simpa using this
theorem D4a (hn:n≤1000)(hr:CA n E)(hE:E.length≤1000):∀ m,D0u n E m:=by
 intro m
 induction m with
 | zero =>
   intro v ix lo S0 cnt out G hm h hv h0 hG
   have:=C41 hv h0
   rw [h.cc] at this;omega
 | succ m IH =>
   intro v ix lo S0 cnt out G hm h hv h0 hG;have hcn:=C41 hv h0;rw [h.cc] at hcn;have hst:=j7.start (lo:=lo) h hv h0 hG;obtain ⟨tn,rU,T2,p0,na,e1,hL⟩:=QA hn hr hE IH hv h0 hG (by omega) (sj E v) 0 _ _ _ _ _ rfl (dq _) hst
   have hD:∀ w,Ag E v w→w∈(sj E v).map lZ:=fun w hw=>bj.2 ⟨(w:Int),C6P.2 hw,aq w⟩
   have tG:=h.len;have aq5:=hL.inv.len;have IK:=hL.inv.Al;have Ns:aR S0.length (jQ S0)=jQ S0:=aZ (by rw [Bl];exact au _)
   have hwr:ai.wrap ((cnt:Int)+1)=((cnt+1:Nat):Int):=gV (by omega)
   have hsn:jQ S0++[(v:Int)]=jQ (S0++[v]):=(D0s _ _).symm;have aq6:S0.length+1=(S0++[v]).length:=by simp
   by_cases hc:rU v=tn v
   · have hp:=hL.pop hD hc h.H5;refine ⟨tn,rU,[],p0,na++[v::T2],fun k hk=>?_,hp⟩
     obtain ⟨k',rfl⟩:∃ k',k=k'+1:=⟨k-1,by omega⟩
     have e1:=e1 k' (by omega)
     have hb:(((rU v:Nat):Int) != ((tn v:Nat):Int))=false:=by rw [hc];simp
     have hvS:v∉S0:=fun hs=>h.pZ v hs h0
     have AK:=C8z (T:=T2) hvS (by omega)
     have tk1:aR (S0++v::T2).length (jQ (S0++v::T2))=jQ (S0++v::T2):=aZ (by rw [Bl];exact au _)
     have dr:List.drop S0.length (jQ (S0++v::T2))=jQ (v::T2):=by
      unfold jQ;rw [← List.map_drop,List.drop_left]
     have tk2:aR S0.length (jQ (S0++v::T2))=jQ S0:=by
      unfold jQ;rw [← List.map_take,List.take_left]
     have BL:(S0++v::T2).length-S0.length=(v::T2).length:=by simp
     have tk3:aR (v::T2).length (jQ (v::T2))=jQ (v::T2):=aZ (by rw [Bl];exact au _)
     have hlT:(v::T2).length≤1000:=by
      have:(S0++v::T2).length=S0.length+(v::T2).length:=by simp
      omega
     have nO:Cw 8 (jQ (v::T2))=some ((v::T2).length,jQ (v::T2)):=by
      unfold Cw;rw [Bl,iy (show (v::T2).length*8≤140737488355328 by omega)]
      rfl
     have Ab:=D39 (n:=n) (E:=E) (ix:=tn) (lo:=rU) (S0:=S0) (L:=v::T2) (st:=S0) (cnt:=p0) (out:=na) (fun x hx=>hL.inv.vW x (hL.inv.pZ x (kS _ hx))) hL.inv.W5 (by omega)
     simp only [sn] at e1 Ab ⊢;have tk4:aR na.length (lq na)=lq na:=aZ (by rw [Qy];exact au _)
     have qe:lq na++[jQ (v::T2)]=lq (na++[v::T2]):=by simp [lq]
     have q1:iZ 0 0=true:=rfl;have q2:iZ 1 1=true:=rfl;show Lj (DH k') _=_;have bb:Nat.ble (S0.length+(v::T2).length) (S0++v::T2).length=true:=iy (by simp)
     simp only [Lj,aj,decide_true,cond_true,aq,ln hv,Ah hv,ah,beq_self_eq_true,Bl,iy (au _),Ns,aQ,bf,cX,Ml hv,W3 hv,hwr,Qz hv,C2k hv,hsn];simp only [aQ,bf,cX,cj,bS] at e1 AK bb BL nO Ab tk1 tk3 hlT;rw [iy (show (S0.length+1)*8≤140737488355328 by omega)]
     simp only [cond_true,bS,iy (au _),e1,ah,aj,decide_true,aq,ln hv,Ah hv,hb,cond_false,tk1,AK,iy (Nat.le_add_right _ _),BL,bb,dr,tk3,nO,tk2,Ab,Bl,bf,q1,q2,beq_self_eq_true,Qy,tk4,qe,bE];rw [iy (show (na.length+1)*24≤140737488355328 by omega),iy (show S0.length+(T2.length+1)≤(S0++v::T2).length by simp)]
     rfl
   · have eC:rU v<tn v:=by have:=hL.Af;omega
     have hp:=hL.stay hD eC;refine ⟨tn,rU,v::T2,p0,na,fun k hk=>?_,hp⟩
     obtain ⟨k',rfl⟩:∃ k',k=k'+1:=⟨k-1,by omega⟩
     have e1:=e1 k' (by omega)
     have hb:(((rU v:Nat):Int) != ((tn v:Nat):Int))=true:=by simp;omega
     simp only [sn] at e1 ⊢;show Lj (DH k') _=_;simp only [Lj,aj,decide_true,cond_true,aq,ln hv,Ah hv,ah,beq_self_eq_true,Bl,iy (au _),Ns,aQ,bf,cX,Ml hv,W3 hv,hwr,Qz hv,C2k hv,hsn];simp only [aQ,bf,cX,cj,bS] at e1;rw [iy (show (S0.length+1)*8≤140737488355328 by omega)]
     simp only [cond_true,bS,iy (au _),e1,ah,aj,decide_true,aq,ln hv,Ah hv,hb]
end
end Go.Mid
namespace Go.Mid
def kh (C:List Nat):Nat:=C.headD 0
def v7 (M:List (List Nat)):Nat→List (List Nat)
 | 0=>M
 | j+1=>match M[j+1]?,M[j]? with
   | some x,some y=>if kh x<kh y then v7 ((M.set (j+1) y).set j x) j else M
   | _,_=>M
theorem C6R:∀ (j:Nat) (M:List (List Nat)),(v7 M j).length=M.length
 | 0,M=>rfl
 | j+1,M=>by
   unfold v7;split
   · split
     · rw [C6R j];simp
     · rfl
   · rfl
def DR (x:List Nat)(P:List (List Nat)):List (List Nat):=(P.filter fun y=>!decide (kh x<kh y))++x::P.filter fun y=>decide (kh x<kh y)
theorem C6S:∀ (j:Nat) (P:List (List Nat)) (x:List Nat) (R:List (List Nat)),P.length=j→P.Pairwise (fun a b=>kh a≤kh b)→v7 (P++x::R) j=DR x P++R
 | 0,P,x,R,hl,hp=>by
   have:P=[]:=ib.1 hl
   subst this;rfl
 | j+1,P,x,R,hl,hp=>by
   have eD:P ≠ []:=fun e=>by rw [e] at hl;simp at hl
   obtain ⟨Q,y,rfl⟩:∃ Q y,P=Q++[y]:=⟨P.dropLast,P.getLast eD,(List.dropLast_concat_getLast eD).symm⟩;have hQ:Q.length=j:=by simpa using hl
   have h1:(Q++[y]++x::R)[j+1]?=some x:=by rw [bG (by omega),hl];simp
   have h2:(Q++[y]++x::R)[j]?=some y:=by rw [bh,bG (by omega),hQ];simp
   have iK:=cB.1 hp;unfold v7;rw [h1,h2]
   dsimp only
   by_cases c:kh x<kh y
   · rw [if_pos c];have hs:(((Q++[y]++x::R).set (j+1) y).set j x)=Q++x::(y::R):=by
      rw [ez _ _ (by omega),hl]
      simp only [gE,dY];rw [bh,ez _ _ (by omega),hQ]
      simp
     rw [hs,C6S j Q x (y::R) hQ iK.1];unfold DR;simp [eI,c]
   · rw [if_neg c];have ko:∀ z∈Q++[y],¬ kh x<kh z:=fun z hz=>by
      rcases ay.1 hz with h | h
      · have:=iK.2.2 z h y (by simp)
        omega
      · rw [aW] at h;subst h;exact c
     have f1:(Q++[y]).filter (fun z=>!decide (kh x<kh z))=Q++[y]:=List.filter_eq_self.2 fun z hz=>by simp;have:=ko z hz;omega
     have f2:(Q++[y]).filter (fun z=>decide (kh x<kh z))=[]:=iH.2 fun z hz=>by simp;have:=ko z hz;omega
     unfold DR;rw [f1,f2];simp
theorem D0v (x:List Nat)(P:List (List Nat)):(DR x P).Perm (x::P):=by
 unfold DR;refine List.perm_middle.trans (List.Perm.cons x ?_)
 have:=List.filter_append_perm (fun y=>!decide (kh x<kh y)) P
 simpa using this
theorem C5O {x:List Nat}{P:List (List Nat)}(h:P.Pairwise (fun a b=>kh a≤kh b)):(DR x P).Pairwise (fun a b=>kh a≤kh b):=by
 unfold DR;rw [cB,bL];refine ⟨h.filter _,⟨fun y hy=>?_,h.filter _⟩,fun a ha b hb=>?_⟩
 · have:=(cA.1 hy).2
   simp at this;omega
 · have h1:=(cA.1 ha).2;simp at h1;rcases aM.1 hb with e | e
   · subst e;exact h1
   · have h2:=(cA.1 e).2;simp at h2;omega
def yu (M:List (List Nat)):Nat→List (List Nat)
 | 0=>M
 | i+1=>v7 (yu M i) (i+1)
theorem C42 (M:List (List Nat)):∀ i,(yu M i).length=M.length
 | 0=>rfl
 | i+1=>by unfold yu;rw [C6R,C42 M i]
theorem C2l (M:List (List Nat)):∀ k,k<M.length→∃ P,yu M k=P++M.drop (k+1)∧P.Perm (M.take (k+1))∧P.Pairwise (fun a b=>kh a≤kh b)
 | 0,h=>⟨M.take 1,(bN 1 M).symm,List.Perm.refl _,by
    cases M with
    | nil=>simp
    | cons a l=>simp⟩
 | k+1,h=>by
   obtain ⟨P,h1,h2,h3⟩:=C2l M k (by omega)
   have hPl:P.length=k+1:=by rw [h2.length_eq,aY];omega
   have hd:M.drop (k+1)=M[k+1]::M.drop (k+1+1):=b3 h;refine ⟨DR M[k+1] P,?_,?_,C5O h3⟩
   · unfold yu;rw [h1,hd,C6S (k+1) P _ _ hPl h3]
   · rw [si h];refine (D0v _ _).trans ?_;refine (List.Perm.cons _ h2).trans ?_;exact List.perm_append_comm (l₁:=[M[k+1]])
def vh (M:List (List Nat)):List (List Nat):=yu M (M.length-1)
theorem C2m (M:List (List Nat)):(vh M).Perm M∧(vh M).Pairwise (fun a b=>kh a≤kh b):=by
 by_cases h:M=[]
 · subst h;exact ⟨List.Perm.refl _,by simp [vh,yu]⟩
 · have hl:=jN.2 h;obtain ⟨P,h1,h2,h3⟩:=C2l M (M.length-1) (by omega)
   have e:M.length-1+1=M.length:=by omega
   rw [e,fe,bE] at h1;rw [e,dR] at h2;unfold vh;rw [h1];exact ⟨h2,h3⟩
theorem D0w {x y:List Nat}(hx:x ≠ [])(hy:y ≠ []):PL (jQ x,jQ y)=some (if kh x<kh y then -1 else if kh y<kh x then 1 else 0):=by
 have g:∀ {z:List Nat},z ≠ []→(jQ z)[0]?=some ((kh z:Nat):Int):=fun {z} hz=>by
  cases z with
  | nil=>exact (hz rfl).elim
  | cons a l=>rfl
 simp only [PL,g hx,g hy,ah,VH,PK,bne_self_eq_false,cond_false,gt_iff_lt];by_cases h1:kh x<kh y
 · have:((kh x:Nat):Int)<(kh y:Nat):=by omega
   simp [h1,this]
 · have n1:¬ ((kh x:Nat):Int)<(kh y:Nat):=by omega
   by_cases h2:kh y<kh x
   · have:((kh y:Nat):Int)<(kh x:Nat):=by omega
     simp [h1,h2,n1,this]
   · have n2:¬ ((kh y:Nat):Int)<(kh x:Nat):=by omega
     simp [h1,h2,n1,n2]
theorem QC {M:List (List Nat)}{j:Nat}:(lq M)[j]?=(M[j]?).map jQ:=by simp [lq]
theorem C6T {M:List (List Nat)}{j:Nat}{x:List Nat}:(lq M).set j (jQ x)=lq (M.set j x):=by simp [lq,gD]
section
variable (q1:List (List Int))(qE:List Int)(qF:Nat)(qG:List Int)(qH:Nat)(qI:List Bool)(qJ:Nat)(qK:List Int)(qL:Nat)(q6:Int)(m:Nat)
theorem D0x (i b:Int):∀ (j:Nat) (M:List (List Nat)),(∀ C∈M,C ≠ [])→j<M.length→M.length≤1000 →
 di Lk ((M.length,0,b,(),i,(j:Int)),q1,(qE,qF),(qG,qH),(qI,qJ),(qK,qL),q6,lq M,m)=some ((M.length,0,b,(),i),q1,(qE,qF),(qG,qH),(qI,qJ),(qK,qL),q6,lq (v7 M j),m)
 | 0,M,eD,hj,hl=>by
   refine qi ?_;simp only [Lk,gt_iff_lt,cj,aX,decide_false,cond_false,v7]
 | j+1,M,eD,hj,hl=>by
   have BS:j<M.length:=by omega
   have FZ:(((j+1:Nat):Int)>0):=by omega
   have hw:ai.wrap (((j+1:Nat):Int)-1)=(j:Int):=by rw [wrap_i64 (by omega) (by omega)];omega
   have g1:M[j+1]?=some M[j+1]:=af hj;have g2:M[j]?=some M[j]:=af BS;have n1:=eD _ (aJ hj);have n2:=eD _ (aJ BS);by_cases c:kh M[j+1]<kh M[j]
   · have hb:v7 M (j+1)=v7 ((M.set (j+1) M[j]).set j M[j+1]) j:=by
      conv=>lhs;unfold v7
      rw [g1,g2]
      dsimp only
      rw [if_pos c]
     have ih:=D0x i b j ((M.set (j+1) M[j]).set j M[j+1]) (fun C hC=>by
      rcases bm hC with h | h
      · rcases bm h with h | h
        · exact eD C h
        · subst h;exact n2
      · subst h;exact n1) (by simpa using BS) (by simpa using hl)
     rw [hb];have e:((M.set (j+1) M[j]).set j M[j+1]).length=M.length:=by simp
     rw [e] at ih;rw [← ih];refine uE ?_;have eC:(-1:Int)<0:=by decide
     have g3:(M.set (j+1) M[j])[j]?=some M[j]:=by rw [eJ (by omega)];exact g2
     simp only [Lk,FZ,decide_true,cond_true,aj,aq,ln hj,ln BS,hw,QC,g1,g2,g3,ar,ah,D0w n1 n2,c,if_true,eC,C6T]
   · have hb:v7 M (j+1)=M:=by
      unfold v7;rw [g1,g2]
      dsimp only
      rw [if_neg c]
     rw [hb];refine qi ?_;have BO:¬ (if kh M[j]<kh M[j+1] then (1:Int) else 0)<0:=by split<;>decide
     simp only [Lk,FZ,decide_true,cond_true,aj,aq,ln hj,ln BS,hw,QC,g1,g2,ar,ah,D0w n1 n2,c,if_false,BO,decide_false,cond_false]
theorem D4b {M:List (List Nat)}{j:Nat}{C:List Nat}(h:C∈v7 M j):C∈M:=by
 induction j generalizing M with
 | zero=>exact h
 | succ j ih =>
   unfold v7 at h;split at h
   · rename_i x y h1 h2;split at h
     · rcases bm (ih h) with h3 | h3
       · rcases bm h3 with h4 | h4
         · exact h4
         · subst h4;exact bH h2
       · subst h3;exact bH h1
     · exact h
   · exact h
theorem C43 {M:List (List Nat)}{C:List Nat}:∀ {i:Nat},C∈yu M i→C∈M
 | 0,h=>h
 | i+1,h=>C43 (i:=i) (D4b h)
theorem C44 (M:List (List Nat))(eD:∀ C∈M,C ≠ [])(hl:M.length≤1000) :
 PM ((M.length,0,(M.length:Int),()),q1,(qE,qF),(qG,qH),(qI,qJ),(qK,qL),q6,lq M,m)=some (q1,(qE,qF),(qG,qH),(qI,qJ),(qK,qL),q6,lq (vh M),m):=by
 unfold PM;have w1:ai.wrap ((0:Int)+1)=((0+1:Nat):Int):=rfl;by_cases h0:M=[]
 · subst h0
   have:=qi (f:=Ll) (a:=((0,0,0,(),((0+1:Nat):Int)),q1,(qE,qF),(qG,qH),(qI,qJ),(qK,qL),q6,lq [],m)) (r:=(q1,(qE,qF),(qG,qH),(qI,qJ),(qK,qL),q6,lq [],m)) rfl
   simp only [cX,cj,w1,this,ah];rfl
 · have hlp:=jN.2 h0
   have:=qs (f:=Ll) (M.length-1) (fun i=>((M.length,0,(M.length:Int),(),((i+1:Nat):Int)),q1,(qE,qF),(qG,qH),(qI,qJ),(qK,qL),q6,lq (yu M i),m)) (q1,(qE,qF),(qG,qH),(qI,qJ),(qK,qL),q6,lq (vh M),m) (fun i hi=>by
    have dN:((i+1:Nat):Int)<(M.length:Int):=by omega
    have Bf:=C42 M i;have h1:=D0x q1 qE qF qG qH qI qJ qK qL q6 m ((i+1:Nat):Int) (M.length:Int) (i+1) (yu M i) (fun C hC=>eD C (C43 hC)) (by omega) (by omega)
    rw [Bf] at h1;simp only [Ll,dN,decide_true,cond_true,h1,ah,gV (show i+1<9223372036854775807 by omega),yu]) (by
    have e:M.length-1+1=M.length:=by omega
    simp only [Ll,e,aX,decide_false,cond_false,vh])
   simp only [yu] at this;simp only [w1,this,ah]
theorem D2i (M:List (List Nat))(eD:∀ C∈M,C ≠ [])(hl:M.length≤12)(y:Int)(hy:HF (aK.wrap (M.length:Int))=some y) :
 Lm ((M.length,()),q1,(qE,qF),(qG,qH),(qI,qJ),(qK,qL),q6,lq M,m)=some (q1,(qE,qF),(qG,qH),(qI,qJ),(qK,qL),q6,lq (vh M),m):=by
 unfold Lm VJ;have h1:=C44 q1 qE qF qG qH qI qJ qK qL q6 m M eD (by omega)
 have hw:ai.wrap ((M.length:Int)-0)≤12:=by rw [wrap_i64 (by omega) (by omega)];omega
 have:=qi (f:=VI) (a:=((M.length,0,(M.length:Int),y,(),true,true),q1,(qE,qF),(qG,qH),(qI,qJ),(qK,qL),q6,lq M,m)) (r:=(q1,(qE,qF),(qG,qH),(qI,qJ),(qK,qL),q6,lq (vh M),m)) (by
  simp only [VI,hw,decide_true,cond_true,h1,ah])
 simp only [hy,ah,this]
end
end Go.Mid
namespace Go.Mid
def qw (C:List Nat):List Nat:=(lS (jQ C)).map lZ
theorem QD (C:List Nat):jQ (qw C)=lS (jQ C):=by
 unfold jQ qw;rw [List.map_map]
 have:∀ l:List Int,(∀ x∈l,0≤x)→l.map ((fun k:Nat=>(k:Int)) ∘ lZ)=l:=by
  intro l h
  induction l with
  | nil=>rfl
  | cons a l ih =>
    rw [aH,ih fun x hx=>h x (bU _ hx)]
    have:=h a (by simp)
    simp only [Function.comp];congr 1;omega
 refine this _ fun x hx=>?_
 have hx:=Qr.1 hx;obtain ⟨k,_,rfl⟩:=bj.1 hx;omega
theorem C45 {C:List Nat}{v:Nat}:(v:Int)∈jQ C↔v∈C:=by
 unfold jQ;rw [bj];constructor
 · rintro ⟨k,hk,e⟩
   have:k=v:=by omega
   exact this ▸ hk
 · intro h;exact ⟨v,h,rfl⟩
theorem H8 {C:List Nat}{v:Nat}:v∈qw C↔v∈C:=by
 rw [← C45,QD,Qr,C45]
theorem C8A {C:List Nat}(h:C.Nodup):(jQ C).Nodup:=by
 unfold jQ;unfold List.Nodup at h ⊢;rw [ep];exact h.imp fun h e=>h (by omega)
theorem D4c {C:List Nat}(h:C.Nodup):(qw C).Pairwise (· < ·):=by
 have h1:=D0n (C8A h);rw [← QD] at h1;unfold jQ at h1;rw [ep] at h1;exact h1.imp fun h=>by omega
theorem QE {C:List Nat}(h:C ≠ []):qw C ≠ []:=by
 cases C with
 | nil=>exact (h rfl).elim
 | cons a l =>
   have:a∈qw (a::l):=H8.2 (by simp)
   intro e;rw [e] at this;cases this
theorem Xa {C:List Nat}(h:C ≠ []):kh C∈C:=by
 cases C with
 | nil=>exact (h rfl).elim
 | cons a l=>simp [kh]
structure Am (n:Nat)(Ed:Nat→Nat→Prop)(L:List (List Nat)):Prop where
 ne:∀ C∈L,C ≠ []
 asc:∀ C∈L,C.Pairwise (· < ·)
 hd:L.Pairwise (fun C D=>kh C<kh D)
 cls:∀ C∈L,∀ u∈C,u<n∧∀ w,(w∈C↔Rc Ed u w∧Rc Ed w u)
 all:∀ v,v<n→∃ C∈L,v∈C
theorem D6a {n:Nat}{Ed:Nat→Nat→Prop}{ix:Nat→Nat}{cnt:Nat}{out:List (List Nat)}(h:kY Ed n [] ix [] cnt out)(ko:∀ v,v<n→ix v≠0):Am n Ed (vh (out.map qw)):=by
 obtain ⟨h1,h2⟩:=C2m (out.map qw);have hm:∀ C,C∈vh (out.map qw)↔∃ D∈out,qw D=C:=fun C=>by rw [h1.mem_iff,bj]
 refine ⟨fun C hC=>?_,fun C hC=>?_,?_,fun C hC u hu=>?_,fun v hv=>?_⟩
 · obtain ⟨D,hD,rfl⟩:=(hm C).1 hC;exact QE (h.vY D hD).1
 · obtain ⟨D,hD,rfl⟩:=(hm C).1 hC;exact D4c (h.vY D hD).2.1
 · have hd:(out.map qw).Pairwise (fun C D=>kh C≠kh D):=by
    rw [ep];refine h.H6.imp_of_mem fun {C D} hC hD lL e=>?_
    have a:=H8.1 (Xa (QE (h.vY C hC).1));have b:=H8.1 (Xa (QE (h.vY D hD).1));rw [e] at a;exact lL _ a b
   have Xb:=(h1.pairwise_iff (R:=fun C D=>kh C≠kh D) (fun {a b} s0 e=>s0 e.symm)).2 hd
   exact (h2.and Xb).imp fun ⟨a,b⟩=>by omega
 · obtain ⟨D,hD,rfl⟩:=(hm C).1 hC;have hu:=H8.1 hu;obtain ⟨a,b⟩:=(h.vY D hD).2.2 u hu;exact ⟨h.vW u a.1,fun w=>by rw [H8];exact b w⟩
 · obtain ⟨D,hD,vz⟩:=h.Mi v (ko v hv) (by simp)
   exact ⟨qw D,(hm _).2 ⟨D,hD,rfl⟩,H8.2 vz⟩
section
variable (q1:List (List Int))(qE:List Int)(qF:Nat)(qG:List Int)(qH:Nat)(qI:List Bool)(qJ:Nat)(qK:List Int)(qL:Nat)(q6:Int)
theorem C8B (M:List (List Nat))(eD:∀ C∈M,C.length≤1000)(hl:M.length≤1000) :
 di Ln ((M.length,M.length,(M.length:Int),0),q1,(qE,qF),(qG,qH),(qI,qJ),(qK,qL),q6,lq M,M.length)=some (M.length,q1,(qE,qF),(qG,qH),(qI,qJ),(qK,qL),q6,lq (M.map qw),M.length):=by
 let T:Nat→List (List Nat):=fun i=>(M.take i).map qw++M.drop i
 have hT0:T 0=M:=by simp [T]
 have hTn:T M.length=M.map qw:=by simp [T]
 have:=qs (f:=Ln) M.length (fun i=>((M.length,M.length,(M.length:Int),(i:Int)),q1,(qE,qF),(qG,qH),(qI,qJ),(qK,qL),q6,lq (T i),M.length)) (M.length,q1,(qE,qF),(qG,qH),(qI,qJ),(qK,qL),q6,lq (T M.length),M.length) (fun i hi=>by
  have dN:(i:Int)<(M.length:Int):=by omega
  have hTi:((M.take i).map qw).length=i:=by rw [aE,aY];omega
  have hg:(lq (T i))[i]?=some (jQ M[i]):=by
   rw [QC];simp only [T];rw [bG (by omega),hTi,gE,b3 hi]
   rfl
  have rk:(T i).set i (qw M[i])=T (i+1):=by
   simp only [T];rw [ez _ _ (by omega),hTi,gE,b3 hi,dY,si hi,b8]
   simp
  have hlen:=eD _ (aJ hi);have tk:aR (jQ M[i]).length (jQ M[i])=jQ M[i]:=mS _;have ov:m7 (jQ M[i]) none (lS (jQ M[i]))=jQ (qw M[i]):=by
   unfold m7;simp only;rw [FL,fe,bE,QD]
  have hle:((jQ M[i]).length==(jQ (qw M[i])).length)=true:=by rw [QD,FL];simp
  have hS:PJ ((i,(jQ M[i]).length),q1,(qE,qF),(qG,qH),(qI,qJ),(qK,qL),q6,lq (T i),M.length)=some (q1,(qE,qF),(qG,qH),(qI,qJ),(qK,qL),q6,lq (T (i+1)),M.length):=by
   simp only [PJ,hg,ah,iy (au _),cond_true,tk,ov,hle,C6T,rk];rw [ln (by rw [Bl];omega)]
   rfl
  simp only [Ln,dN,decide_true,cond_true,aj,aq,ln hi,hg,ah,hS,gV (show i<9223372036854775807 by omega)]) (by
  simp only [Ln,aX,decide_false,cond_false])
 rw [hT0,hTn] at this;exact this
theorem B43 (k:Nat)(h:k≤12):∃ y,HF (aK.wrap (k:Int))=some y:=by
 have:((bp 13).all fun k=>(HF (aK.wrap ((k:Nat):Int))).isSome)=true:=by kernel_rfl
 exact fj.1 (bg.1 this k (bW.2 (by omega)))
theorem C8C (M:List (List Nat))(eD:∀ C∈M,C ≠ [])(hlen:∀ C∈M,C.length≤1000)(hl:M.length≤12) :
 PN (M.length,q1,(qE,qF),(qG,qH),(qI,qJ),(qK,qL),q6,lq M,M.length)=some (M.length,q1,(qE,qF),(qG,qH),(qI,qJ),(qK,qL),q6,lq (vh (M.map qw)),M.length):=by
 obtain ⟨y,hy⟩:=B43 M.length hl;have h1:=C8B q1 qE qF qG qH qI qJ qK qL q6 M hlen (by omega)
 have e:(M.map qw).length=M.length:=by simp
 have h2:=D2i q1 qE qF qG qH qI qJ qK qL q6 M.length (M.map qw) (fun C hC=>by
  obtain ⟨D,hD,rfl⟩:=bj.1 hC;exact QE (eD D hD)) (by omega) y (by rw [e];exact hy)
 rw [e] at h2;unfold PN;have hp:=B41 (lq (M.map qw));simp only [h1,ah,cond_true];exact (congrArg (fun l=>(Lm ((M.length,()),q1,(qE,qF),(qG,qH),(qI,qJ),(qK,qL),q6,l,M.length)).bind fun w=>some (M.length,w.1,(w.2.1.1,w.2.1.2),(w.2.2.1.1,w.2.2.1.2),(w.2.2.2.1.1,w.2.2.2.1.2),(w.2.2.2.2.1.1,w.2.2.2.2.1.2),w.2.2.2.2.2.1,w.2.2.2.2.2.2.1,w.2.2.2.2.2.2.2)) hp).trans (by simp only [h2,ah])
end
theorem Xc {n:Nat}{E:oM}(hn:n≤1000)(hr:CA n E)(hE:E.length≤1000):∀ (k i:Nat) (ix lo:Nat→Nat) (cnt:Nat) (out:List (List Nat)),i+k=n→kY (Ag E) n [] ix [] cnt out→(∀ v,v<i→ix v≠0) →
 ∃ iu km jJ jK,di HO (((n:Int),(i:Int)),sn n E ix lo [] cnt out)=some (sn n E iu km [] jJ jK)∧kY (Ag E) n [] iu [] jJ jK∧∀ v,v<n→iu v≠0
 | 0,i,ix,lo,cnt,out,hk,h,hv=>by
   have:i=n:=by omega
   subst this;refine ⟨ix,lo,cnt,out,qi ?_,h,hv⟩;simp only [HO,sn,aX,decide_false,cond_false]
 | k+1,i,ix,lo,cnt,out,hk,h,hv=>by
   have hi:i<n:=by omega
   have dN:(i:Int)<(n:Int):=by omega
   by_cases c:ix i=0
   · obtain ⟨iu,km,T,jJ,jK,e1,hp⟩:=D4a hn hr hE (n-cnt) i ix lo [] cnt out [] (au _) h hi c (by simp)
     have hT:T=[]:=by
      have:=hp.inv.fin
      simpa using this
     subst hT;have e2:=C6y (n-cnt+1) (fun m hm=>e1 m (by omega))
     have e2:VG ((i:Int),sn n E ix lo [] cnt out)=some (sn n E iu km [] jJ jK):=e2;obtain ⟨tn,rU,p0,na,e3,h3,h4⟩:=Xc hn hr hE k (i+1) iu km jJ jK (by omega) hp.inv fun v vz=>by
      rcases Nat.lt_succ_iff_lt_or_eq.1 vz with e | e
      · rw [(hp.bn v (hv v e)).1];exact hv v e
      · subst e;exact hp.W9
     refine ⟨tn,rU,p0,na,?_,h3,h4⟩;rw [← e3];refine uE ?_;have hz:(((ix i:Nat):Int)==0)=true:=by rw [c];rfl
     simp only [sn] at e2 ⊢;simp only [HO,dN,decide_true,cond_true,aj,aq,ln hi,Ah hi,ah,hz,e2,gV (show i<9223372036854775807 by omega)]
   · obtain ⟨tn,rU,p0,na,e3,h3,h4⟩:=Xc hn hr hE k (i+1) ix lo cnt out (by omega) h fun v vz=>by
      rcases Nat.lt_succ_iff_lt_or_eq.1 vz with e | e
      · exact hv v e
      · subst e;exact c
     refine ⟨tn,rU,p0,na,?_,h3,h4⟩;rw [← e3];refine uE ?_;have hz:(((ix i:Nat):Int)==0)=false:=by rw [beq_eq_false_iff_ne];omega
     simp only [sn];simp only [HO,dN,decide_true,cond_true,aj,aq,ln hi,Ah hi,ah,hz,cond_false,gV (show i<9223372036854775807 by omega)]
theorem B96 {n:Nat}{E:oM}(h:H3 n E=0)(hn:n≤12)(hr:CA n E)(hE:E.length≤1000):∃ L,PO ((n:Int),E)=some (lq L,0)∧Am n (Ag E) L:=by
 obtain ⟨ix,lo,cnt,out,e1,h1,h2⟩:=Xc (show n≤1000 by omega) hr hE n 0 (fun _=>0) (fun _=>0) 0 [] (by omega) (kY.nil n) (fun v hv=>by omega)
 have IK:=h1.Al;have hz:az n (0:Int)=rV n (fun _=>0):=by simp [rV,Ae,List.map_const']
 have hd:az n false=tj n []:=by
  unfold tj;rw [D2f];exact WZ fun _ _=>rfl
 have h3:=C8C (qU n E) (rV n ix) n (rV n lo) n (tj n []) n (jQ []) ([]:List Nat).length (cnt:Int) out (fun C hC=>(h1.vY C hC).1) (fun C hC=>by
  obtain ⟨_,a,b⟩:=h1.vY C hC
  have:=Mf a (m:=bp n) fun x hx=>bW.2 (h1.vW x (b x hx).1.1)
  rw [List.length_range] at this;omega) (by omega)
 refine ⟨vh (out.map qw),?_,D6a h1 h2⟩;have e1:di HO (((n:Int),0),qU n E,(rV n (fun _=>0),n),(rV n (fun _=>0),n),(tj n [],n),([],0),0,[],0)=some (sn n E ix lo [] cnt out):=e1
 have IQ:(rV n (fun _=>0)).length=n:=by simp [rV,Ae]
 have hld:(tj n []).length=n:=D0t n [];simp only [PO,C06,ah,h,bne_self_eq_false,cond_false,C2x (show n≤1000 by omega) hr hE,aj,decide_true,cond_true,lH,aq,hz,hd,IQ,hld,iy (au _)]
 rw [iy (show n*8≤140737488355328 by omega),iy (show n*1≤140737488355328 by omega)]
 simp only [cond_true,e1,ah,sn,h3];have tw:(vh (out.map qw)).length=out.length:=by rw [(C2m _).1.length_eq,aE]
 rw [iy (show out.length≤(lq (vh (out.map qw))).length by rw [Qy,tw];exact au _),aZ (show (lq (vh (out.map qw))).length≤out.length by rw [Qy,tw];exact au _)]
 rfl
end Go.Mid
namespace Go.Mid
theorem Am.count {n:Nat}{Ed:Nat→Nat→Prop}{L:List (List Nat)}(h:Am n Ed L):L.length≤n:=by
 have h1:(L.map kh).Nodup:=by
  unfold List.Nodup;rw [ep];exact h.hd.imp fun h=>Nat.ne_of_lt h
 have:=Mf h1 (m:=bp n) fun x hx=>by
  obtain ⟨C,hC,rfl⟩:=bj.1 hx;exact bW.2 (h.cls C hC _ (Xa (h.ne C hC))).1
 simpa using this
end Go.Mid
namespace Go.Mid
theorem C6U {Ed:Nat→Nat→Prop}{f:Nat→Nat}(hf:∀ u w,Ed u w→f u<f w){a b:Nat}(h:Rc Ed a b):a=b∨f a<f b:=by
 induction h with
 | refl=>exact .inl rfl
 | tail _ h2 ih =>
   right
   have:=hf _ _ h2
   rcases ih with rfl | h
   · exact this
   · omega
theorem C8D {n:Nat}{Ed:Nat→Nat→Prop}{f:Nat→Nat}(hf:∀ u w,Ed u w→f u<f w){L:List (List Nat)}(h:Am n Ed L){C:List Nat}(hC:C∈L):C.length=1:=by
 have h1:=h.ne C hC;have h2:=h.asc C hC
 match C,h1,h2,hC with
 | [],h1,_,_=>exact absurd rfl h1
 | [a],_,_,_=>rfl
 | a::b::r,_,h2,hC =>
   have s0:a<b:=(bL.1 h2).1 b (by simp)
   have h3:=((h.cls _ hC a (by simp)).2 b).1 (by simp)
   rcases C6U hf h3.1 with e | e
   · omega
   · rcases C6U hf h3.2 with e2 | e2<;>omega
theorem C8E {n:Nat}{E:oM}(hn:n≤12)(hr:CA n E)(hE:E.length≤1000)(hv:H3 n E=0){f:Nat→Nat}(hf:∀ u w:Nat,((u:Int),(w:Int))∈E→f u<f w):PQ ((n:Int),E)=some ([],false):=by
 obtain ⟨L,h1,h2⟩:=B96 hv hn hr hE;have arv:=h2.count;have l0:=tg (f:=Lo) E (fun i=>((n:Int),E,lq L,E,(E.length:Int),(i:Int))) (fun _=>false) (.inl ((0,true),[])) (.inr ((n:Int),E,lq L)) (fun i hi=>by
  have dN:(i:Int)<(E.length:Int):=by omega
  have b1:cZ 0 2=true:=rfl;have b2:cZ 1 2=true:=rfl;have eD:(E[i].1==E[i].2)=false:=by
   rw [beq_eq_false_iff_ne];intro e;have h3:=hr _ (aJ hi);obtain ⟨u,hu⟩:=eK h3.1
   have:((u:Int),(u:Int))∈E:=by
    have h4:=aJ hi;have h5:E[i]=((u:Int),(u:Int)):=Prod.ext hu (e ▸ hu);rw [← h5];exact h4
   have:=hf u u this
   omega
  simp only [Lo,dN,decide_true,cond_true,aj,aq,af hi,ah,b1,b2,eD,cond_false,gV (show i<9223372036854775807 by omega)]
  rfl) (by
  simp only [Lo,aX,decide_false,cond_false])
 have l0:di Lo ((n:Int),E,lq L,E,(E.length:Int),0)=_:=l0;have F8:(E.any fun _=>false)=false:=by simp
 rw [F8] at l0;have l1:=qs (f:=Lp) (lq L).length (fun i=>((n:Int),E,lq L,((lq L).length:Int),(i:Int))) (.inr ()) (fun i hi=>by
  have dN:(i:Int)<((lq L).length:Int):=by omega
  have hL:(lq L).length=L.length:=by simp [lq]
  have oS:i<L.length:=by omega
  have hg:(lq L)[i]?=some (jQ L[i]):=by rw [QC,af oS];rfl
  have hb:(((jQ L[i]).length:Int)==1)=true:=by rw [Bl,C8D hf h2 (aJ oS)];rfl
  simp only [Lp,dN,decide_true,cond_true,aj,aq,hg,ah,hb,gV (show i<9223372036854775807 by omega)]) (by
  simp only [Lp,aX,decide_false,cond_false])
 have l1:di Lp ((n:Int),E,lq L,((lq L).length:Int),0)=_:=l1;unfold PQ;simp only [h1,ah,bne_self_eq_false,cond_false,l0,aF,if_false,jB,l1];rfl
end Go.Mid
namespace Go.Mid
open Go.Hg (asc less A0z A0o A4Z Gr PrV nbB A8f A3f Acy HOk)
abbrev so:Nat:=65536
theorem xN {m n:Nat}(h:m<2 ^ n)(hn:n≤16):m<2 ^ ba.bits:=br h (cN (by decide) hn)
theorem Mo {m i:Nat}(hm:m<so)(h:m.testBit i=true):i<16:=by
 refine b4 fun hc=>?_
 have:m<2 ^ i:=br hm (cN (show 2>0 by decide) (show 16≤i by omega))
 rw [Nat.testBit_lt_two_pow this] at h;cases h
noncomputable def D2F (y:Int):Option Int :=
 bif decide ((0:Int)≤jU cM (cM.wrap (cM.wrap y*(125613361:Int))) (27:Int)) then
  bif (jU cM (cM.wrap (cM.wrap y*(125613361:Int))) (27:Int)).toNat.blt 32 then
   [(0:Int),(1:Int),(28:Int),(2:Int),(29:Int),(14:Int),(24:Int),(3:Int),(30:Int),(22:Int),(20:Int),(15:Int),(25:Int),(17:Int),(4:Int),(8:Int),(31:Int),(27:Int),(13:Int),(23:Int),
      (21:Int),(19:Int),(16:Int),(7:Int),(26:Int),(12:Int),(18:Int),(6:Int),(11:Int),(5:Int),(10:Int),
      (9:Int)][(jU cM (cM.wrap (cM.wrap y*(125613361:Int))) (27:Int)).toNat]?.bind
     fun y=>some (ai.wrap y)
  else none
 else none
theorem D0y:∀ k:Nat,k<16→D2F ((2 ^ k:Nat):Int)=some (k:Int)
 | 0,_=>by kernel_rfl
 | 1,_=>by kernel_rfl
 | 2,_=>by kernel_rfl
 | 3,_=>by kernel_rfl
 | 4,_=>by kernel_rfl
 | 5,_=>by kernel_rfl
 | 6,_=>by kernel_rfl
 | 7,_=>by kernel_rfl
 | 8,_=>by kernel_rfl
 | 9,_=>by kernel_rfl
 | 10,_=>by kernel_rfl
 | 11,_=>by kernel_rfl
 | 12,_=>by kernel_rfl
 | 13,_=>by kernel_rfl
 | 14,_=>by kernel_rfl
 | 15,_=>by kernel_rfl
 | n+16,h=>by omega
theorem C8F {m:Nat}(h0:m≠0)(hm:m<so):ba.wrap ((0:Int)-(m:Int))=((so-m:Nat):Int):=by
 have h:(m:Int)<65536:=by unfold so at hm;omega
 have h2:((so-m:Nat):Int)=65536-(m:Int):=by unfold so at hm ⊢;omega
 rw [h2];simp only [gF,fS,eQ];simp;omega
theorem D0z {m k:Nat}(hm:m<so)(hk:m.testBit k=true)(hl:∀ j,j<k→m.testBit j=false):(m &&& (so-m))=2 ^ k:=by
 have h0:m≠0:=by intro e;rw [e,dS] at hk;cases hk
 apply Nat.eq_of_testBit_eq;intro j;have e:so-m=2 ^ 16-((m-1)+1):=by unfold so;omega
 rw [fK,e,Nat.testBit_two_pow_sub_succ (show m-1<2 ^ 16 by unfold so at hm;omega),C4E hk hl,Nat.testBit_two_pow]
 have Xd:=Mo hm hk;by_cases h1:j<k
 · have:¬ k=j:=by omega
   simp [hl j h1,this]
 · by_cases h2:j=k
   · subst h2;simp [hk,Xd]
   · have:¬ k=j:=by omega
     simp [h1,h2,this];cases m.testBit j<;>simp
theorem D0A (x:Int):FU x=bif x==(0:Int) then some (16:Int) else D2F (oK ba x (ba.wrap ((0:Int)-x))):=rfl
theorem D4d {m k:Nat}(hm:m<so)(hk:m.testBit k=true)(hl:∀ j,j<k→m.testBit j=false):FU (m:Int)=some (k:Int):=by
 have h0:m≠0:=by intro e;rw [e,dS] at hk;cases hk
 have e0:((m:Int)==0)=false:=by rw [beq_eq_false_iff_ne];omega
 rw [D0A,e0,cond_false,C8F h0 hm,L2 (k:=.u16) rfl hm (show so-m<2 ^ ba.bits from Nat.sub_lt (by decide) (Nat.pos_of_ne_zero h0)),D0z hm hk hl]
 exact D0y k (Mo hm hk)
theorem D6b {m:Nat}(h0:m≠0)(hm:m<so):oK .u16 (m:Int) (ba.wrap ((m:Int)-1))=((m &&& (m-1):Nat):Int):=by
 have e1:ba.wrap ((m:Int)-1)=((m-1:Nat):Int):=by
  have:(m:Int)-1=((m-1:Nat):Int):=by omega
  rw [this];exact DM (k:=.u16) rfl (show m-1<2 ^ 16 by unfold so at hm;omega)
 rw [e1,L2 (k:=.u16) rfl hm (show m-1<2 ^ 16 by unfold so at hm;omega)]
theorem H9 {i:Nat}(hi:i<16):nV .u16 1 (i:Int)=((1 <<< i:Nat):Int):=Ww (k:=.u16) rfl (m:=1) (show i≤16 by omega) (vg hi)
theorem QF {v:List Int}(ha:asc v=true)(nv:v.length≤1000000)(es:List (List Int))(x:Int):DG ((v,es),x)=some (if x∈v then ((A0o v x:Nat):Int) else -1):=by
 obtain ⟨i,h1,hp⟩:=Wy ha nv x;unfold DG;simp only [h1,ah];have hf:=hp.found ha;by_cases hx:x∈v
 · have hc:v.contains x=true:=bB.2 hx;rw [hc] at hf ⊢;cases hv:v[i]? with
   | none=>rw [hv] at hf;cases hf
   | some y =>
     rw [hv] at hf;have hy:y=x:=by simpa using hf.symm
     subst hy;obtain ⟨hi,e⟩:=aL.1 hv;have Xe:=Go.Hg.gz hx;obtain ⟨oS,e2⟩:=aL.1 Xe
     have:=Go.Hg.mG ha hi oS (e.trans e2.symm)
     subst this;simp [hx]
 · have hc:v.contains x=false:=by
    cases tC:v.contains x with
    | false=>rfl
    | true=>exact absurd (bB.1 tC) hx
   rw [hc];simp [hx]
theorem Xf {v:List Int}(ha:asc v=true){i:Nat}(h:i<v.length):A0o v v[i]=i:=by
 have Xe:=Go.Hg.gz (aJ h);obtain ⟨oS,e2⟩:=aL.1 Xe;exact Go.Hg.mG ha oS h e2
structure rE (v:List Int)(es:List (List Int))(p:PrV)(F:Nat)(fM dF:List Nat):Prop where
 fl:F<2 ^ v.length
 fb:∀ j (h:j<v.length),F.testBit j=!A8f es v[j]
 nl:fM.length=v.length
 CD:∀ x∈fM,x<2 ^ v.length
 nb:∀ j (h:j<v.length) (h':j<fM.length) k (hk:k<v.length),fM[j].testBit k=nbB es v[j] v[k]
 al:dF.length=v.length
 alt:∀ x∈dF,x<2 ^ v.length
 ab:∀ j (h:j<v.length) (h':j<dF.length) k (hk:k<v.length),dF[j].testBit k=A3f p v[k] v[j]
def Ao (v:List Int)(s:Nat×List Nat)(e:List Int):Nat×List Nat :=
 let i:=A0o v (e.headD 0)
 let k:=A0o v (e.getLastD 0)
 if i=k then (less s.1 (1 <<< i),s.2) else (s.1,(s.2.set i (s.2.getD i 0 ||| 1 <<< k)).set k (s.2.getD k 0 ||| 1 <<< i))
def n3 (v:List Int)(es:List (List Int))(i:Nat):Nat×List Nat:=(es.take i).foldl (Ao v) (2 ^ v.length-1,az v.length 0)
theorem C47 (v:List Int){es:List (List Int)}{i:Nat}(h:i<es.length):n3 v es (i+1)=Ao v (n3 v es i) es[i]:=by
 unfold n3;rw [si h,fG];rfl
structure GI (v:List Int)(L:List (List Int))(s:Nat×List Nat):Prop where
 fl:s.1<2 ^ v.length
 fb:∀ j (h:j<v.length),s.1.testBit j=!L.contains [v[j]]
 nl:s.2.length=v.length
 CD:∀ x∈s.2,x<2 ^ v.length
 nb:∀ j (h:j<v.length) (h':j<s.2.length) k (hk:k<v.length),s.2[j].testBit k=(L.contains [v[j],v[k]] || L.contains [v[k],v[j]])
theorem D4e {v:List Int}{es:List (List Int)}(G:Gr v es){L:List (List Int)}{s:Nat×List Nat}(I:GI v L s){e:List Int}(he:e∈es):GI v (L++[e]) (Ao v s e):=by
 have sL:=G.kQ.av;have cont:∀ x:List Int,(L++[e]).contains x=(L.contains x || decide (x=e)):=fun x=>by
  apply cn.2;simp
 rcases G.cases he with ⟨a,rfl,_⟩ | ⟨a,b,rfl,s0,_⟩
 · have ha:a∈v:=G.kQ.fQ _ he a (by simp)
   obtain ⟨i,hi,rfl⟩:=fy.1 ha;have hp:=Xf sL hi;have hg:Ao v s [v[i]]=(less s.1 (1 <<< i),s.2):=by simp [Ao,hp]
   rw [hg];refine ⟨L3 I.fl,fun j hj=>?_,I.nl,I.CD,fun j hj h' k hk=>?_⟩
   · rw [Go.Hg.iL,I.fb j hj,Go.Hg.ei,cont];by_cases c:j=i
     · subst c;simp
     · have:¬ v[j]=v[i]:=fun h=>c (Go.Hg.mG sL hj hi h)
       simp [c,this]
   · rw [I.nb j hj h' k hk,cont,cont];simp
 · have ha:a∈v:=G.kQ.fQ _ he a (by simp)
   have hb:b∈v:=G.kQ.fQ _ he b (by simp)
   obtain ⟨i,hi,rfl⟩:=fy.1 ha;obtain ⟨k,hk,rfl⟩:=fy.1 hb;have hpi:=Xf sL hi;have WL:=Xf sL hk;have A4:i≠k:=fun h=>by subst h;omega
   have hg:Ao v s [v[i],v[k]]=(s.1,(s.2.set i (s.2.getD i 0 ||| 1 <<< k)).set k (s.2.getD k 0 ||| 1 <<< i)):=by
    simp [Ao,hpi,WL,A4]
   have Bf:i<s.2.length:=by rw [I.nl];exact hi
   have xr:k<s.2.length:=by rw [I.nl];exact hk
   have d1:s.2.getD i 0=s.2[i]:=by rw [bu,af Bf];rfl
   have d2:s.2.getD k 0=s.2[k]:=by rw [bu,af xr];rfl
   rw [hg,d1,d2];refine ⟨I.fl,fun j hj=>?_,by simp [I.nl],fun x hx=>?_,fun j hj h' m hm=>?_⟩
   · rw [I.fb j hj,cont];simp
   · rcases bm hx with h | h
     · rcases bm h with h | h
       · exact I.CD x h
       · rw [h];exact eT (I.CD _ (aJ _)) (vg hk)
     · rw [h];exact eT (I.CD _ (aJ _)) (vg hi)
   · have inj:∀ {x y:Nat} (hx:x<v.length) (hy:y<v.length),v[x]=v[y]↔x=y:=fun hx hy=>⟨fun h=>Go.Hg.mG sL hx hy h,fun h=>by subst h;rfl⟩
     have GN:j<s.2.length:=by rw [I.nl];exact hj
     have AR:j<((s.2.set i (s.2[i] ||| 1 <<< k)).set k (s.2[k] ||| 1 <<< i)).length:=by simpa using GN
     have key:(((s.2.set i (s.2[i] ||| 1 <<< k)).set k (s.2[k] ||| 1 <<< i))[j]'AR).testBit m=(s.2[j].testBit m || (decide (j=i)&&decide (m=k)) || (decide (j=k)&&decide (m=i))):=by
      rw [nm];by_cases c:k=j
      · subst c;rw [if_pos rfl,bQ,Go.Hg.ei];have Xg:¬ k=i:=fun h=>A4 h.symm
        simp [Xg]
      · rw [if_neg c,nm];have c':¬ j=k:=fun h=>c h.symm
        by_cases c2:i=j
        · subst c2;rw [if_pos rfl,bQ,Go.Hg.ei];simp [c']
        · rw [if_neg c2];have Cz:¬ j=i:=fun h=>c2 h.symm
          simp [c',Cz]
     rw [key,I.nb j hj (by rw [I.nl];exact hj) m hm,cont,cont]
     simp only [List.cons.injEq,inj hj hi,inj hm hk,inj hm hi,inj hj hk,and_true];cases L.contains [v[j],v[m]]<;>cases L.contains [v[m],v[j]]<;>by_cases a1:j=i<;>by_cases a2:m=k<;>by_cases a3:j=k<;>by_cases a4:m=i<;>simp [a1,a2,a3,a4]
theorem Xh {v:List Int}{es:List (List Int)}(G:Gr v es):∀ i,i≤es.length→GI v (es.take i) (n3 v es i)
 | 0,_=>by
   have hp:0<2 ^ v.length:=gB _;refine ⟨by show 2 ^ v.length-1<_;omega,fun j hj=>?_,by simp [n3],fun x hx=>?_,fun j hj h' k hk=>?_⟩
   · show (2 ^ v.length-1).testBit j=_;rw [Nat.testBit_two_pow_sub_one];simp [hj]
   · have:x=0:=by
      have:=fm (show x∈az v.length 0 from hx)
      exact this
     omega
   · have:(n3 v es 0).2[j]=0:=by simp [n3]
     rw [this];simp
 | i+1,h=>by
   rw [C47 v (by omega),si (by omega)]
   exact D4e G (Xh G i (by omega)) (aJ _)
theorem C49 (l:List Nat)(i x:Nat):(fZ l).set i (x:Int)=fZ (l.set i x):=by simp [fZ,gD]
end Go.Mid
namespace Go.Mid
open Go.Hg (asc less A0z A0o A4Z Gr PrV nbB A8f A3f Acy HOk)
section
variable {v:List Int}{es:List (List Int)}(G:Gr v es)(nv:v.length≤14)(ne:es.length≤1000000)
include G nv ne
theorem D2j (p:PrV)(AB:List Int)(m:Nat):di HP ((p,(v.length:Int),es,(es.length:Int),0),(v,es),(v,es),((2 ^ v.length-1:Nat):Int),(fZ (az v.length 0),v.length),AB,m) =
 some ((p,(v.length:Int)),(v,es),(v,es),(((n3 v es es.length).1:Nat):Int),(fZ (n3 v es es.length).2,v.length),AB,m):=by
 have sL:=G.kQ.av;have key:=qs (f:=HP) es.length (fun i=>((p,(v.length:Int),es,(es.length:Int),(i:Int)),(v,es),(v,es),(((n3 v es i).1:Nat):Int),(fZ (n3 v es i).2,v.length),AB,m))
  ((p,(v.length:Int)),(v,es),(v,es),(((n3 v es es.length).1:Nat):Int),(fZ (n3 v es es.length).2,v.length),AB,m) (fun i hi=>by
  have dN:(i:Int)<(es.length:Int):=by omega
  have I:=Xh G i (fT hi);have he:=aJ hi;have n6:v.length≤1000000:=by omega
  rw [C47 v hi];rcases G.cases he with ⟨a,e,_⟩ | ⟨a,b,e,s0,_⟩
  · have ha:a∈v:=G.kQ.fQ _ he a (by rw [e];simp)
    have hp:=Go.Hg.iM ha;have w1:ai.wrap ((([a]:List Int).length:Int)-1)=0:=by simp [gF,fS,eQ]
    have hg:Ao v (n3 v es i) [a]=(less (n3 v es i).1 (1 <<< A0o v a),(n3 v es i).2):=by simp [Ao]
    simp only [HP,dN,decide_true,cond_true,aj,aq,af hi,ah,e,bP,QF sL n6,ha,if_true,w1,lH,Int.toNat_zero,beq_self_eq_true,
     H9 (show A0o v a<16 by omega),HY (k:=.u16) rfl (xN I.fl (by omega)) (vg (show A0o v a<16 by omega)),gV (show i<9223372036854775807 by omega),hg]
  · have ha:a∈v:=G.kQ.fQ _ he a (by rw [e];simp)
    have hb:b∈v:=G.kQ.fQ _ he b (by rw [e];simp)
    have hp:=Go.Hg.iM ha;have hq:=Go.Hg.iM hb;have w1:ai.wrap ((([a,b]:List Int).length:Int)-1)=1:=by simp [gF,fS,eQ]
    have t1:(1:Int).toNat=1:=rfl;have eD:A0o v a≠A0o v b:=fun h=>by
     have h1:=Go.Hg.gz ha;have h2:=Go.Hg.gz hb;rw [h,h2] at h1
     have:=Option.some.inj h1
     omega
    have Xi:(((A0o v a:Nat):Int)==((A0o v b:Nat):Int))=false:=by rw [beq_eq_false_iff_ne];omega
    have xt:A0o v a<(n3 v es i).2.length:=by rw [I.nl];exact hp
    have tw:A0o v b<(n3 v es i).2.length:=by rw [I.nl];exact hq
    have d1:(n3 v es i).2.getD (A0o v a) 0=(n3 v es i).2[A0o v a]:=by rw [bu,af xt];rfl
    have d2:(n3 v es i).2.getD (A0o v b) 0=(n3 v es i).2[A0o v b]:=by rw [bu,af tw];rfl
    have hg:Ao v (n3 v es i) [a,b]=((n3 v es i).1,((n3 v es i).2.set (A0o v a) ((n3 v es i).2[A0o v a] ||| 1 <<< A0o v b)).set (A0o v b) ((n3 v es i).2[A0o v b] ||| 1 <<< A0o v a)):=by
     simp only [Ao,List.headD_cons,List.getLastD_cons,List.getLastD_nil,eD,if_false,d1,d2]
    have o1:=Cy (k:=.u16) rfl (xN (I.CD _ (aJ xt)) (by omega)) (vg (show A0o v b<16 by omega))
    have o2:=Cy (k:=.u16) rfl (xN (I.CD _ (aJ tw)) (by omega)) (vg (show A0o v a<16 by omega))
    have rk:(fZ ((n3 v es i).2.set (A0o v a) ((n3 v es i).2[A0o v a] ||| 1 <<< A0o v b)))[A0o v b]?=some (((n3 v es i).2[A0o v b]:Nat):Int):=by
     rw [Bi (by simpa using tw),List.getElem_set_ne eD]
    have zl:(0:Int)≤1:=by decide
    simp only [HP,dN,decide_true,cond_true,aj,aq,af hi,ah,e,bP,List.getElem?_cons_succ,QF sL n6,ha,hb,if_true,w1,zl,t1,Xi,cond_false,
     ln hp,ln hq,Bi xt,H9 (show A0o v a<16 by omega),H9 (show A0o v b<16 by omega),o1,C49,rk,o2,gV (show i<9223372036854775807 by omega),hg]) (by
  simp only [HP,aX,decide_false,cond_false])
 exact key
end
def Mp (v:List Int)(s:List Nat)(q:Int×Int):List Nat:=s.set (A0o v q.2) (s.getD (A0o v q.2) 0 ||| 1 <<< A0o v q.1)
def q0 (v:List Int)(p:PrV)(i:Nat):List Nat:=(p.take i).foldl (Mp v) (az v.length 0)
def yw (v:List Int)(p:PrV)(i:Nat):List (Int×Int):=(p.take i).map fun q=>(((A0o v q.1:Nat):Int),((A0o v q.2:Nat):Int))
theorem C2y (L:PrV)(a b:Int×Int):(L++[b]).contains a=(L.contains a || decide (a=b)):=by
 apply cn.2;simp
theorem C5a (v:List Int){p:PrV}{i:Nat}(h:i<p.length):q0 v p (i+1)=Mp v (q0 v p i) p[i]:=by
 unfold q0;rw [si h,fG];rfl
structure AI (v:List Int)(p:PrV)(s:List Nat):Prop where
 al:s.length=v.length
 alt:∀ x∈s,x<2 ^ v.length
 ab:∀ j (_:j<v.length) (h':j<s.length) k (_:k<v.length),s[j].testBit k=p.contains (v[k],v[j])
theorem Xj {v:List Int}{p:PrV}(ha:asc v=true)(hp:∀ q∈p,q.1∈v∧q.2∈v):∀ i,i≤p.length→AI v (p.take i) (q0 v p i)
 | 0,_=>by
   refine ⟨by simp [q0],fun x hx=>?_,fun j hj h' k hk=>?_⟩
   · have:x=0:=fm (show x∈az v.length 0 from hx)
     have:=gB v.length
     omega
   · have:(q0 v p 0)[j]=0:=by simp [q0]
     rw [this];simp
 | i+1,h=>by
   have I:=Xj ha hp i (by omega)
   have hi:i<p.length:=by omega
   have e1:q0 v p (i+1)=Mp v (q0 v p i) p[i]:=C5a v hi;obtain ⟨h1,h2⟩:=hp _ (aJ hi);have Ia:=Go.Hg.iM h1;have zq:=Go.Hg.iM h2;have hl:A0o v p[i].2<(q0 v p i).length:=by rw [I.al];exact zq
   have d:(q0 v p i).getD (A0o v p[i].2) 0=(q0 v p i)[A0o v p[i].2]:=by rw [bu,af hl];rfl
   rw [e1,si hi];unfold Mp;rw [d];have g1:v[A0o v p[i].1]=p[i].1:=(aL.1 (Go.Hg.gz h1)).2;have g2:v[A0o v p[i].2]=p[i].2:=(aL.1 (Go.Hg.gz h2)).2;refine ⟨by simp [I.al],fun x hx=>?_,fun j hj h' k hk=>?_⟩
   · rcases bm hx with h | h
     · exact I.alt x h
     · rw [h];exact eT (I.alt _ (aJ _)) (vg Ia)
   · have GN:j<(q0 v p i).length:=by rw [I.al];exact hj
     rw [C2y,← I.ab j hj GN k hk,nm];by_cases c:A0o v p[i].2=j
     · subst c;rw [if_pos rfl,bQ,Go.Hg.ei];congr 1;rw [decide_eq_decide];constructor
       · intro h;subst h;exact Prod.ext g1 g2
       · intro h;have h3:v[k]=p[i].1:=congrArg Prod.fst h;exact Go.Hg.mG ha hk Ia (h3.trans g1.symm)
     · rw [if_neg c]
       have:¬ (v[k],v[j])=p[i]:=fun h=>by
        have h3:v[j]=p[i].2:=congrArg Prod.snd h;exact c (Go.Hg.mG ha zq hj (g2.trans h3.symm))
       simp [this]
section
variable {v:List Int}{es:List (List Int)}{p:PrV}(ha:asc v=true)(nv:v.length≤14)(np:p.length≤1000000)(hp:∀ q∈p,nbB es q.1 q.2=true∧q.1∈v∧q.2∈v)
include ha nv np hp
theorem D2k {F:Int}{fM:List Nat}(BO:fM.length=v.length)(eC:∀ x∈fM,x<2 ^ v.length)(AU:∀ j (h:j<v.length) (h':j<fM.length) k (hk:k<v.length),fM[j].testBit k=nbB es v[j] v[k])(H2:List Int×List (List Int)) :
 di Lq (((v.length:Int),0,p,(p.length:Int),0),(v,es),[],H2,F,(fZ fM,v.length),fZ (az v.length 0),v.length) =
  some (.inr (((v.length:Int),p.length),yw v p p.length,H2,F,(fZ fM,v.length),fZ (q0 v p p.length),v.length)):=by
 have key:=qs (f:=Lq) p.length (fun i=>(((v.length:Int),i,p,(p.length:Int),(i:Int)),(v,es),yw v p i,H2,F,(fZ fM,v.length),fZ (q0 v p i),v.length))
  (.inr (((v.length:Int),p.length),yw v p p.length,H2,F,(fZ fM,v.length),fZ (q0 v p p.length),v.length)) (fun i hi=>by
  have dN:(i:Int)<(p.length:Int):=by omega
  obtain ⟨h0,h1,h2⟩:=hp _ (aJ hi);have I:=Xj ha (fun q hq=>(hp q hq).2) i (fT hi)
  have n6:v.length≤1000000:=by omega
  have Ia:=Go.Hg.iM h1;have zq:=Go.Hg.iM h2;have g1:v[A0o v p[i].1]=p[i].1:=(aL.1 (Go.Hg.gz h1)).2;have g2:v[A0o v p[i].2]=p[i].2:=(aL.1 (Go.Hg.gz h2)).2;have ED:A0o v p[i].1<fM.length:=by rw [BO];exact Ia
  have KH:A0o v p[i].2<(q0 v p i).length:=by rw [I.al];exact zq
  have F0:fM[A0o v p[i].1].testBit (A0o v p[i].2)=true:=by
   rw [AU _ Ia ED _ zq,g1,g2];exact h0
  have b1:cZ 0 2=true:=rfl;have b2:cZ 1 2=true:=rfl;have z1:¬ (((A0o v p[i].1:Nat):Int)<0):=by omega
  have z2:¬ (((A0o v p[i].2:Nat):Int)<0):=by omega
  have AQ:=L4 (k:=.u16) rfl (show A0o v p[i].2≤16 by omega) (by decide) (xN (eC _ (aJ ED)) (by omega))
  rw [F0,if_pos rfl] at AQ;have c1:((1:Int)==0)=false:=rfl;have el:(yw v p i).length=i:=by simp [yw];omega
  have o1:=Cy (k:=.u16) rfl (xN (I.alt _ (aJ KH)) (by omega)) (vg (show A0o v p[i].1<16 by omega))
  have e1:yw v p (i+1)=yw v p i++[(((A0o v p[i].1:Nat):Int),((A0o v p[i].2:Nat):Int))]:=by
   unfold yw;rw [si hi,b8];rfl
  have e2:q0 v p (i+1)=(q0 v p i).set (A0o v p[i].2) ((q0 v p i)[A0o v p[i].2] ||| 1 <<< A0o v p[i].1):=by
   have:(q0 v p i).getD (A0o v p[i].2) 0=(q0 v p i)[A0o v p[i].2]:=by rw [bu,af KH];rfl
   rw [C5a v hi];unfold Mp;rw [this]
  simp only [Lq,dN,decide_true,cond_true,aj,aq,af hi,ah,b1,b2,QF ha n6,h1,h2,if_true,z1,z2,decide_false,cond_false,ln Ia,ln zq,Bi ED,Bi KH,AQ,c1,
   el,iy (au _),iy (show (i+1)*16≤140737488355328 by omega),aZ (eF el),H9 (show A0o v p[i].1<16 by omega),o1,C49,gV (show i<9223372036854775807 by omega),e1,e2]) (by
  simp only [Lq,aX,decide_false,cond_false])
 exact key
end
theorem C6V (n:Nat)(hn:n≤1000)(E:List (Int×Int))(i:Int):∀ (j:Nat) (M:List (Int×Int)),j<n→M.length=n→(∀ x∈M,x∈E) →
 ∃ M',di HG ((n,0,(n:Int),(),i,(j:Int)),M)=some ((n,0,(n:Int),(),i),M')∧M'.length=n∧∀ x∈M',x∈E
 | 0,M,hj,hM,hE=>⟨M,qi (by simp [HG]),hM,hE⟩
 | j+1,M,hj,hM,hE=>by
   have h1:((j+1:Nat):Int)>0:=by omega
   have EW:j+1<M.length:=by omega
   have F9:j<M.length:=by omega
   obtain ⟨c,hc⟩:∃ c,VD (M[j+1],M[j])=some c:=⟨_,rfl⟩;by_cases d:c<0
   · have st:HG ((n,0,(n:Int),(),i,((j+1:Nat):Int)),M)=some (.inl ((n,0,(n:Int),(),i,(j:Int)),(M.set (j+1) M[j]).set j M[j+1])):=by
      simp only [HG,h1,decide_true,cond_true,aj,aq,ln hj,ln (show j<n by omega),af EW,af F9,ah,wY (show 1≤j+1 by omega) (by omega),dJ,hc,d]
      have e4:(M.set (j+1) M[j])[j]?=some M[j]:=by rw [eJ (by omega),af F9]
      rw [e4];rfl
     rw [uE st];refine C6V n hn E i j _ (by omega) (by simpa using hM) fun x hx=>?_
     rcases bm hx with h | h
     · rcases bm h with h | h
       · exact hE x h
       · rw [h];exact hE _ (aJ _)
     · rw [h];exact hE _ (aJ _)
   · refine ⟨M,qi ?_,hM,hE⟩;simp only [HG,h1,decide_true,cond_true,aj,aq,ln hj,ln (show j<n by omega),af EW,af F9,ah,wY (show 1≤j+1 by omega) (by omega),dJ,hc,d,decide_false,cond_false]
theorem C8G {n:Nat}(hn:n≤12){E:List (Int×Int)}(hE:E.length=n):∃ M,PE ((n,()),E)=some M∧M.length=n∧∀ x∈M,x∈E:=by
 obtain ⟨y,hy⟩:=B43 n hn;have l0:∃ b,di HH ((n,0,(n:Int),(),1),E)=some b∧(b.length=n∧∀ x∈b,x∈E):=by
  by_cases h0:n≤1
  · refine ⟨E,qi ?_,hE,fun x hx=>hx⟩
    have:¬ (1:Int)<(n:Int):=by omega
    simp only [HH,this,decide_false,cond_false]
  · have key:=U9 (f:=HH) (n-1) (fun i (M:List (Int×Int))=>((n,0,(n:Int),(),((i+1:Nat):Int)),M)) (fun _ M=>M.length=n∧∀ x∈M,x∈E) (fun b=>b.length=n∧∀ x∈b,x∈E) E ⟨hE,fun x hx=>hx⟩ (fun i M hi hM=>by
     left;have dN:((i+1:Nat):Int)<(n:Int):=by omega
     obtain ⟨M',h1,h2,h3⟩:=C6V n (by omega) E ((i+1:Nat):Int) (i+1) M (by omega) hM.1 hM.2
     refine ⟨M',?_,h2,h3⟩;simp only [HH,dN,decide_true,cond_true,h1,ah,gV (show i+1<9223372036854775807 by omega)]) (fun M hM=>by
     refine ⟨M,?_,hM⟩
     have:¬ ((n-1+1:Nat):Int)<(n:Int):=by omega
     simp only [HH,this,decide_false,cond_false])
    exact key
 obtain ⟨M,h1,h2,h3⟩:=l0;refine ⟨M,?_,h2,h3⟩;have w1:ai.wrap ((0:Int)+1)=1:=by simp [gF,fS,eQ]
 have w2:ai.wrap ((n:Int)-0)=(n:Int):=by rw [Int.sub_zero];exact Kx (by omega)
 have hle:(n:Int)≤12:=by omega
 have hp:PD ((n,0,(n:Int),y,()),E)=some M:=by
  unfold PD
  have:di VF ((n,0,(n:Int),y,(),true,true),E)=some M:=by
   refine qi ?_;simp only [VF,VE,w1,w2,hle,decide_true,cond_true,h1,ah]
  simp only [this,ah]
 unfold PE;simp only [hy,ah,hp]
theorem C8H {n:Nat}(hn:n≤1000){E:List (Int×Int)}{k0:Nat}(hk0:k0<n){M:List (Int×Int)}(hM:M.length=n)(hE:∀ x∈M,x∈E) :
 ∃ (k:Nat) (M':List (Int×Int)),di HI ((n,(k0:Int),(k0,n-k0),1),M)=some ((n,(k:Int)),M')∧k≤n∧M'.length=n∧∀ x∈M',x∈E:=by
 have key:=U9 (f:=HI) (n-k0-1) (fun i (s:Nat×List (Int×Int))=>((n,(s.1:Int),(k0,n-k0),((i+1:Nat):Int)),s.2)) (fun i s=>s.1≤k0+i∧s.2.length=n∧∀ x∈s.2,x∈E) (fun b=>∃ (k:Nat) (M':List (Int×Int)),b=((n,(k:Int)),M')∧k≤n∧M'.length=n∧∀ x∈M',x∈E) (k0,M) ⟨au _,hM,hE⟩ (fun i s hi hs=>by
  left;obtain ⟨k,L⟩:=s;obtain ⟨h1,h2,h3⟩:=hs;simp only at h1 h2 h3;have dN:((i+1:Nat):Int)<((n-k0:Nat):Int):=by omega
  have g1:k0+(i+1)<L.length:=by omega
  have g2:k0+i<L.length:=by omega
  have g3:k<L.length:=by omega
  by_cases c:(!(L[k0+(i+1)].1==L[k0+i].1&&L[k0+(i+1)].2==L[k0+i].2))=true
  · refine ⟨(k+1,L.set k L[k0+(i+1)]),?_,by show k+1≤k0+(i+1);omega,by simpa using h2,fun x hx=>?_⟩
    · simp only [HI,dN,decide_true,cond_true,aj,aq,ln (show i+1<n-k0 by omega),af g1,ah,wY (show 1≤i+1 by omega) (by omega),dJ,ln (show i<n-k0 by omega),af g2,c,
       ln (show k<n by omega),af g3,gV (show k<9223372036854775807 by omega),gV (show i+1<9223372036854775807 by omega)]
    · rcases bm hx with h | h
      · exact h3 x h
      · rw [h];exact h3 _ (aJ _)
  · have c':(!(L[k0+(i+1)].1==L[k0+i].1&&L[k0+(i+1)].2==L[k0+i].2))=false:=by simpa using c
    refine ⟨(k,L),?_,by show k≤k0+(i+1);omega,h2,h3⟩
    simp only [HI,dN,decide_true,cond_true,aj,aq,ln (show i+1<n-k0 by omega),af g1,ah,wY (show 1≤i+1 by omega) (by omega),dJ,ln (show i<n-k0 by omega),af g2,c',cond_false,
     gV (show i+1<9223372036854775807 by omega)]) (fun s hs=>by
  refine ⟨((n,(s.1:Int)),s.2),?_,s.1,s.2,rfl,by omega,hs.2.1,hs.2.2⟩
  have:¬ ((n-k0-1+1:Nat):Int)<((n-k0:Nat):Int):=by omega
  simp only [HI,this,decide_false,cond_false])
 obtain ⟨b,hb,k,M',rfl,h1,h2,h3⟩:=key;exact ⟨k,M',hb,h1,h2,h3⟩
theorem C2z {n:Nat}(hn:n≤1000){M:List (Int×Int)}(hM:M.length=n):∃ (k:Nat) (M':List (Int×Int)),Ld (n,M)=some (k,M')∧k≤M'.length∧k≤n∧∀ x∈M'.take k,x∈M:=by
 by_cases h2:n<2
 · have rh:(n:Int)<2:=by omega
   refine ⟨n,M,?_,by omega,au _,fun x hx=>c8 hx⟩
   unfold Ld;simp only [rh,decide_true,cond_true]
 · have rh:¬ (n:Int)<2:=by omega
   have key:=U9 (f:=HJ) (n-1) (fun i (_:Unit)=>((n,((i+1:Nat):Int)),M)) (fun _ _=>True) (fun b=>∃ (k:Nat) (M':List (Int×Int)),(b=.inl (k,M')∨b=.inr (k,M'))∧k≤M'.length∧k≤n∧∀ x∈M'.take k,x∈M) () trivial (fun i _ hi _=>by
    have dN:((i+1:Nat):Int)<(n:Int):=by omega
    have g1:i+1<M.length:=by omega
    have g2:i<M.length:=by omega
    by_cases c:(M[i+1].1==M[i].1&&M[i+1].2==M[i].2)=true
    · right;obtain ⟨k,M',h3,h4,h5,h6⟩:=C8H hn (E:=M) (k0:=i+1) (by omega) hM (fun x hx=>hx)
      have hr:(k+(az (n-k) ((0:Int),(0:Int))).length)=n:=by simp;omega
      refine ⟨.inl (k,m7 M' (some k) (az (n-k) ((0:Int),(0:Int)))),?_,k,_,.inl rfl,?_,h4,?_⟩
      · simp only [HJ,dN,decide_true,cond_true,aj,aq,ln (show i+1<n by omega),af g1,ah,wY (show 1≤i+1 by omega) (by omega),dJ,ln (show i<n by omega),af g2,c,
         iy (show i+1≤n by omega),h3,iy h4,hr,iy (eF h5.symm)]
      · unfold m7;simp;omega
      · intro x hx;have e:(m7 M' (some k) (az (n-k) ((0:Int),(0:Int)))).take k=M'.take k:=by
         unfold m7;simp only;rw [bh,List.take_append_of_le_length (by simp;omega)]
         rw [List.take_take];simp
        rw [e] at hx;exact h6 x (c8 hx)
    · left;have c':(M[i+1].1==M[i].1&&M[i+1].2==M[i].2)=false:=by simpa using c
      refine ⟨(),?_,trivial⟩;simp only [HJ,dN,decide_true,cond_true,aj,aq,ln (show i+1<n by omega),af g1,ah,wY (show 1≤i+1 by omega) (by omega),dJ,ln (show i<n by omega),af g2,c',cond_false,
       gV (show i+1<9223372036854775807 by omega)]) (fun _ _=>by
    refine ⟨.inr (n,M),?_,n,M,.inr rfl,by omega,au _,fun x hx=>c8 hx⟩
    have:¬ ((n-1+1:Nat):Int)<(n:Int):=by omega
    simp only [HJ,this,decide_false,cond_false])
   obtain ⟨b,hb,k,M',h3,h4,h5,h6⟩:=key;have hb:di HJ ((n,1),M)=some b:=hb;refine ⟨k,M',?_,h4,h5,h6⟩;unfold Ld;simp only [rh,decide_false,cond_false,hb,ah];rcases h3 with rfl | rfl<;>rfl
end Go.Mid
namespace Go.Mid
open Go.Hg (asc less A0z A0o A4Z Gr PrV nbB A8f A3f Acy HOk idsP A5P A0L)
structure Ctx (v:List Int)(es:List (List Int))(p:PrV):Prop where
 G:Gr v es
 hv:A4Z v es=true
 nv:v.length≤9
 ne:es.length≤12
 np:p.length≤12
 hp:∀ q∈p,nbB es q.1 q.2=true∧q.1∈v∧q.2∈v
 acy:Acy p
abbrev D64:=Option ((List Int×List (List Int))×Int×List Int×List Int)
abbrev gm (v:List Int) (es:List (List Int)) (F:Nat) (fM dF:List Nat):D64:=some ((v,es),(F:Int),fZ fM,fZ dF)
section
variable {v:List Int}{es:List (List Int)}{p:PrV}(C:Ctx v es p)
include C
theorem Ctx.el:∀ e∈es,e.length≤1000000:=fun e he=>by have:=C.G.two e he;omega
theorem Ctx.av:asc v=true:=C.G.kQ.av
theorem Ctx.H:HOk v es:=⟨by have:=C.nv;omega,by have:=C.ne;omega,fun e he=>by have:=C.G.two e he;omega,C.G.kQ.fQ⟩
theorem D2l:∃ (F:Nat) (fM dF:List Nat),DI ((v,es),p)=some (gm v es F fM dF,0)∧rE v es p F fM dF:=by
 have nv:=C.nv;have ne:=C.ne;have np:=C.np;have sL:=C.av;have I:=Xh C.G es.length (au _);rw [mS] at I;have A:=Xj sL (fun q hq=>(C.hp q hq).2) p.length (au _)
 rw [mS] at A;have AU:∀ j (h:j<v.length) (h':j<(n3 v es es.length).2.length) k (hk:k<v.length),(n3 v es es.length).2[j].testBit k=nbB es v[j] v[k]:=by
  intro j hj h' k hk;rw [I.nb j hj h' k hk];have own:∀ a b:Int,es.contains [a,b]=true→a<b:=by
   intro a b h;have he:=bB.1 h;rcases C.G.cases he with ⟨x,e,_⟩ | ⟨x,y,e,vF,_⟩
   · simp at e
   · simp only [List.cons.injEq,and_true] at e;omega
  unfold nbB;by_cases eC:v[j]<v[k]
  · rw [Int.min_eq_left (by omega),Int.max_eq_right (by omega)]
    have h2:es.contains [v[k],v[j]]=false:=by
     cases hc:es.contains [v[k],v[j]] with
     | false=>rfl
     | true=>have:=own _ _ hc;omega
    have h3:v[j]≠v[k]:=by omega
    rw [h2];simp [h3]
  · by_cases FZ:v[k]<v[j]
    · rw [Int.min_eq_right (by omega),Int.max_eq_left (by omega)]
      have h2:es.contains [v[j],v[k]]=false:=by
       cases hc:es.contains [v[j],v[k]] with
       | false=>rfl
       | true=>have:=own _ _ hc;omega
      have h3:v[j]≠v[k]:=by omega
      rw [h2];simp [h3]
    · have e:v[j]=v[k]:=by omega
      have h2:es.contains [v[j],v[k]]=false:=by
       cases hc:es.contains [v[j],v[k]] with
       | false=>rfl
       | true=>have:=own _ _ hc;omega
      have h4:es.contains [v[k],v[j]]=false:=by rw [← e] at h2 ⊢;exact h2
      rw [h2,h4];simp [e]
 have BW:rE v es p (n3 v es es.length).1 (n3 v es es.length).2 (q0 v p p.length):=⟨I.fl,fun j hj=>by rw [I.fb j hj];rfl,I.nl,I.CD,AU,A.al,A.alt,fun j hj h' k hk=>A.ab j hj h' k hk⟩
 refine ⟨_,_,_,?_,BW⟩;have l0:=D2j C.G (show v.length≤14 by omega) (show es.length≤1000000 by omega) p (fZ (az v.length 0)) v.length
 have l1:=D2k sL (show v.length≤14 by omega) (show p.length≤1000000 by omega) C.hp (F:=(((n3 v es es.length).1:Nat):Int)) I.nl I.CD AU (v,es)
 have xy:PC (es,())=some false:=by
  have key:=tg (f:=Lc) es (fun i=>(es,(),(es.length:Int),(i:Int))) (fun _=>false) (.inl 0) (.inr ()) (fun i hi=>by
   have dN:(i:Int)<(es.length:Int):=by omega
   have h2:¬ ((es[i].length:Int)>2):=by have:=C.G.two _ (aJ hi);omega
   simp only [Lc,VA,dN,decide_true,cond_true,aj,aq,af hi,ah,h2,decide_false,cond_false,gV (show i<9223372036854775807 by omega)]
   rfl) (by simp only [Lc,aX,decide_false,cond_false])
  have key:di Lc (es,(),(es.length:Int),0)=_:=key;have F8:(es.any fun _=>false)=false:=by simp
  rw [F8] at key;unfold PC VC;simp only [key];rfl
 have el:(yw v p p.length).length=p.length:=by simp [yw]
 obtain ⟨M,s1,s2,s3⟩:=C8G (n:=p.length) np el;obtain ⟨k,M',c1,c2,c3,c4⟩:=C2z (n:=p.length) (by omega) s2
 have dP:∀ x∈M'.take k,x∈yw v p p.length:=fun x hx=>s3 x (c4 x hx)
 have DS:∀ x∈M'.take k,∃ q∈p,x=(((A0o v q.1:Nat):Int),((A0o v q.2:Nat):Int)):=by
  intro x hx
  have:=dP x hx
  unfold yw at this;rw [mS] at this;obtain ⟨q,hq,rfl⟩:=bj.1 this;exact ⟨q,hq,rfl⟩
 have Mq:CA v.length (M'.take k):=by
  intro x hx;obtain ⟨q,hq,rfl⟩:=DS x hx;have h1:=Go.Hg.iM (C.hp q hq).2.1;have h2:=Go.Hg.iM (C.hp q hq).2.2;simp only;omega
 have hlen:(M'.take k).length≤12:=by rw [aY];omega
 have fX:H3 v.length (M'.take k)=0:=by
  unfold H3;have h1:¬ (v.length:Int)>1000:=by omega
  have h2:¬ ((M'.take k).length:Int)>20000:=by omega
  have h3:¬ (v.length:Int)<0:=by omega
  have h4:(M'.take k).any (F3 v.length)=false:=by
   rw [List.any_eq_false];intro x hx hb;rw [WY] at hb
   have:=Mq x hx
   omega
  simp only [h1,h2,h3,h4,if_false,aF]
 obtain ⟨f,hf⟩:=C.acy;have Xk:=C8E (n:=v.length) (by omega) Mq (by omega) fX (f:=fun i=>f (v.getD i 0)) (fun u w h=>by
  obtain ⟨q,hq,e⟩:=DS _ h;have e1:u=A0o v q.1:=by have:=congrArg Prod.fst e;simp only at this;omega
  have e2:w=A0o v q.2:=by have:=congrArg Prod.snd e;simp only at this;omega
  have g1:=Go.Hg.gz (C.hp q hq).2.1;have g2:=Go.Hg.gz (C.hp q hq).2.2;show f (v.getD u 0)<f (v.getD w 0);rw [e1,e2,bu,bu,g1,g2];exact hf q hq)
 have CE:(az v.length (0:Int))=fZ (az v.length 0):=by simp [fZ]
 have hF:ba.wrap (nV ba 1 (v.length:Int)-1)=((2 ^ v.length-1:Nat):Int):=by
  rw [H9 (show v.length<16 by omega),Nat.one_shiftLeft]
  have hp0:=gB v.length
  have:(((2 ^ v.length:Nat):Int)-1)=((2 ^ v.length-1:Nat):Int):=by omega
  rw [this];exact DM (k:=.u16) rfl (xN (show 2 ^ v.length-1<2 ^ v.length by omega) (by omega))
 have hrl:(fZ (az v.length 0)).length=v.length:=by simp
 have Xl:¬ (v.length:Int)>14:=by omega
 have nl1:(fZ (n3 v es es.length).2).length=v.length:=by rw [vV,I.nl]
 have nl2:(fZ (q0 v p p.length)).length=v.length:=by rw [vV,A.al]
 unfold DI;simp only [B0V (show v.length≤1000000 by omega) C.el,C.hv,ah,bI,cond_false,xy,Xl,decide_false,aj,decide_true,cond_true,lH,aq,iy (show v.length*2≤140737488355328 by omega),CE,hrl,
  iy (au _),hF,l0,l1,jB,s1,c1,iy c2,Xk,aZ (eF nl1),aZ (eF nl2)]
omit C in
theorem Xm (sL:asc v=true)(nv:v.length≤16){l:List Int}(hl:∀ x∈l,x∈v)(nl:l.length≤1000000)(F:Nat)(fM dF:List Nat):DJ (gm v es F fM dF,l)=some ((A0z v l:Nat):Int):=by
 have key:=qs (f:=Lt) l.length (fun i=>(gm v es F fM dF,((A0z v (l.take i):Nat):Int),l,(l.length:Int),(i:Int))) ((A0z v l:Nat):Int) (fun i hi=>by
  have dN:(i:Int)<(l.length:Int):=by omega
  have hx:=hl _ (aJ hi);have hp:=Go.Hg.iM hx;have hb:=xN (L8 (v:=v) (e:=l.take i) fun y hy=>hl y (c8 hy)) nv
  have e1:A0z v (l.take (i+1))=A0z v (l.take i) ||| 1 <<< A0o v l[i]:=by
   unfold A0z Go.Hg.bitsFrom;rw [si hi,fG];rfl
  simp only [Lt,dN,decide_true,cond_true,aj,aq,af hi,ah,QF sL (show v.length≤1000000 by omega),hx,if_true,H9 (show A0o v l[i]<16 by omega),Cy (k:=.u16) rfl hb (vg (show A0o v l[i]<16 by omega)),e1,
   gV (show i<9223372036854775807 by omega)]) (by
  simp only [Lt,aX,decide_false,cond_false,mS])
 have key:di Lt (gm v es F fM dF,0,l,(l.length:Int),0)=_:=key;unfold DJ;simp only [key,ah]
theorem C8I (F:Nat)(fM dF:List Nat):Lx (gm v es F fM dF)=some (A5P v es)∧VP (gm v es F fM dF)=some ((A5P v es).length,A5P v es):=by
 have nv:=C.nv;have H:=C.H;have wy:Pn (v,es)=some 0:=by
  unfold Pn
  have:¬ (v.length:Int)>40:=by omega
  simp only [B0V (show v.length≤1000000 by omega) C.el,ah,C.hv,bI,cond_false,this,decide_false]
 have eC:∀ s∈Go.Hg.allS v es,s<2 ^ v.length:=fun s hs=>((Go.Hg.rB C.G.kQ).1 hs).1
 have hlen:(Go.Hg.allS v es).length≤20000:=by
  have h1:=L9 (es.map (A0z v)) v.length 0 0 0;have h2:2 ^ v.length≤2 ^ 14:=cN (by decide) (by omega)
  have h3:2 ^ 14=16384:=by decide
  unfold Go.Hg.allS;omega
 have key:=WG (f:=KY) (Go.Hg.allS v es) (fun s=>[idsP v s]) (fun i acc=>((acc.length,fZ (Go.Hg.allS v es),((fZ (Go.Hg.allS v es)).length:Int),(i:Int)),(v,es),acc)) (fun acc=>(acc.length,acc)) (fun i hi=>by
  have dN:(i:Int)<((fZ (Go.Hg.allS v es)).length:Int):=by rw [vV];omega
  have hl:(((Go.Hg.allS v es).take i).flatMap fun s=>[idsP v s]).length≤i:=by
   rw [B7A];simp;omega
  simp only [KY,dN,decide_true,cond_true,aj,aq,Bi hi,ah,D54 H (eC _ (aJ hi)),gV (show i<9223372036854775807 by omega),iy (au _),mS,aQ,dz]
  rw [iy (by omega),cond_true]) (by
  simp only [KY,vV,aX,decide_false,cond_false])
 have uk:((Go.Hg.allS v es).flatMap fun s=>[idsP v s])=A5P v es:=by rw [B7A];rfl
 rw [uk] at key;have key:di KY ((0,fZ (Go.Hg.allS v es),((fZ (Go.Hg.allS v es)).length:Int),0),(v,es),[])=_:=key;have hA:KZ ((v,es),20000)=some (((A5P v es).length,0),A5P v es):=by
  unfold KZ;simp only [wy,ah,D35 H C.el (show v.length≤14 by omega)]
  simp only [bne_self_eq_false,cond_false,bI,key,ah]
 refine ⟨?_,?_⟩
 · unfold Lx;simp only [ah,hA,iy (au _),cond_true,mS]
 · unfold VP;simp only [ah,hA]
end
end Go.Mid
namespace Go.Mid
open Go.Hg (asc less A0z A0o A4Z Gr PrV nbB A8f A3f A7F Acy idsP A5P A0L Rep C8q ParP B0H pickL C8p B6f)
theorem C5c {m:Nat}(hm:m<so)(h:tJ m=[]):m=0:=by
 by_cases h0:m=0
 · exact h0
 · obtain ⟨k,hk,_⟩:=We h0
   have:k∈tJ m:=cA.2 ⟨bW.2 (by have:=Mo hm hk;omega),hk⟩
   rw [h] at this;cases this
theorem C5d {m k:Nat}{r:List Nat}(hm:m<so)(h:tJ m=k::r):m≠0∧m.testBit k=true∧(∀ j,j<k→m.testBit j=false)∧tJ (m &&& (m-1))=r∧m &&& (m-1)<so:=by
 have h0:m≠0:=by
  intro e;subst e;have h0:tJ 0=[]:=by unfold tJ;rw [iH];intro a _;simp
  rw [h0] at h;cases h
 obtain ⟨k',mV,xj⟩:=We h0;rw [C5E (show k'<32 by have:=Mo hm mV;omega) mV xj] at h
 obtain ⟨rfl,hr⟩:=List.cons.inj h;exact ⟨h0,mV,xj,hr,iJ iQ hm⟩
theorem B6q {m k:Nat}(hm:m<so):k∈tJ m↔m.testBit k=true:=by
 unfold tJ;rw [cA,bW];exact ⟨fun h=>h.2,fun h=>⟨by have:=Mo hm h;omega,h⟩⟩
theorem Ib {m n:Nat}(h:m<2 ^ n)(hn:n≤16):m<so:=br h (cN (by decide) hn)
section
variable {v:List Int}{es:List (List Int)}{p:PrV}(nv:v.length≤14){F:Nat}{fM dF:List Nat}(g:rE v es p F fM dF)
include nv g
omit nv in
theorem Xn {k:Nat}(hk:k<v.length):(fZ dF)[k]?=some ((dF.getD k 0:Nat):Int)∧dF.getD k 0<2 ^ v.length∧∀ j (hj:j<v.length),(dF.getD k 0).testBit j=A3f p v[j] v[k]:=by
 have hl:k<dF.length:=by rw [g.al];exact hk
 have d:dF.getD k 0=dF[k]:=by rw [bu,af hl];rfl
 rw [d];exact ⟨Bi hl,g.alt _ (aJ hl),fun j hj=>g.ab k hk hl j hj⟩
theorem B7G:∀ (L:List Nat) (x bt:Nat),tJ x=L→x<2 ^ v.length→bt<2 ^ v.length →
 di LN (gm v es F fM dF,(bt:Int),(x:Int))=some ((L.foldl (fun b k=>b &&& dF.getD k 0) bt:Nat):Int)
 | [],x,bt,h,hx,_=>by
   rw [C5c (Ib hx (by omega)) h]
   refine qi ?_;simp [LN]
 | k::r,x,bt,h,hx,Nc=>by
   obtain ⟨h0,hk,Xo,hr,_⟩:=C5d (Ib hx (by omega)) h
   have DT:k<v.length:=b4 fun hc=>by rw [Go.Hg.og hx (by omega)] at hk;cases hk
   obtain ⟨a1,a2,_⟩:=Xn g DT;have vL:((x:Int)>0):=by omega
   have st:LN (gm v es F fM dF,(bt:Int),(x:Int))=some (.inl (gm v es F fM dF,((bt &&& dF.getD k 0:Nat):Int),((x &&& (x-1):Nat):Int))):=by
    simp only [LN,vL,decide_true,cond_true,ah,D4d (Ib hx (by omega)) hk Xo,aj,aq,a1,L2 (k:=.u16) rfl (xN Nc (by omega)) (xN a2 (by omega)),D6b h0 (Ib hx (by omega))]
   rw [uE st,B7G r _ _ hr (iJ iQ hx) (iJ iQ Nc)];rfl
theorem D0B {a b:Nat}(sL:asc v=true)(ha:a<2 ^ v.length)(hb:b<2 ^ v.length):P7 (gm v es F fM dF,(a:Int),(b:Int))=some (tK p (idsP v a) (idsP v b)):=by
 have hd:wR .u16 (a:Int) (b:Int)=((less a b:Nat):Int):=HY (k:=.u16) rfl (xN ha (by omega)) (xN hb (by omega))
 have Xb:wR .u16 (b:Int) (a:Int)=((less b a:Nat):Int):=HY (k:=.u16) rfl (xN hb (by omega)) (xN ha (by omega))
 have eC:less a b<2 ^ v.length:=L3 ha;have B5:less b a<2 ^ v.length:=L3 hb;have key:=B7G nv g (tJ (less a b)) (less a b) (less b a) rfl eC B5;unfold P7;simp only [hd,Xb,key,ah];congr 1;have mem:∀ {s j:Nat} (hj:j<v.length),v[j]∈idsP v s↔s.testBit j=true:=fun {s j} hj=>by
  rw [← bB,Go.Hg.m8 sL hj]
 have fold:∀ (L:List Nat) (bt j:Nat),(L.foldl (fun b k=>b &&& dF.getD k 0) bt).testBit j=(bt.testBit j&&L.all fun k=>(dF.getD k 0).testBit j):=by
  intro L
  induction L with
  | nil=>intro bt j;simp
  | cons k r ih=>intro bt j;rw [List.foldl_cons,ih,fK,List.all_cons,Bool.and_assoc]
 have hz:((((tJ (less a b)).foldl (fun b k=>b &&& dF.getD k 0) (less b a):Nat):Int) != 0)=((tJ (less a b)).foldl (fun b k=>b &&& dF.getD k 0) (less b a) != 0):=by
  have:=WJ ((tJ (less a b)).foldl (fun b k=>b &&& dF.getD k 0) (less b a))
  simp only [bne,this]
 rw [hz];apply cn.2;rw [D16,bne_iff_ne];unfold ParP;constructor
 · intro h;obtain ⟨j,hj,_⟩:=We h;rw [fold,Go.Hg.iL] at hj;simp only [ak,dt,bg] at hj;have Ic:j<v.length:=b4 fun hc=>by rw [Go.Hg.og hb (by omega)] at hj;exact absurd hj.1.1 (by simp)
   refine ⟨v[j],(mem Ic).2 hj.1.1,fun h=>(by rw [mem Ic,hj.1.2] at h;cases h),fun x hx SK=>?_⟩
   obtain ⟨k,DT,rfl,hka⟩:=Go.Hg.mf.1 hx;have hkb:b.testBit k=false:=by
    cases zi:b.testBit k with
    | false=>rfl
    | true=>exact absurd ((mem DT).2 zi) SK
   have L1:k∈tJ (less a b):=by rw [B6q (Ib eC (by omega)),Go.Hg.iL,hka,hkb];rfl
   obtain ⟨_,_,a3⟩:=Xn g DT;rw [← a3 j Ic];exact hj.2 k L1
 · rintro ⟨y,hy,hny,ko⟩ h0;obtain ⟨j,Ic,rfl,hjb⟩:=Go.Hg.mf.1 hy;have hja:a.testBit j=false:=by
    cases hca:a.testBit j with
    | false=>rfl
    | true=>exact absurd ((mem Ic).2 hca) hny
   have h1:((tJ (less a b)).foldl (fun b k=>b &&& dF.getD k 0) (less b a)).testBit j=true:=by
    rw [fold,Go.Hg.iL,hjb,hja];simp only [Bool.not_false,gn,Bool.true_and,bg];intro k hk;rw [B6q (Ib eC (by omega)),Go.Hg.iL] at hk
    simp only [ak,dt] at hk;have DT:k<v.length:=b4 fun hc=>by rw [Go.Hg.og ha (by omega)] at hk;exact absurd hk.1 (by simp)
    obtain ⟨_,_,a3⟩:=Xn g DT;rw [a3 j Ic];exact ko v[k] ((mem DT).2 hk.1) (fun h=>(by rw [mem DT,hk.2] at h;cases h))
   rw [h0,dS] at h1;cases h1
end
end Go.Mid
namespace Go.Mid
open Go.Hg (asc less A0z A0o A4Z Gr PrV nbB A8f A3f A7F Acy idsP A5P A0L Rep C8q ParP B0H C8p B6f A0y A5O)
section
variable {v:List Int}{es:List (List Int)}{p:PrV}(nv:v.length≤14)(sL:asc v=true)
include nv sL
theorem C5e {l:List Int}(hl:∀ x∈l,x∈v)(ha:asc l=true):idsP v (A0z v l)=l:=by
 have:=nv
 refine Go.Hg.qZ (Go.Hg.jv.1 (Go.Hg.uG sL _)) (Go.Hg.jv.1 ha) fun x=>?_
 rw [Go.Hg.mf];constructor
 · rintro ⟨i,hi,rfl,hb⟩;rw [Go.Hg.me sL hl i hi] at hb;exact bB.1 hb
 · intro hx;obtain ⟨i,hi,rfl⟩:=fy.1 (hl x hx);exact ⟨i,hi,rfl,by rw [Go.Hg.me sL hl i hi];exact bB.2 hx⟩
variable {F:Nat}{fM dF:List Nat}(g:rE v es p F fM dF)
include g
end
end Go.Mid
namespace Go.Mid
open Go.Hg (asc less A0z A0o A4Z Gr PrV nbB A8f A3f A7F Acy idsP A5P refR A0L Rep C8q ParP B0H C8p B6f)
theorem C5P {α:Type}(q:α→Bool):∀ (l:List α),l.find? q=match pG (fun _ x=>q x) l 0 with | some i=>l[i]? | none=>none:=by
 intro l;rw [B9K,List.find?_eq_bind_findIdx?_getElem?];cases List.findIdx? q l<;>rfl
theorem C09 {l:List Int}(hl:l.length≤1000000)(x:Int):P2 (l,x)=some (l.filter fun y=>y != x):=by
 have key:=WG (f:=LA) l (fun y=>if (y != x) then [y] else []) (fun i acc=>((l,x,acc.length,(i:Int)),acc)) (fun acc=>(acc.length,acc)) (fun i hi=>by
  have dN:(i:Int)<(l.length:Int):=by omega
  have hl:=C4R (fun y=>y != x) l i
  simp only [LA,dN,decide_true,cond_true,aj,aq,af hi,ah,gV (show i<9223372036854775807 by omega),iy (au _)]
  cases l[i] != x with
  | false=>simp
  | true =>
    simp only [cond_true,if_true,mS,aQ,dz];rw [iy (by omega),cond_true]) (by
  simp only [LA,aX,decide_false,cond_false])
 rw [WH] at key;have key:di LA ((l,x,0,0),[])=_:=key;unfold P2;simp only [key,ah,iy (au _),cond_true,mS]
theorem C5f {p:PrV}(np:p.length≤1000000)(ha:Acy p):∀ (m:Nat) (rest:List Int),rest.length≤m→rest.length≤1000000→di LF (p,rest)=some (.inr ())
 | m,rest,hm,hl=>by
   by_cases h0:rest=[]
   · subst h0;exact qi (by simp [LF])
   · match m,hm with
     | 0,hm=>exact absurd (ib.1 (by omega)) h0
     | m+1,hm =>
       obtain ⟨x,hx,hb⟩:=Go.Hg.Aa ha rest h0;have hf:(pG (fun _ x=>A7F p rest x) rest 0).isSome=true:=by
        rw [Hu (fun x=>A7F p rest x)]
        exact List.any_eq_true.2 ⟨x,hx,hb⟩
       obtain ⟨k,hk⟩:=fj.1 hf;obtain ⟨_,k1,⟨k2,k3⟩,k4⟩:=O8 hk;simp only [Nat.sub_zero,bS] at k1 k2 k3 k4;have l3:di LD (p,rest,(rest.length:Int),0)=some (p,rest.filter (fun y=>y != rest[k]),(rest.length:Int)):=by
        have key:=qs (f:=LD) k (fun i=>(p,rest,(rest.length:Int),(i:Int))) (p,rest.filter (fun y=>y != rest[k]),(rest.length:Int)) (fun i hi=>by
         have dN:(i:Int)<(rest.length:Int):=by omega
         simp only [LD,dN,aj,decide_true,cond_true,aq,af (show i<rest.length by omega),ah,B7y np hl,k4 i (by omega) hi,cond_false,gV (show i<9223372036854775807 by omega)]) (by
         have mV:(k:Int)<(rest.length:Int):=by omega
         simp only [LD,mV,aj,decide_true,cond_true,aq,af k2,ah,B7y np hl,k3,C09 hl])
        exact key
       have eC:(rest.filter fun y=>y != rest[k]).length<rest.length:=by
        refine Nat.lt_of_le_of_ne (dT _ _) fun e=>?_
        have:=List.length_filter_eq_length_iff.1 e rest[k] (aJ k2)
        simp at this
       have vL:((rest.length:Int)>0):=by omega
       have eD:(((rest.filter fun y=>y != rest[k]).length:Int)==(rest.length:Int))=false:=by rw [beq_eq_false_iff_ne];omega
       have st:LF (p,rest)=some (.inl (p,rest.filter fun y=>y != rest[k])):=by
        simp only [LF,vL,decide_true,cond_true,l3,ah,eD,cond_false]
       rw [uE st];exact C5f np ha m _ (by omega) (by omega)
section
variable {v:List Int}{es:List (List Int)}{p:PrV}(C:Ctx v es p)
include C
theorem C1a:LG ((v,es),p)=some 0:=by
 have nv:=C.nv;have ne:=C.ne;have np:=C.np;have l0:=tg (f:=LB) es (fun i=>((p,(i:Int)),v,es)) (fun _=>false) (.inl 14) (.inr (p,v,es)) (fun i hi=>by
  have dN:(i:Int)<(es.length:Int):=by omega
  have h2:¬ ((es[i].length:Int)>2):=by have:=C.G.two _ (aJ hi);omega
  simp only [LB,dN,decide_true,cond_true,aj,aq,af hi,ah,h2,decide_false,cond_false,gV (show i<9223372036854775807 by omega)]
  rfl) (by simp only [LB,aX,decide_false,cond_false])
 have l0:di LB ((p,0),v,es)=_:=l0;have l1:=tg (f:=LC) p (fun i=>((p,(i:Int)),v,es)) (fun _=>false) (.inl 1) (.inr (p,v,es)) (fun i hi=>by
  have dN:(i:Int)<(p.length:Int):=by omega
  have hb:=(C.hp _ (aJ hi)).1;simp only [LC,dN,decide_true,cond_true,aj,aq,af hi,ah,D0g (show es.length≤1000000 by omega) C.el,hb,bI,cond_false,gV (show i<9223372036854775807 by omega)]
  rfl) (by simp only [LC,aX,decide_false,cond_false])
 have l1:di LC ((p,0),v,es)=_:=l1;have h1:(es.any fun _=>false)=false:=by simp
 have h2:(p.any fun _=>false)=false:=by simp
 rw [h1] at l0;rw [h2] at l1;have Xl:¬ (v.length:Int)>14:=by omega
 unfold LG;simp only [C02 (show v.length≤1000000 by omega) C.el,C.hv,ah,bI,cond_false,l0,if_false,aF,jB,Xl,decide_false,l1,C5f (show p.length≤1000000 by omega) C.acy v.length v (au _) (by omega)]
theorem C5g {L:List (List Int)}(hL:L.length≤10)(hl:∀ l∈L,l.length≤100000):HT ((v,es),p,L)=some (bif L.all (A0L v es) then 0 else 1):=by
 have nv:=C.nv;have ne:=C.ne;have key:=tg (f:=LI) L (fun i=>((L,(i:Int)),v,es)) (fun l=>!A0L v es l) (.inl 1) (.inr ()) (fun i hi=>by
  have dN:(i:Int)<(L.length:Int):=by omega
  simp only [LI,dN,decide_true,cond_true,aj,aq,af hi,ah,WB (show v.length≤100000 by omega) (show es.length≤1000000 by omega) C.el (hl _ (aJ hi)),gV (show i<9223372036854775807 by omega)]
  cases A0L v es L[i]<;>rfl) (by simp only [LI,aX,decide_false,cond_false])
 have key:di LI ((L,0),v,es)=_:=key;unfold HT;simp only [C1a C,ah,bne_self_eq_false,cond_false,key];rw [Wz];cases L.any fun l=>!A0L v es l<;>rfl
theorem Ie {l:List Int}(h:A0L v es l=true):l.length≤9∧asc l=true∧∀ x∈l,x∈v:=by
 have R:=(Go.Hg.uH C.G).1 h
 have:=C.nv
 have hs:=Go.Hg.mH (Go.Hg.jv.1 R.asc) (Go.Hg.jv.1 C.av) R.sub;exact ⟨by have:=hs.length_le;omega,R.asc,R.sub⟩
theorem Xp {l:List Int}(h:l∈refR v es):A0L v es l=true:=by
 obtain ⟨_,hm⟩:=Go.Hg.qu C.G.kQ;obtain ⟨_,_,_,h2⟩:=(hm l).1 h;exact h2
theorem C2n:A5P v es=refR v es:=Go.Hg.z8 C.G.kQ
theorem C5h:(refR v es).length≤1024:=by
 rw [← C2n C];unfold A5P Go.Hg.allS;rw [aE];have h1:=L9 (es.map (A0z v)) v.length 0 0 0
 have:=C.nv
 have h2:2 ^ v.length≤2 ^ 10:=cN (by decide) (by omega)
 have h3:2 ^ 10=1024:=by decide
 omega
theorem D2m:FW (v,es)=some (refR v es):=C01 (by have:=C.nv;omega) (by have:=C.ne;omega) C.el
theorem C0a {r:List Int}(hr:r.length≤1000):LU ((v,es),p,r)=some (!(refR v es).any (tK p r)):=by
 have hl:=C5h C;have np:=C.np;have key:=tg (f:=LS) (refR v es) (fun i=>(p,r,refR v es,(i:Int))) (tK p r) (.inl false) (.inr ()) (fun i hi=>by
  have dN:(i:Int)<((refR v es).length:Int):=by omega
  have h1:=(Ie C (Xp C (aJ hi))).1;simp only [LS,dN,decide_true,cond_true,aj,aq,af hi,ah,B6k (show p.length≤1000000 by omega) (show r.length≤1000000 by omega) (show (refR v es)[i].length≤1000000 by omega),gV (show i<9223372036854775807 by omega)]
  cases tK p r (refR v es)[i]<;>rfl) (by simp only [LS,aX,decide_false,cond_false])
 have key:di LS (p,r,refR v es,0)=_:=key;unfold LU;simp only [D2m C,ah,key];cases (refR v es).any (tK p r)<;>rfl
variable {F:Nat}{fM dF:List Nat}(hb:DI ((v,es),p)=some (gm v es F fM dF,0))(g:rE v es p F fM dF)
include hb
theorem D4f {r s:List Int}(hr:r.length≤20)(hs:s.length≤20):PU ((v,es),p,r,s)=some (bif A0L v es r&&A0L v es s then (gm v es F fM dF,((A0z v r:Nat):Int),((A0z v s:Nat):Int),0) else (none,0,0,1)):=by
 have nv:=C.nv;have ne:=C.ne;have m1:=A9M (l:=r) C.av (show v.length≤100000 by omega) (show es.length≤1000000 by omega) C.el (show r.length≤100000 by omega)
 have m2:=A9M (l:=s) C.av (show v.length≤100000 by omega) (show es.length≤1000000 by omega) C.el (show s.length≤100000 by omega)
 unfold PU;simp only [hb,ah,bne_self_eq_false,cond_false,m1,m2];cases h1:A0L v es r with
 | false=>rfl
 | true =>
   cases h2:A0L v es s with
   | false=>rfl
   | true =>
     have o1:=Xm (es:=es) C.av (show v.length≤16 by omega) (Ie C h1).2.2 (show r.length≤1000000 by omega) F fM dF
     have o2:=Xm (es:=es) C.av (show v.length≤16 by omega) (Ie C h2).2.2 (show s.length≤1000000 by omega) F fM dF
     simp only [bI,cond_false,o1,o2,ah,gn,cond_true]
include g
omit hb in
theorem C8J {r:List Int}(h1:A0L v es r=true):P8 (gm v es F fM dF,((A0z v r:Nat):Int),gm v es F fM dF)=some (match (refR v es).find? (tK p r) with | some l=>(l,false) | none=>([],true)):=by
 have nv:=C.nv;have hl:=C5h C;obtain ⟨_,ha,dP⟩:=Ie C h1;have eR:=C5e (show v.length≤14 by omega) C.av dP ha
 have key:=Cv (f:=LO) (refR v es) (fun i=>(gm v es F fM dF,((A0z v r:Nat):Int),gm v es F fM dF,refR v es,((refR v es).length:Int),(i:Int))) (fun _ l=>tK p r l) (fun i=>.inl ((refR v es).getD i [],false)) (.inr ()) (fun i hi=>by
  have dN:(i:Int)<((refR v es).length:Int):=by omega
  have hm:=Xp C (aJ hi);obtain ⟨h3,h4,h5⟩:=Ie C hm;have eL:=C5e (show v.length≤14 by omega) C.av h5 h4
  have o1:=Xm (es:=es) C.av (show v.length≤16 by omega) h5 (show (refR v es)[i].length≤1000000 by omega) F fM dF
  have g1:=D0B (show v.length≤14 by omega) g C.av (L8 dP) (L8 h5)
  rw [eR,eL] at g1;have gd:(refR v es).getD i []=(refR v es)[i]:=by rw [bu,af hi];rfl
  simp only [LO,dN,decide_true,cond_true,aj,aq,af hi,ah,o1,g1,gd,gV (show i<9223372036854775807 by omega)]
  cases tK p r (refR v es)[i]<;>rfl) (by simp only [LO,aX,decide_false,cond_false])
 have key:di LO (gm v es F fM dF,((A0z v r:Nat):Int),gm v es F fM dF,refR v es,((refR v es).length:Int),0)=_:=key;have CE:=(C8I C F fM dF).1;rw [C2n C] at CE;unfold P8;simp only [CE,ah,key];rw [C5P (tK p r) (refR v es)];cases hf:pG (fun _ l=>tK p r l) (refR v es) 0 with
 | none=>rfl
 | some i =>
   obtain ⟨_,hi,_⟩:=O8 hf;have hi:i<(refR v es).length:=by omega
   simp only [bu,af hi,Option.getD_some,qa]
theorem C5Q {r:List Int}(hr:r.length≤20):LP ((v,es),p,r)=some (bif A0L v es r then (match (refR v es).find? (tK p r) with | some l=>(l,false,(0:Int)) | none=>([],true,0)) else ([],false,1)):=by
 unfold LP;simp only [D4f C hb hr hr,ah,gn];cases h1:A0L v es r with
 | false=>rfl
 | true =>
   simp only [cond_true,bne_self_eq_false,cond_false,C8J C g h1,ah];cases (refR v es).find? (tK p r)<;>rfl
end
end Go.Mid
namespace Go.Mid
open Go.Hg (asc Gr PrV nbB A8f A3f A7F Acy refR A0L Rep C8q ParP B6f A1d hEs)
theorem D6c {N:Nat}{E:List Nat}{R:List Int}{skip:Nat}(hR:∀ r∈R,0≤r):Ctx (A1d (N%9)) (hEs N (E.map pw)) (Ac (A1d (N%9)) R skip (hEs N (E.map pw))):=by
 have G:Gr (A1d (N%9)) (hEs N (E.map pw)):=D60;have hl:(A1d (N%9)).length=N%9:=Go.Hg.lV _;have he:=Go.Hg.pt N (E.map pw);exact ⟨G,Go.Hg.xI N (E.map pw),by omega,he,dI D59 he,fun q hq=>D61 G hq,D58 G hR (D0m (by omega))⟩
section
variable {v:List Int}{es:List (List Int)}{p:PrV}(C:Ctx v es p)
include C
theorem D4g {r:List Int}(hr:r.length≤20):HT ((v,es),p,[r])=some (bif A0L v es r then 0 else 1):=by
 rw [C5g C (L:=[r]) (by simp) (fun l hl=>by simp only [aW] at hl;subst hl;omega)]
 simp
theorem D2n {α:Type}(q:α→Bool)(l:List α):l.any q=(l.find? q).isSome:=by
 have:=C
 induction l with
 | nil=>rfl
 | cons x r ih =>
   rw [List.any_cons,List.find?_cons,ih];cases q x<;>rfl
theorem D65 {r:List Int}(hr:r.length≤20):((LP ((v,es),p,r)).bind fun q =>
 (HT ((v,es),p,[r])).bind fun s =>
   bif s != (0:Int) then bif q.2.2==s then bif !q.2.1 then some ((q.1.length:Int)==(0:Int)) else some false else some false
   else
    bif q.2.1 then bif q.2.2==(0:Int) then bif (q.1.length:Int)==(0:Int) then (LU ((v,es),p,r)).bind fun t=>some t else some false else some false
    else bif q.2.2==(0:Int) then (FV ((v,es),q.1)).bind fun t=>bif t then (HU (p,r,q.1)).bind fun u=>some u else some false else some false)=some true:=by
 obtain ⟨F,fM,dF,hb,g⟩:=D2l C;have ne:=C.ne;have nv:=C.nv;have np:=C.np;simp only [C5Q C hb g hr,ah,D4g C hr];cases hm:A0L v es r with
 | false=>rfl
 | true =>
   have ha:=D2n C (tK p r) (refR v es);cases hf:(refR v es).find? (tK p r) with
   | none =>
     rw [hf] at ha;simp [C0a C (show r.length≤1000 by omega),ha]
   | some l =>
     have hl:=Xp C (List.mem_of_find?_eq_some hf);have hi:=List.find?_some hf;have h9:=(Ie C hl).1;simp [WB (show v.length≤100000 by omega) (show es.length≤1000000 by omega) C.el (show l.length≤100000 by omega),hl,B6k (show p.length≤1000000 by omega) (show r.length≤1000000 by omega) (show l.length≤1000000 by omega),hi]
end
section
variable {N:Nat}{E:List Nat}{R:List Int}{skip:Nat}(hE:E.length≤reachBytes)(hR:∀ r∈R,0≤r)
include hE hR
theorem D66 (r:List Int):P9 (((N:Int),fZ E),(R,(skip:Int)),r)=some true:=by
 unfold P9;simp only [D0l hE,ah,bI,cond_false];cases decide (E.length≤12) with
 | false=>rfl
 | true =>
   by_cases h:(r.length:Int)>20
   · simp [h]
   · simp only [bI,cond_false,h,decide_false];exact D65 (D6c hR) (by omega)
end
theorem Xq {x:Int}(h:(Lit.int .u8 x).wf=true):0≤x∧x≤255:=by
 simp only [Lit.wf,ak,decide_eq_true_eq] at h;have h1:dx.min=0:=rfl;have h2:dx.max=255:=rfl;rw [h1,h2] at h;exact h
theorem D6d {x:Int}(h:(Lit.int .u16 x).wf=true):0≤x:=by
 simp only [Lit.wf,ak,decide_eq_true_eq] at h;have h1:ba.min=0:=rfl;rw [h1] at h;exact h.1
theorem C6W:∀ {l:List Int},(∀ x∈l,0≤x)→∃ L:List Nat,l=fZ L
 | [],_=>⟨[],rfl⟩
 | x::r,h=>by
   obtain ⟨n,hn⟩:=eK (h x (by simp))
   obtain ⟨L,hL⟩:=C6W (l:=r) fun y hy=>h y (bU _ hy)
   exact ⟨n::L,by rw [hn,hL];rfl⟩
section
variable (g:Int×List Int)(q:List Int×Int)(h1:(Lit.int .u8 g.1).wf=true)(h2:g.2.length≤reachBytes)(h3:∀ x∈g.2,(Lit.int .u8 x).wf=true)(h4:∀ x∈q.1,(Lit.int .u8 x).wf=true)(h5:(Lit.int .u16 q.2).wf=true)
include h1 h3 h5
theorem D0C:∃ (N:Nat) (E:List Nat) (skip:Nat),g=((N:Int),fZ E)∧q.2=(skip:Int):=by
 obtain ⟨N,hN⟩:=eK (Xq h1).1;obtain ⟨E,hE⟩:=C6W fun x hx=>(Xq (h3 x hx)).1
 obtain ⟨k,hk⟩:=eK (D6d h5);exact ⟨N,E,k,Prod.ext hN hE,hk⟩
include h2 h4
theorem D4h (r:List Int):P9 (g,q,r)=some true:=by
 obtain ⟨N,E,k,rfl,hk⟩:=D0C g q h1 h3 h5;obtain ⟨R,s⟩:=q;subst hk;exact D66 (by rw [vV] at h2;exact h2) (fun r hr=>(Xq (h4 r hr)).1) r
end
end Go.Mid
