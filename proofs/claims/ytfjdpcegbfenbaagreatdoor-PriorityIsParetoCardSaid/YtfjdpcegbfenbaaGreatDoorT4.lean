/- Tools for plain laws: loops step by step, sums, bounds. -/
import Derived.Test.YtfjdpcegbfenbaaGreatDoorN2
import Derived.Test.YtfjdpcegbfenbaaGreatDoorT2
set_option linter.unusedSimpArgs false
set_option linter.unusedVariables false
open BitVec renaming ofInt → cl, toNat_ofNat → iI
open Bool renaming false_eq_true → aF, and_eq_true → ak, not_eq_true' → dt, false_or → eN, not_false → dZ, true_and → cE, eq_iff_iff → cn, not_true → bI
open Classical renaming byContradiction → b4
open Go.IntKind renaming wrap → gF, bits → fS, signed → eQ, i64 → ai, u64 → aK, u32 → cM
open Int renaming lt_trans → p9, min_eq_left → nQ, max_eq_right → nj, toNat_natCast → aq, ofNat_tmod → oB, natCast_nonneg → aj, lt_irrefl → aX, natCast_zero → cj, le_refl → lH
open List renaming take_length → dR, range → bp, range' → mI, filter_cons → jA, filter_congr → mL, range_eq_range' → lG, mem_append → ay, mem_singleton → aW, any_eq_true → b6, filter_eq_nil_iff → iH, mem_range → bW, all_eq_true → bg, filter_cons_of_pos → ka, filter_append → eI, getElem_cons_succ → fV, any_cons → gk, range_succ → iR, length_map → aE, length_filter_le → dT, pairwise_cons → bL, mem_cons → aM, nil_append → a7, getElem?_append_right → bG, append_assoc → bh, set_append_right → ez, pairwise_append → cB, foldl_cons → gA, getElem?_eq_getElem → af, contains_iff_mem → bB, getElem?_eq_some_iff → aL, any_eq_false → fF, mem_map → bj, mem_filter → cA, mem_zipIdx_iff_getElem? → iS, zipIdx_cons → jy, pairwise_iff_getElem → dH, getElem_of_mem → gZ, length_cons → bf, pairwise_map → ep, map_cons → aH, not_mem_nil → ni, mem_cons_self → gu, mem_cons_of_mem → bU, length_tail → lf, getElem_tail → mP, getD_eq_getElem?_getD → bu, mem_iff_getElem → fy, getElem_mem → aJ, not_any_eq_all_not → kb, length_singleton → dz, getElem?_cons_zero → bP, take_of_length_le → aZ, take_nil → gQ, drop_length → fe, drop_eq_getElem_cons → b3, drop_zero → fu, mem_or_eq_of_mem_set → bm, map_append → b8, length_take → aY, mem_of_getElem? → bH, foldl_append → fG, getElem?_set_ne → eJ, flatMap_cons → iY, length_append → aQ, length_pos_iff → jN, mem_of_mem_take → c8, length_range → gH, map_nil → cr
open List.Pairwise renaming imp_of_mem → jX, filter → jq
open Nat renaming ble_eq_true_of_le → gw, and_one_is_mod → iC, eq_of_testBit_eq → ec, zero_testBit → dS, pow_succ → kJ, add_zero → du, two_pow_pos → gB, mul_one → gI, testBit_two_pow_sub_one → dU, testBit_and → fK, le_refl → au, zero_le → dq, one_shiftLeft → eS, testBit_lt_two_pow → fW, lt_of_lt_of_le → br, pow_le_pow_right → cN, lt_pow_two_of_testBit → jF, testBit_or → bQ, le_trans → dI, sub_zero → gC, zero_add → bS, mod_eq_of_lt → fc, lt_of_le_of_lt → iJ, or_lt_two_pow → eT, shiftLeft_eq → nk, testBit_shiftRight → kK, lt_succ_self → la, add_sub_cancel → dJ, lt_or_eq_of_le → mj, le_of_eq → eF, min_eq_left → da, le_of_lt → fT, min_eq_right → jz
open Option renaming getD_some → bF, bind_some → ah
namespace Go.Mid
section
variable {A B:Type}{f:A→Option (A ⊕ B)}
theorem qs (n:Nat)(T:Nat→A)(b:B)(h1:∀ i,i<n→f (T i)=some (.inl (T (i+1))))(h2:f (T n)=some (.inr b)):di f (T 0)=some b:=by
 have:∀ k i,i+k=n→di f (T i)=some b:=by
  intro k
  induction k with
  | zero=>intro i hi;obtain rfl:i=n:=by omega
          exact qi h2
  | succ k ih=>intro i hi;rw [uE (h1 i (by omega))];exact ih (i+1) (by omega)
 exact this n 0 (by omega)
end
theorem iy {a b:Nat}(h:a≤b):a.ble b=true:=gw h
theorem ln {a b:Nat}(h:a<b):a.blt b=true:=gw h
theorem mS {α:Type}(l:List α):l.take l.length=l:=dR
theorem si {α:Type}{l:List α}{i:Nat}(h:i<l.length):l.take (i+1)=l.take i++[l[i]]:=List.take_succ_eq_append_getElem h
section
variable {α β:Type}
end
end Go.Mid
namespace Go.Mid
theorem Wd (m:Nat):(m &&& 1)=if m.testBit 0 then 1 else 0:=by
 rw [iC,Nat.testBit_zero]
 have:=Nat.mod_two_eq_zero_or_one m
 rcases this with h | h<;>simp [h]
def tJ (m:Nat):List Nat:=(bp 32).filter fun i=>m.testBit i
theorem We:∀ {m:Nat},m≠0→∃ k,m.testBit k=true∧∀ j,j<k→m.testBit j=false:=by
 intro m
 induction m using Nat.strongRecOn with
 | _ m ih =>
   intro h;by_cases h0:m.testBit 0=true
   · exact ⟨0,h0,fun j hj=>by omega⟩
   · have h2:m / 2≠0:=by
      intro e;rw [Nat.testBit_zero] at h0
      have:m%2≠1:=by simpa using h0
      omega
     obtain ⟨k,hk,hl⟩:=ih (m / 2) (by omega) h2
     refine ⟨k+1,by rw [Nat.testBit_succ];exact hk,fun j hj=>?_⟩
     cases j with
     | zero=>simpa using h0
     | succ j=>rw [Nat.testBit_succ];exact hl j (by omega)
theorem D1Y {m k:Nat}(hk:m.testBit k=true)(hl:∀ j,j<k→m.testBit j=false):∃ q,m=2 ^ k*(2*q+1):=by
 refine ⟨m / 2 ^ (k+1),?_⟩;have h1:m%2 ^ k=0:=by
  apply ec;intro i;rw [Nat.testBit_mod_two_pow,dS];by_cases h:i<k
  · rw [hl i h];simp
  · simp [h]
 have h2:m / 2 ^ k%2=1:=by
  rw [Nat.testBit_eq_decide_div_mod_eq] at hk;simpa using hk
 have h3:m / 2 ^ (k+1)=m / 2 ^ k / 2:=by rw [kJ,Nat.div_div_eq_div_mul]
 rw [h3];have h4:=Nat.div_add_mod m (2 ^ k);rw [h1,du] at h4;have h5:2*(m / 2 ^ k / 2)+1=m / 2 ^ k:=by omega
 rw [h5];exact h4.symm
theorem C4E {m k j:Nat}(hk:m.testBit k=true)(hl:∀ j,j<k→m.testBit j=false):(m-1).testBit j=if j<k then true else if j=k then false else m.testBit j:=by
 obtain ⟨q,rfl⟩:=D1Y hk hl;have hp:0<2 ^ k:=gB k;have e1:2 ^ k*(2*q+1)-1=2 ^ (k+1)*q+(2 ^ k-1):=by
  rw [kJ,Nat.mul_add,gI,← Nat.mul_assoc];omega
 have e2:2 ^ k*(2*q+1)=2 ^ (k+1)*q+2 ^ k:=by
  rw [kJ,Nat.mul_add,gI,← Nat.mul_assoc]
 rw [e1,e2];have Wf:2 ^ k-1<2 ^ (k+1):=by rw [kJ];omega
 have B5:2 ^ k<2 ^ (k+1):=by rw [kJ];omega
 rw [Nat.testBit_two_pow_mul_add _ Wf,Nat.testBit_two_pow_mul_add _ B5];by_cases h1:j<k
 · simp [h1,Nat.lt_succ_of_lt h1,dU]
 · by_cases h2:j=k
   · subst h2;simp [dU]
   · have:¬ j<k+1:=by omega
     simp [h1,h2,this]
theorem D1Z {m k:Nat}(hk:m.testBit k=true)(hl:∀ j,j<k→m.testBit j=false)(i:Nat):(m &&& (m-1)).testBit i=(m.testBit i&&decide (i≠k)):=by
 rw [fK,C4E hk hl];by_cases h1:i<k
 · simp [h1,hl i h1]
 · by_cases h2:i=k
   · subst h2;simp
   · simp [h1,h2]
theorem B6d {p:Nat→Bool}{k:Nat}:∀ (n s:Nat),s≤k→k<s+n→(∀ j,s≤j→j<k→p j=false)→p k=true →
 (mI s n).filter p=k::(mI s n).filter (fun i=>p i&&decide (i≠k))
 | 0,s,h1,h2,_,_=>by omega
 | n+1,s,h1,h2,hl,hk=>by
   rw [List.range'_succ];by_cases h:s=k
   · subst h;simp only [jA,hk,if_true,ne_eq,not_true_eq_false,decide_false,Bool.and_false,aF,if_false];congr 1;apply mL;intro x hx
     have:=List.mem_range'_1.1 hx
     have:x≠s:=by omega
     simp [this]
   · have hs:p s=false:=hl s (au _) (by omega)
     simp only [jA,hs,Bool.false_and,aF,if_false];exact B6d n (s+1) (by omega) (by omega) (fun j a b=>hl j (by omega) b) hk
theorem C5E {m k:Nat}(h:k<32)(hk:m.testBit k=true)(hl:∀ j,j<k→m.testBit j=false):tJ m=k::tJ (m &&& (m-1)):=by
 unfold tJ;rw [lG];rw [B6d 32 0 (dq _) (by omega) (fun j _ b=>hl j b) hk]
 congr 2;funext i;exact (D1Z hk hl i).symm
end Go.Mid
namespace Go.Hg
def A2R (e s:Nat):Bool:=(e &&& s)==e
theorem gM {e s:Nat}:A2R e s=true↔∀ i,e.testBit i=true→s.testBit i=true:=by
 unfold A2R;rw [beq_iff_eq];constructor
 · intro h i hi;rw [← h,fK] at hi;simp at hi;exact hi.2
 · intro h;apply ec;intro i;rw [fK];cases he:e.testBit i with
   | false=>rfl
   | true=>rw [h i he];rfl
def less (a b:Nat):Nat:=a ^^^ (a &&& b)
theorem iL (a b i:Nat):(less a b).testBit i=(a.testBit i && !b.testBit i):=by
 unfold less;rw [Nat.testBit_xor,fK];cases a.testBit i<;>cases b.testBit i<;>rfl
theorem ei (v i:Nat):(1 <<< v).testBit i=decide (i=v):=by
 rw [eS,Nat.testBit_two_pow];exact decide_eq_decide.2 eq_comm
theorem og {s n i:Nat}(h:s<2 ^ n)(hi:n≤i):s.testBit i=false :=
 fW (br h (cN (by omega) hi))
theorem nB {s n:Nat}(h:∀ i,n≤i→s.testBit i=false):s<2 ^ n:=jF s h
def leaves:Nat→Nat→Nat→List Nat
 | 0,_,s=>[s]
 | k+1,v,s=>leaves k (v+1) (s ||| 1 <<< v)++leaves k (v+1) s
theorem DK:∀ {k v s t:Nat},t∈leaves k v s→∀ i,i<v→t.testBit i=s.testBit i
 | 0,v,s,t,h,i,hi=>by simp [leaves] at h;rw [h]
 | k+1,v,s,t,h,i,hi=>by
   simp only [leaves,ay] at h;rcases h with h | h
   · rw [DK h i (by omega),bQ,ei]
     have:i≠v:=by omega
     simp [this]
   · exact DK h i (by omega)
theorem Wg:∀ {k v s t:Nat},t∈leaves k v s→∀ i,s.testBit i=true→t.testBit i=true
 | 0,v,s,t,h,i,hi=>by simp [leaves] at h;rw [h];exact hi
 | k+1,v,s,t,h,i,hi=>by
   simp only [leaves,ay] at h;rcases h with h | h
   · exact Wg h i (by rw [bQ,hi];rfl)
   · exact Wg h i hi
theorem HV:∀ {k v s t:Nat},t∈leaves k v s→∀ i,v+k≤i→t.testBit i=s.testBit i
 | 0,v,s,t,h,i,hi=>by simp [leaves] at h;rw [h]
 | k+1,v,s,t,h,i,hi=>by
   simp only [leaves,ay] at h;rcases h with h | h
   · rw [HV h i (by omega),bQ,ei]
     have:i≠v:=by omega
     simp [this]
   · exact HV h i (by omega)
theorem Wh:∀ (k v s t:Nat),(∀ i,i<v→t.testBit i=s.testBit i)→(∀ i,v≤i→s.testBit i=false)→(∀ i,v+k≤i→t.testBit i=false)→t∈leaves k v s
 | 0,v,s,t,h1,h2,h3=>by
   simp only [leaves,aW];apply ec;intro i;by_cases hi:i<v
   · exact h1 i hi
   · rw [h2 i (by omega),h3 i (by omega)]
 | k+1,v,s,t,h1,h2,h3=>by
   simp only [leaves,ay];cases hv:t.testBit v with
   | true =>
     left;refine Wh k (v+1) _ t ?_ ?_ (fun i hi=>h3 i (by omega))
     · intro i hi;rw [bQ,ei];by_cases FY:i=v
       · subst FY;simp [hv]
       · simp [FY];exact h1 i (by omega)
     · intro i hi;rw [bQ,ei,h2 i (by omega)]
       have:i≠v:=by omega
       simp [this]
   | false =>
     right;refine Wh k (v+1) _ t ?_ (fun i hi=>h2 i (by omega)) (fun i hi=>h3 i (by omega))
     intro i hi;by_cases FY:i=v
     · subst FY;rw [hv,h2 i (by omega)]
     · exact h1 i (by omega)
def A3m (E:List Nat)(u m:Nat):Bool:=E.any fun e=>e.testBit u&&A2R (less e (1 <<< u)) m
def A3F (E:List Nat)(s:Nat):Bool:=E.any fun e=>A2R e s
def yr (E:List Nat)(n s:Nat):Bool:=!A3F E s&&(bp n).all fun u=>s.testBit u || A3m E u s
def later (k v:Nat):Nat:=(2 ^ k-1) <<< v
theorem qt (k v i:Nat):(later k v).testBit i=(decide (v≤i)&&decide (i<v+k)):=by
 unfold later;rw [Nat.testBit_shiftLeft,dU];by_cases h:v≤i
 · simp [h];omega
 · simp [h]
def B4K (E:List Nat)(k v fQ out:Nat):Bool:=(bp v).any fun u=>out.testBit u && !A3m E u (fQ ||| later k v)
def A6j (E:List Nat):Nat→Nat→Nat→Nat→List Nat
 | 0,v,fQ,out=>if B4K E 0 v fQ out then [] else [fQ]
 | k+1,v,fQ,out=>if B4K E (k+1) v fQ out then [] else
   (if A3F E (fQ ||| 1 <<< v) then [] else A6j E k (v+1) (fQ ||| 1 <<< v) out)++A6j E k (v+1) fQ (out ||| 1 <<< v)
theorem B6e {a b c:Nat}(h:A2R a b=true)(g:∀ i,b.testBit i=true→c.testBit i=true):A2R a c=true :=
 gM.2 fun i hi=>g i (gM.1 h i hi)
theorem C2t {E:List Nat}{u a b:Nat}(g:∀ i,a.testBit i=true→b.testBit i=true)(h:A3m E u a=true):A3m E u b=true:=by
 unfold A3m at h ⊢;rw [b6] at h ⊢;obtain ⟨e,he,h⟩:=h;simp only [ak] at h ⊢;exact ⟨e,he,h.1,B6e h.2 g⟩
theorem C5F {E:List Nat}{a b:Nat}(g:∀ i,a.testBit i=true→b.testBit i=true)(h:A3F E a=true):A3F E b=true:=by
 unfold A3F at h ⊢;rw [b6] at h ⊢;obtain ⟨e,he,h⟩:=h;exact ⟨e,he,B6e h g⟩
theorem C4F {E:List Nat}{k v fQ out:Nat}(ho:∀ u,u<v→out.testBit u=!fQ.testBit u)(hi:∀ i,v≤i→fQ.testBit i=false)(h:B4K E k v fQ out=true) :
 (leaves k v fQ).filter (yr E (v+k))=[]:=by
 rw [iH];intro t ht hm;unfold B4K at h;rw [b6] at h;obtain ⟨u,hu,h⟩:=h;simp only [bW] at hu;simp only [ak,dt] at h;unfold yr at hm;simp only [ak,bg,bW] at hm;have hm:=hm.2 u (by omega)
 have htu:t.testBit u=false:=by
  rw [DK ht u hu]
  have:=ho u hu
  rw [h.1] at this;simpa using this
 rw [htu,eN] at hm
 have:A3m E u (fQ ||| later k v)=true:=by
  refine C2t (fun i oS=>?_) hm
  rw [bQ,qt];by_cases hv:i<v
  · rw [DK ht i hv] at oS;rw [oS];rfl
  · by_cases hk:i<v+k
    · simp [hk];right;omega
    · rw [HV ht i (by omega),hi i (by omega)] at oS;cases oS
 rw [this] at h;cases h.2
theorem Wi (E:List Nat):∀ (k v fQ out:Nat),(∀ u,u<v→out.testBit u=!fQ.testBit u)→(∀ i,v≤i→fQ.testBit i=false)→(∀ i,v≤i→out.testBit i=false)→A3F E fQ=false →
 A6j E k v fQ out=(leaves k v fQ).filter (yr E (v+k))
 | 0,v,fQ,out,ho,hi,_,he=>by
   unfold A6j;split
   · rename_i h;exact (C4F ho hi h).symm
   · rename_i h;simp only [leaves];rw [ka,List.filter_nil];unfold yr;rw [he];simp only [dZ,cE,bg,bW,du];intro u hu;cases hb:fQ.testBit u with
     | true=>rfl
     | false =>
       have h2:=ho u hu;rw [hb] at h2;cases hk:A3m E u fQ with
       | true=>rfl
       | false =>
         exfalso;apply h;unfold B4K;rw [b6];refine ⟨u,bW.2 hu,?_⟩;have e:fQ ||| later 0 v=fQ:=by simp [later]
         rw [e,hk,h2];rfl
 | k+1,v,fQ,out,ho,hi,hz,he=>by
   unfold A6j;split
   · rename_i h;exact (C4F ho hi h).symm
   · simp only [leaves];rw [eI];have e:v+(k+1)=v+1+k:=by omega
     rw [e];have b1:∀ i,v+1≤i→(fQ ||| 1 <<< v).testBit i=false:=by
      intro i h;rw [bQ,ei,hi i (by omega)]
      have:i≠v:=by omega
      simp [this]
     congr 1
     · split
       · rename_i h
         symm
         rw [iH];intro t ht hm;unfold yr at hm;simp only [ak,dt] at hm;rw [C5F (Wg ht) h] at hm;cases hm.1
       · rename_i h;refine Wi E k (v+1) _ out ?_ b1 (fun i h=>hz i (by omega)) (by simpa using h)
         intro u hu;rw [bQ,ei];by_cases LX:u=v
         · subst LX;simp [hz u (au _)]
         · simp [LX];exact ho u (by omega)
     · refine Wi E k (v+1) fQ _ ?_ (fun i h=>hi i (by omega)) (fun i h=>by
        rw [bQ,ei,hz i (by omega)]
        have:i≠v:=by omega
        simp [this]) he
       intro u hu;rw [bQ,ei];by_cases LX:u=v
       · subst LX;simp [hi u (by omega)]
       · simp [LX];exact ho u (by omega)
section
variable {β:Type}
def idx (p:β→Bool):List β→Nat→Option Nat
 | [],_=>none
 | x::r,i=>if p x then some i else idx p r (i+1)
theorem Wj {p:β→Bool}:∀ {l:List β} {i k:Nat},idx p l i=some k→i≤k∧k<i+l.length∧(∃ h:k-i<l.length,p (l[k-i]'h)=true)∧∀ j (h:j<l.length),i+j<k→p l[j]=false
 | [],i,k,h=>by cases h
 | x::r,i,k,h=>by
   simp only [idx] at h;by_cases hp:p x=true
   · simp only [hp,if_true,Option.some.injEq] at h;subst h;refine ⟨au _,by simp,⟨by simp,by simpa using hp⟩,fun j _ hj=>by omega⟩
   · simp only [hp,if_false,aF] at h;obtain ⟨h1,h2,⟨h3,h4⟩,h5⟩:=Wj h;have e:k-i=(k-(i+1))+1:=by omega
     refine ⟨by omega,by simp;omega,⟨by simp;omega,?_⟩,?_⟩
     · simp only [e,fV];exact h4
     · intro j hj hjk;cases j with
       | zero=>simpa using hp
       | succ j=>simp only [fV];exact h5 j (by simpa using hj) (by omega)
theorem nC (p:β→Bool):∀ (l:List β) (i:Nat),(idx p l i).isSome=l.any p
 | [],_=>rfl
 | x::r,i=>by
   simp only [idx,gk];by_cases hp:p x=true
   · simp [hp]
   · simp only [hp,if_false,aF,eN];exact nC p r (i+1)
end
def A0y (a b:List Int):Bool:=a.all fun x=>b.contains x
def asc:List Int→Bool
 | a::b::r=>decide (a<b)&&asc (b::r)
 | _=>true
def bef:List Int→List Int→Option Bool
 | a::r,b::q=>if a=b then bef r q else some (decide (a<b))
 | _,_=>none
def before (a b:List Int):Bool:=match bef a b with | some t=>t | none=>decide (a.length<b.length)
def free (es:List (List Int))(l:List Int):Bool:=!es.any fun e=>A0y e l
def pick (v:List Int)(s:Nat):List Int:=((v.take 8).zipIdx.filter fun x=>s.testBit x.2).map (·.1)
def A5O (v:List Int)(es:List (List Int))(l:List Int):Bool:=asc l&&A0y l v&&free es l
def A0L (v:List Int)(es:List (List Int))(l:List Int):Bool:=A5O v es l&&v.all fun x=>l.contains x || !free es (l++[x])
def A3Q:Nat→List (List Int)→List (List Int)
 | 0,out=>out
 | k+1,out=>match out[k+1]?,out[k]? with
   | some x,some y=>if before x y then A3Q k ((out.set (k+1) y).set k x) else out
   | _,_=>out
theorem om:∀ (k:Nat) (out:List (List Int)),(A3Q k out).length=out.length
 | 0,_=>rfl
 | k+1,out=>by
   unfold A3Q;split
   · split
     · rw [om];simp
     · rfl
   · rfl
def A8B (ls:List (List Int))(i:Nat)(x:List Int):Bool:=(ls.zipIdx).all fun y=>!(A0y y.1 x&&(decide (y.1.length<x.length) || decide (y.2<i)))
def A4z (ls:List (List Int))(i:Nat)(x:List Int)(out:List (List Int)):List (List Int):=if A8B ls i x then A3Q out.length (out++[x]) else out
def A5h (ls:List (List Int)):List (List Int)→Nat→List (List Int)→List (List Int)
 | [],_,out=>out
 | x::r,i,out=>A5h ls r (i+1) (A4z ls i x out)
def A6k (ls:List (List Int)):List (List Int):=A5h ls ls 0 []
theorem B8k (ls:List (List Int))(i:Nat)(x:List Int)(out:List (List Int)):(A4z ls i x out).length≤out.length+1:=by
 unfold A4z;split
 · rw [om];simp
 · omega
def idsP (v:List Int)(s:Nat):List Int:=(v.zipIdx.filter fun x=>s.testBit x.2).map (·.1)
def A0o (v:List Int)(y:Int):Nat:=(idx (· == y) v 0).getD 0
theorem iM {v:List Int}{y:Int}(h:y∈v):A0o v y<v.length:=by
 have h2:=nC (· == y) v 0;have h3:v.any (· == y)=true:=by simp [h]
 rw [h3] at h2;unfold A0o;cases hk:idx (· == y) v 0 with
 | none=>rw [hk] at h2;cases h2
 | some k=>have:=Wj hk;simp;omega
def bitsFrom (v:List Int)(b:Nat)(e:List Int):Nat:=e.foldl (fun b y=>b ||| 1 <<< A0o v y) b
def A0z (v:List Int)(e:List Int):Nat:=bitsFrom v 0 e
theorem kC:∀ {l:List Int} {i j:Nat},asc l=true→(h:i<j)→(hj:j<l.length)→l[i]<l[j]
 | [],_,_,_,_,hj=>by simp at hj
 | [x],_,_,_,_,hj=>by simp at hj;omega
 | x::y::r,i,j,ha,h,hj=>by
   simp only [asc,ak,decide_eq_true_eq] at ha;cases i with
   | zero =>
     cases j with
     | zero=>omega
     | succ j =>
       simp only [List.getElem_cons_zero,fV];cases j with
       | zero=>exact ha.1
       | succ j=>exact p9 ha.1 (kC (l:=y::r) (i:=0) ha.2 (by omega) (by simpa using hj))
   | succ i =>
     cases j with
     | zero=>omega
     | succ j=>simpa using kC (l:=y::r) ha.2 (by omega) (by simpa using hj)
def A6l (v:List Int)(es:List (List Int))(i:Nat)(e:List Int):Bool:=!e.isEmpty&&asc e&&A0y e v&&(i==0 || before (es.getD (i-1) []) e)
def A4n (es:List (List Int))(i:Nat)(e:List Int):Bool:=es.zipIdx.any fun y=>y.2 != i&&A0y y.1 e
def A4Z (v:List Int)(es:List (List Int)):Bool:=asc v&&decide (es.length≤20000)&&(!(es.zipIdx.any fun x=>!A6l v es x.2 x.1) && !(es.zipIdx.any fun x=>A4n es x.2 x.1))
structure HOk (v:List Int)(es:List (List Int)):Prop where
 nv:v.length≤40
 ne:es.length≤20000
 el:∀ e∈es,e.length<9223372036854775808
 fQ:∀ e∈es,∀ y∈e,y∈v
def allS (v:List Int)(es:List (List Int)):List Nat:=A6j (es.map (A0z v)) v.length 0 0 0
def A5P (v:List Int)(es:List (List Int)):List (List Int):=(allS v es).map (idsP v)
def nD (v:List Int)(es:List (List Int))(out:List (List Int))(b:Nat):List (List Int) :=
 if A0L v es (idsP v b) then A3Q out.length (out++[idsP v b]) else out
def refR (v:List Int)(es:List (List Int)):List (List Int):=(bp (2 ^ v.length)).foldl (nD v es) []
def A1d (n:Nat):List Int:=(bp n).map fun (i:Nat)=>2+3*(i:Int)
theorem vU (n:Nat):A1d (n+1)=A1d n++[2+3*(n:Int)]:=by simp [A1d,iR]
@[simp] theorem lV (n:Nat):(A1d n).length=n:=by simp [A1d]
def A7E (V:List Int)(E:List Nat):List (List Int):=((E.take 12).map (pick V)).filter fun e=>!e.isEmpty
theorem uF (V:List Int)(s:Nat):(pick V s).length≤V.length:=by
 unfold pick;rw [aE];refine dI (dT _ _) ?_;simp;omega
def hEs (N:Nat)(E:List Nat):List (List Int):=A6k (A7E (A1d (N%9)) E)
def pV:List Int→List Int→Bool
 | [],[]=>false
 | [],_::_=>true
 | _::_,[]=>false
 | x::a,y::b=>if x=y then pV a b else decide (x<y)
theorem Wk:∀ a b:List Int,before a b=pV a b
 | [],[]=>rfl
 | [],_::_=>by simp [before,bef,pV]
 | _::_,[]=>by simp [before,bef,pV]
 | x::a,y::b=>by
   have ih:=Wk a b;simp only [before,bef,pV] at ih ⊢;by_cases h:x=y
   · simp only [h,if_true];rw [← ih];cases bef a b<;>simp
   · simp [h]
theorem HW:∀ a:List Int,pV a a=false
 | []=>rfl
 | x::a=>by simp [pV,HW a]
theorem Wl:∀ {a b c:List Int},pV a b=true→pV b c=true→pV a c=true
 | [],[],_,h,_=>by simp [pV] at h
 | [],_::_,[],_,h=>by simp [pV] at h
 | [],_::_,_::_,_,_=>rfl
 | _::_,[],_,h,_=>by simp [pV] at h
 | _::_,_::_,[],_,h=>by simp [pV] at h
 | x::a,y::b,z::c,h,g=>by
   simp only [pV] at h g ⊢;by_cases h1:x=y
   · subst h1;by_cases h2:x=z
     · subst h2;simp only [if_true] at h g ⊢;exact Wl h g
     · simp only [h2,if_false,if_true] at h g ⊢;exact g
   · by_cases h2:y=z
     · subst h2;simp only [h1,if_false,if_true] at h g ⊢;exact h
     · simp only [h1,h2,if_false,decide_eq_true_eq] at h g;have h3:¬ x=z:=by omega
       simp only [h3,if_false,decide_eq_true_eq];omega
theorem C4G:∀ {a b:List Int},pV a b=false→a≠b→pV b a=true
 | [],[],_,h=>absurd rfl h
 | [],_::_,h,_=>by simp [pV] at h
 | _::_,[],_,_=>rfl
 | x::a,y::b,h,eD=>by
   simp only [pV] at h ⊢;by_cases h1:x=y
   · subst h1;simp only [if_true] at h ⊢;exact C4G h fun e=>eD (by rw [e])
   · have h2:¬ y=x:=fun e=>h1 e.symm
     simp only [h1,if_false,decide_eq_false_iff_not] at h;simp only [h2,if_false,decide_eq_true_eq];omega
abbrev iU (l:List (List Int)):Prop:=l.Pairwise fun a b=>pV a b=true
theorem iU.ext:∀ {l m:List (List Int)},iU l→iU m→(∀ x,x∈l↔x∈m)→l=m
 | [],[],_,_,_=>rfl
 | [],y::m,_,_,h=>by have:=(h y).2 (by simp);simp at this
 | x::l,[],_,_,h=>by have:=(h x).1 (by simp);simp at this
 | x::l,y::m,hl,hm,h=>by
   rw [iU,bL] at hl hm;have vF:x=y:=by
    apply b4;intro eD;have h1:x∈m:=by
     have:=(h x).1 (by simp)
     rcases aM.1 this with e | e
     · exact absurd e eD
     · exact e
    have h2:y∈l:=by
     have:=(h y).2 (by simp)
     rcases aM.1 this with e | e
     · exact absurd e.symm eD
     · exact e
    have:=Wl (hl.1 y h2) (hm.1 x h1)
    rw [HW] at this;cases this
   subst vF;congr 1;refine iU.ext hl.2 hm.2 fun z=>?_
   constructor
   · intro hz
     have:=(h z).1 (by simp [hz])
     rcases aM.1 this with e | e
     · subst e;have:=hl.1 z hz;rw [HW] at this;cases this
     · exact e
   · intro hz
     have:=(h z).2 (by simp [hz])
     rcases aM.1 this with e | e
     · subst e;have:=hm.1 z hz;rw [HW] at this;cases this
     · exact e
theorem B7v:∀ (k:Nat) (P Q:List (List Int)) (x:List Int),P.length=k→iU (P++Q)→(∀ q∈Q,pV x q=true)→x∉P →
 iU (A3Q k (P++x::Q))∧(A3Q k (P++x::Q)).Perm (P++x::Q)
 | 0,P,Q,x,hk,hs,hq,_=>by
   have:P=[]:=List.eq_nil_of_length_eq_zero hk
   subst this;simp only [a7,A3Q] at hs ⊢;exact ⟨bL.2 ⟨hq,hs⟩,List.Perm.refl _⟩
 | k+1,P,Q,x,hk,hs,hq,hx=>by
   obtain ⟨P',p,rfl⟩:∃ P' p,P=P'++[p]:=by
    rcases List.eq_nil_or_concat P with h | ⟨P',p,h⟩
    · subst h;simp at hk
    · exact ⟨P',p,by simpa using h⟩
   have mV:P'.length=k:=by simpa using hk
   have e1:(P'++[p]++x::Q)[k+1]?=some x:=by
    rw [bG (by simp;omega)];simp [mV]
   have e2:(P'++[p]++x::Q)[k]?=some p:=by
    rw [bh,bG (by omega)];simp [mV]
   have e3:((P'++[p]++x::Q).set (k+1) p).set k x=P'++x::p::Q:=by
    subst mV;rw [bh,ez _ _ (by omega),ez _ _ (by omega)]
    simp
   unfold A3Q;rw [e1,e2];simp only;rw [Wk];by_cases hb:pV x p=true
   · rw [if_pos hb,e3];have Ek:iU (P'++p::Q):=by simpa using hs
     obtain ⟨h1,h2⟩:=B7v k P' (p::Q) x mV Ek (fun q hqm=>by
      rcases aM.1 hqm with e | e
      · subst e;exact hb
      · exact hq q e) (fun h=>hx (by simp [h]))
     refine ⟨h1,h2.trans ?_⟩;rw [bh];exact (List.Perm.swap p x Q).append_left P'
   · rw [if_neg hb];have hb:pV x p=false:=by simpa using hb
     have eD:x≠p:=fun e=>hx (by simp [e])
     have hpx:=C4G hb eD;refine ⟨?_,List.Perm.refl _⟩;rw [iU,cB] at hs;obtain ⟨h1,h2,h3⟩:=hs;rw [iU,cB];refine ⟨h1,bL.2 ⟨hq,h2⟩,fun a ha b hbm=>?_⟩
     have RA:pV a x=true:=by
      rcases ay.1 ha with h | h
      · rw [cB] at h1;exact Wl (h1.2.2 a h p (by simp)) hpx
      · simp at h;subst h;exact hpx
     rcases aM.1 hbm with e | e
     · subst e;exact RA
     · exact h3 a ha b e
theorem B9T (l:List (List Int)):∀ (out:List (List Int)),iU out→(out++l).Nodup→iU (l.foldl (fun out x=>A3Q out.length (out++[x])) out)∧∀ y,y∈l.foldl (fun out x=>A3Q out.length (out++[x])) out↔y∈out∨y∈l:=by
 induction l with
 | nil=>intro out hs _;exact ⟨hs,fun y=>by simp⟩
 | cons x l ih =>
   intro out hs hn;have hx:x∉out:=by
    intro h;rw [List.nodup_append] at hn;exact hn.2.2 x h x (by simp) rfl
   obtain ⟨h1,h2⟩:=B7v out.length out [] x rfl (by simpa using hs) (by simp) hx
   have AV:(A3Q out.length (out++[x])++l).Nodup:=by
    have:(A3Q out.length (out++[x])++l).Perm (out++x::l):=by
     refine (h2.append_right l).trans ?_;simp
    exact this.nodup_iff.2 hn
   obtain ⟨h3,h4⟩:=ih (A3Q out.length (out++[x])) h1 AV;simp only [gA];refine ⟨h3,fun y=>?_⟩
   rw [h4 y,h2.mem_iff];simp [or_assoc]
theorem gz {v:List Int}{y:Int}(h:y∈v):v[A0o v y]?=some y:=by
 have h2:=nC (· == y) v 0;have h3:v.any (· == y)=true:=by simp [h]
 rw [h3] at h2;unfold A0o;cases hk:idx (· == y) v 0 with
 | none=>rw [hk] at h2;cases h2
 | some k =>
   obtain ⟨_,_,⟨h4,h5⟩,_⟩:=Wj hk;simp only [gC] at h4 h5;simp only [bF];rw [af h4];simpa using h5
theorem mG {v:List Int}(ha:asc v=true){i j:Nat}(hi:i<v.length)(hj:j<v.length)(h:v[i]=v[j]):i=j:=by
 rcases Nat.lt_trichotomy i j with eC | he | FZ
 · have:=kC ha eC hj;omega
 · exact he
 · have:=kC ha FZ hi;omega
theorem Wm (v:List Int)(i:Nat):∀ (e:List Int) (b:Nat),(bitsFrom v b e).testBit i=(b.testBit i || e.any fun y=>A0o v y==i)
 | [],b=>by simp [bitsFrom]
 | y::e,b=>by
   have:=Wm v i e (b ||| 1 <<< A0o v y)
   simp only [bitsFrom,gA] at this ⊢;rw [this,bQ,ei,gk]
   have:decide (i=A0o v y)=(A0o v y==i):=by
    apply cn.2;simp;exact eq_comm
   rw [this,Bool.or_assoc]
theorem me {v e:List Int}(ha:asc v=true)(he:∀ y∈e,y∈v)(i:Nat)(hi:i<v.length):(A0z v e).testBit i=e.contains v[i]:=by
 unfold A0z;rw [Wm,dS,eN];apply cn.2;rw [b6,bB];constructor
 · rintro ⟨y,hy,hp⟩;simp only [beq_iff_eq] at hp
   have:=gz (he y hy)
   rw [hp,af hi] at this;rw [Option.some.inj this];exact hy
 · intro hm;refine ⟨v[i],hm,?_⟩
   have:=gz (he _ hm)
   obtain ⟨h1,h2⟩:=aL.1 this;simp only [beq_iff_eq];exact mG ha h1 hi h2
theorem qD {v e:List Int}(he:∀ y∈e,y∈v)(i:Nat)(hi:v.length≤i):(A0z v e).testBit i=false:=by
 unfold A0z;rw [Wm,dS,eN,fF];intro y hy
 have:=iM (he y hy)
 simp;omega
theorem mf {v:List Int}{s:Nat}{y:Int}:y∈idsP v s↔∃ i,∃ h:i<v.length,v[i]=y∧s.testBit i=true:=by
 unfold idsP;simp only [bj,cA,Prod.exists,exists_and_right,exists_eq_right];constructor
 · rintro ⟨i,h1,h2⟩;rw [iS] at h1;simp only at h1;obtain ⟨h3,h4⟩:=aL.1 h1;exact ⟨i,⟨h3,h4⟩,h2⟩
 · rintro ⟨i,⟨h,h1⟩,h2⟩;exact ⟨i,by rw [iS];simp [h,h1],h2⟩
theorem m8 {v:List Int}(ha:asc v=true){s i:Nat}(hi:i<v.length):(idsP v s).contains v[i]=s.testBit i:=by
 apply cn.2;rw [bB,mf];constructor
 · rintro ⟨j,hj,h1,h2⟩;rw [← mG ha hj hi h1];exact h2
 · intro h;exact ⟨i,hi,rfl,h⟩
def xH:List Int→Nat→Nat→List Int
 | [],_,_=>[]
 | x::r,o,s=>if s.testBit o then x::xH r (o+1) s else xH r (o+1) s
theorem Qg (s:Nat):∀ (v:List Int) (o:Nat),((v.zipIdx o).filter fun x=>s.testBit x.2).map (·.1)=xH v o s
 | [],_=>rfl
 | x::r,o=>by
   simp only [jy,xH];cases h:s.testBit o with
   | true=>simp [h,Qg s r (o+1)]
   | false=>simp [h,Qg s r (o+1)]
theorem Wn (v:List Int)(s:Nat):idsP v s=xH v 0 s:=Qg s v 0
theorem Qh (s:Nat):∀ (v:List Int) (o:Nat),(xH v o s).Sublist v
 | [],_=>List.Sublist.refl _
 | x::r,o=>by
   simp only [xH];split
   · exact (Qh s r (o+1)).cons_cons x
   · exact (Qh s r (o+1)).cons x
theorem jv {l:List Int}:asc l=true↔l.Pairwise (· < ·):=by
 constructor
 · intro h;rw [dH];intro i j hi hj gU;exact kC h gU hj
 · intro h;rw [dH] at h
   have:∀ i (h:i+1<l.length),l[i]<l[i+1]:=fun i hi=>h i (i+1) (by omega) hi (by omega)
   clear h
   induction l with
   | nil=>rfl
   | cons x l ih =>
     cases l with
     | nil=>rfl
     | cons y l =>
       simp only [asc,ak,decide_eq_true_eq];exact ⟨this 0 (by simp),ih fun i hi=>this (i+1) (by simpa using hi)⟩
theorem uG {v:List Int}(ha:asc v=true)(s:Nat):asc (idsP v s)=true:=by
 rw [Wn,jv];exact (jv.1 ha).sublist (Qh s v 0)
theorem C5G (v:List Int)(s:Nat):A0y (idsP v s) v=true:=by
 unfold A0y;rw [bg];intro y hy;obtain ⟨i,hi,rfl,_⟩:=mf.1 hy;simp
theorem within_iff {a b:List Int}:A0y a b=true↔∀ y∈a,y∈b:=by
 unfold A0y;rw [bg];simp
theorem Wo {v e:List Int}(ha:asc v=true)(he:∀ y∈e,y∈v)(s:Nat):A0y e (idsP v s)=A2R (A0z v e) s:=by
 apply cn.2;rw [within_iff,gM];constructor
 · intro h i hi;by_cases FY:i<v.length
   · rw [me ha he i FY] at hi
     have:=h v[i] (by simpa using hi)
     rw [← m8 ha FY];simpa using this
   · rw [qD he i (by omega)] at hi;cases hi
 · intro h y hy;obtain ⟨i,hi,rfl⟩:=gZ (he y hy)
   have:=h i (by rw [me ha he i hi];simpa using hy)
   rw [← m8 ha hi] at this;simpa using this
theorem C8m {v e:List Int}(ha:asc v=true)(he:∀ y∈e,y∈v)(s i:Nat)(hi:i<v.length):A0y e (idsP v s++[v[i]])=A2R (A0z v e) (s ||| 1 <<< i):=by
 rw [← Wo ha he];apply cn.2;rw [within_iff,within_iff];have key:∀ y,y∈idsP v s++[v[i]]↔y∈idsP v (s ||| 1 <<< i):=by
  intro y;rw [ay,mf,mf,aW];constructor
  · rintro (⟨j,hj,h1,h2⟩ | h)
    · exact ⟨j,hj,h1,by rw [bQ,h2];rfl⟩
    · exact ⟨i,hi,h.symm,by rw [bQ,ei];simp⟩
  · rintro ⟨j,hj,h1,h2⟩;rw [bQ,ei] at h2;by_cases vH:j=i
    · subst vH;right;exact h1.symm
    · left;exact ⟨j,hj,h1,by simpa [vH] using h2⟩
 exact ⟨fun h y hy=>(key y).1 (h y hy),fun h y hy=>(key y).2 (h y hy)⟩
structure LY (v:List Int)(es:List (List Int)):Prop where
 av:asc v=true
 fQ:∀ e∈es,∀ y∈e,y∈v
 ne:∀ e∈es,e ≠ []
section
variable {v:List Int}{es:List (List Int)}(G:LY v es)
include G
theorem C97 (s:Nat):free es (idsP v s)=!A3F (es.map (A0z v)) s:=by
 unfold free A3F;rw [List.any_map];congr 1;apply cn.2;rw [b6,b6];constructor
 · rintro ⟨e,he,h⟩;refine ⟨e,he,?_⟩;rw [Wo G.av (G.fQ e he)] at h;exact h
 · rintro ⟨e,he,h⟩;refine ⟨e,he,?_⟩;rw [Wo G.av (G.fQ e he)];exact h
theorem C4I (s:Nat):A0L v es (idsP v s)=yr (es.map (A0z v)) v.length s:=by
 unfold A0L yr A5O;rw [uG G.av,C5G,C97 G,cE,cE];cases hE:A3F (es.map (A0z v)) s with
 | true=>rfl
 | false =>
   simp only [dZ,cE];apply cn.2;rw [bg,bg];have key:∀ i (hi:i<v.length),((idsP v s).contains v[i] || !free es (idsP v s++[v[i]]))=(s.testBit i || A3m (es.map (A0z v)) i s):=by
    intro i hi;rw [m8 G.av hi];cases hb:s.testBit i with
    | true=>rfl
    | false =>
      rw [eN,eN];unfold free A3m;rw [Bool.not_not,List.any_map];apply cn.2;rw [b6,b6];have LZ:∀ e∈es,A0y e (idsP v s++[v[i]])=((A0z v e).testBit i&&A2R (less (A0z v e) (1 <<< i)) s):=by
       intro e he;rw [C8m G.av (G.fQ e he) s i hi];apply cn.2;rw [ak,gM,gM];constructor
       · intro h;have F0:(A0z v e).testBit i=true:=by
          cases hc:(A0z v e).testBit i with
          | true=>rfl
          | false =>
            exfalso
            have:A3F (es.map (A0z v)) s=true:=by
             unfold A3F;rw [b6];refine ⟨A0z v e,bj.2 ⟨e,he,rfl⟩,gM.2 fun j hj=>?_⟩
             have h1:=h j hj;rw [bQ,ei] at h1;by_cases vH:j=i
             · subst vH;rw [hc] at hj;cases hj
             · simpa [vH] using h1
            rw [hE] at this;cases this
         refine ⟨F0,fun j hj=>?_⟩
         rw [iL,ei] at hj;simp at hj;have h1:=h j hj.1;rw [bQ,ei] at h1;simpa [hj.2] using h1
       · rintro ⟨h1,h2⟩ j hj;rw [bQ,ei];by_cases vH:j=i
         · simp [vH]
         · rw [h2 j (by rw [iL,ei,hj];simp [vH])];rfl
      constructor
      · rintro ⟨e,he,h⟩;exact ⟨e,he,by rw [LZ e he] at h;exact h⟩
      · rintro ⟨e,he,h⟩;exact ⟨e,he,by rw [LZ e he];exact h⟩
   constructor
   · intro h i hi;have dN:i<v.length:=by simpa using hi
     rw [← key i dN];exact h v[i] (by simp)
   · intro h y hy;obtain ⟨i,hi,rfl⟩:=gZ hy;rw [key i hi];exact h i (by simpa using hi)
theorem C98:A3F (es.map (A0z v)) 0=false:=by
 unfold A3F;rw [fF];intro b hb h;obtain ⟨e,he,rfl⟩:=bj.1 hb;rw [gM] at h;cases e with
 | nil=>exact G.ne _ he rfl
 | cons y r =>
   obtain ⟨i,hi,hy⟩:=gZ (G.fQ _ he y (by simp))
   have:=h i (by rw [me G.av (G.fQ _ he) i hi,hy];simp)
   simp at this
theorem C6L:allS v es=(leaves v.length 0 0).filter (yr (es.map (A0z v)) v.length):=by
 unfold allS;rw [Wi _ _ _ _ _ (by intro u hu;omega) (by simp) (by simp) (C98 G),bS]
end
set_option linter.unusedSectionVars false
def first (s t:Nat):Prop:=∃ i,s.testBit i=true∧t.testBit i=false∧∀ j,j<i→s.testBit j=t.testBit j
theorem Wp:∀ (k v s:Nat),(∀ i,v≤i→s.testBit i=false)→(leaves k v s).Pairwise first
 | 0,v,s,_=>by simp [leaves]
 | k+1,v,s,hs=>by
   have tx:∀ i,v+1≤i→(s ||| 1 <<< v).testBit i=false:=by
    intro i hi;rw [bQ,ei,hs i (by omega)]
    have:i≠v:=by omega
    simp [this]
   simp only [leaves];rw [cB];refine ⟨Wp k (v+1) _ tx,Wp k (v+1) s fun i hi=>hs i (by omega),fun a ha b hb=>⟨v,?_,?_,?_⟩⟩
   · rw [DK ha v (by omega),bQ,ei];simp
   · rw [DK hb v (by omega)];exact hs v (au _)
   · intro j hj;rw [DK ha j (by omega),DK hb j (by omega),bQ,ei]
     have:j≠v:=by omega
     simp [this]
theorem B9U (s t i:Nat):∀ (v:List Int) (o:Nat),v.Pairwise (· < ·)→o≤i→i<o+v.length→s.testBit i=true→t.testBit i=false→(∀ j,o≤j→j<i→s.testBit j=t.testBit j)→(∃ j,i<j∧j<o+v.length∧t.testBit j=true)→pV (xH v o s) (xH v o t)=true
 | [],o,_,h1,h2,_,_,_,_=>by simp at h2;omega
 | x::r,o,hp,h1,h2,h3,h4,h5,h6=>by
   rw [bL] at hp;by_cases ho:o=i
   · subst ho;simp only [xH,h3,h4,if_true,aF,if_false];obtain ⟨j,hj1,hj2,hj3⟩:=h6;have hm:∃ y,y∈xH r (o+1) t:=by
      rw [← Qg];simp only [bf] at hj2;refine ⟨r[j-(o+1)]'(by omega),?_⟩
      rw [bj];refine ⟨(r[j-(o+1)]'(by omega),j),?_,rfl⟩
      rw [cA];refine ⟨?_,hj3⟩;rw [List.mem_zipIdx_iff_le_and_getElem?_sub];exact ⟨by omega,by simp⟩
     cases hc:xH r (o+1) t with
     | nil=>obtain ⟨y,hy⟩:=hm;rw [hc] at hy;cases hy
     | cons c q =>
       have:c∈r:=(Qh t r (o+1)).subset (by rw [hc];simp)
       have eC:=hp.1 c this;have eD:¬ x=c:=by omega
       simp only [pV,eD,if_false,decide_eq_true_eq];exact eC
   · simp only [bf] at h2;have ih:=B9U s t i r (o+1) hp.2 (by omega) (by omega) h3 h4 (fun j hj1 hj2=>h5 j (by omega) hj2) (by
      obtain ⟨j,hj1,hj2,hj3⟩:=h6;exact ⟨j,hj1,by simp only [bf] at hj2;omega,hj3⟩)
     have he:=h5 o (au _) (by omega)
     simp only [xH,he];split
     · simp only [pV,if_true];exact ih
     · exact ih
section
variable {v:List Int}{es:List (List Int)}(G:LY v es)
include G
theorem C99 {s t:Nat}(hs:yr (es.map (A0z v)) v.length s=true)(ht:yr (es.map (A0z v)) v.length t=true)(tG:s<2 ^ v.length)(htl:t<2 ^ v.length)(h:first s t):pV (idsP v s) (idsP v t)=true:=by
 obtain ⟨i,h1,h2,h3⟩:=h;have hi:i<v.length:=by
  apply b4;intro hn;rw [og tG (by omega)] at h1;cases h1
 rw [Wn,Wn];refine B9U s t i v 0 (jv.1 G.av) (by omega) (by omega) h1 h2 (fun j _ hj=>h3 j hj) ?_
 apply b4;intro mF;have mF:∀ j,i<j→t.testBit j=false:=by
  intro j hj;cases hb:t.testBit j with
  | false=>rfl
  | true =>
    exfalso;apply mF;refine ⟨j,hj,?_,hb⟩;apply b4;intro hn;rw [og htl (by omega)] at hb;cases hb
 unfold yr at hs ht;rw [ak] at hs ht;have hb:=bg.1 ht.2 i (by simpa using hi)
 rw [h2,eN] at hb;unfold A3m at hb;rw [b6] at hb;obtain ⟨e,he,hb⟩:=hb;rw [ak] at hb
 have:A3F (es.map (A0z v)) s=true:=by
  unfold A3F;rw [b6];refine ⟨e,he,gM.2 fun j hj=>?_⟩
  by_cases vH:j=i
  · subst vH;exact h1
  · have Wq:=gM.1 hb.2 j (by rw [iL,ei,hj];simp [vH])
    rcases Nat.lt_or_gt_of_ne vH with eC | FZ
    · rw [h3 j eC];exact Wq
    · rw [mF j FZ] at Wq;cases Wq
 rw [this] at hs;simp at hs
theorem C2u:(allS v es).Pairwise fun s t=>pV (idsP v s) (idsP v t)=true:=by
 rw [C6L G];have h:=Wp v.length 0 0 (by simp)
 have h2:((leaves v.length 0 0).filter (yr (es.map (A0z v)) v.length)).Pairwise first:=h.filter _
 refine jX ?_ h2;intro s t hs ht hf;rw [cA] at hs ht;refine C99 G hs.2 ht.2 ?_ ?_ hf
 · exact nB fun i hi=>by rw [HV hs.1 i (by omega),dS]
 · exact nB fun i hi=>by rw [HV ht.1 i (by omega),dS]
theorem C4J:iU (A5P v es):=by
 unfold A5P;rw [iU,ep];exact C2u G
theorem rB {s:Nat}:s∈allS v es↔s<2 ^ v.length∧A0L v es (idsP v s)=true:=by
 rw [C6L G,cA,← C4I G];constructor
 · rintro ⟨h1,h2⟩;exact ⟨nB fun i hi=>by rw [HV h1 i (by omega),dS],h2⟩
 · rintro ⟨h1,h2⟩;exact ⟨Wh _ _ _ _ (by intro i hi;omega) (by simp) (fun i hi=>og h1 (by omega)),h2⟩
theorem D0a {l:List Int}:l∈A5P v es↔∃ s,s<2 ^ v.length∧idsP v s=l∧A0L v es l=true:=by
 unfold A5P;rw [bj];constructor
 · rintro ⟨s,h1,rfl⟩;obtain ⟨h2,h3⟩:=(rB G).1 h1;exact ⟨s,h2,rfl,h3⟩
 · rintro ⟨s,h1,rfl,h2⟩;exact ⟨s,(rB G).2 ⟨h1,h2⟩,rfl⟩
theorem D10 {s t:Nat}(hs:s<2 ^ v.length)(ht:t<2 ^ v.length)(h:idsP v s=idsP v t):s=t:=by
 apply ec;intro i;by_cases hi:i<v.length
 · rw [← m8 G.av hi,← m8 G.av hi,h]
 · rw [og hs (by omega),og ht (by omega)]
theorem C4K:refR v es=(((bp (2 ^ v.length)).map (idsP v)).filter (A0L v es)).foldl (fun out x=>A3Q out.length (out++[x])) []:=by
 unfold refR;generalize bp (2 ^ v.length)=l
 suffices ∀ (l:List Nat) (a:List (List Int)),l.foldl (nD v es) a=((l.map (idsP v)).filter (A0L v es)).foldl (fun out x=>A3Q out.length (out++[x])) a from this l []
 intro l
 induction l with
 | nil=>intro a;rfl
 | cons b l ih =>
   intro a;simp only [gA,aH];rw [ih];unfold nD;cases hm:A0L v es (idsP v b) with
   | true=>rw [ka (by simpa using hm)];rfl
   | false=>rw [List.filter_cons_of_neg (by simp [hm])];rfl
theorem qu:iU (refR v es)∧∀ l,l∈refR v es↔∃ s,s<2 ^ v.length∧idsP v s=l∧A0L v es l=true:=by
 rw [C4K G];have hn:(((bp (2 ^ v.length)).map (idsP v)).filter (A0L v es)).Nodup:=by
  refine jq _ ?_;rw [ep];refine jX ?_ List.nodup_range;intro a b ha hb eD he;exact eD (D10 G (by simpa using ha) (by simpa using hb) he)
 obtain ⟨h1,h2⟩:=B9T _ [] (by simp) (by simpa using hn)
 refine ⟨h1,fun l=>?_⟩
 rw [h2 l];simp only [ni,false_or,cA,bj,bW];constructor
 · rintro ⟨⟨s,hs,rfl⟩,hm⟩;exact ⟨s,hs,rfl,hm⟩
 · rintro ⟨s,hs,rfl,hm⟩;exact ⟨⟨s,hs,rfl⟩,hm⟩
theorem z8:A5P v es=refR v es :=
 iU.ext (C4J G) (qu G).1 fun l=>by rw [D0a G,(qu G).2 l]
end
def Bh (ls:List (List Int)):List (List Int):=(ls.zipIdx.filter fun x=>A8B ls x.2 x.1).map (·.1)
theorem C8n (ls:List (List Int)):A6k ls=(Bh ls).foldl (fun out x=>A3Q out.length (out++[x])) []:=by
 unfold A6k Bh
 suffices ∀ (r:List (List Int)) (i:Nat) (a:List (List Int)),A5h ls r i a=(((r.zipIdx i).filter fun x=>A8B ls x.2 x.1).map (·.1)).foldl (fun out x=>A3Q out.length (out++[x])) a from this ls 0 []
 intro r
 induction r with
 | nil=>intro i a;rfl
 | cons x r ih =>
   intro i a;simp only [A5h,jy,ih,A4z];cases hk:A8B ls i x with
   | true=>rw [ka (by simpa using hk)];rfl
   | false=>rw [List.filter_cons_of_neg (by simp [hk])];rfl
theorem qZ:∀ {a b:List Int},a.Pairwise (· < ·)→b.Pairwise (· < ·)→(∀ x,x∈a↔x∈b)→a=b
 | [],[],_,_,_=>rfl
 | [],y::m,_,_,h=>by have:=(h y).2 (by simp);simp at this
 | x::l,[],_,_,h=>by have:=(h x).1 (by simp);simp at this
 | x::l,y::m,hl,hm,h=>by
   rw [bL] at hl hm;have vF:x=y:=by
    apply b4;intro eD;have h1:x∈m:=by
     rcases aM.1 ((h x).1 (by simp)) with e | e
     · exact absurd e eD
     · exact e
    have h2:y∈l:=by
     rcases aM.1 ((h y).2 (by simp)) with e | e
     · exact absurd e.symm eD
     · exact e
    have:=hl.1 y h2
    have:=hm.1 x h1
    omega
   subst vF;congr 1;refine qZ hl.2 hm.2 fun z=>?_
   constructor
   · intro hz;rcases aM.1 ((h z).1 (by simp [hz])) with e | e
     · subst e;have:=hl.1 z hz;omega
     · exact e
   · intro hz;rcases aM.1 ((h z).2 (by simp [hz])) with e | e
     · subst e;have:=hm.1 z hz;omega
     · exact e
theorem mH:∀ {b a:List Int},a.Pairwise (· < ·)→b.Pairwise (· < ·)→(∀ x∈a,x∈b)→a.Sublist b
 | [],[],_,_,_=>List.Sublist.refl _
 | [],x::a,_,_,h=>by have:=h x (by simp);simp at this
 | y::b,[],_,_,_=>List.nil_sublist _
 | y::b,x::a,ha,hb,h=>by
   have ha':=ha;rw [bL] at ha hb;by_cases vF:x=y
   · subst vF;refine (mH ha.2 hb.2 fun z hz=>?_).cons_cons x
     rcases aM.1 (h z (by simp [hz])) with e | e
     · subst e;have:=ha.1 z hz;omega
     · exact e
   · have hx:x∈b:=by
      rcases aM.1 (h x (by simp)) with e | e
      · exact absurd e vF
      · exact e
     have ZG:=hb.1 x hx;refine (mH ha' hb.2 fun z hz=>?_).cons y
     rcases aM.1 (h z hz) with e | e
     · subst e;rcases aM.1 hz with e | e
       · omega
       · have:=ha.1 z e;omega
     · exact e
theorem D0b {a b:List Int}(ha:asc a=true)(hb:asc b=true)(h:A0y a b=true)(hl:b.length≤a.length):a=b:=by
 rw [jv] at ha hb;rw [within_iff] at h;exact (mH ha hb h).eq_of_length_le hl
theorem lp {α:Type}{l:List α}{x:α}{i:Nat}:(x,i)∈l.zipIdx↔∃ h:i<l.length,l[i]=x:=by
 rw [iS];simp only;rw [aL]
theorem C4L {ls:List (List Int)}{i:Nat}{x:List Int}(h:A8B ls i x=true){k:Nat}(hk:k<ls.length):A0y ls[k] x=true→x.length≤ls[k].length∧i≤k:=by
 intro hw;unfold A8B at h;rw [bg] at h
 have:=h (ls[k],k) (lp.2 ⟨hk,rfl⟩)
 simp only [hw,cE,dt,Bool.or_eq_false_iff,decide_eq_false_iff_not] at this;omega
theorem C2c {ls:List (List Int)}(qv:∀ e∈ls,asc e=true){i j:Nat}(hi:i<ls.length)(hj:j<ls.length)(ki:A8B ls i ls[i]=true)(kj:A8B ls j ls[j]=true)(hw:A0y ls[j] ls[i]=true):i=j:=by
 have h1:=C4L ki hj hw;have he:=D0b (qv _ (by simp)) (qv _ (by simp)) hw h1.1
 have h2:=C4L kj hi (by rw [he];exact within_iff.2 fun _ h=>h)
 omega
theorem Ws {ls:List (List Int)}(qv:∀ e∈ls,asc e=true):(Bh ls).Pairwise fun a b=>A0y a b=false∧A0y b a=false:=by
 unfold Bh;rw [ep];refine jX (R:=fun a b=>a.2≠b.2) ?_ (jq _ ?_)
 · rintro ⟨a,i⟩ ⟨b,j⟩ ha hb eD;rw [cA] at ha hb;obtain ⟨hi,rfl⟩:=lp.1 ha.1;obtain ⟨hj,rfl⟩:=lp.1 hb.1;simp only at ha hb eD ⊢;constructor
   · cases hw:A0y ls[i] ls[j] with
     | false=>rfl
     | true=>exact absurd (C2c qv hj hi hb.2 ha.2 hw).symm eD
   · cases hw:A0y ls[j] ls[i] with
     | false=>rfl
     | true=>exact absurd (C2c qv hi hj ha.2 hb.2 hw) eD
 · rw [dH];intro i j hi hj gU;simp;omega
theorem C5H (a:List Int):A0y a a=true:=within_iff.2 fun _ h=>h
theorem Wt {ls:List (List Int)}(qv:∀ e∈ls,asc e=true):iU (A6k ls)∧∀ y,y∈A6k ls↔y∈Bh ls:=by
 rw [C8n];have hn:(Bh ls).Nodup:=(Ws qv).imp fun h e=>by
  subst e;rw [C5H] at h;cases h.1
 obtain ⟨h1,h2⟩:=B9T (Bh ls) [] (by simp) (by simpa using hn)
 exact ⟨h1,fun y=>by rw [h2 y];simp⟩
theorem D0c {ls:List (List Int)}{y:List Int}(h:y∈Bh ls):y∈ls:=by
 unfold Bh at h;rw [bj] at h;obtain ⟨⟨x,i⟩,h1,rfl⟩:=h;rw [cA] at h1;obtain ⟨hi,rfl⟩:=lp.1 h1.1;simp
theorem C8o {ls:List (List Int)}(qv:∀ e∈ls,asc e=true){a b:List Int}(ha:a∈A6k ls)(hb:b∈A6k ls)(hw:A0y a b=true):a=b:=by
 rw [(Wt qv).2] at ha hb;apply b4;intro eD;rcases List.Pairwise.forall_of_forall_of_flip (R:=fun a b=>a≠b→A0y a b=false) (l:=Bh ls) (by intro x _ h;exact absurd rfl h) ((Ws qv).imp fun h _=>h.1) ((Ws qv).imp fun h _=>h.2) ha hb with h
 rw [h eD] at hw;cases hw
theorem C4M (ls:List (List Int)):(A6k ls).length≤ls.length:=by
 unfold A6k
 suffices ∀ (r:List (List Int)) (i:Nat) (a:List (List Int)),(A5h ls r i a).length≤a.length+r.length by simpa using this ls 0 []
 intro r
 induction r with
 | nil=>intro i a;simp [A5h]
 | cons x r ih =>
   intro i a;simp only [A5h,bf]
   have:=ih (i+1) (A4z ls i x a)
   have:=B8k ls i x a
   omega
theorem D0d {v:List Int}{es:List (List Int)}(G:LY v es)(he:∀ e∈es,asc e=true)(hl:es.length≤20000)(hs:iU es)(L0:∀ a∈es,∀ b∈es,A0y a b=true→a=b):A4Z v es=true:=by
 unfold A4Z;rw [G.av,cE];simp only [hl,decide_true,cE,ak,dt];constructor
 · rw [fF];rintro ⟨e,i⟩ hm;obtain ⟨hi,rfl⟩:=lp.1 hm;simp only [dt,Bool.not_eq_false];unfold A6l;have h1:es[i].isEmpty=false:=by
    have:=G.ne es[i] (by simp)
    simpa using this
   have h2:A0y es[i] v=true:=within_iff.2 (G.fQ _ (by simp))
   rw [h1,he _ (by simp),h2]
   cases i with
   | zero=>rfl
   | succ i =>
     have e:es.getD (i+1-1) []=es[i]:=by simp [List.getD,show i<es.length by omega]
     rw [e,Wk,dH.1 hs i (i+1) (by omega) hi (by omega)]
     rfl
 · rw [fF];rintro ⟨e,i⟩ hm;obtain ⟨hi,rfl⟩:=lp.1 hm;simp only [Bool.not_eq_true];unfold A4n;rw [fF];rintro ⟨y,k⟩ L1;obtain ⟨hk,rfl⟩:=lp.1 L1;simp only [ak,bne_iff_ne,ne_eq,not_and];intro eD hw
   have:=L0 _ (by simp) _ (by simp) hw
   rcases Nat.lt_or_gt_of_ne eD with h | h
   · have h2:=dH.1 hs k i hk hi h;rw [this,HW] at h2;cases h2
   · have h2:=dH.1 hs i k hi hk h;rw [this,HW] at h2;cases h2
theorem C2d (n:Nat):asc (A1d n)=true:=by
 rw [jv];unfold A1d;rw [ep];exact List.pairwise_lt_range.imp fun h=>by omega
theorem C4N (V:List Int)(s:Nat):(pick V s).Sublist V:=by
 unfold pick;have h1:(((V.take 8).zipIdx.filter fun x=>s.testBit x.2).map (·.1)).Sublist ((V.take 8).zipIdx.map (·.1)):=List.filter_sublist.map _
 rw [List.zipIdx_map_fst] at h1;exact h1.trans (List.take_sublist 8 V)
theorem oL {V:List Int}{E:List Nat}{e:List Int}(h:e∈A7E V E):e ≠ []∧∃ s,e=pick V s:=by
 unfold A7E at h;rw [cA,bj] at h;obtain ⟨⟨s,_,rfl⟩,h2⟩:=h;exact ⟨by simpa using h2,s,rfl⟩
section
variable (N:Nat)(E:List Nat)
theorem m9:∀ e∈A7E (A1d (N%9)) E,asc e=true:=by
 intro e he;obtain ⟨_,s,rfl⟩:=oL he;exact jv.2 ((jv.1 (C2d _)).sublist (C4N _ _))
theorem pW {e:List Int}(h:e∈hEs N E):e∈A7E (A1d (N%9)) E:=by
 unfold hEs at h;rw [(Wt (m9 N E)).2] at h;exact D0c h
theorem DL:LY (A1d (N%9)) (hEs N E) where
 av:=C2d _
 fQ:=fun e he y hy=>by
  obtain ⟨_,s,rfl⟩:=oL (pW N E he);exact (C4N _ _).subset hy
 ne:=fun e he=>(oL (pW N E he)).1
theorem pX:(A7E (A1d (N%9)) E).length≤12:=by
 unfold A7E;refine dI (dT _ _) ?_;simp;omega
theorem pt:(hEs N E).length≤12:=dI (C4M _) (pX N E)
theorem xI:A4Z (A1d (N%9)) (hEs N E)=true:=by
 refine D0d (DL N E) (fun e he=>m9 N E e (pW N E he)) (by have:=pt N E;omega) (Wt (m9 N E)).1 ?_
 intro a ha b hb hw;exact C8o (m9 N E) ha hb hw
end
def grow (E:List Nat)(s u:Nat):Nat:=if A3F E (s ||| 1 <<< u) then s else s ||| 1 <<< u
end Go.Hg
namespace Go.Hg
abbrev PrV:=List (Int×Int)
def nbB (es:List (List Int))(a b:Int):Bool:=decide (a≠b)&&es.contains [min a b,max a b]
def A8f (es:List (List Int))(a:Int):Bool:=es.contains [a]
def A3f (p:PrV)(a b:Int):Bool:=p.contains (a,b)
def A7F (p:PrV)(l:List Int)(x:Int):Bool:=!(l.any fun y=>A3f p y x)
def B6f (v:List Int)(es:List (List Int)):List Int:=v.filter fun x=>!A8f es x
def B0H (es:List (List Int))(rest:List Int)(x:Int):List Int:=rest.filter fun y=>decide (y≠x) && !nbB es y x
theorem rC (es:List (List Int))(a b:Int):nbB es a b=nbB es b a:=by
 unfold nbB;rw [Int.min_comm,Int.max_comm];by_cases h:a=b<;>simp [h,eq_comm]
theorem D0e {p:PrV}{l:List Int}{x:Int}:A7F p l x=true↔∀ y∈l,A3f p y x=false:=by
 unfold A7F;simp
theorem Qi {es:List (List Int)}{rest:List Int}{x y:Int}:y∈B0H es rest x↔y∈rest∧y≠x∧nbB es y x=false:=by
 unfold B0H;simp
inductive Run (es:List (List Int)) (p:PrV):List Int→List Int→Prop
 | nil:Run es p [] []
 | cons {rest ks:List Int} {x:Int}:x∈rest→A7F p rest x=true→Run es p (B0H es rest x) ks→Run es p rest (x::ks)
section
variable {es:List (List Int)}{p:PrV}
theorem Run.sub:∀ {ks rest:List Int},Run es p rest ks→∀ k∈ks,k∈rest
 | [],_,_,k,hk=>by cases hk
 | y::ks,rest,h,k,hk=>by
   cases h with
   | cons hy hb h =>
     rcases aM.1 hk with rfl | hk
     · exact hy
     · exact (Qi.1 (Run.sub h k hk)).1
theorem Run.ind:∀ {ks rest:List Int},Run es p rest ks→∀ a∈ks,∀ b∈ks,nbB es a b=false
 | [],_,_,k,hk=>by cases hk
 | y::ks,rest,h,a,ha=>by
   intro b jt;cases h with
   | cons hy hb h =>
     rcases aM.1 ha with ea | Cx
     · rcases aM.1 jt with eb | n8
       · subst ea;subst eb;simp [nbB]
       · subst ea;rw [rC];exact (Qi.1 (Run.sub h b n8)).2.2
     · rcases aM.1 jt with eb | n8
       · subst eb;exact (Qi.1 (Run.sub h a Cx)).2.2
       · exact Run.ind h a Cx b n8
theorem Run.Wu:∀ {ks rest:List Int},Run es p rest ks→∀ y∈rest,y∉ks→∃ k∈ks,nbB es y k=true
 | [],rest,h,y,hy=>by cases h;cases hy
 | x::ks,rest,h,y,hy=>by
   intro hn;cases h with
   | cons hx hb h =>
     have h1:y≠x:=fun e=>hn (e ▸ gu)
     cases hc:nbB es y x with
     | true=>exact ⟨x,gu,hc⟩
     | false =>
       obtain ⟨k,hk,e⟩:=Run.Wu h y (Qi.2 ⟨hy,h1,hc⟩) (fun hh=>hn (bU _ hh))
       exact ⟨k,bU _ hk,e⟩
def pickL (p:PrV)(r rest:List Int):Option Int:=rest.find? fun x=>r.contains x&&A7F p rest x
def C8p (es:List (List Int))(p:PrV)(r:List Int):Nat→List Int→List Int×Bool
 | 0,rest=>([],rest.isEmpty)
 | n+1,rest=>match pickL p r rest with
   | some x=>let q:=C8p es p r n (B0H es rest x);(x::q.1,q.2)
   | none=>([],rest.isEmpty)
def Acy (p:PrV):Prop:=∃ f:Int→Nat,∀ q∈p,f q.1<f q.2
theorem Aa (h:Acy p):∀ rest:List Int,rest ≠ []→∃ x∈rest,A7F p rest x=true:=by
 obtain ⟨f,hf⟩:=h;intro rest eD
 have:∀ l:List Int,l ≠ []→∃ x∈l,∀ y∈l,f x≤f y:=by
  intro l
  induction l with
  | nil=>intro h;exact absurd rfl h
  | cons a l ih =>
    intro _;by_cases e:l=[]
    · subst e;exact ⟨a,gu,fun y hy=>by simp at hy;subst hy;exact au _⟩
    · obtain ⟨x,hx,hm⟩:=ih e;by_cases hc:f a≤f x
      · refine ⟨a,gu,fun y hy=>?_⟩
        rcases aM.1 hy with rfl | hy
        · exact au _
        · exact dI hc (hm y hy)
      · refine ⟨x,bU _ hx,fun y hy=>?_⟩
        rcases aM.1 hy with rfl | hy
        · omega
        · exact hm y hy
 obtain ⟨x,hx,hm⟩:=this rest eD;refine ⟨x,hx,D0e.2 fun y hy=>?_⟩
 cases hb:A3f p y x with
 | false=>rfl
 | true =>
   have h1:=hf _ (bB.1 hb);have h2:=hm y hy;simp only at h1;omega
end
structure Gr (v:List Int)(es:List (List Int)):Prop where
 kQ:LY v es
 asc:∀ e∈es,Go.Hg.asc e=true
 two:∀ e∈es,e.length≤2
structure Rep (v:List Int)(es:List (List Int))(l:List Int):Prop where
 asc:asc l=true
 sub:∀ x∈l,x∈v
 own:∀ x∈l,A8f es x=false
 ind:∀ a∈l,∀ b∈l,nbB es a b=false
 Wu:∀ x∈v,x∉l→A8f es x=false→∃ y∈l,nbB es x y=true
section
variable {v:List Int}{es:List (List Int)}
theorem Gr.cases (G:Gr v es){e:List Int}(he:e∈es):(∃ a,e=[a]∧A8f es a=true)∨∃ a b,e=[a,b]∧a<b∧nbB es a b=true:=by
 have h1:=G.kQ.ne e he;have h2:=G.two e he;have h3:=G.asc e he
 match e,h1,h2,h3 with
 | [],h,_,_=>exact absurd rfl h
 | [a],_,_,_=>exact .inl ⟨a,rfl,bB.2 he⟩
 | [a,b],_,_,h =>
   have s0:a<b:=by simpa [Go.Hg.asc] using h
   exact .inr ⟨a,b,rfl,s0,by
    unfold nbB;rw [nQ (by omega),nj (by omega)]
    simp only [ak,decide_eq_true_eq];exact ⟨by omega,bB.2 he⟩⟩
 | _::_::_::_,_,h,_=>exact absurd h (by simp)
theorem Gr.free (G:Gr v es){l:List Int}:free es l=true↔(∀ x∈l,A8f es x=false)∧∀ a∈l,∀ b∈l,nbB es a b=false:=by
 unfold Go.Hg.free;constructor
 · intro h;have hn:∀ e∈es,¬ (∀ y∈e,y∈l):=by
    intro e he hw
    have:(es.any fun e=>A0y e l)=true:=b6.2 ⟨e,he,within_iff.2 hw⟩
    rw [this] at h;cases h
   refine ⟨fun x hx=>?_,fun a ha b hb=>?_⟩
   · cases hc:A8f es x with
     | false=>rfl
     | true=>exact absurd (fun y hy=>by simp at hy;subst hy;exact hx) (hn _ (bB.1 hc))
   · cases hc:nbB es a b with
     | false=>rfl
     | true =>
       unfold nbB at hc;simp only [ak] at hc;refine absurd (fun y hy=>?_) (hn _ (bB.1 hc.2))
       simp only [aM,ni,or_false] at hy;rcases hy with rfl | rfl
       · rcases Int.le_total a b with h | h
         · rw [nQ h];exact ha
         · rw [Int.min_eq_right h];exact hb
       · rcases Int.le_total a b with h | h
         · rw [nj h];exact hb
         · rw [Int.max_eq_left h];exact ha
 · rintro ⟨h1,h2⟩;cases hc:(es.any fun e=>A0y e l) with
   | false=>rfl
   | true =>
     obtain ⟨e,he,hw⟩:=b6.1 hc;have hw:=within_iff.1 hw;rcases G.cases he with ⟨a,rfl,ho⟩ | ⟨a,b,rfl,s0,hn⟩
     · rw [h1 a (hw a (by simp))] at ho;cases ho
     · rw [h2 a (hw a (by simp)) b (hw b (by simp))] at hn;cases hn
theorem uH (G:Gr v es){l:List Int}:A0L v es l=true↔Rep v es l:=by
 unfold A0L A5O;simp only [ak,bg,Bool.or_eq_true,dt,bB];constructor
 · rintro ⟨⟨⟨h1,h2⟩,h3⟩,h4⟩;obtain ⟨f1,f2⟩:=G.free.1 h3;refine ⟨h1,within_iff.1 h2,f1,f2,fun x hx hn ho=>?_⟩
   rcases h4 x hx with h | h
   · exact absurd h hn
   · refine b4 fun hc=>?_
     have xl:∀ y∈l,nbB es x y=false:=fun y hy=>by
      cases e:nbB es x y with
      | false=>rfl
      | true=>exact absurd ⟨y,hy,e⟩ hc
     have:free es (l++[x])=true:=by
      refine G.free.2 ⟨fun z hz=>?_,fun a ha b hb=>?_⟩
      · rcases ay.1 hz with hz | hz
        · exact f1 z hz
        · simp at hz;subst hz;exact ho
      · rcases ay.1 ha with Cx | Cx
        · rcases ay.1 hb with n8 | n8
          · exact f2 a Cx b n8
          · have eb:b=x:=by simpa using n8
            rw [eb,rC];exact xl a Cx
        · have ea:a=x:=by simpa using Cx
          rcases ay.1 hb with n8 | n8
          · rw [ea];exact xl b n8
          · have eb:b=x:=by simpa using n8
            rw [ea,eb];simp [nbB]
     rw [this] at h;cases h
 · intro R;refine ⟨⟨⟨R.asc,within_iff.2 R.sub⟩,G.free.2 ⟨R.own,R.ind⟩⟩,fun x hx=>?_⟩
   by_cases hm:x∈l
   · exact .inl hm
   · refine .inr ?_;cases hf:free es (l++[x]) with
     | false=>rfl
     | true =>
       obtain ⟨f1,f2⟩:=G.free.1 hf;obtain ⟨y,hy,e⟩:=R.Wu x hx hm (f1 x (by simp))
       rw [f2 x (by simp) y (by simp [hy])] at e;cases e
def C8q (p:PrV)(r s:List Int):Prop:=(∀ x∈r,x∉s→∃ y∈s,y∉r∧A3f p y x=true)∧∃ y∈s,y∉r
def ParP (p:PrV)(r s:List Int):Prop:=∃ y∈s,y∉r∧∀ x∈r,x∉s→A3f p y x=true
end
end Go.Hg
namespace Go.Mid
theorem DM {k:IntKind}(hk:k.signed=false){n:Nat}(h:n<2 ^ k.bits):k.wrap (n:Int)=(n:Int):=by
 cases k<;>first | exact absurd hk (by decide) | (simp only [gF,fS,eQ] at h ⊢;simp;omega)
theorem HX (w m:Nat):cl w (m:Int)=BitVec.ofNat w m:=by simp
theorem L2 {k:IntKind}(hk:k.signed=false){m n:Nat}(hm:m<2 ^ k.bits)(hn:n<2 ^ k.bits):oK k (m:Int) (n:Int)=((m &&& n:Nat):Int):=by
 unfold oK;rw [HX,HX,BitVec.toNat_and,iI,iI,fc hm,fc hn];exact DM hk (iJ Nat.and_le_left hm)
theorem Cy {k:IntKind}(hk:k.signed=false){m n:Nat}(hm:m<2 ^ k.bits)(hn:n<2 ^ k.bits):s9 k (m:Int) (n:Int)=((m ||| n:Nat):Int):=by
 unfold s9;rw [HX,HX,BitVec.toNat_or,iI,iI,fc hm,fc hn];exact DM hk (eT hm hn)
theorem L3 {w m n:Nat}(hm:m<2 ^ w):Go.Hg.less m n<2 ^ w:=jF _ fun i hi=>by
 rw [Go.Hg.iL,fW (br hm (cN (by decide) hi))];rfl
theorem HY {k:IntKind}(hk:k.signed=false){m n:Nat}(hm:m<2 ^ k.bits)(hn:n<2 ^ k.bits):wR k (m:Int) (n:Int)=((Go.Hg.less m n:Nat):Int):=by
 have h:(cl k.bits (m:Int) &&& ~~~ cl k.bits (n:Int)).toNat=Go.Hg.less m n:=by
  rw [HX,HX];apply ec;intro i;rw [BitVec.toNat_and,fK,Go.Hg.iL,iI,fc hm];by_cases hi:i<k.bits
  · congr 1;rw [← BitVec.getLsbD,BitVec.getLsbD_not];simp only [hi,decide_true,cE,BitVec.getLsbD_ofNat]
  · rw [fW (br hm (cN (by decide) (by omega)))]
    rfl
 unfold wR;rw [h];exact DM hk (L3 hm)
theorem Wv {k:IntKind}{m i:Nat}(hi:i≤k.bits):jU k (m:Int) (i:Int)=((m >>> i:Nat):Int):=by
 unfold jU;have e:min ((i:Int).toNat) k.bits=i:=by rw [aq];omega
 rw [e,Nat.shiftRight_eq_div_pow]
 have:((2:Int) ^ i)=((2 ^ i:Nat):Int):=by simp
 rw [this];exact Int.ofNat_fdiv m (2 ^ i) |>.symm
theorem Ww {k:IntKind}(hk:k.signed=false){m i:Nat}(hi:i≤k.bits)(h:m <<< i<2 ^ k.bits):nV k (m:Int) (i:Int)=((m <<< i:Nat):Int):=by
 unfold nV;have e:min ((i:Int).toNat) k.bits=i:=by rw [aq];omega
 rw [e]
 have:(m:Int)*2 ^ i=((m <<< i:Nat):Int):=by rw [nk];simp
 rw [this];exact DM hk h
theorem D2D {m i:Nat}(hi:i≤63)(h:m <<< i<2 ^ 63):nV .i64 (m:Int) (i:Int)=((m <<< i:Nat):Int):=by
 unfold nV;have e:min ((i:Int).toNat) ai.bits=i:=by rw [aq];show min i 64=i;omega
 rw [e]
 have:(m:Int)*2 ^ i=((m <<< i:Nat):Int):=by rw [nk];simp
 rw [this];exact Kx (by omega)
theorem vg {i w:Nat}(h:i<w):1 <<< i<2 ^ w:=by rw [eS];exact Nat.pow_lt_pow_right (by decide) h
theorem L4 {k:IntKind}(hk:k.signed=false){m i:Nat}(hi:i≤k.bits)(h2:1<k.bits)(hm:m<2 ^ k.bits):oK k (jU k (m:Int) (i:Int)) 1=if m.testBit i then 1 else 0:=by
 rw [Wv hi];have h1:m >>> i<2 ^ k.bits:=iJ (Nat.shiftRight_le m i) hm
 have:=L2 (k:=k) hk (m:=m >>> i) (n:=1) h1 (Nat.one_lt_two_pow (by omega))
 have h2:oK k ((m >>> i:Nat):Int) 1=(((m >>> i) &&& 1:Nat):Int):=this;rw [h2,Wd,kK,du];cases m.testBit i<;>rfl
theorem D7Q {m i:Nat}(hi:i≤64):((jU .i64 (m:Int) (i:Int)).tmod 2==1)=m.testBit i:=by
 rw [Wv (k:=.i64) hi]
 have:((m >>> i:Nat):Int).tmod 2=(((m >>> i)%2:Nat):Int):=by
  exact (oB (m >>> i) 2).symm
 rw [this,← iC,Wd,kK,du];cases m.testBit i<;>rfl
end Go.Mid
namespace Go.Mid
open Go.Hg (asc A0y free A5O A0L)
theorem wY {n:Nat}(h:1≤n)(h':n≤9223372036854775807):ai.wrap ((n:Int)-1)=((n-1:Nat):Int):=by rw [wrap_i64 (by omega) (by omega)];omega
theorem C6M {l:List Int}:asc l=true↔∀ j (h:j+1<l.length),l[j]<l[j+1]:=by
 constructor
 · intro h j hj;exact Go.Hg.kC h (la j) hj
 · intro h
   induction l with
   | nil=>rfl
   | cons a r ih =>
     cases r with
     | nil=>rfl
     | cons b r =>
       simp only [asc,ak,decide_eq_true_eq];refine ⟨h 0 (by simp),ih fun j hj=>?_⟩
       have:=h (j+1) (by simpa using hj)
       simpa only [fV] using this
theorem C4Q {f:List Int×Int→Option (List Int×Int ⊕ Bool ⊕ PUnit)}(l:List Int)
 (hs:∀ i (h:i+1<l.length),f (l,((i+1:Nat):Int))=if decide (l[i+1]≤l[i]) then some (.inr (.inl false)) else some (.inl (l,((i+2:Nat):Int))))
 (he:∀ i:Nat,l.length≤i→f (l,(i:Int))=some (.inr (.inr ()))) :
 ((di f (l,(1:Int))).bind fun u=>Sum.elim (fun v=>some v) (fun _=>some true) u)=some (asc l):=by
 have key:=Cv (f:=f) l.tail (fun i=>(l,((i+1:Nat):Int))) (fun i x=>decide (x≤l.getD i 0)) (fun _=>.inl false) (.inr ()) (fun i hi=>by
  have dN:i+1<l.length:=by rw [lf] at hi;omega
  have e1:l.tail[i]=l[i+1]:=by rw [mP]
  have e2:l.getD i 0=l[i]:=by rw [bu,af (by omega)];rfl
  rw [hs i dN,e1,e2]) (he _ (by rw [lf];omega))
 have key:di f (l,(1:Int))=_:=key;rw [key];cases hf:pG (fun i x=>decide (x≤l.getD i 0)) l.tail 0 with
 | none =>
   rw [Va] at hf
   have:asc l=true:=C6M.2 fun j hj=>by
    have h1:=hf j (by rw [lf];omega)
    rw [mP,bS,bu,af (by omega)] at h1
    simpa using h1
   rw [this];rfl
 | some k =>
   obtain ⟨_,h2,⟨h3,h4⟩,_⟩:=O8 hf
   have:asc l=false:=by
    cases hc:asc l with
    | false=>rfl
    | true =>
      have hk:k+1<l.length:=by rw [lf] at h2;omega
      have h5:=C6M.1 hc k hk;simp only [gC,mP,bu,af (show k<l.length by omega),bF,decide_eq_true_eq] at h4
      omega
   rw [this];rfl
theorem Wx {l:List Int}(hl:l.length≤1000000):Hw l=some (asc l):=by
 unfold Hw;refine C4Q l (fun i h=>?_) (fun i h=>?_)
 · have h':((i+1:Nat):Int)<(l.length:Int):=by omega
   simp only [Vu,h',decide_true,cond_true,aj,aq,af h,ah,wY (show 1≤i+1 by omega) (by omega),
    dJ,af (show i<l.length by omega),gV (show i+1<9223372036854775807 by omega)]
   by_cases c:l[i+1]≤l[i]
   · simp only [c,decide_true,cond_true,if_true]
   · simp only [c,decide_false,cond_false,aF,if_false]
 · have h':¬ ((i:Int)<(l.length:Int)):=by omega
   simp only [Vu,h',decide_false,cond_false]
theorem D13 {n:Nat}(h:n<9223372036854775808):ai.wrap (jU .u64 (aK.wrap (ai.wrap (n:Int))) 1)=((n / 2:Nat):Int):=by
 have e1:ai.wrap (n:Int)=n:=Kx (by omega)
 have e2:aK.wrap (n:Int)=n:=by simp only [gF,fS,eQ];simp;omega
 have e3:jU .u64 (n:Int) 1=(n:Int).fdiv 2:=rfl;rw [e1,e2,e3,Int.fdiv_eq_ediv_of_nonneg _ (by omega),show ((n:Int) / 2)=((n / 2:Nat):Int) by omega,Kx (by omega)]
theorem D7R (x y:Int):Ph (x,y)=some (decide (x<y)):=by
 simp [Ph,FR]
theorem D14 {i j:Nat}(h:i+j<9223372036854775808):ai.wrap (jU .u64 (aK.wrap (ai.wrap ((i:Int)+(j:Int)))) 1)=(((i+j) / 2:Nat):Int):=by
 rw [← D13 h];rfl
structure Place (l:List Int)(y:Int)(i:Nat):Prop where
 le:i≤l.length
 lo:∀ k (h:k<l.length),k<i→l[k]<y
 hi:∀ k (h:k<l.length),i≤k→y≤l[k]
theorem C5I {l:List Int}(ha:asc l=true)(hl:l.length≤1000000)(y:Int):∃ i:Nat,di KL (l,y,(l.length:Int),0,(l.length:Int))=some (l,y,(l.length:Int),(i:Int))∧Place l y i:=by
 obtain ⟨b,hb,i,rfl,hp⟩:=C9H (f:=KL)
  (fun a=>∃ i j:Nat,a=(l,y,(l.length:Int),(i:Int),(j:Int))∧i≤j∧j≤l.length∧(∀ k (h:k<l.length),k<i→l[k]<y)∧(∀ k (h:k<l.length),j≤k→y≤l[k]))
  (fun b=>∃ i:Nat,b=(l,y,(l.length:Int),(i:Int))∧Place l y i) (fun a=>(a.2.2.2.2-a.2.2.2.1).toNat) (by
    rintro a ⟨i,j,rfl,gU,hj,h1,h2⟩;by_cases c:i<j
    · left;have c':(i:Int)<(j:Int):=by omega
      have hm:(i+j) / 2<l.length:=by omega
      simp only [KL,c',decide_true,cond_true,D14 (show i+j<9223372036854775808 by omega),aj,aq,af hm,ah,D7R]
      by_cases d:l[(i+j) / 2]<y
      · simp only [d,decide_true,cond_true,gV (show (i+j) / 2<9223372036854775807 by omega)]
        refine ⟨_,rfl,⟨(i+j) / 2+1,j,rfl,by omega,hj,fun k hk BJ=>?_,h2⟩,by show ((j:Int)-(((i+j) / 2+1:Nat):Int)).toNat<((j:Int)-(i:Int)).toNat;omega⟩
        rcases mj (Nat.le_of_lt_succ BJ) with h | h
        · exact p9 (Go.Hg.kC ha h hm) d
        · subst h;exact d
      · simp only [d,decide_false,cond_false];refine ⟨_,rfl,⟨i,(i+j) / 2,rfl,by omega,by omega,h1,fun k hk BJ=>?_⟩,by show ((((i+j) / 2:Nat):Int)-(i:Int)).toNat<((j:Int)-(i:Int)).toNat;omega⟩
        rcases mj BJ with h | h
        · exact Int.le_of_lt (Int.lt_of_le_of_lt (Int.not_lt.1 d) (Go.Hg.kC ha h hk))
        · subst h;exact Int.not_lt.1 d
    · right;have c':¬ ((i:Int)<(j:Int)):=by omega
      obtain rfl:i=j:=by omega
      simp only [KL,c',decide_false,cond_false];exact ⟨_,rfl,i,rfl,hj,h1,h2⟩) (l,y,(l.length:Int),0,(l.length:Int)) ⟨0,l.length,rfl,by omega,au _,fun k _ hk=>by omega,fun k h hk=>by omega⟩
 exact ⟨i,hb,hp⟩
theorem Place.found {l:List Int}{y:Int}{i:Nat}(ha:asc l=true)(hp:Place l y i):l.contains y=(match l[i]? with | some x=>x==y | none=>false):=by
 cases hc:l[i]? with
 | none =>
   have hi:l.length≤i:=List.getElem?_eq_none_iff.1 hc
   have:¬ y∈l:=fun hm=>by
    obtain ⟨k,hk,rfl⟩:=fy.1 hm
    have:=hp.lo k hk (by omega);omega
   simp [this]
 | some x =>
   obtain ⟨hi,rfl⟩:=aL.1 hc;apply cn.2;rw [bB,beq_iff_eq];constructor
   · intro hm;obtain ⟨k,hk,rfl⟩:=fy.1 hm;have h1:¬ k<i:=fun h=>by have:=hp.lo k hk h;omega
     by_cases h2:k=i
     · subst h2;rfl
     · have h3:=hp.hi i hi (au _);have h4:=Go.Hg.kC ha (show i<k by omega) hk
       omega
   · intro e;rw [← e];exact aJ hi
theorem Wy {l:List Int}(ha:asc l=true)(hl:l.length≤1000000)(y:Int):∃ i:Nat,Hy (l,y)=some ((i:Int),l.contains y)∧Place l y i:=by
 obtain ⟨i,h1,hp⟩:=C5I ha hl y;refine ⟨i,?_,hp⟩;rw [hp.found ha];unfold Hy;simp only;rw [h1];simp only [ah];by_cases c:i<l.length
 · have c':(i:Int)<(l.length:Int):=by omega
   simp only [c',decide_true,cond_true,aj,aq,af c,ah];by_cases d:l[i]=y
   · simp [d]
   · have d':(l[i]==y)=false:=by simpa using d
     simp only [d',cond_false,Pj,ah,bne_self_eq_false]
 · have c':¬ (i:Int)<(l.length:Int):=by omega
   simp only [c',decide_false,cond_false,List.getElem?_eq_none_iff.2 (Nat.not_lt.1 c)]
theorem Qj {l part:List Int}(ha:asc l=true)(hl:l.length≤1000000)(hp:part.length≤1000000):FT (l,part)=some (A0y part l):=by
 have key:=tg (f:=Pk) part (fun i=>(l,part,(part.length:Int),(i:Int))) (fun y=>!l.contains y) (.inl false) (.inr ()) (fun i hi=>by
  have dN:(i:Int)<(part.length:Int):=by omega
  obtain ⟨j,h1,_⟩:=Wy ha hl part[i];simp only [Pk,dN,decide_true,cond_true,aj,aq,af hi,ah,h1,gV (show i<9223372036854775807 by omega)]
  cases l.contains part[i]<;>rfl) (by
  simp only [Pk,aX,decide_false,cond_false])
 simp only [cj] at key;unfold FT;simp only;rw [key];unfold A0y;have e:(part.all fun x=>l.contains x)=!(part.any fun y=>!l.contains y):=by rw [kb];simp
 rw [e];cases part.any fun y=>!l.contains y<;>rfl
theorem A8e {v:List Int}{es:List (List Int)}{l:List Int}(hv:asc v=true)(nv:v.length≤1000000)(ne:es.length≤1000000)(el:∀ e∈es,e.length≤1000000)(hl:l.length≤1000000) :
 Lr ((v,es),l)=some (A5O v es l):=by
 unfold Lr A5O;simp only [Wx hl,ah];cases ha:asc l with
 | false=>rfl
 | true =>
   simp only [bI,cond_false,Qj hv nv hl,ah,cE];cases A0y l v with
   | false=>rfl
   | true =>
     simp only [bI,cond_false,cE];have key:=Cv (f:=PR) es (fun i=>(es,l,(es.length:Int),(i:Int))) (fun _ e=>A0y e l) (fun i=>.inl (i:Int)) (.inr ()) (fun i hi=>by
      have dN:(i:Int)<(es.length:Int):=by omega
      simp only [PR,VL,dN,decide_true,cond_true,aj,aq,af hi,ah,
       Qj ha hl (el _ (aJ hi)),gV (show i<9223372036854775807 by omega)]
      cases A0y es[i] l<;>rfl) (by
      simp only [PR,aX,decide_false,cond_false])
     simp only [cj] at key;unfold VN VM;simp only;rw [key];unfold free;have ha:=Hu (fun e=>A0y e l) es 0
     cases hf:pG (fun _ e=>A0y e l) es 0 with
     | none=>rw [hf] at ha;rw [← ha];rfl
     | some k =>
       rw [hf] at ha;rw [← ha];simp
theorem C8r {l:List Int}{y:Int}{i:Nat}(ha:asc l=true)(hp:Place l y i)(hn:y∉l):asc (l.take i++y::l.drop i)=true:=by
 rw [Go.Hg.jv];have hpw:=Go.Hg.jv.1 ha;have h1:∀ x∈l.take i,x<y:=by
  intro x hx;obtain ⟨k,hk,rfl⟩:=List.mem_take_iff_getElem.1 hx;exact hp.lo k (by omega) (by omega)
 have h2:∀ x∈l.drop i,y<x:=by
  intro x hx;obtain ⟨k,hk,rfl⟩:=List.mem_drop_iff_getElem.1 hx;have h3:=hp.hi (k+i) (by omega) (by omega)
  have h4:l[k+i]≠y:=fun e=>hn (e ▸ aJ _)
  have e5:l[i+k]=l[k+i]:=by congr 1;omega
  omega
 rw [cB];refine ⟨hpw.sublist (List.take_sublist _ _),?_,?_⟩
 · rw [bL];exact ⟨h2,hpw.sublist (List.drop_sublist _ _)⟩
 · intro a ha b hb;rcases aM.1 hb with rfl | hb
   · exact h1 a ha
   · exact p9 (h1 a ha) (h2 b hb)
theorem B9V {l:List Int}{y:Int}{i:Nat}(x:Int):x∈l.take i++y::l.drop i↔x∈l++[y]:=by
 rw [ay,aM,ay,aW]
 conv=>rhs;rw [← List.take_append_drop i l,ay]
 exact ⟨fun h=>h.elim (fun h=>.inl (.inl h)) (fun h=>h.elim .inr (fun h=>.inl (.inr h))),fun h=>h.elim (fun h=>h.elim .inl (fun h=>.inr (.inr h))) (fun h=>.inr (.inl h))⟩
theorem D15 {es:List (List Int)}{l m:List Int}(h:∀ x,x∈l↔x∈m):free es l=free es m:=by
 unfold free;congr 2;funext e;apply cn.2;rw [Go.Hg.within_iff,Go.Hg.within_iff];exact ⟨fun g y hy=>(h y).1 (g y hy),fun g y hy=>(h y).2 (g y hy)⟩
theorem A9M {v:List Int}{es:List (List Int)}{l:List Int}(hv:asc v=true)(nv:v.length≤100000)(ne:es.length≤1000000)(el:∀ e∈es,e.length≤1000000)(hl:l.length≤100000) :
 Ls ((v,es),l)=some (A0L v es l):=by
 unfold Ls A0L;simp only [A8e hv (show v.length≤1000000 by omega) ne el (show l.length≤1000000 by omega),ah]
 cases hi:A5O v es l with
 | false=>rfl
 | true =>
   simp only [bI,cond_false,cE];unfold A5O at hi;simp only [ak] at hi;obtain ⟨⟨ha,hw⟩,hf⟩:=hi;have key:=tg (f:=PT) v (fun i=>((l,v,(v.length:Int),(i:Int)),v,es)) (fun x=>!(l.contains x || !free es (l++[x]))) (.inl false) (.inr ()) (fun i hi=>by
    have dN:(i:Int)<(v.length:Int):=by omega
    obtain ⟨j,h1,hp⟩:=Wy ha (show l.length≤1000000 by omega) v[i]
    simp only [PT,dN,decide_true,cond_true,aj,aq,af hi,ah,h1,gV (show i<9223372036854775807 by omega)]
    cases hc:l.contains v[i] with
    | true=>simp
    | false =>
      have hn:v[i]∉l:=by intro hm;rw [bB.2 hm] at hc;cases hc
      have nO:Cw 8 l=some (l.length,l):=by
       unfold Cw;rw [iy (show l.length*8≤140737488355328 by omega),cond_true]
      have nU:PS ((l.length,(j:Int),1),l,[v[i]])=some (l.length+1,l.take j++v[i]::l.drop j,[v[i]]):=by
       unfold PS;have q1:Nat.beq 1 1=true:=rfl;have q2:Nat.beq l.length l.length=true:=Nat.beq_refl _;simp only [dz,q1,cond_true,bP,ah,q2,aj,decide_true,aq,iy hp.le,ln (show l.length<1000000000000 by omega)]
      have hlen:(l.take j++v[i]::l.drop j).length=l.length+1:=by
       have:=hp.le
       simp;omega
      have zu:=A8e (l:=l.take j++v[i]::l.drop j) hv (show v.length≤1000000 by omega) ne el (by omega)
      have hb:A5O v es (l.take j++v[i]::l.drop j)=free es (l++[v[i]]):=by
       unfold A5O;rw [C8r ha hp hn,D15 (fun x=>B9V x)]
       have:A0y (l.take j++v[i]::l.drop j) v=true:=by
        rw [Go.Hg.within_iff];intro y hy;rcases ay.1 ((B9V y).1 hy) with h | h
        · exact Go.Hg.within_iff.1 hw y h
        · simp only [aW] at h;subst h;exact aJ hi
       rw [this];rfl
      simp only [dZ,cond_true,nO,ah,a7,nU,hlen,iy (au _),aZ (eF hlen),zu,hb];cases free es (l++[v[i]])<;>simp) (by
    simp only [PT,aX,decide_false,cond_false])
   simp only [cj] at key;rw [key];have e:(v.all fun x=>l.contains x || !free es (l++[x]))=!(v.any fun x=>!(l.contains x || !free es (l++[x]))):=by rw [kb];simp
   rw [e];cases v.any fun x=>!(l.contains x || !free es (l++[x]))<;>rfl
end Go.Mid
namespace Go.Mid
open Go.Hg (asc A0y free A5O A0L before bef A3Q)
theorem Wz {α:Type}(l:List α)(p:α→Bool):(l.all p)=!(l.any fun x=>!p x):=by rw [kb];simp
theorem WA {l:List Int}(hl:l.length≤1000000):HR l=some (asc l):=by
 unfold HR;refine C4Q l (fun i h=>?_) (fun i h=>?_)
 · have h':((i+1:Nat):Int)<(l.length:Int):=by omega
   simp only [VO,h',decide_true,cond_true,aj,aq,af h,ah,wY (show 1≤i+1 by omega) (by omega),
    dJ,af (show i<l.length by omega),gV (show i+1<9223372036854775807 by omega)]
   by_cases c:l[i+1]≤l[i]
   · simp only [c,decide_true,cond_true,if_true]
   · simp only [c,decide_false,cond_false,aF,if_false]
 · have h':¬ ((i:Int)<(l.length:Int)):=by omega
   simp only [VO,h',decide_false,cond_false]
theorem B9W {l:List Int}(hl:l.length≤1000000)(y:Int):K0 (l,y)=some (l.contains y):=by
 have key:=tg (f:=Py) l (fun i=>(l,y,(i:Int))) (fun x=>x==y) (.inl true) (.inr ()) (fun i hi=>by
  have dN:(i:Int)<(l.length:Int):=by omega
  simp only [Py,dN,decide_true,cond_true,aj,aq,af hi,ah,gV (show i<9223372036854775807 by omega)]
  cases l[i]==y<;>rfl) (by
  simp only [Py,aX,decide_false,cond_false])
 simp only [cj] at key;unfold K0;simp only;rw [key];have e:(l.any fun x=>x==y)=l.contains y:=by rw [List.contains_eq_any_beq];congr 1;funext x;exact Bool.beq_comm
 rw [e];cases l.contains y<;>rfl
theorem B9X {l:List Int}(hl:l.length≤1000000)(y:Int):K1 (l,y)=some (l.contains y):=by
 unfold K1;simp only [B9W hl,ah]
theorem L5 {a b:List Int}(ha:a.length≤1000000)(hb:b.length≤1000000):DF (a,b)=some (A0y a b):=by
 have key:=tg (f:=Pz) a (fun i=>(a,b,(i:Int))) (fun x=>!b.contains x) (.inl false) (.inr ()) (fun i hi=>by
  have dN:(i:Int)<(a.length:Int):=by omega
  simp only [Pz,dN,decide_true,cond_true,aj,aq,af hi,ah,B9X hb,gV (show i<9223372036854775807 by omega)]
  cases b.contains a[i]<;>rfl) (by
  simp only [Pz,aX,decide_false,cond_false])
 simp only [cj] at key;unfold DF;simp only;rw [key];unfold A0y;rw [Wz];cases a.any fun y=>!b.contains y<;>rfl
theorem B7w {v:List Int}{es:List (List Int)}{l:List Int}(ne:es.length≤1000000)(el:∀ e∈es,e.length≤1000000)(hl:l.length≤1000000):LH ((v,es),l)=some (free es l):=by
 have key:=tg (f:=P3) es (fun i=>((l,(i:Int)),v,es)) (fun e=>A0y e l) (.inl false) (.inr ()) (fun i hi=>by
  have dN:(i:Int)<(es.length:Int):=by omega
  simp only [P3,dN,decide_true,cond_true,aj,aq,af hi,ah,L5 (el _ (aJ hi)) hl,gV (show i<9223372036854775807 by omega)]
  cases A0y es[i] l<;>rfl) (by
  simp only [P3,aX,decide_false,cond_false])
 simp only [cj] at key;unfold LH;simp only;rw [key];unfold free;cases es.any fun e=>A0y e l<;>rfl
theorem B6h {v:List Int}{es:List (List Int)}{l:List Int}(nv:v.length≤1000000)(ne:es.length≤1000000)(el:∀ e∈es,e.length≤1000000)(hl:l.length≤1000000) :
 P4 ((v,es),l)=some (A5O v es l):=by
 unfold P4 A5O;simp only [WA hl,ah,L5 hl nv,B7w ne el hl];cases asc l<;>cases A0y l v<;>rfl
theorem WB {v:List Int}{es:List (List Int)}{l:List Int}(nv:v.length≤100000)(ne:es.length≤1000000)(el:∀ e∈es,e.length≤1000000)(hl:l.length≤100000) :
 FV ((v,es),l)=some (A0L v es l):=by
 unfold FV A0L;simp only [B6h (show v.length≤1000000 by omega) ne el (show l.length≤1000000 by omega),ah]
 cases hi:A5O v es l with
 | false=>rfl
 | true =>
   simp only [bI,cond_false,cE];have key:=tg (f:=P5) v (fun i=>((l,(i:Int)),v,es)) (fun x=>!(l.contains x || !free es (l++[x]))) (.inl false) (.inr ()) (fun i hi=>by
    have dN:(i:Int)<(v.length:Int):=by omega
    have hlen:(l++[v[i]]).length=l.length+1:=by simp
    simp only [P5,dN,decide_true,cond_true,aj,aq,af hi,ah,B9X (show l.length≤1000000 by omega),gV (show i<9223372036854775807 by omega),
     bS,gQ,a7,iy (au _),iy (show l.length*8≤140737488355328 by omega),iy (show (l.length+1)*8≤140737488355328 by omega),dR,hlen,
     aZ (eF hlen),B7w ne el (show (l++[v[i]]).length≤1000000 by omega)]
    cases l.contains v[i]<;>cases free es (l++[v[i]])<;>rfl) (by
    simp only [P5,aX,decide_false,cond_false])
   simp only [cj] at key;rw [key,Wz];cases v.any fun x=>!(l.contains x || !free es (l++[x]))<;>rfl
theorem WC {a b:List Int}(ha:a.length≤1000000):HC (a,b)=some (before a b):=by
 have main:∀ (k i:Nat),a.length-i=k→i≤a.length→di HB (a,b,(i:Int))=some (match bef (a.drop i) (b.drop i) with | some t=>.inl t | none=>.inr (a,b)):=by
  intro k
  induction k with
  | zero =>
    intro i hk hi;obtain rfl:i=a.length:=by omega
    refine qi ?_;simp only [HB,aX,decide_false,cond_false,fe,bef]
  | succ k ih =>
    intro i hk hi;have h1:i<a.length:=by omega
    have uf:(i:Int)<(a.length:Int):=by omega
    rw [b3 h1];by_cases h2:i<b.length
    · have rh:(i:Int)<(b.length:Int):=by omega
      rw [b3 h2];simp only [bef];have st:HB (a,b,(i:Int))=if a[i]=b[i] then some (.inl (a,b,((i+1:Nat):Int))) else some (.inr (.inl (decide (a[i]<b[i])))):=by
       simp only [HB,uf,rh,decide_true,cond_true,aj,aq,af h1,af h2,ah,gV (show i<9223372036854775807 by omega)]
       by_cases c:a[i]=b[i]
       · simp [c]
       · have c':(a[i] != b[i])=true:=by simpa using c
         simp only [c',cond_true,c,if_false]
      by_cases c:a[i]=b[i]
      · rw [if_pos c] at st;rw [uE st,ih (i+1) (by omega) (by omega),if_pos c]
      · rw [if_neg c] at st;rw [qi st,if_neg c]
    · have rh:¬ (i:Int)<(b.length:Int):=by omega
      have e:b.drop i=[]:=List.drop_eq_nil_of_le (by omega)
      rw [e];simp only [bef];refine qi ?_;simp only [HB,uf,rh,decide_true,decide_false,cond_true,cond_false]
 have key:=main a.length 0 (by omega) (dq _)
 simp only [cj,fu] at key;unfold HC before;simp only;rw [key];cases bef a b with
 | some t=>rfl
 | none=>simp
theorem C2e {X:Type}(x0:X)(n b:Nat)(c:Int){f:(Nat×Int×Int)×X×List (List Int)→Option ((Nat×Int×Int)×X×List (List Int) ⊕ (Nat×Int)×X×List (List Int))}
 (hf:∀ k out,out.length=n→(∀ x∈out,x.length≤1000000)→∀ (h:k+1<out.length),f ((n,c,((k+1:Nat):Int)),x0,out)=if before out[k+1] out[k] then some (.inl ((n,c,(k:Int)),x0,(out.set (k+1) out[k]).set k out[k+1])) else some (.inr ((n,c),x0,out)))
 (h0:∀ out,f ((n,c,0),x0,out)=some (.inr ((n,c),x0,out))):∀ (k:Nat) (out:List (List Int)),k<out.length→out.length=n→(∀ x∈out,x.length≤1000000)→di f ((n,c,(k:Int)),x0,out)=some ((n,c),x0,A3Q k out)
 | 0,out,_,_,_=>by
   refine qi ?_;exact h0 out
 | k+1,out,hk,hn,hb=>by
   have e1:out[k+1]?=some out[k+1]:=af hk;have e2:out[k]?=some out[k]:=af (by omega)
   have st:=hf k out hn hb hk;unfold A3Q;simp only [e1,e2];by_cases c:before out[k+1] out[k]=true
   · rw [if_pos c] at st;rw [if_pos c,uE st];refine C2e x0 n b _ hf h0 k _ (by simp;omega) (by simpa using hn) ?_
     intro x hx;rcases bm hx with h | h
     · rcases bm h with h | h
       · exact hb x h
       · rw [h];exact hb _ (aJ _)
     · rw [h];exact hb _ (aJ _)
   · rw [if_neg c] at st;rw [if_neg c,qi st]
theorem B9Y {A B:Type}{f:A→Option (A ⊕ B)}(st:Nat→List (List Int)→A)(fin:List (List Int)→B)(n:Nat)
 (hf:∀ k out,out.length=n→(∀ x∈out,x.length≤1000000)→∀ (h:k+1<out.length),f (st (k+1) out)=if before out[k+1] out[k] then some (.inl (st k ((out.set (k+1) out[k]).set k out[k+1]))) else some (.inr (fin out)))
 (h0:∀ out,f (st 0 out)=some (.inr (fin out))):∀ (k:Nat) (out:List (List Int)),k<out.length→out.length=n→(∀ x∈out,x.length≤1000000)→di f (st k out)=some (fin (A3Q k out))
 | 0,out,_,_,_=>qi (h0 out)
 | k+1,out,hk,hn,hb=>by
   have e1:out[k+1]?=some out[k+1]:=af hk;have e2:out[k]?=some out[k]:=af (by omega)
   have Qk:=hf k out hn hb hk;unfold A3Q;simp only [e1,e2];by_cases c:before out[k+1] out[k]=true
   · rw [if_pos c] at Qk;rw [if_pos c,uE Qk];refine B9Y st fin n hf h0 k _ (by simp;omega) (by simpa using hn) ?_
     intro x hx;rcases bm hx with h | h
     · rcases bm h with h | h
       · exact hb x h
       · rw [h];exact hb _ (aJ _)
     · rw [h];exact hb _ (aJ _)
   · rw [if_neg c] at Qk;rw [if_neg c,qi Qk]
theorem WD {v:List Int}{i:Nat}(hi:i<v.length)(b:Nat):Go.Hg.idsP (v.take (i+1)) b=Go.Hg.idsP (v.take i) b++if b.testBit i then [v[i]] else []:=by
 unfold Go.Hg.idsP;rw [si hi,List.zipIdx_append,eI,b8];congr 1;simp only [List.zipIdx_singleton,aY,bS,da (fT hi)];cases hb:b.testBit i<;>simp [hb]
theorem L6 (v:List Int)(b:Nat):(Go.Hg.idsP v b).length≤v.length:=by
 unfold Go.Hg.idsP;rw [aE];refine dI (dT _ _) ?_;simp
theorem Ql (k:Nat)(out:List (List Int)):(A3Q k out).length=out.length:=Go.Hg.om k out
theorem WE:∀ (k:Nat) (out:List (List Int)) (x:List Int),x∈A3Q k out→x∈out
 | 0,out,x,h=>h
 | k+1,out,x,h=>by
   unfold A3Q at h;split at h
   · rename_i y z h1 h2;split at h
     · have:=WE k _ x h
       rcases bm this with h | h
       · rcases bm h with h | h
         · exact h
         · rw [h];exact bH h2
       · rw [h];exact bH h1
     · exact h
   · exact h
section
variable {v:List Int}{es:List (List Int)}(nv:v.length≤20)(ne:es.length≤1000000)(el:∀ e∈es,e.length≤1000000)
def th (v:List Int)(es:List (List Int))(b:Nat):List (List Int):=(bp b).foldl (Go.Hg.nD v es) []
theorem B7x (b:Nat):th v es (b+1)=Go.Hg.nD v es (th v es b) b:=by
 unfold th;rw [iR,fG];rfl
theorem C8s (b:Nat):(th v es b).length≤b∧∀ x∈th v es b,x.length≤v.length:=by
 induction b with
 | zero=>exact ⟨au _,fun x hx=>by cases hx⟩
 | succ b ih =>
   rw [B7x];unfold Go.Hg.nD;split
   · refine ⟨by rw [Ql];simp;omega,fun x hx=>?_⟩
     rcases ay.1 (WE _ _ x hx) with h | h
     · exact ih.2 x h
     · simp only [aW] at h;subst h;exact L6 v b
   · exact ⟨by omega,ih.2⟩
include nv in
theorem D33 (c:Nat)(b:Nat)(out:List (List Int)):di LJ ((c,(b:Int),0,0),(v,es),out,[])=some ((c,(b:Int),(Go.Hg.idsP v b).length),(v,es),out,Go.Hg.idsP v b):=by
 have key:=qs (f:=LJ) v.length (fun i=>((c,(b:Int),(Go.Hg.idsP (v.take i) b).length,(i:Int)),(v,es),out,Go.Hg.idsP (v.take i) b)) ((c,(b:Int),(Go.Hg.idsP v b).length),(v,es),out,Go.Hg.idsP v b) (fun i hi=>by
  have dN:(i:Int)<(v.length:Int):=by omega
  have hl:=L6 (v.take i) b;rw [aY] at hl;simp only [LJ,dN,decide_true,cond_true,aj,aq,D7Q (show i≤64 by omega),af hi,ah,gV (show i<9223372036854775807 by omega),WD hi,
   iy (au _),iy (show ((Go.Hg.idsP (v.take i) b).length+1)*8≤140737488355328 by omega),mS]
  cases b.testBit i<;>simp) (by
  simp only [LJ,aX,decide_false,cond_false,mS])
 exact key
include nv ne el in
theorem C01:FW (v,es)=some (Go.Hg.refR v es):=by
 have hp:(2:Nat) ^ v.length≤2 ^ 20:=cN (by decide) nv
 have h20:(2:Nat) ^ 20=1048576:=by decide
 have key:=qs (f:=LK) (2 ^ v.length) (fun b=>(((th v es b).length,(b:Int)),(v,es),th v es b)) ((th v es (2 ^ v.length)).length,th v es (2 ^ v.length)) (fun b hb=>by
  have hs:nV .i64 1 (v.length:Int)=((2 ^ v.length:Nat):Int):=by
   have:=D2D (m:=1) (i:=v.length) (by omega) (by rw [eS];omega)
   rw [eS] at this;exact this
  have jt:(b:Int)<((2 ^ v.length:Nat):Int):=by omega
  have hr:=C8s (v:=v) (es:=es) b;have Bf:=L6 v b;simp only [LK,aj,decide_true,cond_true,hs,jt,D33 nv,ah,iy (au _),mS,WB (show v.length≤100000 by omega) ne el (show (Go.Hg.idsP v b).length≤100000 by omega),
   gV (show b<9223372036854775807 by omega),B7x]
  unfold Go.Hg.nD;cases hm:A0L v es (Go.Hg.idsP v b) with
  | false=>simp
  | true =>
    have Ab:(th v es b++[Go.Hg.idsP v b]).length=(th v es b).length+1:=by simp
    have hw:ai.wrap ((((th v es b).length+1:Nat):Int)-1)=((th v es b).length:Int):=by
     rw [wY (by omega) (by omega)];rfl
    have sk:=C2e (f:=P6) (v,es) ((th v es b).length+1) 0 (b:Int) (fun k out hn hx h=>by
     have CV:((k+1:Nat):Int)>0:=by omega
     have e1:k+1<(th v es b).length+1:=by omega
     have e2:k<(th v es b).length+1:=by omega
     have e3:k<out.length:=by omega
     simp only [P6,CV,decide_true,cond_true,aj,aq,ln e1,ln e2,af h,af e3,ah,wY (show 1≤k+1 by omega) (by omega),dJ,
      WC (hx _ (aJ h))]
     have e4:(out.set (k+1) out[k])[k]?=some out[k]:=by rw [eJ (by omega),af e3]
     rw [e4];cases before out[k+1] out[k]<;>simp) (fun out=>by
     simp only [P6,gt_iff_lt,aX,decide_false,cond_false]) (th v es b).length (th v es b++[Go.Hg.idsP v b]) (by rw [Ab];omega) Ab (fun x hx=>by
     rcases ay.1 hx with h | h
     · have:=hr.2 x h;omega
     · simp only [aW] at h;subst h;omega)
    simp only [bI,cond_false,cond_true,if_true,iy (show ((th v es b).length+1)*24≤140737488355328 by omega),hw,sk,ah,gV (show b<9223372036854775807 by omega),Ql,Ab]) (by
  have hs:nV .i64 1 (v.length:Int)=((2 ^ v.length:Nat):Int):=by
   have:=D2D (m:=1) (i:=v.length) (by omega) (by rw [eS];omega)
   rw [eS] at this;exact this
  simp only [LK,aj,decide_true,cond_true,hs,aX,decide_false,cond_false])
 unfold FW;have key:di LK ((0,0),(v,es),[])=_:=key;rw [key];simp only [ah,iy (au _),cond_true,mS];rfl
end
end Go.Mid
namespace Go.Mid
open Go.Hg (asc A0y free A5O A0L before PrV nbB A8f A3f A7F B6f B0H Run)
section
variable {A B α β:Type}{f:A→Option (A ⊕ B)}
theorem WG (l:List α)(DN:α→List β)(st:Nat→List β→A)(fin:List β→B)
 (h1:∀ i (h:i<l.length),f (st i ((l.take i).flatMap DN))=some (.inl (st (i+1) ((l.take i).flatMap DN++DN l[i]))))
 (h2:f (st l.length (l.flatMap DN))=some (.inr (fin (l.flatMap DN)))):di f (st 0 [])=some (fin (l.flatMap DN)):=by
 have key:=qs (f:=f) l.length (fun i=>st i ((l.take i).flatMap DN)) (fin (l.flatMap DN)) (fun i hi=>by
  rw [h1 i hi,si hi,List.flatMap_append];simp) (by rw [mS];exact h2)
 exact key
theorem WH (p:α→Bool)(l:List α):(l.flatMap fun x=>if p x then [x] else [])=l.filter p:=by
 induction l with
 | nil=>rfl
 | cons x r ih =>
   rw [iY,ih,jA];cases p x<;>rfl
theorem C4R (p:α→Bool)(l:List α)(i:Nat):((l.take i).flatMap fun x=>if p x then [x] else []).length≤i:=by
 rw [WH];exact dI (dT _ _) (by rw [aY];omega)
end
theorem B6j {a b:List Int}(ha:a.length≤1000000)(hb:b.length≤1000000):FX (a,b)=some (a.filter fun x=>!b.contains x):=by
 have key:=WG (f:=LM) a (fun x=>if !b.contains x then [x] else []) (fun i acc=>((a,b,acc.length,(i:Int)),acc)) (fun acc=>(acc.length,acc)) (fun i hi=>by
  have dN:(i:Int)<(a.length:Int):=by omega
  have hl:=C4R (fun x=>!b.contains x) a i
  simp only [LM,dN,decide_true,cond_true,aj,aq,af hi,ah,B9W hb,gV (show i<9223372036854775807 by omega),iy (au _)]
  cases b.contains a[i] with
  | true=>simp
  | false =>
    simp only [dZ,cond_true,if_true,mS,aQ,dz];rw [iy (by omega),cond_true]) (by
  simp only [LM,aX,decide_false,cond_false])
 rw [WH] at key;have key:di LM ((a,b,0,0),[])=_:=key;unfold FX;simp only;rw [key];simp only [ah,iy (au _),cond_true,mS]
theorem B40 {p:PrV}(hp:p.length≤1000000)(a b:Int):Lv (p,a,b)=some (A3f p a b):=by
 have key:=tg (f:=PY) p (fun i=>(p,a,b,(i:Int))) (fun x=>x.1==a&&x.2==b) (.inl true) (.inr ()) (fun i hi=>by
  have dN:(i:Int)<(p.length:Int):=by omega
  simp only [PY,dN,decide_true,cond_true,aj,aq,af hi,ah,gV (show i<9223372036854775807 by omega)]
  cases p[i].1==a<;>cases p[i].2==b<;>rfl) (by
  simp only [PY,aX,decide_false,cond_false])
 simp only [cj] at key;unfold Lv;simp only;rw [key];have e:(p.any fun x=>x.1==a&&x.2==b)=A3f p a b:=by
  unfold A3f;rw [List.contains_eq_any_beq];congr 1;funext x;apply cn.2;simp only [ak,beq_iff_eq];exact ⟨fun h=>by rw [← h.1,← h.2],fun h=>by rw [← h];exact ⟨rfl,rfl⟩⟩
 rw [e];cases A3f p a b<;>rfl
theorem B7y {p:PrV}{l:List Int}(hp:p.length≤1000000)(hl:l.length≤1000000)(v:Int):Lw (p,l,v)=some (A7F p l v):=by
 have key:=tg (f:=PZ) l (fun i=>(p,l,v,(i:Int))) (fun y=>A3f p y v) (.inl false) (.inr ()) (fun i hi=>by
  have dN:(i:Int)<(l.length:Int):=by omega
  simp only [PZ,dN,decide_true,cond_true,aj,aq,af hi,ah,B40 hp,gV (show i<9223372036854775807 by omega)]
  cases A3f p l[i] v<;>rfl) (by
  simp only [PZ,aX,decide_false,cond_false])
 simp only [cj] at key;unfold Lw;simp only;rw [key];unfold A7F;cases l.any fun y=>A3f p y v<;>rfl
def oq (a b:List Int):List Int:=a.filter fun x=>!b.contains x
theorem HZ {a b:List Int}{x:Int}:x∈oq a b↔x∈a∧x∉b:=by
 unfold oq;simp
theorem B9Z (a b:List Int):(oq a b).length≤a.length:=dT _ _
def tK (p:PrV)(r s:List Int):Bool:=(oq s r).any fun y=>(oq r s).all fun x=>A3f p y x
theorem D16 {p:PrV}{r s:List Int}:tK p r s=true↔Go.Hg.ParP p r s:=by
 unfold tK Go.Hg.ParP;rw [b6];constructor
 · rintro ⟨y,hy,h⟩;rw [bg] at h;exact ⟨y,(HZ.1 hy).1,(HZ.1 hy).2,fun x hx hn=>h x (HZ.2 ⟨hx,hn⟩)⟩
 · rintro ⟨y,h1,h2,h3⟩;exact ⟨y,HZ.2 ⟨h1,h2⟩,bg.2 fun x hx=>h3 x (HZ.1 hx).1 (HZ.1 hx).2⟩
theorem B6k {p:PrV}{r s:List Int}(hp:p.length≤1000000)(hr:r.length≤1000000)(hs:s.length≤1000000):HU (p,r,s)=some (tK p r s):=by
 have h1:=B9Z r s;have h2:=B9Z s r;have inner:∀ i (h:i<(oq s r).length),di LQ (p,oq r s,oq s r,(i:Int),true,0)=some (p,oq r s,oq s r,(i:Int),(oq r s).all fun x=>A3f p (oq s r)[i] x):=by
  intro i hi;have key:=qs (f:=LQ) (oq r s).length (fun k=>(p,oq r s,oq s r,(i:Int),((oq r s).take k).all (fun x=>A3f p (oq s r)[i] x),(k:Int))) (p,oq r s,oq s r,(i:Int),(oq r s).all fun x=>A3f p (oq s r)[i] x) (fun k hk=>by
   have mV:(k:Int)<((oq r s).length:Int):=by omega
   simp only [LQ,mV,decide_true,cond_true,aj,aq,af hk,af hi,ah,B40 hp,gV (show k<9223372036854775807 by omega),si hk,List.all_append]
   cases ((oq r s).take k).all fun x=>A3f p (oq s r)[i] x<;>simp) (by
   simp only [LQ,aX,decide_false,cond_false,mS])
  exact key
 have key:=tg (f:=LR) (oq s r) (fun i=>(p,oq r s,oq s r,(i:Int))) (fun y=>(oq r s).all fun x=>A3f p y x) (.inl true) (.inr ()) (fun i hi=>by
  have dN:(i:Int)<((oq s r).length:Int):=by omega
  simp only [LR,dN,decide_true,cond_true,inner i hi,ah,gV (show i<9223372036854775807 by omega)]
  cases (oq r s).all fun x=>A3f p (oq s r)[i] x<;>rfl) (by
  simp only [LR,aX,decide_false,cond_false])
 simp only [cj] at key;unfold HU;simp only [B6j hr hs,B6j hs hr,ah];show (di LR (p,oq r s,oq s r,0)).bind _=_;rw [key];unfold tK;cases (oq s r).any fun y=>(oq r s).all fun x=>A3f p y x<;>rfl
theorem D0f:∀ {a b:List Int},a.length=b.length→((a.zip b).any fun x=>x.1 != x.2)=!decide (a=b)
 | [],[],_=>rfl
 | [],_::_,h=>by simp at h
 | _::_,[],h=>by simp at h
 | x::a,y::b,h=>by
   have:=D0f (a:=a) (b:=b) (by simpa using h)
   simp only [List.zip_cons_cons,gk,this];by_cases c:x=y
   · simp [c]
   · simp [c]
theorem C8t {a b:List Int}(ha:a.length≤1000000):HQ (a,b)=some (decide (a=b)):=by
 unfold HQ;simp only;by_cases hn:a.length=b.length
 · have qR:((a.length:Int) != (b.length:Int))=false:=by simp [hn]
   rw [qR,cond_false];have key:=tg (f:=Lu) (a.zip b) (fun i=>(a,b,(i:Int))) (fun x=>x.1 != x.2) (.inl false) (.inr ()) (fun i hi=>by
    rw [List.length_zip] at hi;have Cx:i<a.length:=by omega
    have n8:i<b.length:=by omega
    have dN:(i:Int)<(a.length:Int):=by omega
    simp only [Lu,dN,decide_true,cond_true,aj,aq,af Cx,af n8,ah,gV (show i<9223372036854775807 by omega),List.getElem_zip]
    cases a[i] != b[i]<;>rfl) (by
    have:¬ (((a.zip b).length:Int)<(a.length:Int)):=by rw [List.length_zip];omega
    simp only [Lu,this,decide_false,cond_false])
   have key:di Lu (a,b,0)=_:=key;rw [key];have e:=D0f hn;rw [e];cases decide (a=b)<;>rfl
 · have qR:((a.length:Int) != (b.length:Int))=true:=by
    rw [bne_iff_ne];omega
   rw [qR,cond_true]
   have:¬ a=b:=fun e=>hn (by rw [e])
   simp [this]
theorem C5J {v:List Int}{es:List (List Int)}{l:List Int}(ne:es.length≤1000000)(el:∀ e∈es,e.length≤1000000):PX ((v,es),l)=some (es.contains l):=by
 have key:=tg (f:=PW) es (fun i=>((l,(i:Int)),v,es)) (fun e=>decide (e=l)) (.inl true) (.inr ()) (fun i hi=>by
  have dN:(i:Int)<(es.length:Int):=by omega
  simp only [PW,dN,decide_true,cond_true,aj,aq,af hi,ah,C8t (el _ (aJ hi)),gV (show i<9223372036854775807 by omega)]
  cases decide (es[i]=l)<;>rfl) (by
  simp only [PW,aX,decide_false,cond_false])
 simp only [cj] at key;unfold PX;simp only;rw [key];have e:(es.any fun e=>decide (e=l))=es.contains l:=by
  apply cn.2;rw [bB,b6];exact ⟨fun ⟨x,h1,h2⟩=>by rw [← of_decide_eq_true h2];exact h1,fun h=>⟨l,h,decide_eq_true rfl⟩⟩
 rw [e];cases es.contains l<;>rfl
section
variable {v:List Int}{es:List (List Int)}(ne:es.length≤1000000)(el:∀ e∈es,e.length≤1000000)
include ne el
theorem D0g (a b:Int):P0 ((v,es),a,b)=some (nbB es a b):=by
 unfold P0 nbB;have e1:(if b<a then b else a)=min a b:=by rw [Int.min_def];split<;>split<;>omega
 have e2:(if b>a then b else a)=max a b:=by rw [Int.max_def];split<;>split<;>omega
 simp only [e1,e2,C5J ne el,ah];by_cases c:a=b
 · simp [c]
 · have c':(a != b)=true:=by simpa using c
   simp [c',c]
end
section
variable {v:List Int}{es:List (List Int)}{p:PrV}{r:List Int}(ne:es.length≤1000000)(el:∀ e∈es,e.length≤1000000)(hp:p.length≤1000000)(hr:r.length≤1000000)
include ne el hp hr
end
section
variable {v:List Int}{es:List (List Int)}{p:PrV}(ne:es.length≤1000000)(el:∀ e∈es,e.length≤1000000)(hp:p.length≤1000000)(ha:Go.Hg.Acy p)
include ne el hp ha
end
end Go.Mid
namespace Go.Mid
open Go.Hg (asc A0y free A5O A0L before bef A6l A4n A4Z)
theorem D53 (x y:Int):Pl (x,y)=some (if x<y then -1 else if x>y then 1 else 0):=by
 unfold Pl FR;simp only [ah,bne_self_eq_false,cond_false];by_cases h1:x<y
 · simp [h1]
 · by_cases h2:x>y
   · simp [h1,h2]
   · simp [h1,h2]
theorem C8u {a b:List Int}(ha:a.length≤1000000):∃ c:Int,Pm (a,b)=some c∧decide (c ≥ 0)=!before a b:=by
 have main:∀ (k i:Nat),a.length-i=k→i≤a.length→(∃ c:Int,di yq (a,b,a,(a.length:Int),(i:Int))=some (.inl c)∧decide (c ≥ 0)=!(match bef (a.drop i) (b.drop i) with | some t=>t | none=>decide (a.length<b.length))) ∨
  (di yq (a,b,a,(a.length:Int),(i:Int))=some (.inr (a,b))∧bef (a.drop i) (b.drop i)=none):=by
  intro k
  induction k with
  | zero =>
    intro i hk hi;obtain rfl:i=a.length:=by omega
    right;refine ⟨qi ?_,by rw [fe];rfl⟩
    simp only [yq,aX,decide_false,cond_false]
  | succ k ih =>
    intro i hk hi;have h1:i<a.length:=by omega
    have uf:(i:Int)<(a.length:Int):=by omega
    rw [b3 h1];by_cases h2:i<b.length
    · have rh:¬ (i:Int) ≥ (b.length:Int):=by omega
      rw [b3 h2];simp only [bef];by_cases c:a[i]=b[i]
      · have st:yq (a,b,a,(a.length:Int),(i:Int))=some (.inl (a,b,a,(a.length:Int),((i+1:Nat):Int))):=by
         simp only [yq,uf,rh,decide_true,decide_false,cond_true,cond_false,aj,aq,af h1,af h2,ah,gV (show i<9223372036854775807 by omega),D53]
         simp [c]
        rw [uE st,if_pos c];exact ih (i+1) (by omega) (by omega)
      · left;have st:yq (a,b,a,(a.length:Int),(i:Int))=some (.inr (.inl (if a[i]<b[i] then -1 else 1))):=by
         simp only [yq,uf,rh,decide_true,decide_false,cond_true,cond_false,aj,aq,af h1,af h2,ah,D53];by_cases d:a[i]<b[i]
         · simp [d]
         · have d2:a[i]>b[i]:=by omega
           simp [d,d2]
        refine ⟨_,qi st,?_⟩;rw [if_neg c];by_cases d:a[i]<b[i]<;>simp [d]
    · left;have rh:(i:Int) ≥ (b.length:Int):=by omega
      have e:b.drop i=[]:=List.drop_eq_nil_of_le (by omega)
      have st:yq (a,b,a,(a.length:Int),(i:Int))=some (.inr (.inl 1)):=by
       simp only [yq,uf,rh,decide_true,cond_true,aj,aq,af h1,ah]
      refine ⟨1,qi st,?_⟩;rw [e];simp only [bef]
      have:¬ a.length<b.length:=by omega
      simp [this]
 unfold Pm before;simp only;rcases main a.length 0 (by omega) (dq _) with ⟨c,h1,h2⟩ | ⟨h1,h2⟩
 · have h1:di yq (a,b,a,(a.length:Int),0)=_:=h1;rw [h1];exact ⟨c,rfl,h2⟩
 · have h1:di yq (a,b,a,(a.length:Int),0)=_:=h1;rw [h1];simp only [fu] at h2;rw [h2];by_cases d:a.length<b.length
   · refine ⟨-1,by simp [d],by simp [d]⟩
   · refine ⟨0,by simp [d],by simp [d]⟩
theorem B90 {α:Type}(p:Nat→α→Bool):∀ (l:List α) (i:Nat),(pG p l i).isSome=(l.zipIdx i).any fun x=>p x.2 x.1
 | [],_=>rfl
 | x::r,i=>by
   simp only [pG,jy,gk];by_cases h:p i x=true
   · simp [h]
   · simp only [h,if_false,aF,eN];exact B90 p r (i+1)
theorem L7 {A B α:Type}{f:A→Option (A ⊕ B)}(l:List α)(st:Nat→A)(p:Nat→α→Bool)(b e:B)
 (h1:∀ i (h:i<l.length),f (st i)=if p i l[i] then some (.inr b) else some (.inl (st (i+1)))) (h2:f (st l.length)=some (.inr e)) :
 di f (st 0)=some (if (l.zipIdx.any fun x=>p x.2 x.1) then b else e):=by
 rw [Cv l st p (fun _=>b) e h1 h2,← B90 p l 0]
 cases pG p l 0<;>rfl
section
variable {v:List Int}{es:List (List Int)}(nv:v.length≤1000000)(el:∀ e∈es,e.length≤1000000)
include nv el
theorem B0V:KP (v,es)=some (A4Z v es):=by
 unfold KP A4Z;simp only [Wx nv,ah];cases ha:asc v with
 | false=>rfl
 | true =>
   simp only [bI,cond_false,cE];by_cases hn:es.length≤20000
   · have qR:¬ (es.length:Int)>20000:=by omega
     simp only [hn,qR,decide_true,decide_false,cond_false,cE];have k0:=L7 (f:=KM) es (fun i=>((es,(es.length:Int),(i:Int)),v,es)) (fun i e=>!A6l v es i e) (.inl false) (.inr (v,es)) (fun i hi=>by
      have dN:(i:Int)<(es.length:Int):=by omega
      have hle:=el _ (aJ hi);simp only [KM,dN,decide_true,cond_true,aj,aq,af hi,ah,Wx hle,Qj ha nv hle,gV (show i<9223372036854775807 by omega)]
      unfold A6l;by_cases h0:es[i]=[]
      · simp [h0]
      · have Bw:((es[i].length:Int)==0)=false:=by
         rw [beq_eq_false_iff_ne]
         have:=jN.2 h0
         omega
        have F1:es[i].isEmpty=false:=by cases hc:es[i] with | nil=>exact absurd hc h0 | cons _ _=>rfl
        rw [Bw,cond_false,F1];cases asc es[i] with
        | false=>rfl
        | true =>
          cases A0y es[i] v with
          | false=>rfl
          | true =>
            simp only [bI,cond_false,dZ,cE];by_cases hz:i=0
            · subst hz;simp
            · have hp:(i:Int)>0:=by omega
              have AE:(i==0)=false:=by simpa using hz
              obtain ⟨c,h1,h2⟩:=C8u (a:=es[i-1]) (b:=es[i]) (el _ (aJ _));simp only [hp,decide_true,cond_true,wY (show 1≤i by omega) (by omega),aj,aq,af (show i-1<es.length by omega),ah,h1,h2,AE,eN,
               bu,bF]
              cases before es[i-1] es[i]<;>simp) (by
      simp only [KM,aX,decide_false,cond_false])
     have k0:di KM ((es,(es.length:Int),0),v,es)=_:=k0;rw [k0];cases hb:es.zipIdx.any fun x=>!A6l v es x.2 x.1 with
     | true=>rfl
     | false =>
       have kV:∀ i (h:i<es.length),A6l v es i es[i]=true:=by
        intro i hi
        have:=fF.1 hb (es[i],i) (Go.Hg.lp.2 ⟨hi,rfl⟩)
        simpa using this
       have qv:∀ i (h:i<es.length),asc es[i]=true:=by
        intro i hi
        have:=kV i hi
        unfold A6l at this;simp only [ak] at this;exact this.1.1.2
       have k2:∀ i (h:i<es.length),di KN (((i:Int),es[i],es,(es.length:Int),(i:Int),es,(es.length:Int),0),v,es)=some (if A4n es i es[i] then .inl false else .inr ((es,(es.length:Int),(i:Int)),v,es)):=by
        intro i hi;have k:=L7 (f:=KN) es (fun k=>(((i:Int),es[i],es,(es.length:Int),(i:Int),es,(es.length:Int),(k:Int)),v,es)) (fun k y=>k != i&&A0y y es[i]) (.inl false) (.inr ((es,(es.length:Int),(i:Int)),v,es)) (fun k hk=>by
         have mV:(k:Int)<(es.length:Int):=by omega
         simp only [KN,mV,decide_true,cond_true,aj,aq,af hk,ah,Qj (qv i hi) (el _ (aJ hi)) (el _ (aJ hk)),gV (show k<9223372036854775807 by omega)]
         by_cases c:k=i
         · subst c;simp
         · have c':((i:Int) != (k:Int))=true:=by rw [bne_iff_ne];omega
           have c2:(k != i)=true:=by simpa using c
           rw [c',c2,cond_true];cases A0y es[k] es[i]<;>rfl) (by
         simp only [KN,aX,decide_false,cond_false])
        exact k
       have k1:=L7 (f:=KO) es (fun i=>((es,(es.length:Int),(i:Int)),v,es)) (fun i e=>A4n es i e) (.inl false) (.inr ()) (fun i hi=>by
        have dN:(i:Int)<(es.length:Int):=by omega
        simp only [KO,dN,decide_true,cond_true,aj,aq,af hi,ah,k2 i hi,gV (show i<9223372036854775807 by omega)]
        cases A4n es i es[i] with
        | true=>rfl
        | false=>simp [gV (show i<9223372036854775807 by omega)]) (by
        simp only [KO,aX,decide_false,cond_false])
       have k1:di KO ((es,(es.length:Int),0),v,es)=_:=k1;simp only [if_false,aF,ah,Sum.elim_inr];rw [k1];cases es.zipIdx.any fun x=>A4n es x.2 x.1<;>rfl
   · have qR:(es.length:Int)>20000:=by omega
     simp [hn,qR]
theorem C02:P1 (v,es)=some (A4Z v es):=by
 unfold P1 A4Z;simp only [WA nv,ah];cases ha:asc v with
 | false=>rfl
 | true =>
   simp only [bI,cond_false,cE];by_cases hn:es.length≤20000
   · have qR:¬ (es.length:Int)>20000:=by omega
     simp only [hn,qR,decide_true,decide_false,cond_false,cE];have k1:∀ i (h:i<es.length),di HS (((i:Int),0),v,es)=some (if A4n es i es[i] then .inl false else .inr ((i:Int),v,es)):=by
      intro i hi;have k:=L7 (f:=HS) es (fun k=>(((i:Int),(k:Int)),v,es)) (fun k y=>k != i&&A0y y es[i]) (.inl false) (.inr ((i:Int),v,es)) (fun k hk=>by
       have mV:(k:Int)<(es.length:Int):=by omega
       simp only [HS,mV,decide_true,cond_true,aj,aq,af hk,af hi,ah,L5 (el _ (aJ hk)) (el _ (aJ hi)),gV (show k<9223372036854775807 by omega)]
       by_cases c:k=i
       · subst c;simp
       · have c':((k:Int) != (i:Int))=true:=by rw [bne_iff_ne];omega
         have c2:(k != i)=true:=by simpa using c
         rw [c',c2,cond_true];cases A0y es[k] es[i]<;>rfl) (by
       simp only [HS,aX,decide_false,cond_false])
      exact k
     have k0:=L7 (f:=Ly) es (fun i=>((i:Int),v,es)) (fun i e=>!A6l v es i e || A4n es i e) (.inl false) (.inr ()) (fun i hi=>by
      have dN:(i:Int)<(es.length:Int):=by omega
      have hle:=el _ (aJ hi);simp only [Ly,dN,decide_true,cond_true,aj,aq,af hi,ah,WA hle,L5 hle nv,k1 i hi,gV (show i<9223372036854775807 by omega)]
      unfold A6l;by_cases h0:es[i]=[]
      · simp [h0]
      · have Bw:((es[i].length:Int)==0)=false:=by
         rw [beq_eq_false_iff_ne]
         have:=jN.2 h0
         omega
        have F1:es[i].isEmpty=false:=by cases hc:es[i] with | nil=>exact absurd hc h0 | cons _ _=>rfl
        rw [Bw,cond_false,F1];cases asc es[i] with
        | false=>rfl
        | true =>
          cases A0y es[i] v with
          | false=>rfl
          | true =>
            simp only [bI,cond_false,dZ,cE];by_cases hz:i=0
            · subst hz;cases A4n es 0 es[0]<;>simp [gV (show 0<9223372036854775807 by omega)]
            · have hp:(i:Int)>0:=by omega
              have AE:(i==0)=false:=by simpa using hz
              simp only [hp,decide_true,cond_true,wY (show 1≤i by omega) (by omega),aj,aq,af (show i-1<es.length by omega),ah,WC (el _ (aJ (show i-1<es.length by omega))),AE,eN,
               bu,bF]
              cases before es[i-1] es[i] with
              | false=>rfl
              | true=>cases A4n es i es[i]<;>simp [gV (show i<9223372036854775807 by omega)]) (by
      simp only [Ly,aX,decide_false,cond_false])
     have k0:di Ly (0,v,es)=_:=k0;rw [k0];have e:(es.zipIdx.any fun x=>!A6l v es x.2 x.1 || A4n es x.2 x.1)=((es.zipIdx.any fun x=>!A6l v es x.2 x.1) || (es.zipIdx.any fun x=>A4n es x.2 x.1)):=by
      generalize es.zipIdx=L
      induction L with
      | nil=>rfl
      | cons x r ih =>
        simp only [gk,ih];cases A6l v es x.2 x.1<;>cases A4n es x.2 x.1<;>simp
     rw [e];cases es.zipIdx.any fun x=>!A6l v es x.2 x.1<;>cases es.zipIdx.any fun x=>A4n es x.2 x.1<;>rfl
   · have qR:(es.length:Int)>20000:=by omega
     simp [hn,qR]
end
end Go.Mid
namespace Go.Mid
open Go.Hg (asc A0y A0L A2R less A0z bitsFrom A0o idsP A6j A3m A3F later B4K allS A5P A4Z HOk)
def fZ (l:List Nat):List Int:=l.map fun (n:Nat)=>(n:Int)
@[simp] theorem vV (l:List Nat):(fZ l).length=l.length:=by simp [fZ]
theorem Bi {l:List Nat}{i:Nat}(h:i<l.length):(fZ l)[i]?=some ((l[i]:Nat):Int):=by
 unfold fZ;rw [List.getElem?_map,af h];rfl
theorem WI (a b:List Nat):fZ (a++b)=fZ a++fZ b:=by simp [fZ]
theorem B7z {α:Type}(q:α→Bool):∀ (l:List α) (i:Nat),pG (fun _ x=>q x) l i=Go.Hg.idx q l i
 | [],_=>rfl
 | x::r,i=>by
   simp only [pG,Go.Hg.idx,B7z q r]
theorem D17 {v:List Int}(nv:v.length≤1000000){z:Int}(hz:z∈v):Po (v,z)=some ((A0o v z:Nat):Int):=by
 have key:=Cv (f:=KQ) v (fun i=>(v,z,(v.length:Int),(i:Int))) (fun _ x=>x==z) (fun i=>.inl (i:Int)) (.inr ()) (fun i hi=>by
  have dN:(i:Int)<(v.length:Int):=by omega
  simp only [KQ,dN,decide_true,cond_true,aj,aq,af hi,ah,gV (show i<9223372036854775807 by omega)]
  rw [Bool.beq_comm];cases v[i]==z<;>rfl) (by
  simp only [KQ,aX,decide_false,cond_false])
 have key:di KQ (v,z,(v.length:Int),0)=_:=key;unfold Po;simp only;rw [key];have h2:=Go.Hg.nC (· == z) v 0;have h3:v.any (· == z)=true:=b6.2 ⟨z,hz,by simp⟩
 rw [h3] at h2;rw [B7z (fun x=>x==z)]
 unfold A0o;cases hk:Go.Hg.idx (fun x=>x==z) v 0 with
 | none=>rw [hk] at h2;cases h2
 | some k=>rfl
theorem L8 {v e:List Int}(he:∀ y∈e,y∈v):A0z v e<2 ^ v.length:=Go.Hg.nB fun i hi=>Go.Hg.qD he i hi
theorem tL {m n:Nat}(h:m<2 ^ n)(hn:n≤40):m<2 ^ aK.bits:=br h (cN (by decide) (show n≤64 by omega))
theorem Qm {i:Nat}(hi:i≤40):nV .u64 1 (i:Int)=((1 <<< i:Nat):Int):=Ww (k:=.u64) rfl (m:=1) (show i≤64 by omega) (vg (show i<64 by omega))
theorem D0h {v:List Int}(nv:v.length≤40){e:List Int}(he:∀ y∈e,y∈v)(hl:e.length≤1000000)(Dx:List (List Int))(q1 q2:Int)(es:List (List Int))(X:Int×(List Int×Nat)×PUnit)(Y:Int×List Int×Nat)(Z:List Int×Nat)(m:Int) :
 di KR ((0,Dx,q1,q2,e,(e.length:Int),0),(v,es),X,Y,Z,m)=some ((((A0z v e:Nat):Int),Dx,q1,q2),(v,es),X,Y,Z,m):=by
 have key:=qs (f:=KR) e.length (fun i=>((((A0z v (e.take i):Nat):Int),Dx,q1,q2,e,(e.length:Int),(i:Int)),(v,es),X,Y,Z,m)) ((((A0z v e:Nat):Int),Dx,q1,q2),(v,es),X,Y,Z,m) (fun i hi=>by
  have dN:(i:Int)<(e.length:Int):=by omega
  have hm:=he _ (aJ hi);have hp:=Go.Hg.iM hm;have hb:=tL (L8 (v:=v) (e:=e.take i) fun y hy=>he y (c8 hy)) nv
  have e1:A0z v (e.take (i+1))=A0z v (e.take i) ||| 1 <<< A0o v e[i]:=by
   unfold A0z bitsFrom;rw [si hi,fG];rfl
  have e2:=Cy (k:=.u64) rfl hb (vg (show A0o v e[i]<64 by omega))
  simp only [KR,dN,decide_true,cond_true,aj,aq,af hi,ah,D17 (show v.length≤1000000 by omega) hm,Qm (show A0o v e[i]≤40 by omega),e1,e2,
   gV (show i<9223372036854775807 by omega)]) (by
  simp only [KR,aX,decide_false,cond_false,mS])
 exact key
theorem C4S {v:List Int}{es:List (List Int)}(nv:v.length≤40)(ne:es.length≤1000000)(el:∀ e∈es,e.length≤1000000)(fQ:∀ e∈es,∀ y∈e,y∈v)(o:List Int)(k:Nat)(m:Int) :
 Pp ((v,es),(o,k),m)=some (((v.length:Int),fZ (es.map (A0z v))),(o,k),m):=by
 have key:=qs (f:=KS) es.length (fun i=>((es,(es.length:Int),(i:Int)),(v,es),((0:Int),(([]:List Int),0),()),((v.length:Int),fZ ((es.take i).map (A0z v)),i),(o,k),m))
  (((0:Int),(([]:List Int),0),()),((v.length:Int),fZ (es.map (A0z v)),es.length),(o,k),m) (fun i hi=>by
  have dN:(i:Int)<(es.length:Int):=by omega
  have hl:(fZ ((es.take i).map (A0z v))).length=i:=by simp;omega
  have FP:(fZ ((es.take i).map (A0z v))++[((A0z v es[i]:Nat):Int)]).length=i+1:=by rw [aQ,hl];rfl
  have e1:fZ ((es.take (i+1)).map (A0z v))=fZ ((es.take i).map (A0z v))++[((A0z v es[i]:Nat):Int)]:=by
   rw [si hi,b8,WI];rfl
  simp only [KS,dN,decide_true,cond_true,aj,aq,af hi,ah,D0h nv (fQ _ (aJ hi)) (el _ (aJ hi)),beq_self_eq_true,hl,
   iy (au _),iy (show (i+1)*8≤140737488355328 by omega),aZ (eF hl),FP,gV (show i<9223372036854775807 by omega),e1]) (by
  simp only [KS,aX,decide_false,cond_false,mS])
 unfold Pp;have key:di KS ((es,(es.length:Int),0),(v,es),(0,([],0),()),((v.length:Int),[],0),(o,k),m)=_:=key;simp only;rw [key];have hl:(fZ (es.map (A0z v))).length=es.length:=by simp
 simp only [ah,hl,iy (au _),cond_true,aZ (eF hl)]
theorem C2f (a b:Nat):((less a b:Nat)==0)=A2R a b:=by
 apply cn.2;rw [beq_iff_eq,Go.Hg.gM];constructor
 · intro h i hi;have h1:=Go.Hg.iL a b i;rw [h,dS,hi] at h1;simpa using h1
 · intro h;apply ec;intro i;rw [Go.Hg.iL,dS];cases ha:a.testBit i with
   | false=>rfl
   | true=>rw [h i ha];rfl
theorem WJ (n:Nat):(((n:Nat):Int)==0)=(n==0):=by
 cases n with
 | zero=>rfl
 | succ n=>rfl
theorem C5K {n e u fQ xJ:Nat}(hn:n≤40)(he:e<2 ^ n)(hu:u<n)(hi:fQ<2 ^ n)(hl:xJ<2 ^ n):Pq ((e:Int),(u:Int),(fQ:Int),(xJ:Int))=some (e.testBit u&&A2R (less e (1 <<< u)) (fQ ||| xJ)):=by
 unfold Pq;simp only [aj,decide_true,cond_true,L4 (k:=.u64) rfl (show u≤64 by omega) (by decide) (tL he hn),Qm (show u≤40 by omega),
  HY (k:=.u64) rfl (tL he hn) (vg (show u<64 by omega)),Cy (k:=.u64) rfl (tL hi hn) (tL hl hn),HY (k:=.u64) rfl (L3 (tL he hn)) (eT (tL hi hn) (tL hl hn)),WJ,C2f]
 cases e.testBit u<;>rfl
theorem C8v {n:Nat}{E:List Nat}(hn:n≤40)(hE:∀ e∈E,e<2 ^ n)(nE:E.length≤1000000){u fQ xJ:Nat}(hu:u<n)(hi:fQ<2 ^ n)(hl:xJ<2 ^ n)(a:Int)(o:List Int)(m:Int) :
 Pr ((a,fZ E,o,m),(u:Int),(fQ:Int),(xJ:Int))=some (A3m E u (fQ ||| xJ)):=by
 have key:=Cv (f:=KT) E (fun i=>(fZ E,((u:Int),(fQ:Int),(xJ:Int)),(E.length:Int),(i:Int))) (fun _ e=>e.testBit u&&A2R (less e (1 <<< u)) (fQ ||| xJ)) (fun i=>.inl (i:Int)) (.inr ()) (fun i dN=>by
  have h':(i:Int)<(E.length:Int):=by omega
  simp only [KT,h',decide_true,cond_true,aj,aq,Bi dN,ah,C5K hn (hE _ (aJ dN)) hu hi hl,gV (show i<9223372036854775807 by omega)]
  cases E[i].testBit u&&A2R (less E[i] (1 <<< u)) (fQ ||| xJ)<;>rfl) (by
  simp only [KT,aX,decide_false,cond_false])
 have key:di KT (fZ E,((u:Int),(fQ:Int),(xJ:Int)),(E.length:Int),0)=_:=key;unfold Pr Vw Vv;simp only [vV];rw [key];have ha:=Hu (fun e=>e.testBit u&&A2R (less e (1 <<< u)) (fQ ||| xJ)) E 0
 unfold A3m;rw [← ha];cases pG (fun _ e=>e.testBit u&&A2R (less e (1 <<< u)) (fQ ||| xJ)) E 0<;>simp
theorem D34 {n:Nat}{E:List Nat}(hn:n≤40)(hE:∀ e∈E,e<2 ^ n)(nE:E.length≤1000000){s:Nat}(hs:s<2 ^ n) :
 Ps (fZ E,(s:Int))=some (A3F E s):=by
 have key:=Cv (f:=KU) E (fun i=>(fZ E,(s:Int),(E.length:Int),(i:Int))) (fun _ e=>A2R e s) (fun i=>.inl (i:Int)) (.inr ()) (fun i dN=>by
  have h':(i:Int)<(E.length:Int):=by omega
  simp only [KU,Vy,h',decide_true,cond_true,aj,aq,Bi dN,ah,HY (k:=.u64) rfl (tL (hE _ (aJ dN)) hn) (tL hs hn),WJ,C2f,
   gV (show i<9223372036854775807 by omega)]
  cases A2R E[i] s<;>rfl) (by
  simp only [KU,aX,decide_false,cond_false])
 have key:di KU (fZ E,(s:Int),(E.length:Int),0)=_:=key;unfold Ps Vz;simp only [vV];rw [key];have ha:=Hu (fun e=>A2R e s) E 0
 unfold A3F;rw [← ha];cases pG (fun _ e=>A2R e s) E 0<;>simp
theorem D18 {k v n:Nat}(h:v+k=n):later k v<2 ^ n:=jF _ fun i hi=>by
 rw [Go.Hg.qt];simp;omega
theorem C4T {n k v:Nat}(hn:n≤40)(h:v+k=n):oK .u64 (nV .u64 18446744073709551615 (v:Int)) (aK.wrap (nV .u64 1 (n:Int)-1))=((later k v:Nat):Int):=by
 have w64:∀ m:Nat,aK.wrap (m:Int)=((m%2 ^ 64:Nat):Int):=fun m=>by
  simp only [gF,fS,eQ];simp
 have e1:nV .u64 18446744073709551615 (v:Int)=((((2 ^ 64-1) <<< v)%2 ^ 64:Nat):Int):=by
  unfold nV;have e:min ((v:Int).toNat) aK.bits=v:=by rw [aq];show min v 64=v;omega
  rw [e,← w64,nk];congr 1
 have hp:0<2 ^ n:=gB n;have e2:aK.wrap (nV .u64 1 (n:Int)-1)=((2 ^ n-1:Nat):Int):=by
  rw [Qm (by omega),eS]
  have:(((2 ^ n:Nat):Int)-1)=((2 ^ n-1:Nat):Int):=by omega
  rw [this];exact DM (k:=.u64) rfl (tL (show 2 ^ n-1<2 ^ n by omega) hn)
 rw [e1,e2,L2 (k:=.u64) (m:=((2 ^ 64-1) <<< v)%2 ^ 64) rfl (Nat.mod_lt _ (by decide)) (tL (show 2 ^ n-1<2 ^ n by omega) hn)]
 congr 1;apply ec;intro i;rw [fK,Go.Hg.qt,Nat.testBit_mod_two_pow,Nat.testBit_shiftLeft,dU,dU];by_cases h1:i<n
 · have h2:i<64:=by omega
   have h3:i-v<64:=by omega
   have h4:i<v+k:=by omega
   simp [h1,h2,h3,h4]
 · have h4:¬ i<v+k:=by omega
   simp [h1,h4]
theorem B7A {α β:Type}(g:α→β)(l:List α):(l.flatMap fun s=>[g s])=l.map g:=by
 induction l with
 | nil=>rfl
 | cons x r ih=>rw [iY,ih];rfl
theorem L9 (E:List Nat):∀ k v fQ out,(A6j E k v fQ out).length≤2 ^ k
 | 0,v,fQ,out=>by unfold A6j;split<;>simp
 | k+1,v,fQ,out=>by
   unfold A6j;split
   · simp
   · rw [aQ,kJ];have h1:=L9 E k (v+1) (fQ ||| 1 <<< v) out;have h2:=L9 E k (v+1) fQ (out ||| 1 <<< v);split
     · simp;omega
     · omega
section
variable {n:Nat}{E:List Nat}(hn:n≤40)(hE:∀ e∈E,e<2 ^ n)(nE:E.length≤1000000)
include hn hE nE
theorem C6N {k v fQ out:Nat}(hv:v+k=n)(hi:fQ<2 ^ n)(ho:out<2 ^ n)(o:List Int)(l:Nat)(m:Int) :
 di KV (((v:Int),(fQ:Int),(out:Int),((later k v:Nat):Int),(v:Int),0),((n:Int),fZ E),(o,l),m) =
  some (if B4K E k v fQ out then .inl (true,(o,l),m) else .inr (((v:Int),(fQ:Int),(out:Int)),((n:Int),fZ E),(o,l),m)):=by
 have key:=tg (f:=KV) (bp v) (fun u=>(((v:Int),(fQ:Int),(out:Int),((later k v:Nat):Int),(v:Int),(u:Int)),((n:Int),fZ E),(o,l),m)) (fun u=>out.testBit u && !A3m E u (fQ ||| later k v))
  (.inl (true,(o,l),m)) (.inr (((v:Int),(fQ:Int),(out:Int)),((n:Int),fZ E),(o,l),m)) (fun u hu=>by
  rw [gH] at hu;have nr:(u:Int)<(v:Int):=by omega
  rw [List.getElem_range];simp only [KV,nr,decide_true,cond_true,aj,L4 (k:=.u64) rfl (show u≤64 by omega) (by decide) (tL ho hn),C8v hn hE nE (show u<n by omega) hi (D18 hv),ah,gV (show u<9223372036854775807 by omega)]
  cases out.testBit u<;>cases A3m E u (fQ ||| later k v)<;>rfl) (by
  rw [gH];simp only [KV,aX,decide_false,cond_false])
 exact key
theorem Qn {m:Nat}(hm:m≤1000000):∀ (k v fQ out f:Nat) (o:List Int),v+k=n→fQ<2 ^ n→out<2 ^ n→k<f→o.length+(A6j E k v fQ out).length≤m →
 Hz f ((((n:Int),fZ E),(v:Int),(fQ:Int),(out:Int)),(o,o.length),(m:Int))=some (true,(o++fZ (A6j E k v fQ out),(o++fZ (A6j E k v fQ out)).length),(m:Int))
 | k,v,fQ,out,0,o,hv,hi,ho,hf,hl=>by omega
 | 0,v,fQ,out,f+1,o,hv,hi,ho,hf,hl=>by
   show KW _ _=_;unfold KW;simp only [aj,decide_true,cond_true,C4T hn hv,C6N hn hE nE hv hi ho,ah];unfold A6j at hl ⊢;cases hc:B4K E 0 v fQ out with
   | true=>simp [fZ]
   | false =>
     have WK:v=n:=by omega
     rw [hc] at hl;simp only [if_false,aF,dz] at hl;have FP:(o++[(fQ:Int)]).length=o.length+1:=by simp
     have hle:(((o.length+1:Nat):Int)≤(m:Int)):=by omega
     subst WK;simp only [if_false,aF,Sum.elim_inr,beq_self_eq_true,cond_true,Vx,iy (au _),iy (show (o.length+1)*8≤140737488355328 by omega),mS,FP,hle,decide_true,ah,fZ,aH,cr]
 | k+1,v,fQ,out,f+1,o,hv,hi,ho,hf,hl=>by
   show KW (Hz f) _=_;unfold KW;simp only [aj,decide_true,cond_true,C4T hn hv,C6N hn hE nE hv hi ho,ah];unfold A6j at hl ⊢;cases hc:B4K E (k+1) v fQ out with
   | true=>simp [fZ]
   | false =>
     rw [hc] at hl;simp only [if_false,aF] at hl ⊢;have hb:1 <<< v<2 ^ n:=vg (by omega)
     have oS:fQ ||| 1 <<< v<2 ^ n:=eT hi hb;have ho2:out ||| 1 <<< v<2 ^ n:=eT ho hb;have WK:((v:Int)==(n:Int))=false:=by rw [beq_eq_false_iff_ne];omega
     simp only [Sum.elim_inr,WK,cond_false,Qm (show v≤40 by omega),Cy (k:=.u64) rfl (tL hi hn) (tL hb hn),Cy (k:=.u64) rfl (tL ho hn) (tL hb hn),D34 hn hE nE oS,ah,gV (show v<9223372036854775807 by omega)]
     cases he:A3F E (fQ ||| 1 <<< v) with
     | true =>
       rw [he] at hl;simp only [if_true,a7] at hl;simp only [bI,cond_false,if_true,a7,aj,decide_true,cond_true,Qn hm k (v+1) fQ (out ||| 1 <<< v) f o (by omega) hi ho2 (by omega) hl,ah]
     | false =>
       rw [he] at hl;simp only [if_false,aF,aQ] at hl;have h1:=Qn hm k (v+1) (fQ ||| 1 <<< v) out f o (by omega) oS ho (by omega) (by omega)
       have h2:=Qn hm k (v+1) fQ (out ||| 1 <<< v) f (o++fZ (A6j E k (v+1) (fQ ||| 1 <<< v) out)) (by omega) hi ho2 (by omega) (by rw [aQ,vV];omega)
       simp only [dZ,aj,decide_true,cond_true,h1,ah,bI,cond_false,h2,if_false,aF,WI,bh]
end
section
variable {v:List Int}{es:List (List Int)}(H:HOk v es)(el:∀ e∈es,e.length≤1000000)
include H el
theorem D35 (n17:v.length≤14):Pu ((v,es),20000)=some (fZ (allS v es),true):=by
 have nE:(es.map (A0z v)).length≤1000000:=by rw [aE];have:=H.ne;omega
 have hE:∀ e∈es.map (A0z v),e<2 ^ v.length:=by
  intro e he;obtain ⟨x,hx,rfl⟩:=bj.1 he;exact L8 (H.fQ x hx)
 have hlen:(A6j (es.map (A0z v)) v.length 0 0 0).length≤20000:=by
  have h1:=L9 (es.map (A0z v)) v.length 0 0 0;have h2:2 ^ v.length≤2 ^ 14:=cN (by decide) n17
  have h3:2 ^ 14=16384:=by decide
  omega
 have hw:Pt ((((v.length:Int),fZ (es.map (A0z v))),0,0,0),([],0),20000)=some (true,(fZ (allS v es),(fZ (allS v es)).length),20000):=by
  unfold Pt;refine C6y (v.length+1) fun f hf=>?_
  exact Qn (m:=20000) H.nv hE nE (by decide) v.length 0 0 0 f [] (by omega) (gB _) (gB _) (by omega) (by simpa using hlen)
 unfold Pu;have eD:=H.ne;simp only [C4S H.nv (show es.length≤1000000 by omega) el H.fQ,ah,hw,iy (au _),cond_true,mS]
omit el in
theorem D54 {s:Nat}(hs:s<2 ^ v.length):Pv ((v,es),(s:Int))=some (idsP v s):=by
 have hv:=H.nv;have key:=qs (f:=KX) v.length (fun i=>(((s:Int),(idsP (v.take i) s).length,v,(v.length:Int),(i:Int)),idsP (v.take i) s)) ((idsP v s).length,idsP v s) (fun i hi=>by
  have dN:(i:Int)<(v.length:Int):=by omega
  have hl:=L6 (v.take i) s;rw [aY] at hl;simp only [KX,dN,decide_true,cond_true,aj,aq,L4 (k:=.u64) rfl (show i≤64 by omega) (by decide) (tL hs hv),af hi,ah,gV (show i<9223372036854775807 by omega),WD hi,
   iy (au _),iy (show ((idsP (v.take i) s).length+1)*8≤140737488355328 by omega),mS]
  cases s.testBit i<;>simp) (by
  simp only [KX,aX,decide_false,cond_false,mS])
 have key:di KX (((s:Int),0,v,(v.length:Int),0),[])=_:=key;unfold Pv;simp only;rw [key];simp only [ah,iy (au _),cond_true,mS]
end
end Go.Mid
namespace Go.Mid
open Go.Hg (asc A0y A5O A0L before A3Q idsP pick A7E A1d hEs A8B A4z A5h A6k PrV nbB A3f)
theorem D0i {s:Nat}(h:s<4294967296):cM.wrap (s:Int)=(s:Int):=DM (k:=.u32) rfl h
theorem C8w {s i:Nat}(hs:s<4294967296)(hi:i<32):Pw ((s:Int),(i:Int))=some (s.testBit i):=by
 unfold Pw;have h1:((i:Int) ≥ 0):=by omega
 have h2:((i:Int)<32):=by omega
 simp only [h1,h2,decide_true,cond_true,aj,L4 (k:=.u32) rfl (show i≤32 by omega) (by decide) (show s<2 ^ cM.bits from hs)]
 cases s.testBit i<;>rfl
theorem C5L {v:List Int}{es:List (List Int)}(nv:v.length≤20){s:Nat}(hs:s<4294967296):Px ((v,es),(s:Int))=some (pick v s):=by
 have WL:pick v s=idsP (v.take 8) s:=rfl;have WM:idsP (v.take (min v.length 8)) s=idsP (v.take 8) s:=by
  by_cases h:v.length≤8
  · rw [da h,dR,aZ h]
  · rw [jz (by omega)]
 have key:=qs (f:=HA) (min v.length 8) (fun i=>(((s:Int),(idsP (v.take i) s).length,(i:Int)),(v,es),idsP (v.take i) s)) ((idsP (v.take 8) s).length,idsP (v.take 8) s) (fun i hi=>by
  have yV:i<v.length:=by omega
  have dN:(i:Int)<(v.length:Int):=by omega
  have hi8:(i:Int)<8:=by omega
  have hl:=L6 (v.take i) s;rw [aY] at hl;simp only [HA,dN,hi8,decide_true,cond_true,aj,aq,D0i hs,C8w hs (show i<32 by omega),af yV,ah,gV (show i<9223372036854775807 by omega),WD yV,
   iy (au _),iy (show ((idsP (v.take i) s).length+1)*8≤140737488355328 by omega),mS]
  cases s.testBit i<;>simp) (by
  rw [WM];by_cases h:v.length≤8
  · have h':¬ ((min v.length 8:Nat):Int)<(v.length:Int):=by omega
    simp only [HA,h',decide_false,cond_false]
  · have h1:((min v.length 8:Nat):Int)<(v.length:Int):=by omega
    have h2:¬ ((min v.length 8:Nat):Int)<8:=by omega
    simp only [HA,h1,h2,decide_true,decide_false,cond_true,cond_false])
 have key:di HA (((s:Int),0,0),(v,es),[])=_:=key;unfold Px;simp only;rw [key,WL];simp only [ah,iy (au _),cond_true,mS]
theorem WN {α:Type}{l:List α}{i:Nat}(h:i<l.length):(l.take (i+1)).zipIdx=(l.take i).zipIdx++[(l[i],i)]:=by
 rw [si h,List.zipIdx_append];simp [da (fT h)]
theorem B3G (ls:List (List Int)):∀ (l:List (List Int)) (i:Nat) (out:List (List Int)),A5h ls l i out=(l.zipIdx i).foldl (fun out x=>A4z ls x.2 x.1 out) out
 | [],_,_=>rfl
 | x::r,i,out=>by
   simp only [A5h,jy,gA,B3G ls r]
section
variable {ls:List (List Int)}(nl:ls.length≤1000)(el:∀ e∈ls,e.length≤100000)
def oU (ls:List (List Int))(i:Nat):List (List Int):=(ls.take i).zipIdx.foldl (fun out x=>A4z ls x.2 x.1 out) []
theorem C2g {i:Nat}(h:i<ls.length):oU ls (i+1)=A4z ls i ls[i] (oU ls i):=by
 unfold oU;rw [WN h,fG];rfl
include el in
theorem C4U:∀ i,i≤ls.length→(oU ls i).length≤i∧∀ x∈oU ls i,x.length≤100000
 | 0,_=>⟨au _,fun x hx=>by simp [oU] at hx⟩
 | i+1,h=>by
   obtain ⟨h1,h2⟩:=C4U i (by omega)
   rw [C2g (by omega)]
   unfold A4z;split
   · refine ⟨by rw [Ql];simp;omega,fun x hx=>?_⟩
     rcases ay.1 (WE _ _ x hx) with h | h
     · exact h2 x h
     · simp only [aW] at h;subst h;exact el _ (aJ _)
   · exact ⟨by omega,h2⟩
include nl el in
theorem C4V:K5 ls=some (A6k ls):=by
 have l1:∀ (i n:Nat) (out:List (List Int)) (h:i<ls.length),di K3 ((ls,n,(i:Int),true,0),out)=some ((ls,n,(i:Int),A8B ls i ls[i]),out):=by
  intro i n out hi;have key:=qs (f:=K3) ls.length (fun k=>((ls,n,(i:Int),(ls.take k).zipIdx.all (fun y=>!(A0y y.1 ls[i]&&(decide (y.1.length<ls[i].length) || decide (y.2<i)))),(k:Int)),out)) ((ls,n,(i:Int),A8B ls i ls[i]),out) (fun k hk=>by
   have mV:(k:Int)<(ls.length:Int):=by omega
   have e1:=el _ (aJ hk);have e2:=el _ (aJ hi);simp only [K3,mV,decide_true,cond_true,aj,aq,af hk,af hi,ah,L5 (show ls[k].length≤1000000 by omega) (show ls[i].length≤1000000 by omega),gV (show k<9223372036854775807 by omega),WN hk,List.all_append,
    List.all_cons,List.all_nil,Bool.and_true]
   cases A0y ls[k] ls[i] with
   | false=>simp
   | true =>
     by_cases c1:ls[k].length<ls[i].length
     · have Qo:((ls[k].length:Int)<(ls[i].length:Int)):=by omega
       simp [c1,Qo]
     · have Qo:¬ ((ls[k].length:Int)<(ls[i].length:Int)):=by omega
       by_cases c2:k<i
       · have Cz:((k:Int)<(i:Int)):=by omega
         simp [c1,Qo,c2,Cz]
       · have Cz:¬ ((k:Int)<(i:Int)):=by omega
         simp [c1,Qo,c2,Cz]) (by
   simp only [K3,aX,decide_false,cond_false,mS];rfl)
  exact key
 have key:=qs (f:=K4) ls.length (fun i=>((ls,(oU ls i).length,(i:Int)),oU ls i)) ((oU ls ls.length).length,oU ls ls.length) (fun i hi=>by
  have dN:(i:Int)<(ls.length:Int):=by omega
  obtain ⟨h1,h2⟩:=C4U el i (fT hi);have e2:=el _ (aJ hi);simp only [K4,dN,decide_true,cond_true,l1 i _ _ hi,ah,C2g hi];unfold A4z;cases A8B ls i ls[i] with
  | false=>simp [gV (show i<9223372036854775807 by omega)]
  | true =>
    have Ab:(oU ls i++[ls[i]]).length=(oU ls i).length+1:=by simp
    have hw:ai.wrap ((((oU ls i).length+1:Nat):Int)-1)=((oU ls i).length:Int):=by
     rw [wY (by omega) (by omega)];rfl
    have sk:di PA ((ls,(oU ls i).length+1,(i:Int),((oU ls i).length:Int)),oU ls i++[ls[i]])=some ((ls,(oU ls i).length+1,(i:Int)),A3Q (oU ls i).length (oU ls i++[ls[i]])):=by
     refine B9Y (fun k o=>((ls,(oU ls i).length+1,(i:Int),(k:Int)),o)) (fun o=>((ls,(oU ls i).length+1,(i:Int)),o)) ((oU ls i).length+1) (fun k out hn hx h=>?_) (fun out=>?_) (oU ls i).length (oU ls i++[ls[i]]) (by rw [Ab];omega) Ab (fun x hx=>?_)
     · have CV:((k+1:Nat):Int)>0:=by omega
       have e1:k+1<(oU ls i).length+1:=by omega
       have e2:k<(oU ls i).length+1:=by omega
       have e3:k<out.length:=by omega
       simp only [PA,CV,decide_true,cond_true,aj,aq,ln e1,ln e2,af h,af e3,ah,wY (show 1≤k+1 by omega) (by omega),dJ,
        WC (hx _ (aJ h))]
       have e4:(out.set (k+1) out[k])[k]?=some out[k]:=by rw [eJ (by omega),af e3]
       rw [e4];cases before out[k+1] out[k]<;>simp
     · simp [PA]
     · rcases ay.1 hx with h | h
       · have:=h2 x h;omega
       · simp only [aW] at h;subst h;omega
    have tG:(A3Q (oU ls i).length (oU ls i++[ls[i]])).length=(oU ls i).length+1:=by rw [Ql,Ab]
    simp only [bI,cond_false,aj,decide_true,cond_true,if_true,aq,af hi,ah,bS,gQ,a7,dR,iy (au _),iy (show ls[i].length*8≤140737488355328 by omega),
     iy (show ((oU ls i).length+1)*24≤140737488355328 by omega),mS,hw,sk,gV (show i<9223372036854775807 by omega),tG]) (by
  simp only [K4,aX,decide_false,cond_false])
 have key:di K4 ((ls,0,0),[])=_:=key;unfold K5;rw [key];have e:oU ls ls.length=A6k ls:=by
  unfold oU A6k;rw [B3G,mS]
 simp only [ah,iy (au _),cond_true,mS,e]
end
theorem D6W (N:Nat):ai.wrap ((N:Int).tmod 9)=((N%9:Nat):Int):=by
 have e:(N:Int).tmod 9=((N%9:Nat):Int):=(oB N 9).symm;rw [e];exact Kx (by omega)
theorem D55 (N:Nat)(E:List Int)(n:Nat)(hn:n≤9):di K6 (((n:Int),0),((N:Int),E),(([],0),[],0),([],0),[],0)=some (((N:Int),E),(([],0),[],0),(A1d n,n),[],0):=by
 have key:=qs (f:=K6) n (fun i=>(((n:Int),(i:Int)),((N:Int),E),(([],0),[],0),(A1d i,i),[],0)) (((N:Int),E),(([],0),[],0),(A1d n,n),[],0) (fun i hi=>by
  have dN:(i:Int)<(n:Int):=by omega
  have hl:(A1d i).length=i:=Go.Hg.lV i;have e1:ai.wrap (2+ai.wrap (3*(i:Int)))=2+3*(i:Int):=by
   rw [wrap_i64 (x:=3*(i:Int)) (by omega) (by omega),wrap_i64 (by omega) (by omega)]
  have FP:(A1d i++[2+3*(i:Int)]).length=i+1:=by simp
  simp only [K6,dN,decide_true,cond_true,beq_self_eq_true,hl,iy (au _),iy (show (i+1)*8≤140737488355328 by omega),e1,aZ (eF hl),FP,gV (show i<9223372036854775807 by omega),Go.Hg.vU]) (by
  simp only [K6,aX,decide_false,cond_false])
 exact key
def Bj (V:List Int)(E:List Nat)(i:Nat):List (List Int):=((E.take i).map (pick V)).filter fun e=>!e.isEmpty
theorem C4W (V:List Int){E:List Nat}{i:Nat}(h:i<E.length):Bj V E (i+1)=Bj V E i++if (pick V E[i]).isEmpty then [] else [pick V E[i]]:=by
 unfold Bj;rw [si h,b8,eI];congr 1;simp only [aH,cr,jA,List.filter_nil];cases (pick V E[i]).isEmpty<;>rfl
theorem C5M (V:List Int)(E:List Nat)(i:Nat):(Bj V E i).length≤i:=by
 unfold Bj;refine dI (dT _ _) ?_;rw [aE,aY];omega
theorem C8x {N:Nat}{E:List Nat}(hE:∀ e∈E,e<256):PB ((N:Int),fZ E)=some ((A1d (N%9),hEs N E),decide (E.length≤12)):=by
 have hn:N%9≤9:=by omega
 have BN:(A1d (N%9)).length=N%9:=Go.Hg.lV _;have key:=qs (f:=HD) (min E.length 12) (fun i=>(((Bj (A1d (N%9)) E i).length,(i:Int)),((N:Int),fZ E),(([],0),[],0),((A1d (N%9),N%9),[],0),Bj (A1d (N%9)) E i))
  ((A7E (A1d (N%9)) E).length,((N:Int),fZ E),(([],0),[],0),((A1d (N%9),N%9),[],0),A7E (A1d (N%9)) E) (fun i hi=>by
  have yV:i<E.length:=by omega
  have dN:(i:Int)<((fZ E).length:Int):=by rw [vV];omega
  have WO:(i:Int)<12:=by omega
  have hl:=C5M (A1d (N%9)) E i;have hb:=hE _ (aJ yV);simp only [HD,dN,WO,decide_true,cond_true,aj,aq,Bi yV,ah,BN,iy (au _),List.length_nil,gQ,aZ (eF BN),C5L (show (A1d (N%9)).length≤20 by omega) (show E[i]<4294967296 by omega),
   iy (show ((Bj (A1d (N%9)) E i).length+1)*24≤140737488355328 by omega),mS,gV (show i<9223372036854775807 by omega),C4W (A1d (N%9)) yV]
  cases hp:pick (A1d (N%9)) E[i] with
  | nil=>simp
  | cons a r =>
    have:(((a::r).length:Int)>0):=by simp
    simp only [this,decide_true,cond_true,List.isEmpty_cons,aF,if_false,aQ,dz]) (by
  have e:Bj (A1d (N%9)) E (min E.length 12)=A7E (A1d (N%9)) E:=by
   unfold Bj A7E;congr 2;by_cases h:E.length≤12
   · rw [da h,dR,aZ h]
   · rw [jz (by omega)]
  rw [e];by_cases h:E.length≤12
  · have h':¬ ((min E.length 12:Nat):Int)<((fZ E).length:Int):=by rw [vV];omega
    simp only [HD,h',decide_false,cond_false]
  · have h1:((min E.length 12:Nat):Int)<((fZ E).length:Int):=by rw [vV];omega
    have h2:¬ ((min E.length 12:Nat):Int)<12:=by omega
    simp only [HD,h1,h2,decide_true,decide_false,cond_true,cond_false])
 have key:di HD ((0,0),((N:Int),fZ E),(([],0),[],0),((A1d (N%9),N%9),[],0),[])=_:=key;have hed:K5 (A7E (A1d (N%9)) E)=some (hEs N E):=by
  refine C4V (by have:=Go.Hg.pX N E;omega) fun e he=>?_
  obtain ⟨_,s,rfl⟩:=Go.Hg.oL he
  have:=Go.Hg.uF (A1d (N%9)) s
  omega
 unfold PB;simp only [D6W,D55 N (fZ E) (N%9) hn,ah,key,iy (au _),cond_true,mS,hed,BN,aZ (eF BN)];by_cases h:E.length≤12
 · have h':((fZ E).length:Int)≤12:=by rw [vV];omega
   simp [h];omega
 · have h':¬ ((fZ E).length:Int)≤12:=by rw [vV];omega
   simp [h];omega
def Qp (y:Nat)(s:Nat×Nat)(k:Nat):Nat×Nat:=if y.testBit k&&decide (s.1<2) then (s.1+1,s.2 ||| 1 <<< k) else s
def rS (y k:Nat):Nat×Nat:=(bp k).foldl (Qp y) (0,0)
def pw (y:Nat):Nat:=(rS y 8).2
theorem B92 (y k:Nat):rS y (k+1)=Qp y (rS y k) k:=by
 unfold rS;rw [iR,fG];rfl
theorem Qq (y:Nat):∀ k,(rS y k).1≤2∧(rS y k).2<2 ^ k∧((bp k).filter fun i=>(rS y k).2.testBit i).length=(rS y k).1
 | 0=>⟨by simp [rS],by simp [rS],rfl⟩
 | k+1=>by
   obtain ⟨h1,h2,h3⟩:=Qq y k;rw [B92];unfold Qp;have hp:2 ^ k<2 ^ (k+1):=Nat.pow_lt_pow_right (by decide) (la k)
   split
   · rename_i hc;simp only [ak,decide_eq_true_eq] at hc;refine ⟨by show (rS y k).1+1≤2;omega,eT (by omega) (vg (la k)),?_⟩
     rw [iR,eI,aQ];have e1:((bp k).filter fun i=>((rS y k).2 ||| 1 <<< k).testBit i)=(bp k).filter fun i=>(rS y k).2.testBit i:=by
      refine mL fun i hi=>?_
      have:=bW.1 hi
      rw [bQ,Go.Hg.ei];have eD:¬ i=k:=by omega
      simp [eD]
     rw [e1,h3];simp [bQ,Go.Hg.ei]
   · refine ⟨h1,by omega,?_⟩
     rw [iR,eI,aQ,h3]
     have:(rS y k).2.testBit k=false:=fW h2
     simp [this]
theorem D36 (y:Nat):pw y<256:=(Qq y 8).2.1
theorem D0j (V:List Int)(y:Nat):(pick V (pw y)).length≤2:=by
 obtain ⟨h1,_,h3⟩:=Qq y 8
 have:(pick V (pw y)).length≤((bp 8).filter fun i=>(rS y 8).2.testBit i).length:=by
  unfold pick;rw [aE];have e:((V.take 8).zipIdx.filter fun x=>(pw y).testBit x.2).length=(((V.take 8).zipIdx.filter fun x=>(pw y).testBit x.2).map (·.2)).length:=by rw [aE]
  rw [e];have e2:((V.take 8).zipIdx.filter fun x=>(pw y).testBit x.2).map (·.2)=(bp (V.take 8).length).filter fun i=>(pw y).testBit i:=by
   have:(V.take 8).zipIdx.map (·.2)=bp (V.take 8).length:=by
    rw [List.zipIdx_map_snd,lG]
   rw [← this,List.filter_map];rfl
  rw [e2];have hl:(V.take 8).length≤8:=by rw [aY];omega
  have hs:(bp (V.take 8).length).Sublist (bp 8):=List.range_sublist.2 hl;exact (hs.filter _).length_le
 omega
theorem D2E {k:IntKind}{m i:Nat}(hi:i≤k.bits):((jU k (m:Int) (i:Int)).tmod 2==1)=m.testBit i:=by
 rw [Wv hi]
 have:((m >>> i:Nat):Int).tmod 2=(((m >>> i)%2:Nat):Int):=(oB (m >>> i) 2).symm
 rw [this,← iC,Wd,kK,du];cases m.testBit i<;>rfl
abbrev Z0:(List Int×Nat)×List (List Int)×Nat:=(([],0),[],0)
section
variable {N:Nat}{E:List Nat}{R:List Int}{skip:Nat}
theorem D6X (c:Nat){i:Nat}(hi:i<E.length)(cut:List Int):di K8 ((c,(i:Int),0,0,0),((N:Int),fZ E),(R,(skip:Int)),Z0,cut)=some ((c,(i:Int),((pw E[i]:Nat):Int)),((N:Int),fZ E),(R,(skip:Int)),Z0,cut):=by
 have key:=qs (f:=K8) 8 (fun k=>((c,(i:Int),(((rS E[i] k).1:Nat):Int),(((rS E[i] k).2:Nat):Int),(k:Int)),((N:Int),fZ E),(R,(skip:Int)),Z0,cut)) ((c,(i:Int),((pw E[i]:Nat):Int)),((N:Int),fZ E),(R,(skip:Int)),Z0,cut) (fun k hk=>by
  have mV:(k:Int)<8:=by omega
  obtain ⟨h1,h2,_⟩:=Qq E[i] k;have hp:(rS E[i] k).2<2 ^ IntKind.u8.bits:=br h2 (cN (by decide) (show k≤8 by omega))
  have e1:nV .u8 1 (k:Int)=((1 <<< k:Nat):Int):=Ww (k:=.u8) rfl (m:=1) (show k≤8 by omega) (vg (show k<8 by omega))
  have e2:=Cy (k:=.u8) rfl hp (vg (show k<8 by omega))
  simp only [K8,mV,decide_true,cond_true,aj,aq,Bi hi,ah,D2E (k:=.u8) (show k≤8 by omega),gV (show k<9223372036854775807 by omega),B92,Qp,e1,e2]
  cases hb:E[i].testBit k with
  | false=>simp
  | true =>
    by_cases c2:(rS E[i] k).1<2
    · have Cz:(((rS E[i] k).1:Nat):Int)<2:=by omega
      simp [c2,Cz,gV (show (rS E[i] k).1<9223372036854775807 by omega)]
    · have Cz:¬ (((rS E[i] k).1:Nat):Int)<2:=by omega
      simp [c2,Cz]) (by
  simp [K8,pw])
 exact key
theorem D6Y (hE:E.length≤reachBytes):di K9 ((0,0),((N:Int),fZ E),(R,(skip:Int)),Z0,[])=some (E.length,((N:Int),fZ E),(R,(skip:Int)),Z0,fZ (E.map pw)):=by
 have hr:reachBytes=140737488351232:=rfl;have key:=qs (f:=K9) E.length (fun i=>((i,(i:Int)),((N:Int),fZ E),(R,(skip:Int)),Z0,fZ ((E.take i).map pw))) (E.length,((N:Int),fZ E),(R,(skip:Int)),Z0,fZ (E.map pw)) (fun i hi=>by
  have dN:(i:Int)<((fZ E).length:Int):=by rw [vV];omega
  have hl:(fZ ((E.take i).map pw)).length=i:=by simp;omega
  have e1:fZ ((E.take (i+1)).map pw)=fZ ((E.take i).map pw)++[((pw E[i]:Nat):Int)]:=by
   rw [si hi,b8,WI];rfl
  have l1:=D6X (N:=N) (R:=R) (skip:=skip) i hi (fZ ((E.take i).map pw));simp only [K9,dN,decide_true,cond_true,l1,ah,hl,iy (au _),iy (show (i+1)*1≤140737488355328 by omega),aZ (eF hl),gV (show i<9223372036854775807 by omega),e1]) (by
  simp only [K9,vV,aX,decide_false,cond_false,mS])
 exact key
end
def uI (v:List Int)(R:List Int)(x:Int):Int:=match pG (fun _ y=>y==x) (v.take R.length) 0 with | some i=>R.getD i 0 | none=>0
theorem C5N {v:List Int}{es:List (List Int)}{R:List Int}(nv:v.length≤1000)(sk x:Int):K7 ((v,es),(R,sk),x)=some (uI v R x):=by
 have hl:(v.take R.length).length=min R.length v.length:=aY;have key:=Cv (f:=HE) (v.take R.length) (fun i=>((x,(i:Int)),(v,es),R,sk)) (fun _ y=>y==x) (fun i=>.inl (R.getD i 0)) (.inr ()) (fun i hi=>by
  rw [hl] at hi;have h1:i<v.length:=by omega
  have h2:i<R.length:=by omega
  have uf:(i:Int)<(v.length:Int):=by omega
  have rh:(i:Int)<(R.length:Int):=by omega
  simp only [HE,uf,rh,decide_true,cond_true,aj,aq,af h1,af h2,ah,gV (show i<9223372036854775807 by omega),List.getElem_take,bu,bF]
  cases v[i]==x<;>rfl) (by
  rw [hl];by_cases h1:R.length<v.length
  · have uf:((min R.length v.length:Nat):Int)<(v.length:Int):=by omega
    have rh:¬ ((min R.length v.length:Nat):Int)<(R.length:Int):=by omega
    simp only [HE,uf,rh,decide_true,decide_false,cond_true,cond_false]
  · have uf:¬ ((min R.length v.length:Nat):Int)<(v.length:Int):=by omega
    simp only [HE,uf,decide_false,cond_false])
 have key:di HE ((x,0),(v,es),R,sk)=_:=key;unfold K7 uI;simp only;rw [key];cases pG (fun _ y=>y==x) (v.take R.length) 0<;>rfl
def DO (v R:List Int)(skip:Nat)(e:List Int)(i:Nat):PrV:=match e with
 | a::b::_=>if skip.testBit i then [] else if uI v R a>uI v R b then [(b,a)] else [(a,b)]
 | _=>[]
def Bk (v R:List Int)(skip:Nat)(es:List (List Int))(i:Nat):PrV:=(es.take i).zipIdx.flatMap fun x=>DO v R skip x.1 x.2
def Ac (v R:List Int)(skip:Nat)(es:List (List Int)):PrV:=Bk v R skip es es.length
theorem D0k (v R:List Int)(skip:Nat)(e:List Int)(i:Nat):(DO v R skip e i).length≤1:=by
 unfold DO;split
 · split
   · simp
   · split<;>simp
 · simp
theorem C2h (v R:List Int)(skip:Nat){es:List (List Int)}{i:Nat}(h:i<es.length):Bk v R skip es (i+1)=Bk v R skip es i++DO v R skip es[i] i:=by
 unfold Bk;rw [WN h,List.flatMap_append];simp
theorem WQ (v R:List Int)(skip:Nat)(es:List (List Int)):∀ i,i≤es.length→(Bk v R skip es i).length≤i
 | 0,_=>by simp [Bk]
 | i+1,h=>by
   rw [C2h v R skip (by omega),aQ]
   have h1:=WQ v R skip es i (by omega)
   have h2:=D0k v R skip es[i] i;omega
theorem D6Z {v R:List Int}{skip:Nat}{es:List (List Int)}(nv:v.length≤1000)(ne:es.length≤12)(ok:Bool) :
 di La ((ok,0,0),(R,(skip:Int)),Z0,(v,es),[])=some ((ok,(Ac v R skip es).length),Z0,(v,es),Ac v R skip es):=by
 have key:=qs (f:=La) es.length (fun i=>((ok,(Bk v R skip es i).length,(i:Int)),(R,(skip:Int)),Z0,(v,es),Bk v R skip es i)) ((ok,(Ac v R skip es).length),Z0,(v,es),Ac v R skip es) (fun i hi=>by
  have dN:(i:Int)<(es.length:Int):=by omega
  have hl:=WQ v R skip es i (by omega)
  simp only [La,dN,decide_true,cond_true,aj,aq,af hi,ah,D2E (k:=.u16) (show i≤16 by omega),C5N nv,iy (au _),iy (show ((Bk v R skip es i).length+1)*16≤140737488355328 by omega),mS,
   gV (show i<9223372036854775807 by omega),C2h v R skip hi]
  unfold DO
  match hm:es[i] with
  | []=>simp
  | [a]=>simp
  | a::b::r =>
    have h2:¬ (((a::b::r).length:Int)<2):=by simp;omega
    simp only [h2,decide_false,cond_false,bP,List.getElem?_cons_succ,ah];cases skip.testBit i with
    | true=>simp
    | false =>
      by_cases c:uI v R a>uI v R b
      · simp [c]
      · simp [c]) (by
  simp only [La,aX,decide_false,cond_false];rfl)
 exact key
theorem D0l {N:Nat}{E:List Nat}{R:List Int}{skip:Nat}(hE:E.length≤reachBytes):Lb (((N:Int),fZ E),R,(skip:Int)) =
 some ((A1d (N%9),hEs N (E.map pw)),Ac (A1d (N%9)) R skip (hEs N (E.map pw)),decide (E.length≤12)):=by
 have hl:(fZ (E.map pw)).length=E.length:=by simp
 have h8:∀ e∈E.map pw,e<256:=by
  intro e he;obtain ⟨y,_,rfl⟩:=bj.1 he;exact D36 y
 unfold Lb;have BN:(A1d (N%9)).length=N%9:=Go.Hg.lV _;have hy:=C8x (N:=N) h8;rw [aE] at hy;have l0:=D6Y (N:=N) (R:=R) (skip:=skip) hE;have l2:=D6Z (v:=A1d (N%9)) (R:=R) (skip:=skip) (es:=hEs N (E.map pw)) (by omega) (Go.Hg.pt _ _) (decide (E.length≤12))
 simp only [l0,ah,hl,iy (au _),cond_true,aZ (eF hl),hy,l2,mS]
section
variable {N:Nat}{E:List Nat}{R:List Int}{skip:Nat}
theorem D56:∀ e∈hEs N (E.map pw),e.length≤2:=by
 intro e he;have h1:=Go.Hg.pW N _ he;unfold A7E at h1;obtain ⟨h1,_⟩:=cA.1 h1;obtain ⟨y,hy,rfl⟩:=bj.1 h1;obtain ⟨z,_,rfl⟩:=bj.1 (c8 hy);exact D0j _ z
theorem D57:∀ e∈hEs N (E.map pw),asc e=true:=fun e he=>Go.Hg.m9 N _ e (Go.Hg.pW N _ he)
theorem D60:Go.Hg.Gr (A1d (N%9)) (hEs N (E.map pw)):=⟨Go.Hg.DL N _,D57,D56⟩
end
end Go.Mid
namespace Go.Mid
open Go.Hg (asc Gr PrV nbB A8f A3f Acy A1d hEs)
theorem C4X {v R:List Int}{skip:Nat}{es:List (List Int)}{q:Int×Int}:q∈Ac v R skip es↔∃ i,∃ h:i<es.length,q∈DO v R skip es[i] i:=by
 unfold Ac Bk;rw [mS,List.mem_flatMap];constructor
 · rintro ⟨x,hx,hq⟩;obtain ⟨e,i⟩:=x;obtain ⟨hi,he⟩:=Go.Hg.lp.1 hx;subst he;exact ⟨i,hi,hq⟩
 · rintro ⟨i,hi,hq⟩;exact ⟨(es[i],i),Go.Hg.lp.2 ⟨hi,rfl⟩,hq⟩
theorem B7B {v R:List Int}{skip i:Nat}{e:List Int}{q:Int×Int}(h:q∈DO v R skip e i):∃ a b r,e=a::b::r∧((q=(b,a)∧uI v R a>uI v R b)∨(q=(a,b)∧¬ uI v R a>uI v R b)):=by
 unfold DO at h;split at h
 · rename_i a b r;refine ⟨a,b,r,rfl,?_⟩;split at h
   · cases h
   · split at h
     · rename_i hc;simp only [aW] at h;exact .inl ⟨h,hc⟩
     · rename_i hc;simp only [aW] at h;exact .inr ⟨h,hc⟩
 · cases h
theorem C2i {v R:List Int}(hR:∀ r∈R,0≤r)(x:Int):0≤uI v R x:=by
 unfold uI;split
 · rename_i i hi;rw [bu];cases hc:R[i]? with
   | none=>exact lH _
   | some r=>exact hR r (bH hc)
 · exact lH _
section
variable {v R:List Int}{skip:Nat}{es:List (List Int)}(G:Gr v es)
include G
theorem D61 {q:Int×Int}(h:q∈Ac v R skip es):nbB es q.1 q.2=true∧q.1∈v∧q.2∈v:=by
 obtain ⟨i,hi,hq⟩:=C4X.1 h;have he:=aJ hi;obtain ⟨a,b,r,e,h1⟩:=B7B hq;have ha:a∈v:=G.kQ.fQ _ he a (by rw [e];simp)
 have hb:b∈v:=G.kQ.fQ _ he b (by rw [e];simp)
 have hn:nbB es a b=true:=by
  rcases G.cases he with ⟨x,e2,_⟩ | ⟨x,y,e2,_,hn⟩
  · rw [e] at e2;simp at e2
  · rw [e] at e2;simp only [List.cons.injEq] at e2;obtain ⟨rfl,rfl,_⟩:=e2;exact hn
 rcases h1 with ⟨rfl,_⟩ | ⟨rfl,_⟩
 · exact ⟨by rw [Go.Hg.rC];exact hn,hb,ha⟩
 · exact ⟨hn,ha,hb⟩
theorem D58 (hR:∀ r∈R,0≤r)(hv:∀ x∈v,0≤x∧x<1000):Acy (Ac v R skip es):=by
 refine ⟨fun x=>(uI v R x).toNat * 1000+x.toNat,fun q h=>?_⟩
 obtain ⟨i,hi,hq⟩:=C4X.1 h;have he:=aJ hi;obtain ⟨a,b,r,e,h1⟩:=B7B hq;have ha:=hv a (G.kQ.fQ _ he a (by rw [e];simp))
 have hb:=hv b (G.kQ.fQ _ he b (by rw [e];simp))
 have eC:a<b:=by
  rcases G.cases he with ⟨x,e2,_⟩ | ⟨x,y,e2,vF,_⟩
  · rw [e] at e2;simp at e2
  · rw [e] at e2;simp only [List.cons.injEq] at e2;obtain ⟨rfl,rfl,_⟩:=e2;exact vF
 have k1:=C2i (v:=v) hR a;have k2:=C2i (v:=v) hR b;rcases h1 with ⟨rfl,h1⟩ | ⟨rfl,h1⟩
 · show (uI v R b).toNat * 1000+b.toNat<(uI v R a).toNat * 1000+a.toNat;omega
 · show (uI v R a).toNat * 1000+a.toNat<(uI v R b).toNat * 1000+b.toNat;omega
end
theorem D59 {v R:List Int}{skip:Nat}{es:List (List Int)}:(Ac v R skip es).length≤es.length:=WQ v R skip es es.length (au _)
theorem D0m {n:Nat}(hn:n≤9):∀ x∈A1d n,0≤x∧x<1000:=by
 intro x hx;unfold A1d at hx;obtain ⟨i,hi,rfl⟩:=bj.1 hx
 have:=bW.1 hi
 omega
end Go.Mid
