/- Tools for plain laws: loops step by step, sums, bounds. -/
import Derived.Test.YtfjdpcegbfenbaaGreatDoorN2
import Derived.Test.YtfjdpcegbfenbaaGreatDoorT2
set_option linter.unusedSimpArgs false
set_option linter.unusedVariables false
open BitVec renaming ofInt → cl, toNat_ofNat → iJ
open Bool renaming false_eq_true → aF, and_eq_true → ak, not_eq_true' → db, false_or → eB, not_false → eC, true_and → cJ, eq_iff_iff → cn, not_eq_true → gq, not_true → bJ
open Classical renaming byContradiction → bz
open Go.IntKind renaming wrap → gE, bits → fT, signed → eQ, i64 → ai, u64 → aK, u32 → cM
open Int renaming lt_trans → qb, min_eq_left → nR, max_eq_right → nj, toNat_natCast → aq, ofNat_tmod → oB, natCast_nonneg → aj, lt_irrefl → aY, natCast_zero → cj, le_refl → lI
open List renaming take_length → dS, range → bp, range' → mJ, filter_cons → jD, filter_congr → mM, range_eq_range' → lH, mem_append → ay, mem_singleton → aW, any_eq_true → b6, filter_eq_nil_iff → iI, mem_range → bX, all_eq_true → bj, filter_cons_of_pos → kb, filter_append → eJ, getElem_cons_succ → fW, any_cons → ft, range_succ → iU, length_map → aD, length_filter_le → dU, pairwise_cons → bM, mem_cons → aM, nil_append → a7, getElem?_append_right → bH, append_assoc → bf, set_append_right → ez, pairwise_append → cB, foldl_cons → iQ, getElem?_eq_getElem → af, contains_iff_mem → bD, getElem?_eq_some_iff → aL, any_eq_false → fH, mem_map → bh, mem_filter → cA, mem_zipIdx_iff_getElem? → iV, zipIdx_cons → jB, pairwise_iff_getElem → dI, getElem_of_mem → gZ, length_cons → ba, pairwise_map → ek, map_cons → aG, not_mem_nil → ni, mem_cons_self → gu, mem_cons_of_mem → bU, length_tail → lf, getElem_tail → mQ, getD_eq_getElem?_getD → bu, mem_iff_getElem → fB, getElem_mem → aJ, not_any_eq_all_not → ik, length_singleton → dz, getElem?_cons_zero → bQ, take_of_length_le → aZ, take_nil → gP, drop_length → ff, drop_eq_getElem_cons → b4, drop_zero → fx, mem_or_eq_of_mem_set → bm, map_append → b8, length_take → aX, mem_of_getElem? → bI, foldl_append → fK, getElem?_set_ne → eK, flatMap_cons → jb, length_append → aQ, length_pos_iff → jP, mem_of_mem_take → c8, length_range → gG, map_nil → cr
open List.Pairwise renaming imp_of_mem → jZ, filter → ju
open Nat renaming ble_eq_true_of_le → gw, and_one_is_mod → iD, eq_of_testBit_eq → dH, zero_testBit → dT, pow_succ → kJ, add_zero → du, two_pow_pos → gA, mul_one → gH, testBit_two_pow_sub_one → dV, testBit_and → eV, le_refl → au, zero_le → dt, one_shiftLeft → eS, testBit_lt_two_pow → fX, lt_of_lt_of_le → br, pow_le_pow_right → cN, lt_pow_two_of_testBit → jH, testBit_or → bR, le_trans → dJ, sub_zero → gB, zero_add → bS, mod_eq_of_lt → fe, lt_of_le_of_lt → iK, or_lt_two_pow → eT, shiftLeft_eq → nk, testBit_shiftRight → kK, lt_succ_self → la, add_sub_cancel → dK, lt_or_eq_of_le → ml, le_of_eq → eG, min_eq_left → da, le_of_lt → fU, min_eq_right → jC
open Option renaming getD_some → bG, bind_some → ah
namespace Go.Mid
section
variable {A B:Type} {f:A→Option (A ⊕ B)}
theorem qE (n:Nat) (T:Nat→A) (b:B) (h1:∀ i,i<n→f (T i)=some (.inl (T (i+1)))) (h2:f (T n)=some (.inr b)):dq f (T 0)=some b:=by
 have:∀ k i,i+k=n→dq f (T i)=some b:=by
  intro k
  induction k with
  | zero=>intro i hi;obtain rfl:i=n:=by omega
          exact pV h2
  | succ k ih=>intro i hi;rw [uG (h1 i (by omega))];exact ih (i+1) (by omega)
 exact this n 0 (by omega)
end
theorem iy {a b:Nat} (h:a≤b):a.ble b=true:=gw h
theorem ln {a b:Nat} (h:a<b):a.blt b=true:=gw h
theorem mX {α:Type} (l:List α):l.take l.length=l:=dS
theorem sM {α:Type} {l:List α} {i:Nat} (h:i<l.length):l.take (i+1)=l.take i++[l[i]]:=List.take_succ_eq_append_getElem h
section
variable {α β:Type}
end
end Go.Mid
namespace Go.Mid
theorem Wd (m:Nat):(m &&& 1)=if m.testBit 0 then 1 else 0:=by
 rw [iD,Nat.testBit_zero]
 have:=Nat.mod_two_eq_zero_or_one m
 rcases this with h | h<;>simp [h]
def tM (m:Nat):List Nat:=(bp 32).filter fun i=>m.testBit i
theorem We:∀ {m:Nat},m≠0→∃ k,m.testBit k=true∧∀ j,j<k→m.testBit j=false:=by
 intro m
 induction m using Nat.strongRecOn with
 | _ m ih =>
   intro h;by_cases h0:m.testBit 0=true
   · exact ⟨0,h0,fun j hj=>by omega⟩
   · have h2:m / 2≠0:=by
      intro e;rw [Nat.testBit_zero] at h0
      have:m%2≠1:=by simpa using h0
      omega
     obtain ⟨k,hk,hl⟩:=ih (m / 2) (by omega) h2
     refine ⟨k+1,by rw [Nat.testBit_succ];exact hk,fun j hj=>?_⟩
     cases j with
     | zero=>simpa using h0
     | succ j=>rw [Nat.testBit_succ];exact hl j (by omega)
theorem D1O {m k:Nat} (hk:m.testBit k=true) (hl:∀ j,j<k→m.testBit j=false):∃ q,m=2 ^ k*(2*q+1):=by
 refine ⟨m / 2 ^ (k+1),?_⟩;have h1:m%2 ^ k=0:=by
  apply dH;intro i;rw [Nat.testBit_mod_two_pow,dT];by_cases h:i<k
  · rw [hl i h];simp
  · simp [h]
 have h2:m / 2 ^ k%2=1:=by
  rw [Nat.testBit_eq_decide_div_mod_eq] at hk;simpa using hk
 have h3:m / 2 ^ (k+1)=m / 2 ^ k / 2:=by rw [kJ,Nat.div_div_eq_div_mul]
 rw [h3];have h4:=Nat.div_add_mod m (2 ^ k);rw [h1,du] at h4;have h5:2*(m / 2 ^ k / 2)+1=m / 2 ^ k:=by omega
 rw [h5];exact h4.symm
theorem C4v {m k j:Nat} (hk:m.testBit k=true) (hl:∀ j,j<k→m.testBit j=false):(m-1).testBit j=if j<k then true else if j=k then false else m.testBit j:=by
 obtain ⟨q,rfl⟩:=D1O hk hl;have hp:0<2 ^ k:=gA k;have e1:2 ^ k*(2*q+1)-1=2 ^ (k+1)*q+(2 ^ k-1):=by
  rw [kJ,Nat.mul_add,gH,← Nat.mul_assoc];omega
 have e2:2 ^ k*(2*q+1)=2 ^ (k+1)*q+2 ^ k:=by
  rw [kJ,Nat.mul_add,gH,← Nat.mul_assoc]
 rw [e1,e2];have Wf:2 ^ k-1<2 ^ (k+1):=by rw [kJ];omega
 have Jr:2 ^ k<2 ^ (k+1):=by rw [kJ];omega
 rw [Nat.testBit_two_pow_mul_add _ Wf,Nat.testBit_two_pow_mul_add _ Jr];by_cases h1:j<k
 · simp [h1,Nat.lt_succ_of_lt h1,dV]
 · by_cases h2:j=k
   · subst h2;simp [dV]
   · have:¬ j<k+1:=by omega
     simp [h1,h2,this]
theorem D1P {m k:Nat} (hk:m.testBit k=true) (hl:∀ j,j<k→m.testBit j=false) (i:Nat):(m &&& (m-1)).testBit i=(m.testBit i&&decide (i≠k)):=by
 rw [eV,C4v hk hl];by_cases h1:i<k
 · simp [h1,hl i h1]
 · by_cases h2:i=k
   · subst h2;simp
   · simp [h1,h2]
theorem B55 {p:Nat→Bool} {k:Nat}:∀ (n s:Nat),s≤k→k<s+n→(∀ j,s≤j→j<k→p j=false)→p k=true →
 (mJ s n).filter p=k::(mJ s n).filter (fun i=>p i&&decide (i≠k))
 | 0,s,h1,h2,_,_=>by omega
 | n+1,s,h1,h2,hl,hk=>by
   rw [List.range'_succ];by_cases h:s=k
   · subst h;simp only [jD,hk,if_true,ne_eq,not_true_eq_false,decide_false,Bool.and_false,aF,if_false];congr 1;apply mM;intro x hx
     have:=List.mem_range'_1.1 hx
     have:x≠s:=by omega
     simp [this]
   · have hs:p s=false:=hl s (au _) (by omega)
     simp only [jD,hs,Bool.false_and,aF,if_false];exact B55 n (s+1) (by omega) (by omega) (fun j a b=>hl j (by omega) b) hk
theorem C5v {m k:Nat} (h:k<32) (hk:m.testBit k=true) (hl:∀ j,j<k→m.testBit j=false):tM m=k::tM (m &&& (m-1)):=by
 unfold tM;rw [lH];rw [B55 32 0 (dt _) (by omega) (fun j _ b=>hl j b) hk]
 congr 2;funext i;exact (D1P hk hl i).symm
end Go.Mid
namespace Go.Hg
def A2O (e s:Nat):Bool:=(e &&& s)==e
theorem gL {e s:Nat}:A2O e s=true↔∀ i,e.testBit i=true→s.testBit i=true:=by
 unfold A2O;rw [beq_iff_eq];constructor
 · intro h i hi;rw [← h,eV] at hi;simp at hi;exact hi.2
 · intro h;apply dH;intro i;rw [eV];cases he:e.testBit i with
   | false=>rfl
   | true=>rw [h i he];rfl
def less (a b:Nat):Nat:=a ^^^ (a &&& b)
theorem iN (a b i:Nat):(less a b).testBit i=(a.testBit i && !b.testBit i):=by
 unfold less;rw [Nat.testBit_xor,eV];cases a.testBit i<;>cases b.testBit i<;>rfl
theorem eh (v i:Nat):(1 <<< v).testBit i=decide (i=v):=by
 rw [eS,Nat.testBit_two_pow];exact decide_eq_decide.2 eq_comm
theorem mT {s n i:Nat} (h:s<2 ^ n) (hi:n≤i):s.testBit i=false :=
 fX (br h (cN (by omega) hi))
theorem nC {s n:Nat} (h:∀ i,n≤i→s.testBit i=false):s<2 ^ n:=jH s h
def leaves:Nat→Nat→Nat→List Nat
 | 0,_,s=>[s]
 | k+1,v,s=>leaves k (v+1) (s ||| 1 <<< v)++leaves k (v+1) s
theorem DL:∀ {k v s t:Nat},t∈leaves k v s→∀ i,i<v→t.testBit i=s.testBit i
 | 0,v,s,t,h,i,hi=>by simp [leaves] at h;rw [h]
 | k+1,v,s,t,h,i,hi=>by
   simp only [leaves,ay] at h;rcases h with h | h
   · rw [DL h i (by omega),bR,eh]
     have:i≠v:=by omega
     simp [this]
   · exact DL h i (by omega)
theorem Wg:∀ {k v s t:Nat},t∈leaves k v s→∀ i,s.testBit i=true→t.testBit i=true
 | 0,v,s,t,h,i,hi=>by simp [leaves] at h;rw [h];exact hi
 | k+1,v,s,t,h,i,hi=>by
   simp only [leaves,ay] at h;rcases h with h | h
   · exact Wg h i (by rw [bR,hi];rfl)
   · exact Wg h i hi
theorem HX:∀ {k v s t:Nat},t∈leaves k v s→∀ i,v+k≤i→t.testBit i=s.testBit i
 | 0,v,s,t,h,i,hi=>by simp [leaves] at h;rw [h]
 | k+1,v,s,t,h,i,hi=>by
   simp only [leaves,ay] at h;rcases h with h | h
   · rw [HX h i (by omega),bR,eh]
     have:i≠v:=by omega
     simp [this]
   · exact HX h i (by omega)
theorem Wh:∀ (k v s t:Nat),(∀ i,i<v→t.testBit i=s.testBit i)→(∀ i,v≤i→s.testBit i=false)→(∀ i,v+k≤i→t.testBit i=false)→t∈leaves k v s
 | 0,v,s,t,h1,h2,h3=>by
   simp only [leaves,aW];apply dH;intro i;by_cases hi:i<v
   · exact h1 i hi
   · rw [h2 i (by omega),h3 i (by omega)]
 | k+1,v,s,t,h1,h2,h3=>by
   simp only [leaves,ay];cases hv:t.testBit v with
   | true =>
     left;refine Wh k (v+1) _ t ?_ ?_ (fun i hi=>h3 i (by omega))
     · intro i hi;rw [bR,eh];by_cases FX:i=v
       · subst FX;simp [hv]
       · simp [FX];exact h1 i (by omega)
     · intro i hi;rw [bR,eh,h2 i (by omega)]
       have:i≠v:=by omega
       simp [this]
   | false =>
     right;refine Wh k (v+1) _ t ?_ (fun i hi=>h2 i (by omega)) (fun i hi=>h3 i (by omega))
     intro i hi;by_cases FX:i=v
     · subst FX;rw [hv,h2 i (by omega)]
     · exact h1 i (by omega)
def A3l (E:List Nat) (u m:Nat):Bool:=E.any fun e=>e.testBit u&&A2O (less e (1 <<< u)) m
def A3E (E:List Nat) (s:Nat):Bool:=E.any fun e=>A2O e s
def yu (E:List Nat) (n s:Nat):Bool:=!A3E E s&&(bp n).all fun u=>s.testBit u || A3l E u s
def later (k v:Nat):Nat:=(2 ^ k-1) <<< v
theorem qt (k v i:Nat):(later k v).testBit i=(decide (v≤i)&&decide (i<v+k)):=by
 unfold later;rw [Nat.testBit_shiftLeft,dV];by_cases h:v≤i
 · simp [h];omega
 · simp [h]
def B4E (E:List Nat) (k v fR out:Nat):Bool:=(bp v).any fun u=>out.testBit u && !A3l E u (fR ||| later k v)
def A6g (E:List Nat):Nat→Nat→Nat→Nat→List Nat
 | 0,v,fR,out=>if B4E E 0 v fR out then [] else [fR]
 | k+1,v,fR,out=>if B4E E (k+1) v fR out then [] else
   (if A3E E (fR ||| 1 <<< v) then [] else A6g E k (v+1) (fR ||| 1 <<< v) out)++A6g E k (v+1) fR (out ||| 1 <<< v)
theorem B56 {a b c:Nat} (h:A2O a b=true) (g:∀ i,b.testBit i=true→c.testBit i=true):A2O a c=true :=
 gL.2 fun i hi=>g i (gL.1 h i hi)
theorem C2j {E:List Nat} {u a b:Nat} (g:∀ i,a.testBit i=true→b.testBit i=true) (h:A3l E u a=true):A3l E u b=true:=by
 unfold A3l at h ⊢;rw [b6] at h ⊢;obtain ⟨e,he,h⟩:=h;simp only [ak] at h ⊢;exact ⟨e,he,h.1,B56 h.2 g⟩
theorem C5w {E:List Nat} {a b:Nat} (g:∀ i,a.testBit i=true→b.testBit i=true) (h:A3E E a=true):A3E E b=true:=by
 unfold A3E at h ⊢;rw [b6] at h ⊢;obtain ⟨e,he,h⟩:=h;exact ⟨e,he,B56 h g⟩
theorem C4w {E:List Nat} {k v fR out:Nat} (ho:∀ u,u<v→out.testBit u=!fR.testBit u) (hi:∀ i,v≤i→fR.testBit i=false) (h:B4E E k v fR out=true) :
 (leaves k v fR).filter (yu E (v+k))=[]:=by
 rw [iI];intro t ht hm;unfold B4E at h;rw [b6] at h;obtain ⟨u,hu,h⟩:=h;simp only [bX] at hu;simp only [ak,db] at h;unfold yu at hm;simp only [ak,bj,bX] at hm;have hm:=hm.2 u (by omega)
 have htu:t.testBit u=false:=by
  rw [DL ht u hu]
  have:=ho u hu
  rw [h.1] at this;simpa using this
 rw [htu,eB] at hm
 have:A3l E u (fR ||| later k v)=true:=by
  refine C2j (fun i oR=>?_) hm
  rw [bR,qt];by_cases hv:i<v
  · rw [DL ht i hv] at oR;rw [oR];rfl
  · by_cases hk:i<v+k
    · simp [hk];right;omega
    · rw [HX ht i (by omega),hi i (by omega)] at oR;cases oR
 rw [this] at h;cases h.2
theorem Wi (E:List Nat):∀ (k v fR out:Nat),(∀ u,u<v→out.testBit u=!fR.testBit u)→(∀ i,v≤i→fR.testBit i=false)→(∀ i,v≤i→out.testBit i=false)→A3E E fR=false →
 A6g E k v fR out=(leaves k v fR).filter (yu E (v+k))
 | 0,v,fR,out,ho,hi,_,he=>by
   unfold A6g;split
   · rename_i h;exact (C4w ho hi h).symm
   · rename_i h;simp only [leaves];rw [kb,List.filter_nil];unfold yu;rw [he];simp only [eC,cJ,bj,bX,du];intro u hu;cases hb:fR.testBit u with
     | true=>rfl
     | false =>
       have h2:=ho u hu;rw [hb] at h2;cases hk:A3l E u fR with
       | true=>rfl
       | false =>
         exfalso;apply h;unfold B4E;rw [b6];refine ⟨u,bX.2 hu,?_⟩;have e:fR ||| later 0 v=fR:=by simp [later]
         rw [e,hk,h2];rfl
 | k+1,v,fR,out,ho,hi,hz,he=>by
   unfold A6g;split
   · rename_i h;exact (C4w ho hi h).symm
   · simp only [leaves];rw [eJ];have e:v+(k+1)=v+1+k:=by omega
     rw [e];have b1:∀ i,v+1≤i→(fR ||| 1 <<< v).testBit i=false:=by
      intro i h;rw [bR,eh,hi i (by omega)]
      have:i≠v:=by omega
      simp [this]
     congr 1
     · split
       · rename_i h
         symm
         rw [iI];intro t ht hm;unfold yu at hm;simp only [ak,db] at hm;rw [C5w (Wg ht) h] at hm;cases hm.1
       · rename_i h;refine Wi E k (v+1) _ out ?_ b1 (fun i h=>hz i (by omega)) (by simpa using h)
         intro u hu;rw [bR,eh];by_cases LW:u=v
         · subst LW;simp [hz u (au _)]
         · simp [LW];exact ho u (by omega)
     · refine Wi E k (v+1) fR _ ?_ (fun i h=>hi i (by omega)) (fun i h=>by
        rw [bR,eh,hz i (by omega)]
        have:i≠v:=by omega
        simp [this]) he
       intro u hu;rw [bR,eh];by_cases LW:u=v
       · subst LW;simp [hi u (by omega)]
       · simp [LW];exact ho u (by omega)
section
variable {β:Type}
def idx (p:β→Bool):List β→Nat→Option Nat
 | [],_=>none
 | x::r,i=>if p x then some i else idx p r (i+1)
theorem Wj {p:β→Bool}:∀ {l:List β} {i k:Nat},idx p l i=some k→i≤k∧k<i+l.length∧(∃ h:k-i<l.length,p (l[k-i]'h)=true)∧∀ j (h:j<l.length),i+j<k→p l[j]=false
 | [],i,k,h=>by cases h
 | x::r,i,k,h=>by
   simp only [idx] at h;by_cases hp:p x=true
   · simp only [hp,if_true,Option.some.injEq] at h;subst h;refine ⟨au _,by simp,⟨by simp,by simpa using hp⟩,fun j _ hj=>by omega⟩
   · simp only [hp,if_false,aF] at h;obtain ⟨h1,h2,⟨h3,h4⟩,h5⟩:=Wj h;have e:k-i=(k-(i+1))+1:=by omega
     refine ⟨by omega,by simp;omega,⟨by simp;omega,?_⟩,?_⟩
     · simp only [e,fW];exact h4
     · intro j hj hjk;cases j with
       | zero=>simpa using hp
       | succ j=>simp only [fW];exact h5 j (by simpa using hj) (by omega)
theorem nD (p:β→Bool):∀ (l:List β) (i:Nat),(idx p l i).isSome=l.any p
 | [],_=>rfl
 | x::r,i=>by
   simp only [idx,ft];by_cases hp:p x=true
   · simp [hp]
   · simp only [hp,if_false,aF,eB];exact nD p r (i+1)
end
def A0y (a b:List Int):Bool:=a.all fun x=>b.contains x
def asc:List Int→Bool
 | a::b::r=>decide (a<b)&&asc (b::r)
 | _=>true
def bef:List Int→List Int→Option Bool
 | a::r,b::q=>if a=b then bef r q else some (decide (a<b))
 | _,_=>none
def before (a b:List Int):Bool:=match bef a b with | some t=>t | none=>decide (a.length<b.length)
def free (es:List (List Int)) (l:List Int):Bool:=!es.any fun e=>A0y e l
def pick (v:List Int) (s:Nat):List Int:=((v.take 8).zipIdx.filter fun x=>s.testBit x.2).map (·.1)
def A5L (v:List Int) (es:List (List Int)) (l:List Int):Bool:=asc l&&A0y l v&&free es l
def A0L (v:List Int) (es:List (List Int)) (l:List Int):Bool:=A5L v es l&&v.all fun x=>l.contains x || !free es (l++[x])
def A3P:Nat→List (List Int)→List (List Int)
 | 0,out=>out
 | k+1,out=>match out[k+1]?,out[k]? with
   | some x,some y=>if before x y then A3P k ((out.set (k+1) y).set k x) else out
   | _,_=>out
theorem om:∀ (k:Nat) (out:List (List Int)),(A3P k out).length=out.length
 | 0,_=>rfl
 | k+1,out=>by
   unfold A3P;split
   · split
     · rw [om];simp
     · rfl
   · rfl
def A8y (ls:List (List Int)) (i:Nat) (x:List Int):Bool:=(ls.zipIdx).all fun y=>!(A0y y.1 x&&(decide (y.1.length<x.length) || decide (y.2<i)))
def A4w (ls:List (List Int)) (i:Nat) (x:List Int) (out:List (List Int)):List (List Int):=if A8y ls i x then A3P out.length (out++[x]) else out
def A5e (ls:List (List Int)):List (List Int)→Nat→List (List Int)→List (List Int)
 | [],_,out=>out
 | x::r,i,out=>A5e ls r (i+1) (A4w ls i x out)
def A6h (ls:List (List Int)):List (List Int):=A5e ls ls 0 []
theorem B8a (ls:List (List Int)) (i:Nat) (x:List Int) (out:List (List Int)):(A4w ls i x out).length≤out.length+1:=by
 unfold A4w;split
 · rw [om];simp
 · omega
def idsP (v:List Int) (s:Nat):List Int:=(v.zipIdx.filter fun x=>s.testBit x.2).map (·.1)
def A0o (v:List Int) (y:Int):Nat:=(idx (· == y) v 0).getD 0
theorem iO {v:List Int} {y:Int} (h:y∈v):A0o v y<v.length:=by
 have h2:=nD (· == y) v 0;have h3:v.any (· == y)=true:=by simp [h]
 rw [h3] at h2;unfold A0o;cases hk:idx (· == y) v 0 with
 | none=>rw [hk] at h2;cases h2
 | some k=>have:=Wj hk;simp;omega
def bitsFrom (v:List Int) (b:Nat) (e:List Int):Nat:=e.foldl (fun b y=>b ||| 1 <<< A0o v y) b
def A0z (v:List Int) (e:List Int):Nat:=bitsFrom v 0 e
theorem kC:∀ {l:List Int} {i j:Nat},asc l=true→(h:i<j)→(hj:j<l.length)→l[i]<l[j]
 | [],_,_,_,_,hj=>by simp at hj
 | [x],_,_,_,_,hj=>by simp at hj;omega
 | x::y::r,i,j,ha,h,hj=>by
   simp only [asc,ak,decide_eq_true_eq] at ha;cases i with
   | zero =>
     cases j with
     | zero=>omega
     | succ j =>
       simp only [List.getElem_cons_zero,fW];cases j with
       | zero=>exact ha.1
       | succ j=>exact qb ha.1 (kC (l:=y::r) (i:=0) ha.2 (by omega) (by simpa using hj))
   | succ i =>
     cases j with
     | zero=>omega
     | succ j=>simpa using kC (l:=y::r) ha.2 (by omega) (by simpa using hj)
def A6i (v:List Int) (es:List (List Int)) (i:Nat) (e:List Int):Bool:=!e.isEmpty&&asc e&&A0y e v&&(i==0 || before (es.getD (i-1) []) e)
def A4j (es:List (List Int)) (i:Nat) (e:List Int):Bool:=es.zipIdx.any fun y=>y.2 != i&&A0y y.1 e
def A4V (v:List Int) (es:List (List Int)):Bool:=asc v&&decide (es.length≤20000)&&(!(es.zipIdx.any fun x=>!A6i v es x.2 x.1) && !(es.zipIdx.any fun x=>A4j es x.2 x.1))
structure HOk (v:List Int) (es:List (List Int)):Prop where
 nv:v.length≤40
 ne:es.length≤20000
 el:∀ e∈es,e.length<9223372036854775808
 fR:∀ e∈es,∀ y∈e,y∈v
def allS (v:List Int) (es:List (List Int)):List Nat:=A6g (es.map (A0z v)) v.length 0 0 0
def A5M (v:List Int) (es:List (List Int)):List (List Int):=(allS v es).map (idsP v)
def nF (v:List Int) (es:List (List Int)) (out:List (List Int)) (b:Nat):List (List Int) :=
 if A0L v es (idsP v b) then A3P out.length (out++[idsP v b]) else out
def refR (v:List Int) (es:List (List Int)):List (List Int):=(bp (2 ^ v.length)).foldl (nF v es) []
def A1e (n:Nat):List Int:=(bp n).map fun (i:Nat)=>2+3*(i:Int)
theorem vW (n:Nat):A1e (n+1)=A1e n++[2+3*(n:Int)]:=by simp [A1e,iU]
@[simp] theorem lW (n:Nat):(A1e n).length=n:=by simp [A1e]
def A7D (V:List Int) (E:List Nat):List (List Int):=((E.take 12).map (pick V)).filter fun e=>!e.isEmpty
theorem uH (V:List Int) (s:Nat):(pick V s).length≤V.length:=by
 unfold pick;rw [aD];refine dJ (dU _ _) ?_;simp;omega
def hEs (N:Nat) (E:List Nat):List (List Int):=A6h (A7D (A1e (N%9)) E)
def pW:List Int→List Int→Bool
 | [],[]=>false
 | [],_::_=>true
 | _::_,[]=>false
 | x::a,y::b=>if x=y then pW a b else decide (x<y)
theorem Wk:∀ a b:List Int,before a b=pW a b
 | [],[]=>rfl
 | [],_::_=>by simp [before,bef,pW]
 | _::_,[]=>by simp [before,bef,pW]
 | x::a,y::b=>by
   have ih:=Wk a b;simp only [before,bef,pW] at ih ⊢;by_cases h:x=y
   · simp only [h,if_true];rw [← ih];cases bef a b<;>simp
   · simp [h]
theorem HY:∀ a:List Int,pW a a=false
 | []=>rfl
 | x::a=>by simp [pW,HY a]
theorem Wl:∀ {a b c:List Int},pW a b=true→pW b c=true→pW a c=true
 | [],[],_,h,_=>by simp [pW] at h
 | [],_::_,[],_,h=>by simp [pW] at h
 | [],_::_,_::_,_,_=>rfl
 | _::_,[],_,h,_=>by simp [pW] at h
 | _::_,_::_,[],_,h=>by simp [pW] at h
 | x::a,y::b,z::c,h,g=>by
   simp only [pW] at h g ⊢;by_cases h1:x=y
   · subst h1;by_cases h2:x=z
     · subst h2;simp only [if_true] at h g ⊢;exact Wl h g
     · simp only [h2,if_false,if_true] at h g ⊢;exact g
   · by_cases h2:y=z
     · subst h2;simp only [h1,if_false,if_true] at h g ⊢;exact h
     · simp only [h1,h2,if_false,decide_eq_true_eq] at h g;have h3:¬ x=z:=by omega
       simp only [h3,if_false,decide_eq_true_eq];omega
theorem C4x:∀ {a b:List Int},pW a b=false→a≠b→pW b a=true
 | [],[],_,h=>absurd rfl h
 | [],_::_,h,_=>by simp [pW] at h
 | _::_,[],_,_=>rfl
 | x::a,y::b,h,ev=>by
   simp only [pW] at h ⊢;by_cases h1:x=y
   · subst h1;simp only [if_true] at h ⊢;exact C4x h fun e=>ev (by rw [e])
   · have h2:¬ y=x:=fun e=>h1 e.symm
     simp only [h1,if_false,decide_eq_false_iff_not] at h;simp only [h2,if_false,decide_eq_true_eq];omega
abbrev iX (l:List (List Int)):Prop:=l.Pairwise fun a b=>pW a b=true
theorem iX.ext:∀ {l m:List (List Int)},iX l→iX m→(∀ x,x∈l↔x∈m)→l=m
 | [],[],_,_,_=>rfl
 | [],y::m,_,_,h=>by have:=(h y).2 (by simp);simp at this
 | x::l,[],_,_,h=>by have:=(h x).1 (by simp);simp at this
 | x::l,y::m,hl,hm,h=>by
   rw [iX,bM] at hl hm;have vH:x=y:=by
    apply bz;intro ev;have h1:x∈m:=by
     have:=(h x).1 (by simp)
     rcases aM.1 this with e | e
     · exact absurd e ev
     · exact e
    have h2:y∈l:=by
     have:=(h y).2 (by simp)
     rcases aM.1 this with e | e
     · exact absurd e.symm ev
     · exact e
    have:=Wl (hl.1 y h2) (hm.1 x h1)
    rw [HY] at this;cases this
   subst vH;congr 1;refine iX.ext hl.2 hm.2 fun z=>?_
   constructor
   · intro hz
     have:=(h z).1 (by simp [hz])
     rcases aM.1 this with e | e
     · subst e;have:=hl.1 z hz;rw [HY] at this;cases this
     · exact e
   · intro hz
     have:=(h z).2 (by simp [hz])
     rcases aM.1 this with e | e
     · subst e;have:=hm.1 z hz;rw [HY] at this;cases this
     · exact e
theorem B7m:∀ (k:Nat) (P Q:List (List Int)) (x:List Int),P.length=k→iX (P++Q)→(∀ q∈Q,pW x q=true)→x∉P →
 iX (A3P k (P++x::Q))∧(A3P k (P++x::Q)).Perm (P++x::Q)
 | 0,P,Q,x,hk,hs,hq,_=>by
   have:P=[]:=List.eq_nil_of_length_eq_zero hk
   subst this;simp only [a7,A3P] at hs ⊢;exact ⟨bM.2 ⟨hq,hs⟩,List.Perm.refl _⟩
 | k+1,P,Q,x,hk,hs,hq,hx=>by
   obtain ⟨P',p,rfl⟩:∃ P' p,P=P'++[p]:=by
    rcases List.eq_nil_or_concat P with h | ⟨P',p,h⟩
    · subst h;simp at hk
    · exact ⟨P',p,by simpa using h⟩
   have nu:P'.length=k:=by simpa using hk
   have e1:(P'++[p]++x::Q)[k+1]?=some x:=by
    rw [bH (by simp;omega)];simp [nu]
   have e2:(P'++[p]++x::Q)[k]?=some p:=by
    rw [bf,bH (by omega)];simp [nu]
   have e3:((P'++[p]++x::Q).set (k+1) p).set k x=P'++x::p::Q:=by
    subst nu;rw [bf,ez _ _ (by omega),ez _ _ (by omega)]
    simp
   unfold A3P;rw [e1,e2];simp only;rw [Wk];by_cases hb:pW x p=true
   · rw [if_pos hb,e3];have Em:iX (P'++p::Q):=by simpa using hs
     obtain ⟨h1,h2⟩:=B7m k P' (p::Q) x nu Em (fun q hqm=>by
      rcases aM.1 hqm with e | e
      · subst e;exact hb
      · exact hq q e) (fun h=>hx (by simp [h]))
     refine ⟨h1,h2.trans ?_⟩;rw [bf];exact (List.Perm.swap p x Q).append_left P'
   · rw [if_neg hb];have hb:pW x p=false:=by simpa using hb
     have ev:x≠p:=fun e=>hx (by simp [e])
     have hpx:=C4x hb ev;refine ⟨?_,List.Perm.refl _⟩;rw [iX,cB] at hs;obtain ⟨h1,h2,h3⟩:=hs;rw [iX,cB];refine ⟨h1,bM.2 ⟨hq,h2⟩,fun a ha b hbm=>?_⟩
     have RA:pW a x=true:=by
      rcases ay.1 ha with h | h
      · rw [cB] at h1;exact Wl (h1.2.2 a h p (by simp)) hpx
      · simp at h;subst h;exact hpx
     rcases aM.1 hbm with e | e
     · subst e;exact RA
     · exact h3 a ha b e
theorem B9J (l:List (List Int)):∀ (out:List (List Int)),iX out→(out++l).Nodup→iX (l.foldl (fun out x=>A3P out.length (out++[x])) out)∧∀ y,y∈l.foldl (fun out x=>A3P out.length (out++[x])) out↔y∈out∨y∈l:=by
 induction l with
 | nil=>intro out hs _;exact ⟨hs,fun y=>by simp⟩
 | cons x l ih =>
   intro out hs hn;have hx:x∉out:=by
    intro h;rw [List.nodup_append] at hn;exact hn.2.2 x h x (by simp) rfl
   obtain ⟨h1,h2⟩:=B7m out.length out [] x rfl (by simpa using hs) (by simp) hx
   have AX:(A3P out.length (out++[x])++l).Nodup:=by
    have:(A3P out.length (out++[x])++l).Perm (out++x::l):=by
     refine (h2.append_right l).trans ?_;simp
    exact this.nodup_iff.2 hn
   obtain ⟨h3,h4⟩:=ih (A3P out.length (out++[x])) h1 AX;simp only [iQ];refine ⟨h3,fun y=>?_⟩
   rw [h4 y,h2.mem_iff];simp [or_assoc]
theorem gz {v:List Int} {y:Int} (h:y∈v):v[A0o v y]?=some y:=by
 have h2:=nD (· == y) v 0;have h3:v.any (· == y)=true:=by simp [h]
 rw [h3] at h2;unfold A0o;cases hk:idx (· == y) v 0 with
 | none=>rw [hk] at h2;cases h2
 | some k =>
   obtain ⟨_,_,⟨h4,h5⟩,_⟩:=Wj hk;simp only [gB] at h4 h5;simp only [bG];rw [af h4];simpa using h5
theorem mH {v:List Int} (ha:asc v=true) {i j:Nat} (hi:i<v.length) (hj:j<v.length) (h:v[i]=v[j]):i=j:=by
 rcases Nat.lt_trichotomy i j with eE | he | FY
 · have:=kC ha eE hj;omega
 · exact he
 · have:=kC ha FY hi;omega
theorem Wm (v:List Int) (i:Nat):∀ (e:List Int) (b:Nat),(bitsFrom v b e).testBit i=(b.testBit i || e.any fun y=>A0o v y==i)
 | [],b=>by simp [bitsFrom]
 | y::e,b=>by
   have:=Wm v i e (b ||| 1 <<< A0o v y)
   simp only [bitsFrom,iQ] at this ⊢;rw [this,bR,eh,ft]
   have:decide (i=A0o v y)=(A0o v y==i):=by
    apply cn.2;simp;exact eq_comm
   rw [this,Bool.or_assoc]
theorem mf {v e:List Int} (ha:asc v=true) (he:∀ y∈e,y∈v) (i:Nat) (hi:i<v.length):(A0z v e).testBit i=e.contains v[i]:=by
 unfold A0z;rw [Wm,dT,eB];apply cn.2;rw [b6,bD];constructor
 · rintro ⟨y,hy,hp⟩;simp only [beq_iff_eq] at hp
   have:=gz (he y hy)
   rw [hp,af hi] at this;rw [Option.some.inj this];exact hy
 · intro hm;refine ⟨v[i],hm,?_⟩
   have:=gz (he _ hm)
   obtain ⟨h1,h2⟩:=aL.1 this;simp only [beq_iff_eq];exact mH ha h1 hi h2
theorem qF {v e:List Int} (he:∀ y∈e,y∈v) (i:Nat) (hi:v.length≤i):(A0z v e).testBit i=false:=by
 unfold A0z;rw [Wm,dT,eB,fH];intro y hy
 have:=iO (he y hy)
 simp;omega
theorem mg {v:List Int} {s:Nat} {y:Int}:y∈idsP v s↔∃ i,∃ h:i<v.length,v[i]=y∧s.testBit i=true:=by
 unfold idsP;simp only [bh,cA,Prod.exists,exists_and_right,exists_eq_right];constructor
 · rintro ⟨i,h1,h2⟩;rw [iV] at h1;simp only at h1;obtain ⟨h3,h4⟩:=aL.1 h1;exact ⟨i,⟨h3,h4⟩,h2⟩
 · rintro ⟨i,⟨h,h1⟩,h2⟩;exact ⟨i,by rw [iV];simp [h,h1],h2⟩
theorem lD {v:List Int} (ha:asc v=true) {s i:Nat} (hi:i<v.length):(idsP v s).contains v[i]=s.testBit i:=by
 apply cn.2;rw [bD,mg];constructor
 · rintro ⟨j,hj,h1,h2⟩;rw [← mH ha hj hi h1];exact h2
 · intro h;exact ⟨i,hi,rfl,h⟩
def xH:List Int→Nat→Nat→List Int
 | [],_,_=>[]
 | x::r,o,s=>if s.testBit o then x::xH r (o+1) s else xH r (o+1) s
theorem Qe (s:Nat):∀ (v:List Int) (o:Nat),((v.zipIdx o).filter fun x=>s.testBit x.2).map (·.1)=xH v o s
 | [],_=>rfl
 | x::r,o=>by
   simp only [jB,xH];cases h:s.testBit o with
   | true=>simp [h,Qe s r (o+1)]
   | false=>simp [h,Qe s r (o+1)]
theorem Wn (v:List Int) (s:Nat):idsP v s=xH v 0 s:=Qe s v 0
theorem Qf (s:Nat):∀ (v:List Int) (o:Nat),(xH v o s).Sublist v
 | [],_=>List.Sublist.refl _
 | x::r,o=>by
   simp only [xH];split
   · exact (Qf s r (o+1)).cons_cons x
   · exact (Qf s r (o+1)).cons x
theorem iz {l:List Int}:asc l=true↔l.Pairwise (· < ·):=by
 constructor
 · intro h;rw [dI];intro i j hi hj gU;exact kC h gU hj
 · intro h;rw [dI] at h
   have:∀ i (h:i+1<l.length),l[i]<l[i+1]:=fun i hi=>h i (i+1) (by omega) hi (by omega)
   clear h
   induction l with
   | nil=>rfl
   | cons x l ih =>
     cases l with
     | nil=>rfl
     | cons y l =>
       simp only [asc,ak,decide_eq_true_eq];exact ⟨this 0 (by simp),ih fun i hi=>this (i+1) (by simpa using hi)⟩
theorem uI {v:List Int} (ha:asc v=true) (s:Nat):asc (idsP v s)=true:=by
 rw [Wn,iz];exact (iz.1 ha).sublist (Qf s v 0)
theorem C5x (v:List Int) (s:Nat):A0y (idsP v s) v=true:=by
 unfold A0y;rw [bj];intro y hy;obtain ⟨i,hi,rfl,_⟩:=mg.1 hy;simp
theorem within_iff {a b:List Int}:A0y a b=true↔∀ y∈a,y∈b:=by
 unfold A0y;rw [bj];simp
theorem Wo {v e:List Int} (ha:asc v=true) (he:∀ y∈e,y∈v) (s:Nat):A0y e (idsP v s)=A2O (A0z v e) s:=by
 apply cn.2;rw [within_iff,gL];constructor
 · intro h i hi;by_cases FX:i<v.length
   · rw [mf ha he i FX] at hi
     have:=h v[i] (by simpa using hi)
     rw [← lD ha FX];simpa using this
   · rw [qF he i (by omega)] at hi;cases hi
 · intro h y hy;obtain ⟨i,hi,rfl⟩:=gZ (he y hy)
   have:=h i (by rw [mf ha he i hi];simpa using hy)
   rw [← lD ha hi] at this;simpa using this
theorem C8d {v e:List Int} (ha:asc v=true) (he:∀ y∈e,y∈v) (s i:Nat) (hi:i<v.length):A0y e (idsP v s++[v[i]])=A2O (A0z v e) (s ||| 1 <<< i):=by
 rw [← Wo ha he];apply cn.2;rw [within_iff,within_iff];have key:∀ y,y∈idsP v s++[v[i]]↔y∈idsP v (s ||| 1 <<< i):=by
  intro y;rw [ay,mg,mg,aW];constructor
  · rintro (⟨j,hj,h1,h2⟩ | h)
    · exact ⟨j,hj,h1,by rw [bR,h2];rfl⟩
    · exact ⟨i,hi,h.symm,by rw [bR,eh];simp⟩
  · rintro ⟨j,hj,h1,h2⟩;rw [bR,eh] at h2;by_cases vJ:j=i
    · subst vJ;right;exact h1.symm
    · left;exact ⟨j,hj,h1,by simpa [vJ] using h2⟩
 exact ⟨fun h y hy=>(key y).1 (h y hy),fun h y hy=>(key y).2 (h y hy)⟩
structure LX (v:List Int) (es:List (List Int)):Prop where
 av:asc v=true
 fR:∀ e∈es,∀ y∈e,y∈v
 ne:∀ e∈es,e ≠ []
section
variable {v:List Int} {es:List (List Int)} (G:LX v es)
include G
theorem C9Y (s:Nat):free es (idsP v s)=!A3E (es.map (A0z v)) s:=by
 unfold free A3E;rw [List.any_map];congr 1;apply cn.2;rw [b6,b6];constructor
 · rintro ⟨e,he,h⟩;refine ⟨e,he,?_⟩;rw [Wo G.av (G.fR e he)] at h;exact h
 · rintro ⟨e,he,h⟩;refine ⟨e,he,?_⟩;rw [Wo G.av (G.fR e he)];exact h
theorem C4z (s:Nat):A0L v es (idsP v s)=yu (es.map (A0z v)) v.length s:=by
 unfold A0L yu A5L;rw [uI G.av,C5x,C9Y G,cJ,cJ];cases hE:A3E (es.map (A0z v)) s with
 | true=>rfl
 | false =>
   simp only [eC,cJ];apply cn.2;rw [bj,bj];have key:∀ i (hi:i<v.length),((idsP v s).contains v[i] || !free es (idsP v s++[v[i]]))=(s.testBit i || A3l (es.map (A0z v)) i s):=by
    intro i hi;rw [lD G.av hi];cases hb:s.testBit i with
    | true=>rfl
    | false =>
      rw [eB,eB];unfold free A3l;rw [Bool.not_not,List.any_map];apply cn.2;rw [b6,b6];have LY:∀ e∈es,A0y e (idsP v s++[v[i]])=((A0z v e).testBit i&&A2O (less (A0z v e) (1 <<< i)) s):=by
       intro e he;rw [C8d G.av (G.fR e he) s i hi];apply cn.2;rw [ak,gL,gL];constructor
       · intro h;have FZ:(A0z v e).testBit i=true:=by
          cases hc:(A0z v e).testBit i with
          | true=>rfl
          | false =>
            exfalso
            have:A3E (es.map (A0z v)) s=true:=by
             unfold A3E;rw [b6];refine ⟨A0z v e,bh.2 ⟨e,he,rfl⟩,gL.2 fun j hj=>?_⟩
             have h1:=h j hj;rw [bR,eh] at h1;by_cases vJ:j=i
             · subst vJ;rw [hc] at hj;cases hj
             · simpa [vJ] using h1
            rw [hE] at this;cases this
         refine ⟨FZ,fun j hj=>?_⟩
         rw [iN,eh] at hj;simp at hj;have h1:=h j hj.1;rw [bR,eh] at h1;simpa [hj.2] using h1
       · rintro ⟨h1,h2⟩ j hj;rw [bR,eh];by_cases vJ:j=i
         · simp [vJ]
         · rw [h2 j (by rw [iN,eh,hj];simp [vJ])];rfl
      constructor
      · rintro ⟨e,he,h⟩;exact ⟨e,he,by rw [LY e he] at h;exact h⟩
      · rintro ⟨e,he,h⟩;exact ⟨e,he,by rw [LY e he];exact h⟩
   constructor
   · intro h i hi;have dP:i<v.length:=by simpa using hi
     rw [← key i dP];exact h v[i] (by simp)
   · intro h y hy;obtain ⟨i,hi,rfl⟩:=gZ hy;rw [key i hi];exact h i (by simpa using hi)
theorem C9Z:A3E (es.map (A0z v)) 0=false:=by
 unfold A3E;rw [fH];intro b hb h;obtain ⟨e,he,rfl⟩:=bh.1 hb;rw [gL] at h;cases e with
 | nil=>exact G.ne _ he rfl
 | cons y r =>
   obtain ⟨i,hi,hy⟩:=gZ (G.fR _ he y (by simp))
   have:=h i (by rw [mf G.av (G.fR _ he) i hi,hy];simp)
   simp at this
theorem C6C:allS v es=(leaves v.length 0 0).filter (yu (es.map (A0z v)) v.length):=by
 unfold allS;rw [Wi _ _ _ _ _ (by intro u hu;omega) (by simp) (by simp) (C9Z G),bS]
end
set_option linter.unusedSectionVars false
def first (s t:Nat):Prop:=∃ i,s.testBit i=true∧t.testBit i=false∧∀ j,j<i→s.testBit j=t.testBit j
theorem Wp:∀ (k v s:Nat),(∀ i,v≤i→s.testBit i=false)→(leaves k v s).Pairwise first
 | 0,v,s,_=>by simp [leaves]
 | k+1,v,s,hs=>by
   have tE:∀ i,v+1≤i→(s ||| 1 <<< v).testBit i=false:=by
    intro i hi;rw [bR,eh,hs i (by omega)]
    have:i≠v:=by omega
    simp [this]
   simp only [leaves];rw [cB];refine ⟨Wp k (v+1) _ tE,Wp k (v+1) s fun i hi=>hs i (by omega),fun a ha b hb=>⟨v,?_,?_,?_⟩⟩
   · rw [DL ha v (by omega),bR,eh];simp
   · rw [DL hb v (by omega)];exact hs v (au _)
   · intro j hj;rw [DL ha j (by omega),DL hb j (by omega),bR,eh]
     have:j≠v:=by omega
     simp [this]
theorem B9K (s t i:Nat):∀ (v:List Int) (o:Nat),v.Pairwise (· < ·)→o≤i→i<o+v.length→s.testBit i=true→t.testBit i=false→(∀ j,o≤j→j<i→s.testBit j=t.testBit j)→(∃ j,i<j∧j<o+v.length∧t.testBit j=true)→pW (xH v o s) (xH v o t)=true
 | [],o,_,h1,h2,_,_,_,_=>by simp at h2;omega
 | x::r,o,hp,h1,h2,h3,h4,h5,h6=>by
   rw [bM] at hp;by_cases ho:o=i
   · subst ho;simp only [xH,h3,h4,if_true,aF,if_false];obtain ⟨j,hj1,hj2,hj3⟩:=h6;have hm:∃ y,y∈xH r (o+1) t:=by
      rw [← Qe];simp only [ba] at hj2;refine ⟨r[j-(o+1)]'(by omega),?_⟩
      rw [bh];refine ⟨(r[j-(o+1)]'(by omega),j),?_,rfl⟩
      rw [cA];refine ⟨?_,hj3⟩;rw [List.mem_zipIdx_iff_le_and_getElem?_sub];exact ⟨by omega,by simp⟩
     cases hc:xH r (o+1) t with
     | nil=>obtain ⟨y,hy⟩:=hm;rw [hc] at hy;cases hy
     | cons c q =>
       have:c∈r:=(Qf t r (o+1)).subset (by rw [hc];simp)
       have eE:=hp.1 c this;have ev:¬ x=c:=by omega
       simp only [pW,ev,if_false,decide_eq_true_eq];exact eE
   · simp only [ba] at h2;have ih:=B9K s t i r (o+1) hp.2 (by omega) (by omega) h3 h4 (fun j hj1 hj2=>h5 j (by omega) hj2) (by
      obtain ⟨j,hj1,hj2,hj3⟩:=h6;exact ⟨j,hj1,by simp only [ba] at hj2;omega,hj3⟩)
     have he:=h5 o (au _) (by omega)
     simp only [xH,he];split
     · simp only [pW,if_true];exact ih
     · exact ih
section
variable {v:List Int} {es:List (List Int)} (G:LX v es)
include G
theorem C90 {s t:Nat} (hs:yu (es.map (A0z v)) v.length s=true) (ht:yu (es.map (A0z v)) v.length t=true) (tK:s<2 ^ v.length) (htl:t<2 ^ v.length) (h:first s t):pW (idsP v s) (idsP v t)=true:=by
 obtain ⟨i,h1,h2,h3⟩:=h;have hi:i<v.length:=by
  apply bz;intro hn;rw [mT tK (by omega)] at h1;cases h1
 rw [Wn,Wn];refine B9K s t i v 0 (iz.1 G.av) (by omega) (by omega) h1 h2 (fun j _ hj=>h3 j hj) ?_
 apply bz;intro mG;have mG:∀ j,i<j→t.testBit j=false:=by
  intro j hj;cases hb:t.testBit j with
  | false=>rfl
  | true =>
    exfalso;apply mG;refine ⟨j,hj,?_,hb⟩;apply bz;intro hn;rw [mT htl (by omega)] at hb;cases hb
 unfold yu at hs ht;rw [ak] at hs ht;have hb:=bj.1 ht.2 i (by simpa using hi)
 rw [h2,eB] at hb;unfold A3l at hb;rw [b6] at hb;obtain ⟨e,he,hb⟩:=hb;rw [ak] at hb
 have:A3E (es.map (A0z v)) s=true:=by
  unfold A3E;rw [b6];refine ⟨e,he,gL.2 fun j hj=>?_⟩
  by_cases vJ:j=i
  · subst vJ;exact h1
  · have Wq:=gL.1 hb.2 j (by rw [iN,eh,hj];simp [vJ])
    rcases Nat.lt_or_gt_of_ne vJ with eE | FY
    · rw [h3 j eE];exact Wq
    · rw [mG j FY] at Wq;cases Wq
 rw [this] at hs;simp at hs
theorem C2k:(allS v es).Pairwise fun s t=>pW (idsP v s) (idsP v t)=true:=by
 rw [C6C G];have h:=Wp v.length 0 0 (by simp)
 have h2:((leaves v.length 0 0).filter (yu (es.map (A0z v)) v.length)).Pairwise first:=h.filter _
 refine jZ ?_ h2;intro s t hs ht hf;rw [cA] at hs ht;refine C90 G hs.2 ht.2 ?_ ?_ hf
 · exact nC fun i hi=>by rw [HX hs.1 i (by omega),dT]
 · exact nC fun i hi=>by rw [HX ht.1 i (by omega),dT]
theorem C4A:iX (A5M v es):=by
 unfold A5M;rw [iX,ek];exact C2k G
theorem rC {s:Nat}:s∈allS v es↔s<2 ^ v.length∧A0L v es (idsP v s)=true:=by
 rw [C6C G,cA,← C4z G];constructor
 · rintro ⟨h1,h2⟩;exact ⟨nC fun i hi=>by rw [HX h1 i (by omega),dT],h2⟩
 · rintro ⟨h1,h2⟩;exact ⟨Wh _ _ _ _ (by intro i hi;omega) (by simp) (fun i hi=>mT h1 (by omega)),h2⟩
theorem C91 {l:List Int}:l∈A5M v es↔∃ s,s<2 ^ v.length∧idsP v s=l∧A0L v es l=true:=by
 unfold A5M;rw [bh];constructor
 · rintro ⟨s,h1,rfl⟩;obtain ⟨h2,h3⟩:=(rC G).1 h1;exact ⟨s,h2,rfl,h3⟩
 · rintro ⟨s,h1,rfl,h2⟩;exact ⟨s,(rC G).2 ⟨h1,h2⟩,rfl⟩
theorem D1Q {s t:Nat} (hs:s<2 ^ v.length) (ht:t<2 ^ v.length) (h:idsP v s=idsP v t):s=t:=by
 apply dH;intro i;by_cases hi:i<v.length
 · rw [← lD G.av hi,← lD G.av hi,h]
 · rw [mT hs (by omega),mT ht (by omega)]
theorem C4B:refR v es=(((bp (2 ^ v.length)).map (idsP v)).filter (A0L v es)).foldl (fun out x=>A3P out.length (out++[x])) []:=by
 unfold refR;generalize bp (2 ^ v.length)=l
 suffices ∀ (l:List Nat) (a:List (List Int)),l.foldl (nF v es) a=((l.map (idsP v)).filter (A0L v es)).foldl (fun out x=>A3P out.length (out++[x])) a from this l []
 intro l
 induction l with
 | nil=>intro a;rfl
 | cons b l ih =>
   intro a;simp only [iQ,aG];rw [ih];unfold nF;cases hm:A0L v es (idsP v b) with
   | true=>rw [kb (by simpa using hm)];rfl
   | false=>rw [List.filter_cons_of_neg (by simp [hm])];rfl
theorem qu:iX (refR v es)∧∀ l,l∈refR v es↔∃ s,s<2 ^ v.length∧idsP v s=l∧A0L v es l=true:=by
 rw [C4B G];have hn:(((bp (2 ^ v.length)).map (idsP v)).filter (A0L v es)).Nodup:=by
  refine ju _ ?_;rw [ek];refine jZ ?_ List.nodup_range;intro a b ha hb ev he;exact ev (D1Q G (by simpa using ha) (by simpa using hb) he)
 obtain ⟨h1,h2⟩:=B9J _ [] (by simp) (by simpa using hn)
 refine ⟨h1,fun l=>?_⟩
 rw [h2 l];simp only [ni,false_or,cA,bh,bX];constructor
 · rintro ⟨⟨s,hs,rfl⟩,hm⟩;exact ⟨s,hs,rfl,hm⟩
 · rintro ⟨s,hs,rfl,hm⟩;exact ⟨⟨s,hs,rfl⟩,hm⟩
theorem Ab:A5M v es=refR v es :=
 iX.ext (C4A G) (qu G).1 fun l=>by rw [C91 G,(qu G).2 l]
end
def Bj (ls:List (List Int)):List (List Int):=(ls.zipIdx.filter fun x=>A8y ls x.2 x.1).map (·.1)
theorem C8e (ls:List (List Int)):A6h ls=(Bj ls).foldl (fun out x=>A3P out.length (out++[x])) []:=by
 unfold A6h Bj
 suffices ∀ (r:List (List Int)) (i:Nat) (a:List (List Int)),A5e ls r i a=(((r.zipIdx i).filter fun x=>A8y ls x.2 x.1).map (·.1)).foldl (fun out x=>A3P out.length (out++[x])) a from this ls 0 []
 intro r
 induction r with
 | nil=>intro i a;rfl
 | cons x r ih =>
   intro i a;simp only [A5e,jB,ih,A4w];cases hk:A8y ls i x with
   | true=>rw [kb (by simpa using hk)];rfl
   | false=>rw [List.filter_cons_of_neg (by simp [hk])];rfl
theorem pX:∀ {a b:List Int},a.Pairwise (· < ·)→b.Pairwise (· < ·)→(∀ x,x∈a↔x∈b)→a=b
 | [],[],_,_,_=>rfl
 | [],y::m,_,_,h=>by have:=(h y).2 (by simp);simp at this
 | x::l,[],_,_,h=>by have:=(h x).1 (by simp);simp at this
 | x::l,y::m,hl,hm,h=>by
   rw [bM] at hl hm;have vH:x=y:=by
    apply bz;intro ev;have h1:x∈m:=by
     rcases aM.1 ((h x).1 (by simp)) with e | e
     · exact absurd e ev
     · exact e
    have h2:y∈l:=by
     rcases aM.1 ((h y).2 (by simp)) with e | e
     · exact absurd e.symm ev
     · exact e
    have:=hl.1 y h2
    have:=hm.1 x h1
    omega
   subst vH;congr 1;refine pX hl.2 hm.2 fun z=>?_
   constructor
   · intro hz;rcases aM.1 ((h z).1 (by simp [hz])) with e | e
     · subst e;have:=hl.1 z hz;omega
     · exact e
   · intro hz;rcases aM.1 ((h z).2 (by simp [hz])) with e | e
     · subst e;have:=hm.1 z hz;omega
     · exact e
theorem mI:∀ {b a:List Int},a.Pairwise (· < ·)→b.Pairwise (· < ·)→(∀ x∈a,x∈b)→a.Sublist b
 | [],[],_,_,_=>List.Sublist.refl _
 | [],x::a,_,_,h=>by have:=h x (by simp);simp at this
 | y::b,[],_,_,_=>List.nil_sublist _
 | y::b,x::a,ha,hb,h=>by
   have ha':=ha;rw [bM] at ha hb;by_cases vH:x=y
   · subst vH;refine (mI ha.2 hb.2 fun z hz=>?_).cons_cons x
     rcases aM.1 (h z (by simp [hz])) with e | e
     · subst e;have:=ha.1 z hz;omega
     · exact e
   · have hx:x∈b:=by
      rcases aM.1 (h x (by simp)) with e | e
      · exact absurd e vH
      · exact e
     have ZH:=hb.1 x hx;refine (mI ha' hb.2 fun z hz=>?_).cons y
     rcases aM.1 (h z hz) with e | e
     · subst e;rcases aM.1 hz with e | e
       · omega
       · have:=ha.1 z e;omega
     · exact e
theorem C92 {a b:List Int} (ha:asc a=true) (hb:asc b=true) (h:A0y a b=true) (hl:b.length≤a.length):a=b:=by
 rw [iz] at ha hb;rw [within_iff] at h;exact (mI ha hb h).eq_of_length_le hl
theorem lp {α:Type} {l:List α} {x:α} {i:Nat}:(x,i)∈l.zipIdx↔∃ h:i<l.length,l[i]=x:=by
 rw [iV];simp only;rw [aL]
theorem C4C {ls:List (List Int)} {i:Nat} {x:List Int} (h:A8y ls i x=true) {k:Nat} (hk:k<ls.length):A0y ls[k] x=true→x.length≤ls[k].length∧i≤k:=by
 intro hw;unfold A8y at h;rw [bj] at h
 have:=h (ls[k],k) (lp.2 ⟨hk,rfl⟩)
 simp only [hw,cJ,db,Bool.or_eq_false_iff,decide_eq_false_iff_not] at this;omega
theorem C12 {ls:List (List Int)} (qv:∀ e∈ls,asc e=true) {i j:Nat} (hi:i<ls.length) (hj:j<ls.length) (ki:A8y ls i ls[i]=true) (kj:A8y ls j ls[j]=true) (hw:A0y ls[j] ls[i]=true):i=j:=by
 have h1:=C4C ki hj hw;have he:=C92 (qv _ (by simp)) (qv _ (by simp)) hw h1.1
 have h2:=C4C kj hi (by rw [he];exact within_iff.2 fun _ h=>h)
 omega
theorem Ws {ls:List (List Int)} (qv:∀ e∈ls,asc e=true):(Bj ls).Pairwise fun a b=>A0y a b=false∧A0y b a=false:=by
 unfold Bj;rw [ek];refine jZ (R:=fun a b=>a.2≠b.2) ?_ (ju _ ?_)
 · rintro ⟨a,i⟩ ⟨b,j⟩ ha hb ev;rw [cA] at ha hb;obtain ⟨hi,rfl⟩:=lp.1 ha.1;obtain ⟨hj,rfl⟩:=lp.1 hb.1;simp only at ha hb ev ⊢;constructor
   · cases hw:A0y ls[i] ls[j] with
     | false=>rfl
     | true=>exact absurd (C12 qv hj hi hb.2 ha.2 hw).symm ev
   · cases hw:A0y ls[j] ls[i] with
     | false=>rfl
     | true=>exact absurd (C12 qv hi hj ha.2 hb.2 hw) ev
 · rw [dI];intro i j hi hj gU;simp;omega
theorem C5y (a:List Int):A0y a a=true:=within_iff.2 fun _ h=>h
theorem Wt {ls:List (List Int)} (qv:∀ e∈ls,asc e=true):iX (A6h ls)∧∀ y,y∈A6h ls↔y∈Bj ls:=by
 rw [C8e];have hn:(Bj ls).Nodup:=(Ws qv).imp fun h e=>by
  subst e;rw [C5y] at h;cases h.1
 obtain ⟨h1,h2⟩:=B9J (Bj ls) [] (by simp) (by simpa using hn)
 exact ⟨h1,fun y=>by rw [h2 y];simp⟩
theorem C93 {ls:List (List Int)} {y:List Int} (h:y∈Bj ls):y∈ls:=by
 unfold Bj at h;rw [bh] at h;obtain ⟨⟨x,i⟩,h1,rfl⟩:=h;rw [cA] at h1;obtain ⟨hi,rfl⟩:=lp.1 h1.1;simp
theorem C8f {ls:List (List Int)} (qv:∀ e∈ls,asc e=true) {a b:List Int} (ha:a∈A6h ls) (hb:b∈A6h ls) (hw:A0y a b=true):a=b:=by
 rw [(Wt qv).2] at ha hb;apply bz;intro ev;rcases List.Pairwise.forall_of_forall_of_flip (R:=fun a b=>a≠b→A0y a b=false) (l:=Bj ls) (by intro x _ h;exact absurd rfl h) ((Ws qv).imp fun h _=>h.1) ((Ws qv).imp fun h _=>h.2) ha hb with h
 rw [h ev] at hw;cases hw
theorem C4D (ls:List (List Int)):(A6h ls).length≤ls.length:=by
 unfold A6h
 suffices ∀ (r:List (List Int)) (i:Nat) (a:List (List Int)),(A5e ls r i a).length≤a.length+r.length by simpa using this ls 0 []
 intro r
 induction r with
 | nil=>intro i a;simp [A5e]
 | cons x r ih =>
   intro i a;simp only [A5e,ba]
   have:=ih (i+1) (A4w ls i x a)
   have:=B8a ls i x a
   omega
theorem C94 {v:List Int} {es:List (List Int)} (G:LX v es) (he:∀ e∈es,asc e=true) (hl:es.length≤20000) (hs:iX es) (LZ:∀ a∈es,∀ b∈es,A0y a b=true→a=b):A4V v es=true:=by
 unfold A4V;rw [G.av,cJ];simp only [hl,decide_true,cJ,ak,db];constructor
 · rw [fH];rintro ⟨e,i⟩ hm;obtain ⟨hi,rfl⟩:=lp.1 hm;simp only [db,Bool.not_eq_false];unfold A6i;have h1:es[i].isEmpty=false:=by
    have:=G.ne es[i] (by simp)
    simpa using this
   have h2:A0y es[i] v=true:=within_iff.2 (G.fR _ (by simp))
   rw [h1,he _ (by simp),h2]
   cases i with
   | zero=>rfl
   | succ i =>
     have e:es.getD (i+1-1) []=es[i]:=by simp [List.getD,show i<es.length by omega]
     rw [e,Wk,dI.1 hs i (i+1) (by omega) hi (by omega)]
     rfl
 · rw [fH];rintro ⟨e,i⟩ hm;obtain ⟨hi,rfl⟩:=lp.1 hm;simp only [gq];unfold A4j;rw [fH];rintro ⟨y,k⟩ L0;obtain ⟨hk,rfl⟩:=lp.1 L0;simp only [ak,bne_iff_ne,ne_eq,not_and];intro ev hw
   have:=LZ _ (by simp) _ (by simp) hw
   rcases Nat.lt_or_gt_of_ne ev with h | h
   · have h2:=dI.1 hs k i hk hi h;rw [this,HY] at h2;cases h2
   · have h2:=dI.1 hs i k hi hk h;rw [this,HY] at h2;cases h2
theorem C13 (n:Nat):asc (A1e n)=true:=by
 rw [iz];unfold A1e;rw [ek];exact List.pairwise_lt_range.imp fun h=>by omega
theorem C4E (V:List Int) (s:Nat):(pick V s).Sublist V:=by
 unfold pick;have h1:(((V.take 8).zipIdx.filter fun x=>s.testBit x.2).map (·.1)).Sublist ((V.take 8).zipIdx.map (·.1)):=List.filter_sublist.map _
 rw [List.zipIdx_map_fst] at h1;exact h1.trans (List.take_sublist 8 V)
theorem oK {V:List Int} {E:List Nat} {e:List Int} (h:e∈A7D V E):e ≠ []∧∃ s,e=pick V s:=by
 unfold A7D at h;rw [cA,bh] at h;obtain ⟨⟨s,_,rfl⟩,h2⟩:=h;exact ⟨by simpa using h2,s,rfl⟩
section
variable (N:Nat) (E:List Nat)
theorem m9:∀ e∈A7D (A1e (N%9)) E,asc e=true:=by
 intro e he;obtain ⟨_,s,rfl⟩:=oK he;exact iz.2 ((iz.1 (C13 _)).sublist (C4E _ _))
theorem pY {e:List Int} (h:e∈hEs N E):e∈A7D (A1e (N%9)) E:=by
 unfold hEs at h;rw [(Wt (m9 N E)).2] at h;exact C93 h
theorem DM:LX (A1e (N%9)) (hEs N E) where
 av:=C13 _
 fR:=fun e he y hy=>by
  obtain ⟨_,s,rfl⟩:=oK (pY N E he);exact (C4E _ _).subset hy
 ne:=fun e he=>(oK (pY N E he)).1
theorem pZ:(A7D (A1e (N%9)) E).length≤12:=by
 unfold A7D;refine dJ (dU _ _) ?_;simp;omega
theorem pt:(hEs N E).length≤12:=dJ (C4D _) (pZ N E)
theorem xI:A4V (A1e (N%9)) (hEs N E)=true:=by
 refine C94 (DM N E) (fun e he=>m9 N E e (pY N E he)) (by have:=pt N E;omega) (Wt (m9 N E)).1 ?_
 intro a ha b hb hw;exact C8f (m9 N E) ha hb hw
end
def grow (E:List Nat) (s u:Nat):Nat:=if A3E E (s ||| 1 <<< u) then s else s ||| 1 <<< u
end Go.Hg
namespace Go.Hg
abbrev PrV:=List (Int×Int)
def nbB (es:List (List Int)) (a b:Int):Bool:=decide (a≠b)&&es.contains [min a b,max a b]
def A8c (es:List (List Int)) (a:Int):Bool:=es.contains [a]
def A4k (p:PrV) (a b:Int):Bool:=p.contains (a,b)
def A5N (p:PrV) (l:List Int) (x:Int):Bool:=!(l.any fun y=>A4k p y x)
def B57 (v:List Int) (es:List (List Int)):List Int:=v.filter fun x=>!A8c es x
def B0E (es:List (List Int)) (rest:List Int) (x:Int):List Int:=rest.filter fun y=>decide (y≠x) && !nbB es y x
theorem rD (es:List (List Int)) (a b:Int):nbB es a b=nbB es b a:=by
 unfold nbB;rw [Int.min_comm,Int.max_comm];by_cases h:a=b<;>simp [h,eq_comm]
theorem qw {p:PrV} {l:List Int} {x:Int}:A5N p l x=true↔∀ y∈l,A4k p y x=false:=by
 unfold A5N;simp
theorem Qg {es:List (List Int)} {rest:List Int} {x y:Int}:y∈B0E es rest x↔y∈rest∧y≠x∧nbB es y x=false:=by
 unfold B0E;simp
inductive Run (es:List (List Int)) (p:PrV):List Int→List Int→Prop
 | nil:Run es p [] []
 | cons {rest ks:List Int} {x:Int}:x∈rest→A5N p rest x=true→Run es p (B0E es rest x) ks→Run es p rest (x::ks)
section
variable {es:List (List Int)} {p:PrV}
theorem Run.sub:∀ {ks rest:List Int},Run es p rest ks→∀ k∈ks,k∈rest
 | [],_,_,k,hk=>by cases hk
 | y::ks,rest,h,k,hk=>by
   cases h with
   | cons hy hb h =>
     rcases aM.1 hk with rfl | hk
     · exact hy
     · exact (Qg.1 (Run.sub h k hk)).1
theorem Run.ind:∀ {ks rest:List Int},Run es p rest ks→∀ a∈ks,∀ b∈ks,nbB es a b=false
 | [],_,_,k,hk=>by cases hk
 | y::ks,rest,h,a,ha=>by
   intro b jx;cases h with
   | cons hy hb h =>
     rcases aM.1 ha with ea | Cy
     · rcases aM.1 jx with eb | n9
       · subst ea;subst eb;simp [nbB]
       · subst ea;rw [rD];exact (Qg.1 (Run.sub h b n9)).2.2
     · rcases aM.1 jx with eb | n9
       · subst eb;exact (Qg.1 (Run.sub h a Cy)).2.2
       · exact Run.ind h a Cy b n9
theorem Run.Qh:∀ {ks rest:List Int},Run es p rest ks→∀ y∈rest,y∉ks→∃ k∈ks,nbB es y k=true
 | [],rest,h,y,hy=>by cases h;cases hy
 | x::ks,rest,h,y,hy=>by
   intro hn;cases h with
   | cons hx hb h =>
     have h1:y≠x:=fun e=>hn (e ▸ gu)
     cases hc:nbB es y x with
     | true=>exact ⟨x,gu,hc⟩
     | false =>
       obtain ⟨k,hk,e⟩:=Run.Qh h y (Qg.2 ⟨hy,h1,hc⟩) (fun hh=>hn (bU _ hh))
       exact ⟨k,bU _ hk,e⟩
def pickL (p:PrV) (r rest:List Int):Option Int:=rest.find? fun x=>r.contains x&&A5N p rest x
def C8g (es:List (List Int)) (p:PrV) (r:List Int):Nat→List Int→List Int×Bool
 | 0,rest=>([],rest.isEmpty)
 | n+1,rest=>match pickL p r rest with
   | some x=>let q:=C8g es p r n (B0E es rest x);(x::q.1,q.2)
   | none=>([],rest.isEmpty)
def Acy (p:PrV):Prop:=∃ f:Int→Nat,∀ q∈p,f q.1<f q.2
theorem Ac (h:Acy p):∀ rest:List Int,rest ≠ []→∃ x∈rest,A5N p rest x=true:=by
 obtain ⟨f,hf⟩:=h;intro rest ev
 have:∀ l:List Int,l ≠ []→∃ x∈l,∀ y∈l,f x≤f y:=by
  intro l
  induction l with
  | nil=>intro h;exact absurd rfl h
  | cons a l ih =>
    intro _;by_cases e:l=[]
    · subst e;exact ⟨a,gu,fun y hy=>by simp at hy;subst hy;exact au _⟩
    · obtain ⟨x,hx,hm⟩:=ih e;by_cases hc:f a≤f x
      · refine ⟨a,gu,fun y hy=>?_⟩
        rcases aM.1 hy with rfl | hy
        · exact au _
        · exact dJ hc (hm y hy)
      · refine ⟨x,bU _ hx,fun y hy=>?_⟩
        rcases aM.1 hy with rfl | hy
        · omega
        · exact hm y hy
 obtain ⟨x,hx,hm⟩:=this rest ev;refine ⟨x,hx,qw.2 fun y hy=>?_⟩
 cases hb:A4k p y x with
 | false=>rfl
 | true =>
   have h1:=hf _ (bD.1 hb);have h2:=hm y hy;simp only at h1;omega
end
structure Gr (v:List Int) (es:List (List Int)):Prop where
 kQ:LX v es
 asc:∀ e∈es,Go.Hg.asc e=true
 two:∀ e∈es,e.length≤2
structure Rep (v:List Int) (es:List (List Int)) (l:List Int):Prop where
 asc:asc l=true
 sub:∀ x∈l,x∈v
 own:∀ x∈l,A8c es x=false
 ind:∀ a∈l,∀ b∈l,nbB es a b=false
 Qh:∀ x∈v,x∉l→A8c es x=false→∃ y∈l,nbB es x y=true
section
variable {v:List Int} {es:List (List Int)}
theorem Gr.cases (G:Gr v es) {e:List Int} (he:e∈es):(∃ a,e=[a]∧A8c es a=true)∨∃ a b,e=[a,b]∧a<b∧nbB es a b=true:=by
 have h1:=G.kQ.ne e he;have h2:=G.two e he;have h3:=G.asc e he
 match e,h1,h2,h3 with
 | [],h,_,_=>exact absurd rfl h
 | [a],_,_,_=>exact .inl ⟨a,rfl,bD.2 he⟩
 | [a,b],_,_,h =>
   have s5:a<b:=by simpa [Go.Hg.asc] using h
   exact .inr ⟨a,b,rfl,s5,by
    unfold nbB;rw [nR (by omega),nj (by omega)]
    simp only [ak,decide_eq_true_eq];exact ⟨by omega,bD.2 he⟩⟩
 | _::_::_::_,_,h,_=>exact absurd h (by simp)
theorem Gr.free (G:Gr v es) {l:List Int}:free es l=true↔(∀ x∈l,A8c es x=false)∧∀ a∈l,∀ b∈l,nbB es a b=false:=by
 unfold Go.Hg.free;constructor
 · intro h;have hn:∀ e∈es,¬ (∀ y∈e,y∈l):=by
    intro e he hw
    have:(es.any fun e=>A0y e l)=true:=b6.2 ⟨e,he,within_iff.2 hw⟩
    rw [this] at h;cases h
   refine ⟨fun x hx=>?_,fun a ha b hb=>?_⟩
   · cases hc:A8c es x with
     | false=>rfl
     | true=>exact absurd (fun y hy=>by simp at hy;subst hy;exact hx) (hn _ (bD.1 hc))
   · cases hc:nbB es a b with
     | false=>rfl
     | true =>
       unfold nbB at hc;simp only [ak] at hc;refine absurd (fun y hy=>?_) (hn _ (bD.1 hc.2))
       simp only [aM,ni,or_false] at hy;rcases hy with rfl | rfl
       · rcases Int.le_total a b with h | h
         · rw [nR h];exact ha
         · rw [Int.min_eq_right h];exact hb
       · rcases Int.le_total a b with h | h
         · rw [nj h];exact hb
         · rw [Int.max_eq_left h];exact ha
 · rintro ⟨h1,h2⟩;cases hc:(es.any fun e=>A0y e l) with
   | false=>rfl
   | true =>
     obtain ⟨e,he,hw⟩:=b6.1 hc;have hw:=within_iff.1 hw;rcases G.cases he with ⟨a,rfl,ho⟩ | ⟨a,b,rfl,s5,hn⟩
     · rw [h1 a (hw a (by simp))] at ho;cases ho
     · rw [h2 a (hw a (by simp)) b (hw b (by simp))] at hn;cases hn
theorem oq (G:Gr v es) {l:List Int}:A0L v es l=true↔Rep v es l:=by
 unfold A0L A5L;simp only [ak,bj,Bool.or_eq_true,db,bD];constructor
 · rintro ⟨⟨⟨h1,h2⟩,h3⟩,h4⟩;obtain ⟨f1,f2⟩:=G.free.1 h3;refine ⟨h1,within_iff.1 h2,f1,f2,fun x hx hn ho=>?_⟩
   rcases h4 x hx with h | h
   · exact absurd h hn
   · refine bz fun hc=>?_
     have vD:∀ y∈l,nbB es x y=false:=fun y hy=>by
      cases e:nbB es x y with
      | false=>rfl
      | true=>exact absurd ⟨y,hy,e⟩ hc
     have:free es (l++[x])=true:=by
      refine G.free.2 ⟨fun z hz=>?_,fun a ha b hb=>?_⟩
      · rcases ay.1 hz with hz | hz
        · exact f1 z hz
        · simp at hz;subst hz;exact ho
      · rcases ay.1 ha with Cy | Cy
        · rcases ay.1 hb with n9 | n9
          · exact f2 a Cy b n9
          · have eb:b=x:=by simpa using n9
            rw [eb,rD];exact vD a Cy
        · have ea:a=x:=by simpa using Cy
          rcases ay.1 hb with n9 | n9
          · rw [ea];exact vD b n9
          · have eb:b=x:=by simpa using n9
            rw [ea,eb];simp [nbB]
     rw [this] at h;cases h
 · intro R;refine ⟨⟨⟨R.asc,within_iff.2 R.sub⟩,G.free.2 ⟨R.own,R.ind⟩⟩,fun x hx=>?_⟩
   by_cases hm:x∈l
   · exact .inl hm
   · refine .inr ?_;cases hf:free es (l++[x]) with
     | false=>rfl
     | true =>
       obtain ⟨f1,f2⟩:=G.free.1 hf;obtain ⟨y,hy,e⟩:=R.Qh x hx hm (f1 x (by simp))
       rw [f2 x (by simp) y (by simp [hy])] at e;cases e
theorem F0 {r s:List Int} (hr:Rep v es r) (hs:Rep v es s) (h:∀ y∈s,y∈r):s=r:=by
 refine pX (iz.1 hs.asc) (iz.1 hr.asc) fun x=>⟨h x,fun hx=>?_⟩
 refine bz fun hn=>?_
 obtain ⟨y,hy,e⟩:=hs.Qh x (hr.sub x hx) hn (hr.own x hx);rw [hr.ind x hx y (h y hy)] at e;cases e
def ImpP (p:PrV) (r s:List Int):Prop:=(∀ x∈r,x∉s→∃ y∈s,y∉r∧A4k p y x=true)∧∃ y∈s,y∉r
def C8h (p:PrV) (r s:List Int):Prop:=∃ y∈s,y∉r∧∀ x∈r,x∉s→A4k p y x=true
end
end Go.Hg
namespace Go.Mid
theorem DN {k:IntKind} (hk:k.signed=false) {n:Nat} (h:n<2 ^ k.bits):k.wrap (n:Int)=(n:Int):=by
 cases k<;>first | exact absurd hk (by decide) | (simp only [gE,fT,eQ] at h ⊢;simp;omega)
theorem HZ (w m:Nat):cl w (m:Int)=BitVec.ofNat w m:=by simp
theorem L1 {k:IntKind} (hk:k.signed=false) {m n:Nat} (hm:m<2 ^ k.bits) (hn:n<2 ^ k.bits):o5 k (m:Int) (n:Int)=((m &&& n:Nat):Int):=by
 unfold o5;rw [HZ,HZ,BitVec.toNat_and,iJ,iJ,fe hm,fe hn];exact DN hk (iK Nat.and_le_left hm)
theorem Cz {k:IntKind} (hk:k.signed=false) {m n:Nat} (hm:m<2 ^ k.bits) (hn:n<2 ^ k.bits):ta k (m:Int) (n:Int)=((m ||| n:Nat):Int):=by
 unfold ta;rw [HZ,HZ,BitVec.toNat_or,iJ,iJ,fe hm,fe hn];exact DN hk (eT hm hn)
theorem Qi {w m n:Nat} (hm:m<2 ^ w):Go.Hg.less m n<2 ^ w:=jH _ fun i hi=>by
 rw [Go.Hg.iN,fX (br hm (cN (by decide) hi))];rfl
theorem H0 {k:IntKind} (hk:k.signed=false) {m n:Nat} (hm:m<2 ^ k.bits) (hn:n<2 ^ k.bits):zR k (m:Int) (n:Int)=((Go.Hg.less m n:Nat):Int):=by
 have h:(cl k.bits (m:Int) &&& ~~~ cl k.bits (n:Int)).toNat=Go.Hg.less m n:=by
  rw [HZ,HZ];apply dH;intro i;rw [BitVec.toNat_and,eV,Go.Hg.iN,iJ,fe hm];by_cases hi:i<k.bits
  · congr 1;rw [← BitVec.getLsbD,BitVec.getLsbD_not];simp only [hi,decide_true,cJ,BitVec.getLsbD_ofNat]
  · rw [fX (br hm (cN (by decide) (by omega)))]
    rfl
 unfold zR;rw [h];exact DN hk (Qi hm)
theorem Wu {k:IntKind} {m i:Nat} (hi:i≤k.bits):jW k (m:Int) (i:Int)=((m >>> i:Nat):Int):=by
 unfold jW;have e:min ((i:Int).toNat) k.bits=i:=by rw [aq];omega
 rw [e,Nat.shiftRight_eq_div_pow]
 have:((2:Int) ^ i)=((2 ^ i:Nat):Int):=by simp
 rw [this];exact Int.ofNat_fdiv m (2 ^ i) |>.symm
theorem Wv {k:IntKind} (hk:k.signed=false) {m i:Nat} (hi:i≤k.bits) (h:m <<< i<2 ^ k.bits):nW k (m:Int) (i:Int)=((m <<< i:Nat):Int):=by
 unfold nW;have e:min ((i:Int).toNat) k.bits=i:=by rw [aq];omega
 rw [e]
 have:(m:Int)*2 ^ i=((m <<< i:Nat):Int):=by rw [nk];simp
 rw [this];exact DN hk h
theorem D2u {m i:Nat} (hi:i≤63) (h:m <<< i<2 ^ 63):nW .i64 (m:Int) (i:Int)=((m <<< i:Nat):Int):=by
 unfold nW;have e:min ((i:Int).toNat) ai.bits=i:=by rw [aq];show min i 64=i;omega
 rw [e]
 have:(m:Int)*2 ^ i=((m <<< i:Nat):Int):=by rw [nk];simp
 rw [this];exact Ky (by omega)
theorem vh {i w:Nat} (h:i<w):1 <<< i<2 ^ w:=by rw [eS];exact Nat.pow_lt_pow_right (by decide) h
theorem L2 {k:IntKind} (hk:k.signed=false) {m i:Nat} (hi:i≤k.bits) (h2:1<k.bits) (hm:m<2 ^ k.bits):o5 k (jW k (m:Int) (i:Int)) 1=if m.testBit i then 1 else 0:=by
 rw [Wu hi];have h1:m >>> i<2 ^ k.bits:=iK (Nat.shiftRight_le m i) hm
 have:=L1 (k:=k) hk (m:=m >>> i) (n:=1) h1 (Nat.one_lt_two_pow (by omega))
 have h2:o5 k ((m >>> i:Nat):Int) 1=(((m >>> i) &&& 1:Nat):Int):=this;rw [h2,Wd,kK,du];cases m.testBit i<;>rfl
theorem D7H {m i:Nat} (hi:i≤64):((jW .i64 (m:Int) (i:Int)).tmod 2==1)=m.testBit i:=by
 rw [Wu (k:=.i64) hi]
 have:((m >>> i:Nat):Int).tmod 2=(((m >>> i)%2:Nat):Int):=by
  exact (oB (m >>> i) 2).symm
 rw [this,← iD,Wd,kK,du];cases m.testBit i<;>rfl
end Go.Mid
namespace Go.Mid
open Go.Hg (asc A0y free A5L A0L)
theorem wZ {n:Nat} (h:1≤n) (h':n≤9223372036854775807):ai.wrap ((n:Int)-1)=((n-1:Nat):Int):=by rw [wrap_i64 (by omega) (by omega)];omega
theorem C6D {l:List Int}:asc l=true↔∀ j (h:j+1<l.length),l[j]<l[j+1]:=by
 constructor
 · intro h j hj;exact Go.Hg.kC h (la j) hj
 · intro h
   induction l with
   | nil=>rfl
   | cons a r ih =>
     cases r with
     | nil=>rfl
     | cons b r =>
       simp only [asc,ak,decide_eq_true_eq];refine ⟨h 0 (by simp),ih fun j hj=>?_⟩
       have:=h (j+1) (by simpa using hj)
       simpa only [fW] using this
theorem C4H {f:List Int×Int→Option (List Int×Int ⊕ Bool ⊕ PUnit)} (l:List Int)
 (hs:∀ i (h:i+1<l.length),f (l,((i+1:Nat):Int))=if decide (l[i+1]≤l[i]) then some (.inr (.inl false)) else some (.inl (l,((i+2:Nat):Int))))
 (he:∀ i:Nat,l.length≤i→f (l,(i:Int))=some (.inr (.inr ()))) :
 ((dq f (l,(1:Int))).bind fun u=>Sum.elim (fun v=>some v) (fun _=>some true) u)=some (asc l):=by
 have key:=Cw (f:=f) l.tail (fun i=>(l,((i+1:Nat):Int))) (fun i x=>decide (x≤l.getD i 0)) (fun _=>.inl false) (.inr ()) (fun i hi=>by
  have dP:i+1<l.length:=by rw [lf] at hi;omega
  have e1:l.tail[i]=l[i+1]:=by rw [mQ]
  have e2:l.getD i 0=l[i]:=by rw [bu,af (by omega)];rfl
  rw [hs i dP,e1,e2]) (he _ (by rw [lf];omega))
 have key:dq f (l,(1:Int))=_:=key;rw [key];cases hf:pG (fun i x=>decide (x≤l.getD i 0)) l.tail 0 with
 | none =>
   rw [Va] at hf
   have:asc l=true:=C6D.2 fun j hj=>by
    have h1:=hf j (by rw [lf];omega)
    rw [mQ,bS,bu,af (by omega)] at h1
    simpa using h1
   rw [this];rfl
 | some k =>
   obtain ⟨_,h2,⟨h3,h4⟩,_⟩:=O5 hf
   have:asc l=false:=by
    cases hc:asc l with
    | false=>rfl
    | true =>
      have hk:k+1<l.length:=by rw [lf] at h2;omega
      have h5:=C6D.1 hc k hk;simp only [gB,mQ,bu,af (show k<l.length by omega),bG,decide_eq_true_eq] at h4
      omega
   rw [this];rfl
theorem Ww {l:List Int} (hl:l.length≤1000000):Hv l=some (asc l):=by
 unfold Hv;refine C4H l (fun i h=>?_) (fun i h=>?_)
 · have h':((i+1:Nat):Int)<(l.length:Int):=by omega
   simp only [Vu,h',decide_true,cond_true,aj,aq,af h,ah,wZ (show 1≤i+1 by omega) (by omega),
    dK,af (show i<l.length by omega),gW (show i+1<9223372036854775807 by omega)]
   by_cases c:l[i+1]≤l[i]
   · simp only [c,decide_true,cond_true,if_true]
   · simp only [c,decide_false,cond_false,aF,if_false]
 · have h':¬ ((i:Int)<(l.length:Int)):=by omega
   simp only [Vu,h',decide_false,cond_false]
theorem D1T {n:Nat} (h:n<9223372036854775808):ai.wrap (jW .u64 (aK.wrap (ai.wrap (n:Int))) 1)=((n / 2:Nat):Int):=by
 have e1:ai.wrap (n:Int)=n:=Ky (by omega)
 have e2:aK.wrap (n:Int)=n:=by simp only [gE,fT,eQ];simp;omega
 have e3:jW .u64 (n:Int) 1=(n:Int).fdiv 2:=rfl;rw [e1,e2,e3,Int.fdiv_eq_ediv_of_nonneg _ (by omega),show ((n:Int) / 2)=((n / 2:Nat):Int) by omega,Ky (by omega)]
theorem D7I (x y:Int):Pd (x,y)=some (decide (x<y)):=by
 simp [Pd,FT]
theorem D1U {i j:Nat} (h:i+j<9223372036854775808):ai.wrap (jW .u64 (aK.wrap (ai.wrap ((i:Int)+(j:Int)))) 1)=(((i+j) / 2:Nat):Int):=by
 rw [← D1T h];rfl
structure Place (l:List Int) (y:Int) (i:Nat):Prop where
 le:i≤l.length
 lo:∀ k (h:k<l.length),k<i→l[k]<y
 hi:∀ k (h:k<l.length),i≤k→y≤l[k]
theorem C5z {l:List Int} (ha:asc l=true) (hl:l.length≤1000000) (y:Int):∃ i:Nat,dq KM (l,y,(l.length:Int),0,(l.length:Int))=some (l,y,(l.length:Int),(i:Int))∧Place l y i:=by
 obtain ⟨b,hb,i,rfl,hp⟩:=C9y (f:=KM)
  (fun a=>∃ i j:Nat,a=(l,y,(l.length:Int),(i:Int),(j:Int))∧i≤j∧j≤l.length∧(∀ k (h:k<l.length),k<i→l[k]<y)∧(∀ k (h:k<l.length),j≤k→y≤l[k]))
  (fun b=>∃ i:Nat,b=(l,y,(l.length:Int),(i:Int))∧Place l y i) (fun a=>(a.2.2.2.2-a.2.2.2.1).toNat) (by
    rintro a ⟨i,j,rfl,gU,hj,h1,h2⟩;by_cases c:i<j
    · left;have c':(i:Int)<(j:Int):=by omega
      have hm:(i+j) / 2<l.length:=by omega
      simp only [KM,c',decide_true,cond_true,D1U (show i+j<9223372036854775808 by omega),aj,aq,af hm,ah,D7I]
      by_cases d:l[(i+j) / 2]<y
      · simp only [d,decide_true,cond_true,gW (show (i+j) / 2<9223372036854775807 by omega)]
        refine ⟨_,rfl,⟨(i+j) / 2+1,j,rfl,by omega,hj,fun k hk BL=>?_,h2⟩,by show ((j:Int)-(((i+j) / 2+1:Nat):Int)).toNat<((j:Int)-(i:Int)).toNat;omega⟩
        rcases ml (Nat.le_of_lt_succ BL) with h | h
        · exact qb (Go.Hg.kC ha h hm) d
        · subst h;exact d
      · simp only [d,decide_false,cond_false];refine ⟨_,rfl,⟨i,(i+j) / 2,rfl,by omega,by omega,h1,fun k hk BL=>?_⟩,by show ((((i+j) / 2:Nat):Int)-(i:Int)).toNat<((j:Int)-(i:Int)).toNat;omega⟩
        rcases ml BL with h | h
        · exact Int.le_of_lt (Int.lt_of_le_of_lt (Int.not_lt.1 d) (Go.Hg.kC ha h hk))
        · subst h;exact Int.not_lt.1 d
    · right;have c':¬ ((i:Int)<(j:Int)):=by omega
      obtain rfl:i=j:=by omega
      simp only [KM,c',decide_false,cond_false];exact ⟨_,rfl,i,rfl,hj,h1,h2⟩) (l,y,(l.length:Int),0,(l.length:Int)) ⟨0,l.length,rfl,by omega,au _,fun k _ hk=>by omega,fun k h hk=>by omega⟩
 exact ⟨i,hb,hp⟩
theorem Place.found {l:List Int} {y:Int} {i:Nat} (ha:asc l=true) (hp:Place l y i):l.contains y=(match l[i]? with | some x=>x==y | none=>false):=by
 cases hc:l[i]? with
 | none =>
   have hi:l.length≤i:=List.getElem?_eq_none_iff.1 hc
   have:¬ y∈l:=fun hm=>by
    obtain ⟨k,hk,rfl⟩:=fB.1 hm
    have:=hp.lo k hk (by omega);omega
   simp [this]
 | some x =>
   obtain ⟨hi,rfl⟩:=aL.1 hc;apply cn.2;rw [bD,beq_iff_eq];constructor
   · intro hm;obtain ⟨k,hk,rfl⟩:=fB.1 hm;have h1:¬ k<i:=fun h=>by have:=hp.lo k hk h;omega
     by_cases h2:k=i
     · subst h2;rfl
     · have h3:=hp.hi i hi (au _);have h4:=Go.Hg.kC ha (show i<k by omega) hk
       omega
   · intro e;rw [← e];exact aJ hi
theorem Wx {l:List Int} (ha:asc l=true) (hl:l.length≤1000000) (y:Int):∃ i:Nat,Hw (l,y)=some ((i:Int),l.contains y)∧Place l y i:=by
 obtain ⟨i,h1,hp⟩:=C5z ha hl y;refine ⟨i,?_,hp⟩;rw [hp.found ha];unfold Hw;simp only;rw [h1];simp only [ah];by_cases c:i<l.length
 · have c':(i:Int)<(l.length:Int):=by omega
   simp only [c',decide_true,cond_true,aj,aq,af c,ah];by_cases d:l[i]=y
   · simp [d]
   · have d':(l[i]==y)=false:=by simpa using d
     simp only [d',cond_false,Pe,ah,bne_self_eq_false]
 · have c':¬ (i:Int)<(l.length:Int):=by omega
   simp only [c',decide_false,cond_false,List.getElem?_eq_none_iff.2 (Nat.not_lt.1 c)]
theorem Qj {l part:List Int} (ha:asc l=true) (hl:l.length≤1000000) (hp:part.length≤1000000):FU (l,part)=some (A0y part l):=by
 have key:=th (f:=Pf) part (fun i=>(l,part,(part.length:Int),(i:Int))) (fun y=>!l.contains y) (.inl false) (.inr ()) (fun i hi=>by
  have dP:(i:Int)<(part.length:Int):=by omega
  obtain ⟨j,h1,_⟩:=Wx ha hl part[i];simp only [Pf,dP,decide_true,cond_true,aj,aq,af hi,ah,h1,gW (show i<9223372036854775807 by omega)]
  cases l.contains part[i]<;>rfl) (by
  simp only [Pf,aY,decide_false,cond_false])
 simp only [cj] at key;unfold FU;simp only;rw [key];unfold A0y;have e:(part.all fun x=>l.contains x)=!(part.any fun y=>!l.contains y):=by rw [ik];simp
 rw [e];cases part.any fun y=>!l.contains y<;>rfl
theorem A8b {v:List Int} {es:List (List Int)} {l:List Int} (hv:asc v=true) (nv:v.length≤1000000) (ne:es.length≤1000000) (el:∀ e∈es,e.length≤1000000) (hl:l.length≤1000000) :
 Ls ((v,es),l)=some (A5L v es l):=by
 unfold Ls A5L;simp only [Ww hl,ah];cases ha:asc l with
 | false=>rfl
 | true =>
   simp only [bJ,cond_false,Qj hv nv hl,ah,cJ];cases A0y l v with
   | false=>rfl
   | true =>
     simp only [bJ,cond_false,cJ];have key:=Cw (f:=PN) es (fun i=>(es,l,(es.length:Int),(i:Int))) (fun _ e=>A0y e l) (fun i=>.inl (i:Int)) (.inr ()) (fun i hi=>by
      have dP:(i:Int)<(es.length:Int):=by omega
      simp only [PN,VL,dP,decide_true,cond_true,aj,aq,af hi,ah,
       Qj ha hl (el _ (aJ hi)),gW (show i<9223372036854775807 by omega)]
      cases A0y es[i] l<;>rfl) (by
      simp only [PN,aY,decide_false,cond_false])
     simp only [cj] at key;unfold VN VM;simp only;rw [key];unfold free;have ha:=Ht (fun e=>A0y e l) es 0
     cases hf:pG (fun _ e=>A0y e l) es 0 with
     | none=>rw [hf] at ha;rw [← ha];rfl
     | some k =>
       rw [hf] at ha;rw [← ha];simp
theorem C8i {l:List Int} {y:Int} {i:Nat} (ha:asc l=true) (hp:Place l y i) (hn:y∉l):asc (l.take i++y::l.drop i)=true:=by
 rw [Go.Hg.iz];have hpw:=Go.Hg.iz.1 ha;have h1:∀ x∈l.take i,x<y:=by
  intro x hx;obtain ⟨k,hk,rfl⟩:=List.mem_take_iff_getElem.1 hx;exact hp.lo k (by omega) (by omega)
 have h2:∀ x∈l.drop i,y<x:=by
  intro x hx;obtain ⟨k,hk,rfl⟩:=List.mem_drop_iff_getElem.1 hx;have h3:=hp.hi (k+i) (by omega) (by omega)
  have h4:l[k+i]≠y:=fun e=>hn (e ▸ aJ _)
  have e5:l[i+k]=l[k+i]:=by congr 1;omega
  omega
 rw [cB];refine ⟨hpw.sublist (List.take_sublist _ _),?_,?_⟩
 · rw [bM];exact ⟨h2,hpw.sublist (List.drop_sublist _ _)⟩
 · intro a ha b hb;rcases aM.1 hb with rfl | hb
   · exact h1 a ha
   · exact qb (h1 a ha) (h2 b hb)
theorem B9L {l:List Int} {y:Int} {i:Nat} (x:Int):x∈l.take i++y::l.drop i↔x∈l++[y]:=by
 rw [ay,aM,ay,aW]
 conv=>rhs;rw [← List.take_append_drop i l,ay]
 exact ⟨fun h=>h.elim (fun h=>.inl (.inl h)) (fun h=>h.elim .inr (fun h=>.inl (.inr h))),fun h=>h.elim (fun h=>h.elim .inl (fun h=>.inr (.inr h))) (fun h=>.inr (.inl h))⟩
theorem D1V {es:List (List Int)} {l m:List Int} (h:∀ x,x∈l↔x∈m):free es l=free es m:=by
 unfold free;congr 2;funext e;apply cn.2;rw [Go.Hg.within_iff,Go.Hg.within_iff];exact ⟨fun g y hy=>(h y).1 (g y hy),fun g y hy=>(h y).2 (g y hy)⟩
theorem A9J {v:List Int} {es:List (List Int)} {l:List Int} (hv:asc v=true) (nv:v.length≤100000) (ne:es.length≤1000000) (el:∀ e∈es,e.length≤1000000) (hl:l.length≤100000) :
 Lt ((v,es),l)=some (A0L v es l):=by
 unfold Lt A0L;simp only [A8b hv (show v.length≤1000000 by omega) ne el (show l.length≤1000000 by omega),ah]
 cases hi:A5L v es l with
 | false=>rfl
 | true =>
   simp only [bJ,cond_false,cJ];unfold A5L at hi;simp only [ak] at hi;obtain ⟨⟨ha,hw⟩,hf⟩:=hi;have key:=th (f:=PQ) v (fun i=>((l,v,(v.length:Int),(i:Int)),v,es)) (fun x=>!(l.contains x || !free es (l++[x]))) (.inl false) (.inr ()) (fun i hi=>by
    have dP:(i:Int)<(v.length:Int):=by omega
    obtain ⟨j,h1,hp⟩:=Wx ha (show l.length≤1000000 by omega) v[i]
    simp only [PQ,dP,decide_true,cond_true,aj,aq,af hi,ah,h1,gW (show i<9223372036854775807 by omega)]
    cases hc:l.contains v[i] with
    | true=>simp
    | false =>
      have hn:v[i]∉l:=by intro hm;rw [bD.2 hm] at hc;cases hc
      have nP:Cx 8 l=some (l.length,l):=by
       unfold Cx;rw [iy (show l.length*8≤140737488355328 by omega),cond_true]
      have nV:PO ((l.length,(j:Int),1),l,[v[i]])=some (l.length+1,l.take j++v[i]::l.drop j,[v[i]]):=by
       unfold PO;have q1:Nat.beq 1 1=true:=rfl;have q2:Nat.beq l.length l.length=true:=Nat.beq_refl _;simp only [dz,q1,cond_true,bQ,ah,q2,aj,decide_true,aq,iy hp.le,ln (show l.length<1000000000000 by omega)]
      have hlen:(l.take j++v[i]::l.drop j).length=l.length+1:=by
       have:=hp.le
       simp;omega
      have zw:=A8b (l:=l.take j++v[i]::l.drop j) hv (show v.length≤1000000 by omega) ne el (by omega)
      have hb:A5L v es (l.take j++v[i]::l.drop j)=free es (l++[v[i]]):=by
       unfold A5L;rw [C8i ha hp hn,D1V (fun x=>B9L x)]
       have:A0y (l.take j++v[i]::l.drop j) v=true:=by
        rw [Go.Hg.within_iff];intro y hy;rcases ay.1 ((B9L y).1 hy) with h | h
        · exact Go.Hg.within_iff.1 hw y h
        · simp only [aW] at h;subst h;exact aJ hi
       rw [this];rfl
      simp only [eC,cond_true,nP,ah,a7,nV,hlen,iy (au _),aZ (eG hlen),zw,hb];cases free es (l++[v[i]])<;>simp) (by
    simp only [PQ,aY,decide_false,cond_false])
   simp only [cj] at key;rw [key];have e:(v.all fun x=>l.contains x || !free es (l++[x]))=!(v.any fun x=>!(l.contains x || !free es (l++[x]))):=by rw [ik];simp
   rw [e];cases v.any fun x=>!(l.contains x || !free es (l++[x]))<;>rfl
end Go.Mid
namespace Go.Mid
open Go.Hg (asc A0y free A5L A0L before bef A3P)
theorem Wy {α:Type} (l:List α) (p:α→Bool):(l.all p)=!(l.any fun x=>!p x):=by rw [ik];simp
theorem Wz {l:List Int} (hl:l.length≤1000000):HR l=some (asc l):=by
 unfold HR;refine C4H l (fun i h=>?_) (fun i h=>?_)
 · have h':((i+1:Nat):Int)<(l.length:Int):=by omega
   simp only [VO,h',decide_true,cond_true,aj,aq,af h,ah,wZ (show 1≤i+1 by omega) (by omega),
    dK,af (show i<l.length by omega),gW (show i+1<9223372036854775807 by omega)]
   by_cases c:l[i+1]≤l[i]
   · simp only [c,decide_true,cond_true,if_true]
   · simp only [c,decide_false,cond_false,aF,if_false]
 · have h':¬ ((i:Int)<(l.length:Int)):=by omega
   simp only [VO,h',decide_false,cond_false]
theorem B9M {l:List Int} (hl:l.length≤1000000) (y:Int):K1 (l,y)=some (l.contains y):=by
 have key:=th (f:=Pv) l (fun i=>(l,y,(i:Int))) (fun x=>x==y) (.inl true) (.inr ()) (fun i hi=>by
  have dP:(i:Int)<(l.length:Int):=by omega
  simp only [Pv,dP,decide_true,cond_true,aj,aq,af hi,ah,gW (show i<9223372036854775807 by omega)]
  cases l[i]==y<;>rfl) (by
  simp only [Pv,aY,decide_false,cond_false])
 simp only [cj] at key;unfold K1;simp only;rw [key];have e:(l.any fun x=>x==y)=l.contains y:=by rw [List.contains_eq_any_beq];congr 1;funext x;exact Bool.beq_comm
 rw [e];cases l.contains y<;>rfl
theorem B9N {l:List Int} (hl:l.length≤1000000) (y:Int):K3 (l,y)=some (l.contains y):=by
 unfold K3;simp only [B9M hl,ah]
theorem L3 {a b:List Int} (ha:a.length≤1000000) (hb:b.length≤1000000):DH (a,b)=some (A0y a b):=by
 have key:=th (f:=Pw) a (fun i=>(a,b,(i:Int))) (fun x=>!b.contains x) (.inl false) (.inr ()) (fun i hi=>by
  have dP:(i:Int)<(a.length:Int):=by omega
  simp only [Pw,dP,decide_true,cond_true,aj,aq,af hi,ah,B9N hb,gW (show i<9223372036854775807 by omega)]
  cases b.contains a[i]<;>rfl) (by
  simp only [Pw,aY,decide_false,cond_false])
 simp only [cj] at key;unfold DH;simp only;rw [key];unfold A0y;rw [Wy];cases a.any fun y=>!b.contains y<;>rfl
theorem B7n {v:List Int} {es:List (List Int)} {l:List Int} (ne:es.length≤1000000) (el:∀ e∈es,e.length≤1000000) (hl:l.length≤1000000):LK ((v,es),l)=some (free es l):=by
 have key:=th (f:=P3) es (fun i=>((l,(i:Int)),v,es)) (fun e=>A0y e l) (.inl false) (.inr ()) (fun i hi=>by
  have dP:(i:Int)<(es.length:Int):=by omega
  simp only [P3,dP,decide_true,cond_true,aj,aq,af hi,ah,L3 (el _ (aJ hi)) hl,gW (show i<9223372036854775807 by omega)]
  cases A0y es[i] l<;>rfl) (by
  simp only [P3,aY,decide_false,cond_false])
 simp only [cj] at key;unfold LK;simp only;rw [key];unfold free;cases es.any fun e=>A0y e l<;>rfl
theorem B59 {v:List Int} {es:List (List Int)} {l:List Int} (nv:v.length≤1000000) (ne:es.length≤1000000) (el:∀ e∈es,e.length≤1000000) (hl:l.length≤1000000) :
 P4 ((v,es),l)=some (A5L v es l):=by
 unfold P4 A5L;simp only [Wz hl,ah,L3 hl nv,B7n ne el hl];cases asc l<;>cases A0y l v<;>rfl
theorem WA {v:List Int} {es:List (List Int)} {l:List Int} (nv:v.length≤100000) (ne:es.length≤1000000) (el:∀ e∈es,e.length≤1000000) (hl:l.length≤100000) :
 FW ((v,es),l)=some (A0L v es l):=by
 unfold FW A0L;simp only [B59 (show v.length≤1000000 by omega) ne el (show l.length≤1000000 by omega),ah]
 cases hi:A5L v es l with
 | false=>rfl
 | true =>
   simp only [bJ,cond_false,cJ];have key:=th (f:=P5) v (fun i=>((l,(i:Int)),v,es)) (fun x=>!(l.contains x || !free es (l++[x]))) (.inl false) (.inr ()) (fun i hi=>by
    have dP:(i:Int)<(v.length:Int):=by omega
    have hlen:(l++[v[i]]).length=l.length+1:=by simp
    simp only [P5,dP,decide_true,cond_true,aj,aq,af hi,ah,B9N (show l.length≤1000000 by omega),gW (show i<9223372036854775807 by omega),
     bS,gP,a7,iy (au _),iy (show l.length*8≤140737488355328 by omega),iy (show (l.length+1)*8≤140737488355328 by omega),dS,hlen,
     aZ (eG hlen),B7n ne el (show (l++[v[i]]).length≤1000000 by omega)]
    cases l.contains v[i]<;>cases free es (l++[v[i]])<;>rfl) (by
    simp only [P5,aY,decide_false,cond_false])
   simp only [cj] at key;rw [key,Wy];cases v.any fun x=>!(l.contains x || !free es (l++[x]))<;>rfl
theorem WB {a b:List Int} (ha:a.length≤1000000):HB (a,b)=some (before a b):=by
 have main:∀ (k i:Nat),a.length-i=k→i≤a.length→dq HA (a,b,(i:Int))=some (match bef (a.drop i) (b.drop i) with | some t=>.inl t | none=>.inr (a,b)):=by
  intro k
  induction k with
  | zero =>
    intro i hk hi;obtain rfl:i=a.length:=by omega
    refine pV ?_;simp only [HA,aY,decide_false,cond_false,ff,bef]
  | succ k ih =>
    intro i hk hi;have h1:i<a.length:=by omega
    have uh:(i:Int)<(a.length:Int):=by omega
    rw [b4 h1];by_cases h2:i<b.length
    · have rk:(i:Int)<(b.length:Int):=by omega
      rw [b4 h2];simp only [bef];have st:HA (a,b,(i:Int))=if a[i]=b[i] then some (.inl (a,b,((i+1:Nat):Int))) else some (.inr (.inl (decide (a[i]<b[i])))):=by
       simp only [HA,uh,rk,decide_true,cond_true,aj,aq,af h1,af h2,ah,gW (show i<9223372036854775807 by omega)]
       by_cases c:a[i]=b[i]
       · simp [c]
       · have c':(a[i] != b[i])=true:=by simpa using c
         simp only [c',cond_true,c,if_false]
      by_cases c:a[i]=b[i]
      · rw [if_pos c] at st;rw [uG st,ih (i+1) (by omega) (by omega),if_pos c]
      · rw [if_neg c] at st;rw [pV st,if_neg c]
    · have rk:¬ (i:Int)<(b.length:Int):=by omega
      have e:b.drop i=[]:=List.drop_eq_nil_of_le (by omega)
      rw [e];simp only [bef];refine pV ?_;simp only [HA,uh,rk,decide_true,decide_false,cond_true,cond_false]
 have key:=main a.length 0 (by omega) (dt _)
 simp only [cj,fx] at key;unfold HB before;simp only;rw [key];cases bef a b with
 | some t=>rfl
 | none=>simp
theorem C14 {X:Type} (x0:X) (n b:Nat) (c:Int) {f:(Nat×Int×Int)×X×List (List Int)→Option ((Nat×Int×Int)×X×List (List Int) ⊕ (Nat×Int)×X×List (List Int))}
 (hf:∀ k out,out.length=n→(∀ x∈out,x.length≤1000000)→∀ (h:k+1<out.length),f ((n,c,((k+1:Nat):Int)),x0,out)=if before out[k+1] out[k] then some (.inl ((n,c,(k:Int)),x0,(out.set (k+1) out[k]).set k out[k+1])) else some (.inr ((n,c),x0,out)))
 (h0:∀ out,f ((n,c,0),x0,out)=some (.inr ((n,c),x0,out))):∀ (k:Nat) (out:List (List Int)),k<out.length→out.length=n→(∀ x∈out,x.length≤1000000)→dq f ((n,c,(k:Int)),x0,out)=some ((n,c),x0,A3P k out)
 | 0,out,_,_,_=>by
   refine pV ?_;exact h0 out
 | k+1,out,hk,hn,hb=>by
   have e1:out[k+1]?=some out[k+1]:=af hk;have e2:out[k]?=some out[k]:=af (by omega)
   have st:=hf k out hn hb hk;unfold A3P;simp only [e1,e2];by_cases c:before out[k+1] out[k]=true
   · rw [if_pos c] at st;rw [if_pos c,uG st];refine C14 x0 n b _ hf h0 k _ (by simp;omega) (by simpa using hn) ?_
     intro x hx;rcases bm hx with h | h
     · rcases bm h with h | h
       · exact hb x h
       · rw [h];exact hb _ (aJ _)
     · rw [h];exact hb _ (aJ _)
   · rw [if_neg c] at st;rw [if_neg c,pV st]
theorem B9O {A B:Type} {f:A→Option (A ⊕ B)} (st:Nat→List (List Int)→A) (fin:List (List Int)→B) (n:Nat)
 (hf:∀ k out,out.length=n→(∀ x∈out,x.length≤1000000)→∀ (h:k+1<out.length),f (st (k+1) out)=if before out[k+1] out[k] then some (.inl (st k ((out.set (k+1) out[k]).set k out[k+1]))) else some (.inr (fin out)))
 (h0:∀ out,f (st 0 out)=some (.inr (fin out))):∀ (k:Nat) (out:List (List Int)),k<out.length→out.length=n→(∀ x∈out,x.length≤1000000)→dq f (st k out)=some (fin (A3P k out))
 | 0,out,_,_,_=>pV (h0 out)
 | k+1,out,hk,hn,hb=>by
   have e1:out[k+1]?=some out[k+1]:=af hk;have e2:out[k]?=some out[k]:=af (by omega)
   have Qk:=hf k out hn hb hk;unfold A3P;simp only [e1,e2];by_cases c:before out[k+1] out[k]=true
   · rw [if_pos c] at Qk;rw [if_pos c,uG Qk];refine B9O st fin n hf h0 k _ (by simp;omega) (by simpa using hn) ?_
     intro x hx;rcases bm hx with h | h
     · rcases bm h with h | h
       · exact hb x h
       · rw [h];exact hb _ (aJ _)
     · rw [h];exact hb _ (aJ _)
   · rw [if_neg c] at Qk;rw [if_neg c,pV Qk]
theorem WC {v:List Int} {i:Nat} (hi:i<v.length) (b:Nat):Go.Hg.idsP (v.take (i+1)) b=Go.Hg.idsP (v.take i) b++if b.testBit i then [v[i]] else []:=by
 unfold Go.Hg.idsP;rw [sM hi,List.zipIdx_append,eJ,b8];congr 1;simp only [List.zipIdx_singleton,aX,bS,da (fU hi)];cases hb:b.testBit i<;>simp [hb]
theorem L4 (v:List Int) (b:Nat):(Go.Hg.idsP v b).length≤v.length:=by
 unfold Go.Hg.idsP;rw [aD];refine dJ (dU _ _) ?_;simp
theorem Ql (k:Nat) (out:List (List Int)):(A3P k out).length=out.length:=Go.Hg.om k out
theorem WD:∀ (k:Nat) (out:List (List Int)) (x:List Int),x∈A3P k out→x∈out
 | 0,out,x,h=>h
 | k+1,out,x,h=>by
   unfold A3P at h;split at h
   · rename_i y z h1 h2;split at h
     · have:=WD k _ x h
       rcases bm this with h | h
       · rcases bm h with h | h
         · exact h
         · rw [h];exact bI h2
       · rw [h];exact bI h1
     · exact h
   · exact h
section
variable {v:List Int} {es:List (List Int)} (nv:v.length≤20) (ne:es.length≤1000000) (el:∀ e∈es,e.length≤1000000)
def tj (v:List Int) (es:List (List Int)) (b:Nat):List (List Int):=(bp b).foldl (Go.Hg.nF v es) []
theorem B7o (b:Nat):tj v es (b+1)=Go.Hg.nF v es (tj v es b) b:=by
 unfold tj;rw [iU,fK];rfl
theorem C8j (b:Nat):(tj v es b).length≤b∧∀ x∈tj v es b,x.length≤v.length:=by
 induction b with
 | zero=>exact ⟨au _,fun x hx=>by cases hx⟩
 | succ b ih =>
   rw [B7o];unfold Go.Hg.nF;split
   · refine ⟨by rw [Ql];simp;omega,fun x hx=>?_⟩
     rcases ay.1 (WD _ _ x hx) with h | h
     · exact ih.2 x h
     · simp only [aW] at h;subst h;exact L4 v b
   · exact ⟨by omega,ih.2⟩
include nv in
theorem D3U (c:Nat) (b:Nat) (out:List (List Int)):dq LN ((c,(b:Int),0,0),(v,es),out,[])=some ((c,(b:Int),(Go.Hg.idsP v b).length),(v,es),out,Go.Hg.idsP v b):=by
 have key:=qE (f:=LN) v.length (fun i=>((c,(b:Int),(Go.Hg.idsP (v.take i) b).length,(i:Int)),(v,es),out,Go.Hg.idsP (v.take i) b)) ((c,(b:Int),(Go.Hg.idsP v b).length),(v,es),out,Go.Hg.idsP v b) (fun i hi=>by
  have dP:(i:Int)<(v.length:Int):=by omega
  have hl:=L4 (v.take i) b;rw [aX] at hl;simp only [LN,dP,decide_true,cond_true,aj,aq,D7H (show i≤64 by omega),af hi,ah,gW (show i<9223372036854775807 by omega),WC hi,
   iy (au _),iy (show ((Go.Hg.idsP (v.take i) b).length+1)*8≤140737488355328 by omega),mX]
  cases b.testBit i<;>simp) (by
  simp only [LN,aY,decide_false,cond_false,mX])
 exact key
include nv ne el in
theorem C0R:HU (v,es)=some (Go.Hg.refR v es):=by
 have hp:(2:Nat) ^ v.length≤2 ^ 20:=cN (by decide) nv
 have h20:(2:Nat) ^ 20=1048576:=by decide
 have key:=qE (f:=LO) (2 ^ v.length) (fun b=>(((tj v es b).length,(b:Int)),(v,es),tj v es b)) ((tj v es (2 ^ v.length)).length,tj v es (2 ^ v.length)) (fun b hb=>by
  have hs:nW .i64 1 (v.length:Int)=((2 ^ v.length:Nat):Int):=by
   have:=D2u (m:=1) (i:=v.length) (by omega) (by rw [eS];omega)
   rw [eS] at this;exact this
  have jx:(b:Int)<((2 ^ v.length:Nat):Int):=by omega
  have hr:=C8j (v:=v) (es:=es) b;have Bh:=L4 v b;simp only [LO,aj,decide_true,cond_true,hs,jx,D3U nv,ah,iy (au _),mX,WA (show v.length≤100000 by omega) ne el (show (Go.Hg.idsP v b).length≤100000 by omega),
   gW (show b<9223372036854775807 by omega),B7o]
  unfold Go.Hg.nF;cases hm:A0L v es (Go.Hg.idsP v b) with
  | false=>simp
  | true =>
    have Ad:(tj v es b++[Go.Hg.idsP v b]).length=(tj v es b).length+1:=by simp
    have hw:ai.wrap ((((tj v es b).length+1:Nat):Int)-1)=((tj v es b).length:Int):=by
     rw [wZ (by omega) (by omega)];rfl
    have sk:=C14 (f:=P6) (v,es) ((tj v es b).length+1) 0 (b:Int) (fun k out hn hx h=>by
     have CX:((k+1:Nat):Int)>0:=by omega
     have e1:k+1<(tj v es b).length+1:=by omega
     have e2:k<(tj v es b).length+1:=by omega
     have e3:k<out.length:=by omega
     simp only [P6,CX,decide_true,cond_true,aj,aq,ln e1,ln e2,af h,af e3,ah,wZ (show 1≤k+1 by omega) (by omega),dK,
      WB (hx _ (aJ h))]
     have e4:(out.set (k+1) out[k])[k]?=some out[k]:=by rw [eK (by omega),af e3]
     rw [e4];cases before out[k+1] out[k]<;>simp) (fun out=>by
     simp only [P6,gt_iff_lt,aY,decide_false,cond_false]) (tj v es b).length (tj v es b++[Go.Hg.idsP v b]) (by rw [Ad];omega) Ad (fun x hx=>by
     rcases ay.1 hx with h | h
     · have:=hr.2 x h;omega
     · simp only [aW] at h;subst h;omega)
    simp only [bJ,cond_false,cond_true,if_true,iy (show ((tj v es b).length+1)*24≤140737488355328 by omega),hw,sk,ah,gW (show b<9223372036854775807 by omega),Ql,Ad]) (by
  have hs:nW .i64 1 (v.length:Int)=((2 ^ v.length:Nat):Int):=by
   have:=D2u (m:=1) (i:=v.length) (by omega) (by rw [eS];omega)
   rw [eS] at this;exact this
  simp only [LO,aj,decide_true,cond_true,hs,aY,decide_false,cond_false])
 unfold HU;have key:dq LO ((0,0),(v,es),[])=_:=key;rw [key];simp only [ah,iy (au _),cond_true,mX];rfl
end
end Go.Mid
namespace Go.Mid
open Go.Hg (asc A0y free A5L A0L before PrV nbB A8c A4k A5N B57 B0E Run)
section
variable {A B α β:Type} {f:A→Option (A ⊕ B)}
theorem WE (l:List α) (DO:α→List β) (st:Nat→List β→A) (fin:List β→B)
 (h1:∀ i (h:i<l.length),f (st i ((l.take i).flatMap DO))=some (.inl (st (i+1) ((l.take i).flatMap DO++DO l[i]))))
 (h2:f (st l.length (l.flatMap DO))=some (.inr (fin (l.flatMap DO)))):dq f (st 0 [])=some (fin (l.flatMap DO)):=by
 have key:=qE (f:=f) l.length (fun i=>st i ((l.take i).flatMap DO)) (fin (l.flatMap DO)) (fun i hi=>by
  rw [h1 i hi,sM hi,List.flatMap_append];simp) (by rw [mX];exact h2)
 exact key
theorem WG (p:α→Bool) (l:List α):(l.flatMap fun x=>if p x then [x] else [])=l.filter p:=by
 induction l with
 | nil=>rfl
 | cons x r ih =>
   rw [jb,ih,jD];cases p x<;>rfl
theorem C4I (p:α→Bool) (l:List α) (i:Nat):((l.take i).flatMap fun x=>if p x then [x] else []).length≤i:=by
 rw [WG];exact dJ (dU _ _) (by rw [aX];omega)
end
theorem B6b {a b:List Int} (ha:a.length≤1000000) (hb:b.length≤1000000):LQ (a,b)=some (a.filter fun x=>!b.contains x):=by
 have key:=WE (f:=LP) a (fun x=>if !b.contains x then [x] else []) (fun i acc=>((a,b,acc.length,(i:Int)),acc)) (fun acc=>(acc.length,acc)) (fun i hi=>by
  have dP:(i:Int)<(a.length:Int):=by omega
  have hl:=C4I (fun x=>!b.contains x) a i
  simp only [LP,dP,decide_true,cond_true,aj,aq,af hi,ah,B9M hb,gW (show i<9223372036854775807 by omega),iy (au _)]
  cases b.contains a[i] with
  | true=>simp
  | false =>
    simp only [eC,cond_true,if_true,mX,aQ,dz];rw [iy (by omega),cond_true]) (by
  simp only [LP,aY,decide_false,cond_false])
 rw [WG] at key;have key:dq LP ((a,b,0,0),[])=_:=key;unfold LQ;simp only;rw [key];simp only [ah,iy (au _),cond_true,mX]
theorem C2l {p:PrV} (hp:p.length≤1000000) (a b:Int):PW (p,a,b)=some (A4k p a b):=by
 have key:=th (f:=PU) p (fun i=>(p,a,b,(i:Int))) (fun x=>x.1==a&&x.2==b) (.inl true) (.inr ()) (fun i hi=>by
  have dP:(i:Int)<(p.length:Int):=by omega
  simp only [PU,dP,decide_true,cond_true,aj,aq,af hi,ah,gW (show i<9223372036854775807 by omega)]
  cases p[i].1==a<;>cases p[i].2==b<;>rfl) (by
  simp only [PU,aY,decide_false,cond_false])
 simp only [cj] at key;unfold PW;simp only;rw [key];have e:(p.any fun x=>x.1==a&&x.2==b)=A4k p a b:=by
  unfold A4k;rw [List.contains_eq_any_beq];congr 1;funext x;apply cn.2;simp only [ak,beq_iff_eq];exact ⟨fun h=>by rw [← h.1,← h.2],fun h=>by rw [← h];exact ⟨rfl,rfl⟩⟩
 rw [e];cases A4k p a b<;>rfl
theorem WH {p:PrV} {l:List Int} (hp:p.length≤1000000) (hl:l.length≤1000000) (v:Int):Lw (p,l,v)=some (A5N p l v):=by
 have key:=th (f:=PX) l (fun i=>(p,l,v,(i:Int))) (fun y=>A4k p y v) (.inl false) (.inr ()) (fun i hi=>by
  have dP:(i:Int)<(l.length:Int):=by omega
  simp only [PX,dP,decide_true,cond_true,aj,aq,af hi,ah,C2l hp,gW (show i<9223372036854775807 by omega)]
  cases A4k p l[i] v<;>rfl) (by
  simp only [PX,aY,decide_false,cond_false])
 simp only [cj] at key;unfold Lw;simp only;rw [key];unfold A5N;cases l.any fun y=>A4k p y v<;>rfl
def tm (a b:List Int):List Int:=a.filter fun x=>!b.contains x
theorem CA {a b:List Int} {x:Int}:x∈tm a b↔x∈a∧x∉b:=by
 unfold tm;simp
theorem B9P (a b:List Int):(tm a b).length≤a.length:=dU _ _
def tn (p:PrV) (r s:List Int):Bool:=!((tm r s).any fun x=>A5N p (tm s r) x)&&decide (0<(tm s r).length)
theorem D1W {p:PrV} {r s:List Int}:tn p r s=true↔Go.Hg.ImpP p r s:=by
 unfold tn Go.Hg.ImpP;rw [ik,ak];refine and_congr ?_ ?_
 · simp only [bj,db,← gq];constructor
   · intro h x hx hn;have h1:=h x (CA.2 ⟨hx,hn⟩);refine bz fun hc=>h1 (Go.Hg.qw.2 fun y hy=>?_)
     cases e:A4k p y x with
     | false=>rfl
     | true=>exact absurd ⟨y,(CA.1 hy).1,(CA.1 hy).2,e⟩ hc
   · intro h x hx hb;obtain ⟨y,h1,h2,h3⟩:=h x (CA.1 hx).1 (CA.1 hx).2;rw [Go.Hg.qw.1 hb y (CA.2 ⟨h1,h2⟩)] at h3;cases h3
 · rw [decide_eq_true_eq,List.length_pos_iff_exists_mem];exact ⟨fun ⟨y,hy⟩=>⟨y,(CA.1 hy).1,(CA.1 hy).2⟩,fun ⟨y,h1,h2⟩=>⟨y,CA.2 ⟨h1,h2⟩⟩⟩
theorem B2C {p:PrV} {r s:List Int} (hp:p.length≤1000000) (hr:r.length≤1000000) (hs:s.length≤1000000):HV (p,r,s)=some (tn p r s):=by
 have h1:=B9P r s;have h2:=B9P s r;have key:=th (f:=LR) (tm r s) (fun i=>(p,tm r s,tm s r,(i:Int))) (fun x=>A5N p (tm s r) x) (.inl false) (.inr (tm s r)) (fun i hi=>by
  have dP:(i:Int)<((tm r s).length:Int):=by omega
  simp only [LR,dP,decide_true,cond_true,aj,aq,af hi,ah,WH hp (show (tm s r).length≤1000000 by omega),gW (show i<9223372036854775807 by omega)]
  cases A5N p (tm s r) (tm r s)[i]<;>rfl) (by
  simp only [LR,aY,decide_false,cond_false])
 simp only [cj] at key;unfold HV;simp only [B6b hr hs,B6b hs hr,ah];show (dq LR (p,tm r s,tm s r,0)).bind _=_;rw [key];unfold tn;cases (tm r s).any fun x=>A5N p (tm s r) x
 · simp
 · simp
theorem C95:∀ {a b:List Int},a.length=b.length→((a.zip b).any fun x=>x.1 != x.2)=!decide (a=b)
 | [],[],_=>rfl
 | [],_::_,h=>by simp at h
 | _::_,[],h=>by simp at h
 | x::a,y::b,h=>by
   have:=C95 (a:=a) (b:=b) (by simpa using h)
   simp only [List.zip_cons_cons,ft,this];by_cases c:x=y
   · simp [c]
   · simp [c]
theorem C8k {a b:List Int} (ha:a.length≤1000000):HQ (a,b)=some (decide (a=b)):=by
 unfold HQ;simp only;by_cases hn:a.length=b.length
 · have qT:((a.length:Int) != (b.length:Int))=false:=by simp [hn]
   rw [qT,cond_false];have key:=th (f:=Lv) (a.zip b) (fun i=>(a,b,(i:Int))) (fun x=>x.1 != x.2) (.inl false) (.inr ()) (fun i hi=>by
    rw [List.length_zip] at hi;have Cy:i<a.length:=by omega
    have n9:i<b.length:=by omega
    have dP:(i:Int)<(a.length:Int):=by omega
    simp only [Lv,dP,decide_true,cond_true,aj,aq,af Cy,af n9,ah,gW (show i<9223372036854775807 by omega),List.getElem_zip]
    cases a[i] != b[i]<;>rfl) (by
    have:¬ (((a.zip b).length:Int)<(a.length:Int)):=by rw [List.length_zip];omega
    simp only [Lv,this,decide_false,cond_false])
   have key:dq Lv (a,b,0)=_:=key;rw [key];have e:=C95 hn;rw [e];cases decide (a=b)<;>rfl
 · have qT:((a.length:Int) != (b.length:Int))=true:=by
    rw [bne_iff_ne];omega
   rw [qT,cond_true]
   have:¬ a=b:=fun e=>hn (by rw [e])
   simp [this]
theorem C5A {v:List Int} {es:List (List Int)} {l:List Int} (ne:es.length≤1000000) (el:∀ e∈es,e.length≤1000000):PT ((v,es),l)=some (es.contains l):=by
 have key:=th (f:=PS) es (fun i=>((l,(i:Int)),v,es)) (fun e=>decide (e=l)) (.inl true) (.inr ()) (fun i hi=>by
  have dP:(i:Int)<(es.length:Int):=by omega
  simp only [PS,dP,decide_true,cond_true,aj,aq,af hi,ah,C8k (el _ (aJ hi)),gW (show i<9223372036854775807 by omega)]
  cases decide (es[i]=l)<;>rfl) (by
  simp only [PS,aY,decide_false,cond_false])
 simp only [cj] at key;unfold PT;simp only;rw [key];have e:(es.any fun e=>decide (e=l))=es.contains l:=by
  apply cn.2;rw [bD,b6];exact ⟨fun ⟨x,h1,h2⟩=>by rw [← of_decide_eq_true h2];exact h1,fun h=>⟨l,h,decide_eq_true rfl⟩⟩
 rw [e];cases es.contains l<;>rfl
section
variable {v:List Int} {es:List (List Int)} (ne:es.length≤1000000) (el:∀ e∈es,e.length≤1000000)
include ne el
theorem C96 (a b:Int):PY ((v,es),a,b)=some (nbB es a b):=by
 unfold PY nbB;have e1:(if b<a then b else a)=min a b:=by rw [Int.min_def];split<;>split<;>omega
 have e2:(if b>a then b else a)=max a b:=by rw [Int.max_def];split<;>split<;>omega
 simp only [e1,e2,C5A ne el,ah];by_cases c:a=b
 · simp [c]
 · have c':(a != b)=true:=by simpa using c
   simp [c',c]
end
section
variable {v:List Int} {es:List (List Int)} {p:PrV} {r:List Int} (ne:es.length≤1000000) (el:∀ e∈es,e.length≤1000000) (hp:p.length≤1000000) (hr:r.length≤1000000)
include ne el hp hr
end
section
variable {v:List Int} {es:List (List Int)} {p:PrV} (ne:es.length≤1000000) (el:∀ e∈es,e.length≤1000000) (hp:p.length≤1000000) (ha:Go.Hg.Acy p)
include ne el hp ha
end
end Go.Mid
namespace Go.Mid
open Go.Hg (asc A0y free A5L A0L before bef A6i A4j A4V)
theorem D5U (x y:Int):Ph (x,y)=some (if x<y then -1 else if x>y then 1 else 0):=by
 unfold Ph FT;simp only [ah,bne_self_eq_false,cond_false];by_cases h1:x<y
 · simp [h1]
 · by_cases h2:x>y
   · simp [h1,h2]
   · simp [h1,h2]
theorem C8l {a b:List Int} (ha:a.length≤1000000):∃ c:Int,Pj (a,b)=some c∧decide (c ≥ 0)=!before a b:=by
 have main:∀ (k i:Nat),a.length-i=k→i≤a.length→(∃ c:Int,dq yr (a,b,a,(a.length:Int),(i:Int))=some (.inl c)∧decide (c ≥ 0)=!(match bef (a.drop i) (b.drop i) with | some t=>t | none=>decide (a.length<b.length))) ∨
  (dq yr (a,b,a,(a.length:Int),(i:Int))=some (.inr (a,b))∧bef (a.drop i) (b.drop i)=none):=by
  intro k
  induction k with
  | zero =>
    intro i hk hi;obtain rfl:i=a.length:=by omega
    right;refine ⟨pV ?_,by rw [ff];rfl⟩
    simp only [yr,aY,decide_false,cond_false]
  | succ k ih =>
    intro i hk hi;have h1:i<a.length:=by omega
    have uh:(i:Int)<(a.length:Int):=by omega
    rw [b4 h1];by_cases h2:i<b.length
    · have rk:¬ (i:Int) ≥ (b.length:Int):=by omega
      rw [b4 h2];simp only [bef];by_cases c:a[i]=b[i]
      · have st:yr (a,b,a,(a.length:Int),(i:Int))=some (.inl (a,b,a,(a.length:Int),((i+1:Nat):Int))):=by
         simp only [yr,uh,rk,decide_true,decide_false,cond_true,cond_false,aj,aq,af h1,af h2,ah,gW (show i<9223372036854775807 by omega),D5U]
         simp [c]
        rw [uG st,if_pos c];exact ih (i+1) (by omega) (by omega)
      · left;have st:yr (a,b,a,(a.length:Int),(i:Int))=some (.inr (.inl (if a[i]<b[i] then -1 else 1))):=by
         simp only [yr,uh,rk,decide_true,decide_false,cond_true,cond_false,aj,aq,af h1,af h2,ah,D5U];by_cases d:a[i]<b[i]
         · simp [d]
         · have d2:a[i]>b[i]:=by omega
           simp [d,d2]
        refine ⟨_,pV st,?_⟩;rw [if_neg c];by_cases d:a[i]<b[i]<;>simp [d]
    · left;have rk:(i:Int) ≥ (b.length:Int):=by omega
      have e:b.drop i=[]:=List.drop_eq_nil_of_le (by omega)
      have st:yr (a,b,a,(a.length:Int),(i:Int))=some (.inr (.inl 1)):=by
       simp only [yr,uh,rk,decide_true,cond_true,aj,aq,af h1,ah]
      refine ⟨1,pV st,?_⟩;rw [e];simp only [bef]
      have:¬ a.length<b.length:=by omega
      simp [this]
 unfold Pj before;simp only;rcases main a.length 0 (by omega) (dt _) with ⟨c,h1,h2⟩ | ⟨h1,h2⟩
 · have h1:dq yr (a,b,a,(a.length:Int),0)=_:=h1;rw [h1];exact ⟨c,rfl,h2⟩
 · have h1:dq yr (a,b,a,(a.length:Int),0)=_:=h1;rw [h1];simp only [fx] at h2;rw [h2];by_cases d:a.length<b.length
   · refine ⟨-1,by simp [d],by simp [d]⟩
   · refine ⟨0,by simp [d],by simp [d]⟩
theorem B9Q {α:Type} (p:Nat→α→Bool):∀ (l:List α) (i:Nat),(pG p l i).isSome=(l.zipIdx i).any fun x=>p x.2 x.1
 | [],_=>rfl
 | x::r,i=>by
   simp only [pG,jB,ft];by_cases h:p i x=true
   · simp [h]
   · simp only [h,if_false,aF,eB];exact B9Q p r (i+1)
theorem L5 {A B α:Type} {f:A→Option (A ⊕ B)} (l:List α) (st:Nat→A) (p:Nat→α→Bool) (b e:B)
 (h1:∀ i (h:i<l.length),f (st i)=if p i l[i] then some (.inr b) else some (.inl (st (i+1)))) (h2:f (st l.length)=some (.inr e)) :
 dq f (st 0)=some (if (l.zipIdx.any fun x=>p x.2 x.1) then b else e):=by
 rw [Cw l st p (fun _=>b) e h1 h2,← B9Q p l 0]
 cases pG p l 0<;>rfl
section
variable {v:List Int} {es:List (List Int)} (nv:v.length≤1000000) (el:∀ e∈es,e.length≤1000000)
include nv el
theorem B0S:KQ (v,es)=some (A4V v es):=by
 unfold KQ A4V;simp only [Ww nv,ah];cases ha:asc v with
 | false=>rfl
 | true =>
   simp only [bJ,cond_false,cJ];by_cases hn:es.length≤20000
   · have qT:¬ (es.length:Int)>20000:=by omega
     simp only [hn,qT,decide_true,decide_false,cond_false,cJ];have k0:=L5 (f:=KN) es (fun i=>((es,(es.length:Int),(i:Int)),v,es)) (fun i e=>!A6i v es i e) (.inl false) (.inr (v,es)) (fun i hi=>by
      have dP:(i:Int)<(es.length:Int):=by omega
      have hle:=el _ (aJ hi);simp only [KN,dP,decide_true,cond_true,aj,aq,af hi,ah,Ww hle,Qj ha nv hle,gW (show i<9223372036854775807 by omega)]
      unfold A6i;by_cases h0:es[i]=[]
      · simp [h0]
      · have Bz:((es[i].length:Int)==0)=false:=by
         rw [beq_eq_false_iff_ne]
         have:=jP.2 h0
         omega
        have F1:es[i].isEmpty=false:=by cases hc:es[i] with | nil=>exact absurd hc h0 | cons _ _=>rfl
        rw [Bz,cond_false,F1];cases asc es[i] with
        | false=>rfl
        | true =>
          cases A0y es[i] v with
          | false=>rfl
          | true =>
            simp only [bJ,cond_false,eC,cJ];by_cases hz:i=0
            · subst hz;simp
            · have hp:(i:Int)>0:=by omega
              have AG:(i==0)=false:=by simpa using hz
              obtain ⟨c,h1,h2⟩:=C8l (a:=es[i-1]) (b:=es[i]) (el _ (aJ _));simp only [hp,decide_true,cond_true,wZ (show 1≤i by omega) (by omega),aj,aq,af (show i-1<es.length by omega),ah,h1,h2,AG,eB,
               bu,bG]
              cases before es[i-1] es[i]<;>simp) (by
      simp only [KN,aY,decide_false,cond_false])
     have k0:dq KN ((es,(es.length:Int),0),v,es)=_:=k0;rw [k0];cases hb:es.zipIdx.any fun x=>!A6i v es x.2 x.1 with
     | true=>rfl
     | false =>
       have kV:∀ i (h:i<es.length),A6i v es i es[i]=true:=by
        intro i hi
        have:=fH.1 hb (es[i],i) (Go.Hg.lp.2 ⟨hi,rfl⟩)
        simpa using this
       have qv:∀ i (h:i<es.length),asc es[i]=true:=by
        intro i hi
        have:=kV i hi
        unfold A6i at this;simp only [ak] at this;exact this.1.1.2
       have k2:∀ i (h:i<es.length),dq KO (((i:Int),es[i],es,(es.length:Int),(i:Int),es,(es.length:Int),0),v,es)=some (if A4j es i es[i] then .inl false else .inr ((es,(es.length:Int),(i:Int)),v,es)):=by
        intro i hi;have k:=L5 (f:=KO) es (fun k=>(((i:Int),es[i],es,(es.length:Int),(i:Int),es,(es.length:Int),(k:Int)),v,es)) (fun k y=>k != i&&A0y y es[i]) (.inl false) (.inr ((es,(es.length:Int),(i:Int)),v,es)) (fun k hk=>by
         have nu:(k:Int)<(es.length:Int):=by omega
         simp only [KO,nu,decide_true,cond_true,aj,aq,af hk,ah,Qj (qv i hi) (el _ (aJ hi)) (el _ (aJ hk)),gW (show k<9223372036854775807 by omega)]
         by_cases c:k=i
         · subst c;simp
         · have c':((i:Int) != (k:Int))=true:=by rw [bne_iff_ne];omega
           have c2:(k != i)=true:=by simpa using c
           rw [c',c2,cond_true];cases A0y es[k] es[i]<;>rfl) (by
         simp only [KO,aY,decide_false,cond_false])
        exact k
       have k1:=L5 (f:=KP) es (fun i=>((es,(es.length:Int),(i:Int)),v,es)) (fun i e=>A4j es i e) (.inl false) (.inr ()) (fun i hi=>by
        have dP:(i:Int)<(es.length:Int):=by omega
        simp only [KP,dP,decide_true,cond_true,aj,aq,af hi,ah,k2 i hi,gW (show i<9223372036854775807 by omega)]
        cases A4j es i es[i] with
        | true=>rfl
        | false=>simp [gW (show i<9223372036854775807 by omega)]) (by
        simp only [KP,aY,decide_false,cond_false])
       have k1:dq KP ((es,(es.length:Int),0),v,es)=_:=k1;simp only [if_false,aF,ah,Sum.elim_inr];rw [k1];cases es.zipIdx.any fun x=>A4j es x.2 x.1<;>rfl
   · have qT:(es.length:Int)>20000:=by omega
     simp [hn,qT]
theorem C0S:P1 (v,es)=some (A4V v es):=by
 unfold P1 A4V;simp only [Wz nv,ah];cases ha:asc v with
 | false=>rfl
 | true =>
   simp only [bJ,cond_false,cJ];by_cases hn:es.length≤20000
   · have qT:¬ (es.length:Int)>20000:=by omega
     simp only [hn,qT,decide_true,decide_false,cond_false,cJ];have k1:∀ i (h:i<es.length),dq HS (((i:Int),0),v,es)=some (if A4j es i es[i] then .inl false else .inr ((i:Int),v,es)):=by
      intro i hi;have k:=L5 (f:=HS) es (fun k=>(((i:Int),(k:Int)),v,es)) (fun k y=>k != i&&A0y y es[i]) (.inl false) (.inr ((i:Int),v,es)) (fun k hk=>by
       have nu:(k:Int)<(es.length:Int):=by omega
       simp only [HS,nu,decide_true,cond_true,aj,aq,af hk,af hi,ah,L3 (el _ (aJ hk)) (el _ (aJ hi)),gW (show k<9223372036854775807 by omega)]
       by_cases c:k=i
       · subst c;simp
       · have c':((k:Int) != (i:Int))=true:=by rw [bne_iff_ne];omega
         have c2:(k != i)=true:=by simpa using c
         rw [c',c2,cond_true];cases A0y es[k] es[i]<;>rfl) (by
       simp only [HS,aY,decide_false,cond_false])
      exact k
     have k0:=L5 (f:=LC) es (fun i=>((i:Int),v,es)) (fun i e=>!A6i v es i e || A4j es i e) (.inl false) (.inr ()) (fun i hi=>by
      have dP:(i:Int)<(es.length:Int):=by omega
      have hle:=el _ (aJ hi);simp only [LC,dP,decide_true,cond_true,aj,aq,af hi,ah,Wz hle,L3 hle nv,k1 i hi,gW (show i<9223372036854775807 by omega)]
      unfold A6i;by_cases h0:es[i]=[]
      · simp [h0]
      · have Bz:((es[i].length:Int)==0)=false:=by
         rw [beq_eq_false_iff_ne]
         have:=jP.2 h0
         omega
        have F1:es[i].isEmpty=false:=by cases hc:es[i] with | nil=>exact absurd hc h0 | cons _ _=>rfl
        rw [Bz,cond_false,F1];cases asc es[i] with
        | false=>rfl
        | true =>
          cases A0y es[i] v with
          | false=>rfl
          | true =>
            simp only [bJ,cond_false,eC,cJ];by_cases hz:i=0
            · subst hz;cases A4j es 0 es[0]<;>simp [gW (show 0<9223372036854775807 by omega)]
            · have hp:(i:Int)>0:=by omega
              have AG:(i==0)=false:=by simpa using hz
              simp only [hp,decide_true,cond_true,wZ (show 1≤i by omega) (by omega),aj,aq,af (show i-1<es.length by omega),ah,WB (el _ (aJ (show i-1<es.length by omega))),AG,eB,
               bu,bG]
              cases before es[i-1] es[i] with
              | false=>rfl
              | true=>cases A4j es i es[i]<;>simp [gW (show i<9223372036854775807 by omega)]) (by
      simp only [LC,aY,decide_false,cond_false])
     have k0:dq LC (0,v,es)=_:=k0;rw [k0];have e:(es.zipIdx.any fun x=>!A6i v es x.2 x.1 || A4j es x.2 x.1)=((es.zipIdx.any fun x=>!A6i v es x.2 x.1) || (es.zipIdx.any fun x=>A4j es x.2 x.1)):=by
      generalize es.zipIdx=L
      induction L with
      | nil=>rfl
      | cons x r ih =>
        simp only [ft,ih];cases A6i v es x.2 x.1<;>cases A4j es x.2 x.1<;>simp
     rw [e];cases es.zipIdx.any fun x=>!A6i v es x.2 x.1<;>cases es.zipIdx.any fun x=>A4j es x.2 x.1<;>rfl
   · have qT:(es.length:Int)>20000:=by omega
     simp [hn,qT]
end
end Go.Mid
namespace Go.Mid
open Go.Hg (asc A0y A0L A2O less A0z bitsFrom A0o idsP A6g A3l A3E later B4E allS A5M A4V HOk)
def gf (l:List Nat):List Int:=l.map fun (n:Nat)=>(n:Int)
@[simp] theorem vX (l:List Nat):(gf l).length=l.length:=by simp [gf]
theorem Bk {l:List Nat} {i:Nat} (h:i<l.length):(gf l)[i]?=some ((l[i]:Nat):Int):=by
 unfold gf;rw [List.getElem?_map,af h];rfl
theorem WI (a b:List Nat):gf (a++b)=gf a++gf b:=by simp [gf]
theorem B7p {α:Type} (q:α→Bool):∀ (l:List α) (i:Nat),pG (fun _ x=>q x) l i=Go.Hg.idx q l i
 | [],_=>rfl
 | x::r,i=>by
   simp only [pG,Go.Hg.idx,B7p q r]
theorem D1X {v:List Int} (nv:v.length≤1000000) {z:Int} (hz:z∈v):Pl (v,z)=some ((A0o v z:Nat):Int):=by
 have key:=Cw (f:=KR) v (fun i=>(v,z,(v.length:Int),(i:Int))) (fun _ x=>x==z) (fun i=>.inl (i:Int)) (.inr ()) (fun i hi=>by
  have dP:(i:Int)<(v.length:Int):=by omega
  simp only [KR,dP,decide_true,cond_true,aj,aq,af hi,ah,gW (show i<9223372036854775807 by omega)]
  rw [Bool.beq_comm];cases v[i]==z<;>rfl) (by
  simp only [KR,aY,decide_false,cond_false])
 have key:dq KR (v,z,(v.length:Int),0)=_:=key;unfold Pl;simp only;rw [key];have h2:=Go.Hg.nD (· == z) v 0;have h3:v.any (· == z)=true:=b6.2 ⟨z,hz,by simp⟩
 rw [h3] at h2;rw [B7p (fun x=>x==z)]
 unfold A0o;cases hk:Go.Hg.idx (fun x=>x==z) v 0 with
 | none=>rw [hk] at h2;cases h2
 | some k=>rfl
theorem L6 {v e:List Int} (he:∀ y∈e,y∈v):A0z v e<2 ^ v.length:=Go.Hg.nC fun i hi=>Go.Hg.qF he i hi
theorem tN {m n:Nat} (h:m<2 ^ n) (hn:n≤40):m<2 ^ aK.bits:=br h (cN (by decide) (show n≤64 by omega))
theorem Qm {i:Nat} (hi:i≤40):nW .u64 1 (i:Int)=((1 <<< i:Nat):Int):=Wv (k:=.u64) rfl (m:=1) (show i≤64 by omega) (vh (show i<64 by omega))
theorem C97 {v:List Int} (nv:v.length≤40) {e:List Int} (he:∀ y∈e,y∈v) (hl:e.length≤1000000) (Dz:List (List Int)) (q1 q2:Int) (es:List (List Int)) (X:Int×(List Int×Nat)×PUnit) (Y:Int×List Int×Nat) (Z:List Int×Nat) (m:Int) :
 dq KS ((0,Dz,q1,q2,e,(e.length:Int),0),(v,es),X,Y,Z,m)=some ((((A0z v e:Nat):Int),Dz,q1,q2),(v,es),X,Y,Z,m):=by
 have key:=qE (f:=KS) e.length (fun i=>((((A0z v (e.take i):Nat):Int),Dz,q1,q2,e,(e.length:Int),(i:Int)),(v,es),X,Y,Z,m)) ((((A0z v e:Nat):Int),Dz,q1,q2),(v,es),X,Y,Z,m) (fun i hi=>by
  have dP:(i:Int)<(e.length:Int):=by omega
  have hm:=he _ (aJ hi);have hp:=Go.Hg.iO hm;have hb:=tN (L6 (v:=v) (e:=e.take i) fun y hy=>he y (c8 hy)) nv
  have e1:A0z v (e.take (i+1))=A0z v (e.take i) ||| 1 <<< A0o v e[i]:=by
   unfold A0z bitsFrom;rw [sM hi,fK];rfl
  have e2:=Cz (k:=.u64) rfl hb (vh (show A0o v e[i]<64 by omega))
  simp only [KS,dP,decide_true,cond_true,aj,aq,af hi,ah,D1X (show v.length≤1000000 by omega) hm,Qm (show A0o v e[i]≤40 by omega),e1,e2,
   gW (show i<9223372036854775807 by omega)]) (by
  simp only [KS,aY,decide_false,cond_false,mX])
 exact key
theorem C4J {v:List Int} {es:List (List Int)} (nv:v.length≤40) (ne:es.length≤1000000) (el:∀ e∈es,e.length≤1000000) (fR:∀ e∈es,∀ y∈e,y∈v) (o:List Int) (k:Nat) (m:Int) :
 Pm ((v,es),(o,k),m)=some (((v.length:Int),gf (es.map (A0z v))),(o,k),m):=by
 have key:=qE (f:=KT) es.length (fun i=>((es,(es.length:Int),(i:Int)),(v,es),((0:Int),(([]:List Int),0),()),((v.length:Int),gf ((es.take i).map (A0z v)),i),(o,k),m))
  (((0:Int),(([]:List Int),0),()),((v.length:Int),gf (es.map (A0z v)),es.length),(o,k),m) (fun i hi=>by
  have dP:(i:Int)<(es.length:Int):=by omega
  have hl:(gf ((es.take i).map (A0z v))).length=i:=by simp;omega
  have FQ:(gf ((es.take i).map (A0z v))++[((A0z v es[i]:Nat):Int)]).length=i+1:=by rw [aQ,hl];rfl
  have e1:gf ((es.take (i+1)).map (A0z v))=gf ((es.take i).map (A0z v))++[((A0z v es[i]:Nat):Int)]:=by
   rw [sM hi,b8,WI];rfl
  simp only [KT,dP,decide_true,cond_true,aj,aq,af hi,ah,C97 nv (fR _ (aJ hi)) (el _ (aJ hi)),beq_self_eq_true,hl,
   iy (au _),iy (show (i+1)*8≤140737488355328 by omega),aZ (eG hl),FQ,gW (show i<9223372036854775807 by omega),e1]) (by
  simp only [KT,aY,decide_false,cond_false,mX])
 unfold Pm;have key:dq KT ((es,(es.length:Int),0),(v,es),(0,([],0),()),((v.length:Int),[],0),(o,k),m)=_:=key;simp only;rw [key];have hl:(gf (es.map (A0z v))).length=es.length:=by simp
 simp only [ah,hl,iy (au _),cond_true,aZ (eG hl)]
theorem C15 (a b:Nat):((less a b:Nat)==0)=A2O a b:=by
 apply cn.2;rw [beq_iff_eq,Go.Hg.gL];constructor
 · intro h i hi;have h1:=Go.Hg.iN a b i;rw [h,dT,hi] at h1;simpa using h1
 · intro h;apply dH;intro i;rw [Go.Hg.iN,dT];cases ha:a.testBit i with
   | false=>rfl
   | true=>rw [h i ha];rfl
theorem WJ (n:Nat):(((n:Nat):Int)==0)=(n==0):=by
 cases n with
 | zero=>rfl
 | succ n=>rfl
theorem C5B {n e u fR xJ:Nat} (hn:n≤40) (he:e<2 ^ n) (hu:u<n) (hi:fR<2 ^ n) (hl:xJ<2 ^ n):Pn ((e:Int),(u:Int),(fR:Int),(xJ:Int))=some (e.testBit u&&A2O (less e (1 <<< u)) (fR ||| xJ)):=by
 unfold Pn;simp only [aj,decide_true,cond_true,L2 (k:=.u64) rfl (show u≤64 by omega) (by decide) (tN he hn),Qm (show u≤40 by omega),
  H0 (k:=.u64) rfl (tN he hn) (vh (show u<64 by omega)),Cz (k:=.u64) rfl (tN hi hn) (tN hl hn),H0 (k:=.u64) rfl (Qi (tN he hn)) (eT (tN hi hn) (tN hl hn)),WJ,C15]
 cases e.testBit u<;>rfl
theorem C8m {n:Nat} {E:List Nat} (hn:n≤40) (hE:∀ e∈E,e<2 ^ n) (nE:E.length≤1000000) {u fR xJ:Nat} (hu:u<n) (hi:fR<2 ^ n) (hl:xJ<2 ^ n) (a:Int) (o:List Int) (m:Int) :
 Po ((a,gf E,o,m),(u:Int),(fR:Int),(xJ:Int))=some (A3l E u (fR ||| xJ)):=by
 have key:=Cw (f:=KU) E (fun i=>(gf E,((u:Int),(fR:Int),(xJ:Int)),(E.length:Int),(i:Int))) (fun _ e=>e.testBit u&&A2O (less e (1 <<< u)) (fR ||| xJ)) (fun i=>.inl (i:Int)) (.inr ()) (fun i dP=>by
  have h':(i:Int)<(E.length:Int):=by omega
  simp only [KU,h',decide_true,cond_true,aj,aq,Bk dP,ah,C5B hn (hE _ (aJ dP)) hu hi hl,gW (show i<9223372036854775807 by omega)]
  cases E[i].testBit u&&A2O (less E[i] (1 <<< u)) (fR ||| xJ)<;>rfl) (by
  simp only [KU,aY,decide_false,cond_false])
 have key:dq KU (gf E,((u:Int),(fR:Int),(xJ:Int)),(E.length:Int),0)=_:=key;unfold Po Vw Vv;simp only [vX];rw [key];have ha:=Ht (fun e=>e.testBit u&&A2O (less e (1 <<< u)) (fR ||| xJ)) E 0
 unfold A3l;rw [← ha];cases pG (fun _ e=>e.testBit u&&A2O (less e (1 <<< u)) (fR ||| xJ)) E 0<;>simp
theorem D3V {n:Nat} {E:List Nat} (hn:n≤40) (hE:∀ e∈E,e<2 ^ n) (nE:E.length≤1000000) {s:Nat} (hs:s<2 ^ n) :
 Pp (gf E,(s:Int))=some (A3E E s):=by
 have key:=Cw (f:=KV) E (fun i=>(gf E,(s:Int),(E.length:Int),(i:Int))) (fun _ e=>A2O e s) (fun i=>.inl (i:Int)) (.inr ()) (fun i dP=>by
  have h':(i:Int)<(E.length:Int):=by omega
  simp only [KV,Vy,h',decide_true,cond_true,aj,aq,Bk dP,ah,H0 (k:=.u64) rfl (tN (hE _ (aJ dP)) hn) (tN hs hn),WJ,C15,
   gW (show i<9223372036854775807 by omega)]
  cases A2O E[i] s<;>rfl) (by
  simp only [KV,aY,decide_false,cond_false])
 have key:dq KV (gf E,(s:Int),(E.length:Int),0)=_:=key;unfold Pp Vz;simp only [vX];rw [key];have ha:=Ht (fun e=>A2O e s) E 0
 unfold A3E;rw [← ha];cases pG (fun _ e=>A2O e s) E 0<;>simp
theorem D1Y {k v n:Nat} (h:v+k=n):later k v<2 ^ n:=jH _ fun i hi=>by
 rw [Go.Hg.qt];simp;omega
theorem C4K {n k v:Nat} (hn:n≤40) (h:v+k=n):o5 .u64 (nW .u64 18446744073709551615 (v:Int)) (aK.wrap (nW .u64 1 (n:Int)-1))=((later k v:Nat):Int):=by
 have w64:∀ m:Nat,aK.wrap (m:Int)=((m%2 ^ 64:Nat):Int):=fun m=>by
  simp only [gE,fT,eQ];simp
 have e1:nW .u64 18446744073709551615 (v:Int)=((((2 ^ 64-1) <<< v)%2 ^ 64:Nat):Int):=by
  unfold nW;have e:min ((v:Int).toNat) aK.bits=v:=by rw [aq];show min v 64=v;omega
  rw [e,← w64,nk];congr 1
 have hp:0<2 ^ n:=gA n;have e2:aK.wrap (nW .u64 1 (n:Int)-1)=((2 ^ n-1:Nat):Int):=by
  rw [Qm (by omega),eS]
  have:(((2 ^ n:Nat):Int)-1)=((2 ^ n-1:Nat):Int):=by omega
  rw [this];exact DN (k:=.u64) rfl (tN (show 2 ^ n-1<2 ^ n by omega) hn)
 rw [e1,e2,L1 (k:=.u64) (m:=((2 ^ 64-1) <<< v)%2 ^ 64) rfl (Nat.mod_lt _ (by decide)) (tN (show 2 ^ n-1<2 ^ n by omega) hn)]
 congr 1;apply dH;intro i;rw [eV,Go.Hg.qt,Nat.testBit_mod_two_pow,Nat.testBit_shiftLeft,dV,dV];by_cases h1:i<n
 · have h2:i<64:=by omega
   have h3:i-v<64:=by omega
   have h4:i<v+k:=by omega
   simp [h1,h2,h3,h4]
 · have h4:¬ i<v+k:=by omega
   simp [h1,h4]
theorem B7q {α β:Type} (g:α→β) (l:List α):(l.flatMap fun s=>[g s])=l.map g:=by
 induction l with
 | nil=>rfl
 | cons x r ih=>rw [jb,ih];rfl
theorem L7 (E:List Nat):∀ k v fR out,(A6g E k v fR out).length≤2 ^ k
 | 0,v,fR,out=>by unfold A6g;split<;>simp
 | k+1,v,fR,out=>by
   unfold A6g;split
   · simp
   · rw [aQ,kJ];have h1:=L7 E k (v+1) (fR ||| 1 <<< v) out;have h2:=L7 E k (v+1) fR (out ||| 1 <<< v);split
     · simp;omega
     · omega
section
variable {n:Nat} {E:List Nat} (hn:n≤40) (hE:∀ e∈E,e<2 ^ n) (nE:E.length≤1000000)
include hn hE nE
theorem C6E {k v fR out:Nat} (hv:v+k=n) (hi:fR<2 ^ n) (ho:out<2 ^ n) (o:List Int) (l:Nat) (m:Int) :
 dq KW (((v:Int),(fR:Int),(out:Int),((later k v:Nat):Int),(v:Int),0),((n:Int),gf E),(o,l),m) =
  some (if B4E E k v fR out then .inl (true,(o,l),m) else .inr (((v:Int),(fR:Int),(out:Int)),((n:Int),gf E),(o,l),m)):=by
 have key:=th (f:=KW) (bp v) (fun u=>(((v:Int),(fR:Int),(out:Int),((later k v:Nat):Int),(v:Int),(u:Int)),((n:Int),gf E),(o,l),m)) (fun u=>out.testBit u && !A3l E u (fR ||| later k v))
  (.inl (true,(o,l),m)) (.inr (((v:Int),(fR:Int),(out:Int)),((n:Int),gf E),(o,l),m)) (fun u hu=>by
  rw [gG] at hu;have nr:(u:Int)<(v:Int):=by omega
  rw [List.getElem_range];simp only [KW,nr,decide_true,cond_true,aj,L2 (k:=.u64) rfl (show u≤64 by omega) (by decide) (tN ho hn),C8m hn hE nE (show u<n by omega) hi (D1Y hv),ah,gW (show u<9223372036854775807 by omega)]
  cases out.testBit u<;>cases A3l E u (fR ||| later k v)<;>rfl) (by
  rw [gG];simp only [KW,aY,decide_false,cond_false])
 exact key
theorem Qn {m:Nat} (hm:m≤1000000):∀ (k v fR out f:Nat) (o:List Int),v+k=n→fR<2 ^ n→out<2 ^ n→k<f→o.length+(A6g E k v fR out).length≤m →
 Hy f ((((n:Int),gf E),(v:Int),(fR:Int),(out:Int)),(o,o.length),(m:Int))=some (true,(o++gf (A6g E k v fR out),(o++gf (A6g E k v fR out)).length),(m:Int))
 | k,v,fR,out,0,o,hv,hi,ho,hf,hl=>by omega
 | 0,v,fR,out,f+1,o,hv,hi,ho,hf,hl=>by
   show KX _ _=_;unfold KX;simp only [aj,decide_true,cond_true,C4K hn hv,C6E hn hE nE hv hi ho,ah];unfold A6g at hl ⊢;cases hc:B4E E 0 v fR out with
   | true=>simp [gf]
   | false =>
     have WK:v=n:=by omega
     rw [hc] at hl;simp only [if_false,aF,dz] at hl;have FQ:(o++[(fR:Int)]).length=o.length+1:=by simp
     have hle:(((o.length+1:Nat):Int)≤(m:Int)):=by omega
     subst WK;simp only [if_false,aF,Sum.elim_inr,beq_self_eq_true,cond_true,Vx,iy (au _),iy (show (o.length+1)*8≤140737488355328 by omega),mX,FQ,hle,decide_true,ah,gf,aG,cr]
 | k+1,v,fR,out,f+1,o,hv,hi,ho,hf,hl=>by
   show KX (Hy f) _=_;unfold KX;simp only [aj,decide_true,cond_true,C4K hn hv,C6E hn hE nE hv hi ho,ah];unfold A6g at hl ⊢;cases hc:B4E E (k+1) v fR out with
   | true=>simp [gf]
   | false =>
     rw [hc] at hl;simp only [if_false,aF] at hl ⊢;have hb:1 <<< v<2 ^ n:=vh (by omega)
     have oR:fR ||| 1 <<< v<2 ^ n:=eT hi hb;have ho2:out ||| 1 <<< v<2 ^ n:=eT ho hb;have WK:((v:Int)==(n:Int))=false:=by rw [beq_eq_false_iff_ne];omega
     simp only [Sum.elim_inr,WK,cond_false,Qm (show v≤40 by omega),Cz (k:=.u64) rfl (tN hi hn) (tN hb hn),Cz (k:=.u64) rfl (tN ho hn) (tN hb hn),D3V hn hE nE oR,ah,gW (show v<9223372036854775807 by omega)]
     cases he:A3E E (fR ||| 1 <<< v) with
     | true =>
       rw [he] at hl;simp only [if_true,a7] at hl;simp only [bJ,cond_false,if_true,a7,aj,decide_true,cond_true,Qn hm k (v+1) fR (out ||| 1 <<< v) f o (by omega) hi ho2 (by omega) hl,ah]
     | false =>
       rw [he] at hl;simp only [if_false,aF,aQ] at hl;have h1:=Qn hm k (v+1) (fR ||| 1 <<< v) out f o (by omega) oR ho (by omega) (by omega)
       have h2:=Qn hm k (v+1) fR (out ||| 1 <<< v) f (o++gf (A6g E k (v+1) (fR ||| 1 <<< v) out)) (by omega) hi ho2 (by omega) (by rw [aQ,vX];omega)
       simp only [eC,aj,decide_true,cond_true,h1,ah,bJ,cond_false,h2,if_false,aF,WI,bf]
end
section
variable {v:List Int} {es:List (List Int)} (H:HOk v es) (el:∀ e∈es,e.length≤1000000)
include H el
theorem D3W (n17:v.length≤14):Pr ((v,es),20000)=some (gf (allS v es),true):=by
 have nE:(es.map (A0z v)).length≤1000000:=by rw [aD];have:=H.ne;omega
 have hE:∀ e∈es.map (A0z v),e<2 ^ v.length:=by
  intro e he;obtain ⟨x,hx,rfl⟩:=bh.1 he;exact L6 (H.fR x hx)
 have hlen:(A6g (es.map (A0z v)) v.length 0 0 0).length≤20000:=by
  have h1:=L7 (es.map (A0z v)) v.length 0 0 0;have h2:2 ^ v.length≤2 ^ 14:=cN (by decide) n17
  have h3:2 ^ 14=16384:=by decide
  omega
 have hw:Pq ((((v.length:Int),gf (es.map (A0z v))),0,0,0),([],0),20000)=some (true,(gf (allS v es),(gf (allS v es)).length),20000):=by
  unfold Pq;refine C6p (v.length+1) fun f hf=>?_
  exact Qn (m:=20000) H.nv hE nE (by decide) v.length 0 0 0 f [] (by omega) (gA _) (gA _) (by omega) (by simpa using hlen)
 unfold Pr;have ev:=H.ne;simp only [C4J H.nv (show es.length≤1000000 by omega) el H.fR,ah,hw,iy (au _),cond_true,mX]
omit el in
theorem D5V {s:Nat} (hs:s<2 ^ v.length):Ps ((v,es),(s:Int))=some (idsP v s):=by
 have hv:=H.nv;have key:=qE (f:=KY) v.length (fun i=>(((s:Int),(idsP (v.take i) s).length,v,(v.length:Int),(i:Int)),idsP (v.take i) s)) ((idsP v s).length,idsP v s) (fun i hi=>by
  have dP:(i:Int)<(v.length:Int):=by omega
  have hl:=L4 (v.take i) s;rw [aX] at hl;simp only [KY,dP,decide_true,cond_true,aj,aq,L2 (k:=.u64) rfl (show i≤64 by omega) (by decide) (tN hs hv),af hi,ah,gW (show i<9223372036854775807 by omega),WC hi,
   iy (au _),iy (show ((idsP (v.take i) s).length+1)*8≤140737488355328 by omega),mX]
  cases s.testBit i<;>simp) (by
  simp only [KY,aY,decide_false,cond_false,mX])
 have key:dq KY (((s:Int),0,v,(v.length:Int),0),[])=_:=key;unfold Ps;simp only;rw [key];simp only [ah,iy (au _),cond_true,mX]
end
end Go.Mid
namespace Go.Mid
open Go.Hg (asc A0y A5L A0L before A3P idsP pick A7D A1e hEs A8y A4w A5e A6h PrV nbB A4k)
theorem C98 {s:Nat} (h:s<4294967296):cM.wrap (s:Int)=(s:Int):=DN (k:=.u32) rfl h
theorem C8n {s i:Nat} (hs:s<4294967296) (hi:i<32):Pt ((s:Int),(i:Int))=some (s.testBit i):=by
 unfold Pt;have h1:((i:Int) ≥ 0):=by omega
 have h2:((i:Int)<32):=by omega
 simp only [h1,h2,decide_true,cond_true,aj,L2 (k:=.u32) rfl (show i≤32 by omega) (by decide) (show s<2 ^ cM.bits from hs)]
 cases s.testBit i<;>rfl
theorem C5C {v:List Int} {es:List (List Int)} (nv:v.length≤20) {s:Nat} (hs:s<4294967296):Pu ((v,es),(s:Int))=some (pick v s):=by
 have WL:pick v s=idsP (v.take 8) s:=rfl;have WM:idsP (v.take (min v.length 8)) s=idsP (v.take 8) s:=by
  by_cases h:v.length≤8
  · rw [da h,dS,aZ h]
  · rw [jC (by omega)]
 have key:=qE (f:=Hz) (min v.length 8) (fun i=>(((s:Int),(idsP (v.take i) s).length,(i:Int)),(v,es),idsP (v.take i) s)) ((idsP (v.take 8) s).length,idsP (v.take 8) s) (fun i hi=>by
  have yW:i<v.length:=by omega
  have dP:(i:Int)<(v.length:Int):=by omega
  have hi8:(i:Int)<8:=by omega
  have hl:=L4 (v.take i) s;rw [aX] at hl;simp only [Hz,dP,hi8,decide_true,cond_true,aj,aq,C98 hs,C8n hs (show i<32 by omega),af yW,ah,gW (show i<9223372036854775807 by omega),WC yW,
   iy (au _),iy (show ((idsP (v.take i) s).length+1)*8≤140737488355328 by omega),mX]
  cases s.testBit i<;>simp) (by
  rw [WM];by_cases h:v.length≤8
  · have h':¬ ((min v.length 8:Nat):Int)<(v.length:Int):=by omega
    simp only [Hz,h',decide_false,cond_false]
  · have h1:((min v.length 8:Nat):Int)<(v.length:Int):=by omega
    have h2:¬ ((min v.length 8:Nat):Int)<8:=by omega
    simp only [Hz,h1,h2,decide_true,decide_false,cond_true,cond_false])
 have key:dq Hz (((s:Int),0,0),(v,es),[])=_:=key;unfold Pu;simp only;rw [key,WL];simp only [ah,iy (au _),cond_true,mX]
theorem WN {α:Type} {l:List α} {i:Nat} (h:i<l.length):(l.take (i+1)).zipIdx=(l.take i).zipIdx++[(l[i],i)]:=by
 rw [sM h,List.zipIdx_append];simp [da (fU h)]
theorem B3B (ls:List (List Int)):∀ (l:List (List Int)) (i:Nat) (out:List (List Int)),A5e ls l i out=(l.zipIdx i).foldl (fun out x=>A4w ls x.2 x.1 out) out
 | [],_,_=>rfl
 | x::r,i,out=>by
   simp only [A5e,jB,iQ,B3B ls r]
section
variable {ls:List (List Int)} (nl:ls.length≤1000) (el:∀ e∈ls,e.length≤100000)
def oT (ls:List (List Int)) (i:Nat):List (List Int):=(ls.take i).zipIdx.foldl (fun out x=>A4w ls x.2 x.1 out) []
theorem C16 {i:Nat} (h:i<ls.length):oT ls (i+1)=A4w ls i ls[i] (oT ls i):=by
 unfold oT;rw [WN h,fK];rfl
include el in
theorem C4L:∀ i,i≤ls.length→(oT ls i).length≤i∧∀ x∈oT ls i,x.length≤100000
 | 0,_=>⟨au _,fun x hx=>by simp [oT] at hx⟩
 | i+1,h=>by
   obtain ⟨h1,h2⟩:=C4L i (by omega)
   rw [C16 (by omega)]
   unfold A4w;split
   · refine ⟨by rw [Ql];simp;omega,fun x hx=>?_⟩
     rcases ay.1 (WD _ _ x hx) with h | h
     · exact h2 x h
     · simp only [aW] at h;subst h;exact el _ (aJ _)
   · exact ⟨by omega,h2⟩
include nl el in
theorem C4M:K6 ls=some (A6h ls):=by
 have l1:∀ (i n:Nat) (out:List (List Int)) (h:i<ls.length),dq K4 ((ls,n,(i:Int),true,0),out)=some ((ls,n,(i:Int),A8y ls i ls[i]),out):=by
  intro i n out hi;have key:=qE (f:=K4) ls.length (fun k=>((ls,n,(i:Int),(ls.take k).zipIdx.all (fun y=>!(A0y y.1 ls[i]&&(decide (y.1.length<ls[i].length) || decide (y.2<i)))),(k:Int)),out)) ((ls,n,(i:Int),A8y ls i ls[i]),out) (fun k hk=>by
   have nu:(k:Int)<(ls.length:Int):=by omega
   have e1:=el _ (aJ hk);have e2:=el _ (aJ hi);simp only [K4,nu,decide_true,cond_true,aj,aq,af hk,af hi,ah,L3 (show ls[k].length≤1000000 by omega) (show ls[i].length≤1000000 by omega),gW (show k<9223372036854775807 by omega),WN hk,List.all_append,
    List.all_cons,List.all_nil,Bool.and_true]
   cases A0y ls[k] ls[i] with
   | false=>simp
   | true =>
     by_cases c1:ls[k].length<ls[i].length
     · have Qo:((ls[k].length:Int)<(ls[i].length:Int)):=by omega
       simp [c1,Qo]
     · have Qo:¬ ((ls[k].length:Int)<(ls[i].length:Int)):=by omega
       by_cases c2:k<i
       · have CB:((k:Int)<(i:Int)):=by omega
         simp [c1,Qo,c2,CB]
       · have CB:¬ ((k:Int)<(i:Int)):=by omega
         simp [c1,Qo,c2,CB]) (by
   simp only [K4,aY,decide_false,cond_false,mX];rfl)
  exact key
 have key:=qE (f:=K5) ls.length (fun i=>((ls,(oT ls i).length,(i:Int)),oT ls i)) ((oT ls ls.length).length,oT ls ls.length) (fun i hi=>by
  have dP:(i:Int)<(ls.length:Int):=by omega
  obtain ⟨h1,h2⟩:=C4L el i (fU hi);have e2:=el _ (aJ hi);simp only [K5,dP,decide_true,cond_true,l1 i _ _ hi,ah,C16 hi];unfold A4w;cases A8y ls i ls[i] with
  | false=>simp [gW (show i<9223372036854775807 by omega)]
  | true =>
    have Ad:(oT ls i++[ls[i]]).length=(oT ls i).length+1:=by simp
    have hw:ai.wrap ((((oT ls i).length+1:Nat):Int)-1)=((oT ls i).length:Int):=by
     rw [wZ (by omega) (by omega)];rfl
    have sk:dq Px ((ls,(oT ls i).length+1,(i:Int),((oT ls i).length:Int)),oT ls i++[ls[i]])=some ((ls,(oT ls i).length+1,(i:Int)),A3P (oT ls i).length (oT ls i++[ls[i]])):=by
     refine B9O (fun k o=>((ls,(oT ls i).length+1,(i:Int),(k:Int)),o)) (fun o=>((ls,(oT ls i).length+1,(i:Int)),o)) ((oT ls i).length+1) (fun k out hn hx h=>?_) (fun out=>?_) (oT ls i).length (oT ls i++[ls[i]]) (by rw [Ad];omega) Ad (fun x hx=>?_)
     · have CX:((k+1:Nat):Int)>0:=by omega
       have e1:k+1<(oT ls i).length+1:=by omega
       have e2:k<(oT ls i).length+1:=by omega
       have e3:k<out.length:=by omega
       simp only [Px,CX,decide_true,cond_true,aj,aq,ln e1,ln e2,af h,af e3,ah,wZ (show 1≤k+1 by omega) (by omega),dK,
        WB (hx _ (aJ h))]
       have e4:(out.set (k+1) out[k])[k]?=some out[k]:=by rw [eK (by omega),af e3]
       rw [e4];cases before out[k+1] out[k]<;>simp
     · simp [Px]
     · rcases ay.1 hx with h | h
       · have:=h2 x h;omega
       · simp only [aW] at h;subst h;omega
    have tK:(A3P (oT ls i).length (oT ls i++[ls[i]])).length=(oT ls i).length+1:=by rw [Ql,Ad]
    simp only [bJ,cond_false,aj,decide_true,cond_true,if_true,aq,af hi,ah,bS,gP,a7,dS,iy (au _),iy (show ls[i].length*8≤140737488355328 by omega),
     iy (show ((oT ls i).length+1)*24≤140737488355328 by omega),mX,hw,sk,gW (show i<9223372036854775807 by omega),tK]) (by
  simp only [K5,aY,decide_false,cond_false])
 have key:dq K5 ((ls,0,0),[])=_:=key;unfold K6;rw [key];have e:oT ls ls.length=A6h ls:=by
  unfold oT A6h;rw [B3B,mX]
 simp only [ah,iy (au _),cond_true,mX,e]
end
theorem D6N (N:Nat):ai.wrap ((N:Int).tmod 9)=((N%9:Nat):Int):=by
 have e:(N:Int).tmod 9=((N%9:Nat):Int):=(oB N 9).symm;rw [e];exact Ky (by omega)
theorem D5W (N:Nat) (E:List Int) (n:Nat) (hn:n≤9):dq K7 (((n:Int),0),((N:Int),E),(([],0),[],0),([],0),[],0)=some (((N:Int),E),(([],0),[],0),(A1e n,n),[],0):=by
 have key:=qE (f:=K7) n (fun i=>(((n:Int),(i:Int)),((N:Int),E),(([],0),[],0),(A1e i,i),[],0)) (((N:Int),E),(([],0),[],0),(A1e n,n),[],0) (fun i hi=>by
  have dP:(i:Int)<(n:Int):=by omega
  have hl:(A1e i).length=i:=Go.Hg.lW i;have e1:ai.wrap (2+ai.wrap (3*(i:Int)))=2+3*(i:Int):=by
   rw [wrap_i64 (x:=3*(i:Int)) (by omega) (by omega),wrap_i64 (by omega) (by omega)]
  have FQ:(A1e i++[2+3*(i:Int)]).length=i+1:=by simp
  simp only [K7,dP,decide_true,cond_true,beq_self_eq_true,hl,iy (au _),iy (show (i+1)*8≤140737488355328 by omega),e1,aZ (eG hl),FQ,gW (show i<9223372036854775807 by omega),Go.Hg.vW]) (by
  simp only [K7,aY,decide_false,cond_false])
 exact key
def Bl (V:List Int) (E:List Nat) (i:Nat):List (List Int):=((E.take i).map (pick V)).filter fun e=>!e.isEmpty
theorem C4N (V:List Int) {E:List Nat} {i:Nat} (h:i<E.length):Bl V E (i+1)=Bl V E i++if (pick V E[i]).isEmpty then [] else [pick V E[i]]:=by
 unfold Bl;rw [sM h,b8,eJ];congr 1;simp only [aG,cr,jD,List.filter_nil];cases (pick V E[i]).isEmpty<;>rfl
theorem C5D (V:List Int) (E:List Nat) (i:Nat):(Bl V E i).length≤i:=by
 unfold Bl;refine dJ (dU _ _) ?_;rw [aD,aX];omega
theorem C8o {N:Nat} {E:List Nat} (hE:∀ e∈E,e<256):Py ((N:Int),gf E)=some ((A1e (N%9),hEs N E),decide (E.length≤12)):=by
 have hn:N%9≤9:=by omega
 have BP:(A1e (N%9)).length=N%9:=Go.Hg.lW _;have key:=qE (f:=HC) (min E.length 12) (fun i=>(((Bl (A1e (N%9)) E i).length,(i:Int)),((N:Int),gf E),(([],0),[],0),((A1e (N%9),N%9),[],0),Bl (A1e (N%9)) E i))
  ((A7D (A1e (N%9)) E).length,((N:Int),gf E),(([],0),[],0),((A1e (N%9),N%9),[],0),A7D (A1e (N%9)) E) (fun i hi=>by
  have yW:i<E.length:=by omega
  have dP:(i:Int)<((gf E).length:Int):=by rw [vX];omega
  have WO:(i:Int)<12:=by omega
  have hl:=C5D (A1e (N%9)) E i;have hb:=hE _ (aJ yW);simp only [HC,dP,WO,decide_true,cond_true,aj,aq,Bk yW,ah,BP,iy (au _),List.length_nil,gP,aZ (eG BP),C5C (show (A1e (N%9)).length≤20 by omega) (show E[i]<4294967296 by omega),
   iy (show ((Bl (A1e (N%9)) E i).length+1)*24≤140737488355328 by omega),mX,gW (show i<9223372036854775807 by omega),C4N (A1e (N%9)) yW]
  cases hp:pick (A1e (N%9)) E[i] with
  | nil=>simp
  | cons a r =>
    have:(((a::r).length:Int)>0):=by simp
    simp only [this,decide_true,cond_true,List.isEmpty_cons,aF,if_false,aQ,dz]) (by
  have e:Bl (A1e (N%9)) E (min E.length 12)=A7D (A1e (N%9)) E:=by
   unfold Bl A7D;congr 2;by_cases h:E.length≤12
   · rw [da h,dS,aZ h]
   · rw [jC (by omega)]
  rw [e];by_cases h:E.length≤12
  · have h':¬ ((min E.length 12:Nat):Int)<((gf E).length:Int):=by rw [vX];omega
    simp only [HC,h',decide_false,cond_false]
  · have h1:((min E.length 12:Nat):Int)<((gf E).length:Int):=by rw [vX];omega
    have h2:¬ ((min E.length 12:Nat):Int)<12:=by omega
    simp only [HC,h1,h2,decide_true,decide_false,cond_true,cond_false])
 have key:dq HC ((0,0),((N:Int),gf E),(([],0),[],0),((A1e (N%9),N%9),[],0),[])=_:=key;have hed:K6 (A7D (A1e (N%9)) E)=some (hEs N E):=by
  refine C4M (by have:=Go.Hg.pZ N E;omega) fun e he=>?_
  obtain ⟨_,s,rfl⟩:=Go.Hg.oK he
  have:=Go.Hg.uH (A1e (N%9)) s
  omega
 unfold Py;simp only [D6N,D5W N (gf E) (N%9) hn,ah,key,iy (au _),cond_true,mX,hed,BP,aZ (eG BP)];by_cases h:E.length≤12
 · have h':((gf E).length:Int)≤12:=by rw [vX];omega
   simp [h];omega
 · have h':¬ ((gf E).length:Int)≤12:=by rw [vX];omega
   simp [h];omega
def Qp (y:Nat) (s:Nat×Nat) (k:Nat):Nat×Nat:=if y.testBit k&&decide (s.1<2) then (s.1+1,s.2 ||| 1 <<< k) else s
def rT (y k:Nat):Nat×Nat:=(bp k).foldl (Qp y) (0,0)
def pw (y:Nat):Nat:=(rT y 8).2
theorem B9S (y k:Nat):rT y (k+1)=Qp y (rT y k) k:=by
 unfold rT;rw [iU,fK];rfl
theorem Qq (y:Nat):∀ k,(rT y k).1≤2∧(rT y k).2<2 ^ k∧((bp k).filter fun i=>(rT y k).2.testBit i).length=(rT y k).1
 | 0=>⟨by simp [rT],by simp [rT],rfl⟩
 | k+1=>by
   obtain ⟨h1,h2,h3⟩:=Qq y k;rw [B9S];unfold Qp;have hp:2 ^ k<2 ^ (k+1):=Nat.pow_lt_pow_right (by decide) (la k)
   split
   · rename_i hc;simp only [ak,decide_eq_true_eq] at hc;refine ⟨by show (rT y k).1+1≤2;omega,eT (by omega) (vh (la k)),?_⟩
     rw [iU,eJ,aQ];have e1:((bp k).filter fun i=>((rT y k).2 ||| 1 <<< k).testBit i)=(bp k).filter fun i=>(rT y k).2.testBit i:=by
      refine mM fun i hi=>?_
      have:=bX.1 hi
      rw [bR,Go.Hg.eh];have ev:¬ i=k:=by omega
      simp [ev]
     rw [e1,h3];simp [bR,Go.Hg.eh]
   · refine ⟨h1,by omega,?_⟩
     rw [iU,eJ,aQ,h3]
     have:(rT y k).2.testBit k=false:=fX h2
     simp [this]
theorem D3X (y:Nat):pw y<256:=(Qq y 8).2.1
theorem C99 (V:List Int) (y:Nat):(pick V (pw y)).length≤2:=by
 obtain ⟨h1,_,h3⟩:=Qq y 8
 have:(pick V (pw y)).length≤((bp 8).filter fun i=>(rT y 8).2.testBit i).length:=by
  unfold pick;rw [aD];have e:((V.take 8).zipIdx.filter fun x=>(pw y).testBit x.2).length=(((V.take 8).zipIdx.filter fun x=>(pw y).testBit x.2).map (·.2)).length:=by rw [aD]
  rw [e];have e2:((V.take 8).zipIdx.filter fun x=>(pw y).testBit x.2).map (·.2)=(bp (V.take 8).length).filter fun i=>(pw y).testBit i:=by
   have:(V.take 8).zipIdx.map (·.2)=bp (V.take 8).length:=by
    rw [List.zipIdx_map_snd,lH]
   rw [← this,List.filter_map];rfl
  rw [e2];have hl:(V.take 8).length≤8:=by rw [aX];omega
  have hs:(bp (V.take 8).length).Sublist (bp 8):=List.range_sublist.2 hl;exact (hs.filter _).length_le
 omega
theorem D2v {k:IntKind} {m i:Nat} (hi:i≤k.bits):((jW k (m:Int) (i:Int)).tmod 2==1)=m.testBit i:=by
 rw [Wu hi]
 have:((m >>> i:Nat):Int).tmod 2=(((m >>> i)%2:Nat):Int):=(oB (m >>> i) 2).symm
 rw [this,← iD,Wd,kK,du];cases m.testBit i<;>rfl
abbrev Z0:(List Int×Nat)×List (List Int)×Nat:=(([],0),[],0)
section
variable {N:Nat} {E:List Nat} {R:List Int} {skip:Nat}
theorem D6O (c:Nat) {i:Nat} (hi:i<E.length) (cut:List Int):dq K9 ((c,(i:Int),0,0,0),((N:Int),gf E),(R,(skip:Int)),Z0,cut)=some ((c,(i:Int),((pw E[i]:Nat):Int)),((N:Int),gf E),(R,(skip:Int)),Z0,cut):=by
 have key:=qE (f:=K9) 8 (fun k=>((c,(i:Int),(((rT E[i] k).1:Nat):Int),(((rT E[i] k).2:Nat):Int),(k:Int)),((N:Int),gf E),(R,(skip:Int)),Z0,cut)) ((c,(i:Int),((pw E[i]:Nat):Int)),((N:Int),gf E),(R,(skip:Int)),Z0,cut) (fun k hk=>by
  have nu:(k:Int)<8:=by omega
  obtain ⟨h1,h2,_⟩:=Qq E[i] k;have hp:(rT E[i] k).2<2 ^ IntKind.u8.bits:=br h2 (cN (by decide) (show k≤8 by omega))
  have e1:nW .u8 1 (k:Int)=((1 <<< k:Nat):Int):=Wv (k:=.u8) rfl (m:=1) (show k≤8 by omega) (vh (show k<8 by omega))
  have e2:=Cz (k:=.u8) rfl hp (vh (show k<8 by omega))
  simp only [K9,nu,decide_true,cond_true,aj,aq,Bk hi,ah,D2v (k:=.u8) (show k≤8 by omega),gW (show k<9223372036854775807 by omega),B9S,Qp,e1,e2]
  cases hb:E[i].testBit k with
  | false=>simp
  | true =>
    by_cases c2:(rT E[i] k).1<2
    · have CB:(((rT E[i] k).1:Nat):Int)<2:=by omega
      simp [c2,CB,gW (show (rT E[i] k).1<9223372036854775807 by omega)]
    · have CB:¬ (((rT E[i] k).1:Nat):Int)<2:=by omega
      simp [c2,CB]) (by
  simp [K9,pw])
 exact key
theorem D6P (hE:E.length≤reachBytes):dq La ((0,0),((N:Int),gf E),(R,(skip:Int)),Z0,[])=some (E.length,((N:Int),gf E),(R,(skip:Int)),Z0,gf (E.map pw)):=by
 have hr:reachBytes=140737488351232:=rfl;have key:=qE (f:=La) E.length (fun i=>((i,(i:Int)),((N:Int),gf E),(R,(skip:Int)),Z0,gf ((E.take i).map pw))) (E.length,((N:Int),gf E),(R,(skip:Int)),Z0,gf (E.map pw)) (fun i hi=>by
  have dP:(i:Int)<((gf E).length:Int):=by rw [vX];omega
  have hl:(gf ((E.take i).map pw)).length=i:=by simp;omega
  have e1:gf ((E.take (i+1)).map pw)=gf ((E.take i).map pw)++[((pw E[i]:Nat):Int)]:=by
   rw [sM hi,b8,WI];rfl
  have l1:=D6O (N:=N) (R:=R) (skip:=skip) i hi (gf ((E.take i).map pw));simp only [La,dP,decide_true,cond_true,l1,ah,hl,iy (au _),iy (show (i+1)*1≤140737488355328 by omega),aZ (eG hl),gW (show i<9223372036854775807 by omega),e1]) (by
  simp only [La,vX,aY,decide_false,cond_false,mX])
 exact key
end
def uJ (v:List Int) (R:List Int) (x:Int):Int:=match pG (fun _ y=>y==x) (v.take R.length) 0 with | some i=>R.getD i 0 | none=>0
theorem C5E {v:List Int} {es:List (List Int)} {R:List Int} (nv:v.length≤1000) (sk x:Int):K8 ((v,es),(R,sk),x)=some (uJ v R x):=by
 have hl:(v.take R.length).length=min R.length v.length:=aX;have key:=Cw (f:=HD) (v.take R.length) (fun i=>((x,(i:Int)),(v,es),R,sk)) (fun _ y=>y==x) (fun i=>.inl (R.getD i 0)) (.inr ()) (fun i hi=>by
  rw [hl] at hi;have h1:i<v.length:=by omega
  have h2:i<R.length:=by omega
  have uh:(i:Int)<(v.length:Int):=by omega
  have rk:(i:Int)<(R.length:Int):=by omega
  simp only [HD,uh,rk,decide_true,cond_true,aj,aq,af h1,af h2,ah,gW (show i<9223372036854775807 by omega),List.getElem_take,bu,bG]
  cases v[i]==x<;>rfl) (by
  rw [hl];by_cases h1:R.length<v.length
  · have uh:((min R.length v.length:Nat):Int)<(v.length:Int):=by omega
    have rk:¬ ((min R.length v.length:Nat):Int)<(R.length:Int):=by omega
    simp only [HD,uh,rk,decide_true,decide_false,cond_true,cond_false]
  · have uh:¬ ((min R.length v.length:Nat):Int)<(v.length:Int):=by omega
    simp only [HD,uh,decide_false,cond_false])
 have key:dq HD ((x,0),(v,es),R,sk)=_:=key;unfold K8 uJ;simp only;rw [key];cases pG (fun _ y=>y==x) (v.take R.length) 0<;>rfl
def DP (v R:List Int) (skip:Nat) (e:List Int) (i:Nat):PrV:=match e with
 | a::b::_=>if skip.testBit i then [] else if uJ v R a>uJ v R b then [(b,a)] else [(a,b)]
 | _=>[]
def Bm (v R:List Int) (skip:Nat) (es:List (List Int)) (i:Nat):PrV:=(es.take i).zipIdx.flatMap fun x=>DP v R skip x.1 x.2
def Ae (v R:List Int) (skip:Nat) (es:List (List Int)):PrV:=Bm v R skip es es.length
theorem D0a (v R:List Int) (skip:Nat) (e:List Int) (i:Nat):(DP v R skip e i).length≤1:=by
 unfold DP;split
 · split
   · simp
   · split<;>simp
 · simp
theorem C17 (v R:List Int) (skip:Nat) {es:List (List Int)} {i:Nat} (h:i<es.length):Bm v R skip es (i+1)=Bm v R skip es i++DP v R skip es[i] i:=by
 unfold Bm;rw [WN h,List.flatMap_append];simp
theorem WQ (v R:List Int) (skip:Nat) (es:List (List Int)):∀ i,i≤es.length→(Bm v R skip es i).length≤i
 | 0,_=>by simp [Bm]
 | i+1,h=>by
   rw [C17 v R skip (by omega),aQ]
   have h1:=WQ v R skip es i (by omega)
   have h2:=D0a v R skip es[i] i;omega
theorem D6Q {v R:List Int} {skip:Nat} {es:List (List Int)} (nv:v.length≤1000) (ne:es.length≤12) (ok:Bool) :
 dq Lb ((ok,0,0),(R,(skip:Int)),Z0,(v,es),[])=some ((ok,(Ae v R skip es).length),Z0,(v,es),Ae v R skip es):=by
 have key:=qE (f:=Lb) es.length (fun i=>((ok,(Bm v R skip es i).length,(i:Int)),(R,(skip:Int)),Z0,(v,es),Bm v R skip es i)) ((ok,(Ae v R skip es).length),Z0,(v,es),Ae v R skip es) (fun i hi=>by
  have dP:(i:Int)<(es.length:Int):=by omega
  have hl:=WQ v R skip es i (by omega)
  simp only [Lb,dP,decide_true,cond_true,aj,aq,af hi,ah,D2v (k:=.u16) (show i≤16 by omega),C5E nv,iy (au _),iy (show ((Bm v R skip es i).length+1)*16≤140737488355328 by omega),mX,
   gW (show i<9223372036854775807 by omega),C17 v R skip hi]
  unfold DP
  match hm:es[i] with
  | []=>simp
  | [a]=>simp
  | a::b::r =>
    have h2:¬ (((a::b::r).length:Int)<2):=by simp;omega
    simp only [h2,decide_false,cond_false,bQ,List.getElem?_cons_succ,ah];cases skip.testBit i with
    | true=>simp
    | false =>
      by_cases c:uJ v R a>uJ v R b
      · simp [c]
      · simp [c]) (by
  simp only [Lb,aY,decide_false,cond_false];rfl)
 exact key
theorem D0b {N:Nat} {E:List Nat} {R:List Int} {skip:Nat} (hE:E.length≤reachBytes):Lc (((N:Int),gf E),R,(skip:Int)) =
 some ((A1e (N%9),hEs N (E.map pw)),Ae (A1e (N%9)) R skip (hEs N (E.map pw)),decide (E.length≤12)):=by
 have hl:(gf (E.map pw)).length=E.length:=by simp
 have h8:∀ e∈E.map pw,e<256:=by
  intro e he;obtain ⟨y,_,rfl⟩:=bh.1 he;exact D3X y
 unfold Lc;have BP:(A1e (N%9)).length=N%9:=Go.Hg.lW _;have hy:=C8o (N:=N) h8;rw [aD] at hy;have l0:=D6P (N:=N) (R:=R) (skip:=skip) hE;have l2:=D6Q (v:=A1e (N%9)) (R:=R) (skip:=skip) (es:=hEs N (E.map pw)) (by omega) (Go.Hg.pt _ _) (decide (E.length≤12))
 simp only [l0,ah,hl,iy (au _),cond_true,aZ (eG hl),hy,l2,mX]
section
variable {N:Nat} {E:List Nat} {R:List Int} {skip:Nat}
theorem D5X:∀ e∈hEs N (E.map pw),e.length≤2:=by
 intro e he;have h1:=Go.Hg.pY N _ he;unfold A7D at h1;obtain ⟨h1,_⟩:=cA.1 h1;obtain ⟨y,hy,rfl⟩:=bh.1 h1;obtain ⟨z,_,rfl⟩:=bh.1 (c8 hy);exact C99 _ z
theorem D5Y:∀ e∈hEs N (E.map pw),asc e=true:=fun e he=>Go.Hg.m9 N _ e (Go.Hg.pY N _ he)
theorem D6R:Go.Hg.Gr (A1e (N%9)) (hEs N (E.map pw)):=⟨Go.Hg.DM N _,D5Y,D5X⟩
end
end Go.Mid
namespace Go.Mid
open Go.Hg (asc Gr PrV nbB A8c A4k Acy A1e hEs)
theorem C4O {v R:List Int} {skip:Nat} {es:List (List Int)} {q:Int×Int}:q∈Ae v R skip es↔∃ i,∃ h:i<es.length,q∈DP v R skip es[i] i:=by
 unfold Ae Bm;rw [mX,List.mem_flatMap];constructor
 · rintro ⟨x,hx,hq⟩;obtain ⟨e,i⟩:=x;obtain ⟨hi,he⟩:=Go.Hg.lp.1 hx;subst he;exact ⟨i,hi,hq⟩
 · rintro ⟨i,hi,hq⟩;exact ⟨(es[i],i),Go.Hg.lp.2 ⟨hi,rfl⟩,hq⟩
theorem B7r {v R:List Int} {skip i:Nat} {e:List Int} {q:Int×Int} (h:q∈DP v R skip e i):∃ a b r,e=a::b::r∧((q=(b,a)∧uJ v R a>uJ v R b)∨(q=(a,b)∧¬ uJ v R a>uJ v R b)):=by
 unfold DP at h;split at h
 · rename_i a b r;refine ⟨a,b,r,rfl,?_⟩;split at h
   · cases h
   · split at h
     · rename_i hc;simp only [aW] at h;exact .inl ⟨h,hc⟩
     · rename_i hc;simp only [aW] at h;exact .inr ⟨h,hc⟩
 · cases h
theorem C18 {v R:List Int} (hR:∀ r∈R,0≤r) (x:Int):0≤uJ v R x:=by
 unfold uJ;split
 · rename_i i hi;rw [bu];cases hc:R[i]? with
   | none=>exact lI _
   | some r=>exact hR r (bI hc)
 · exact lI _
section
variable {v R:List Int} {skip:Nat} {es:List (List Int)} (G:Gr v es)
include G
theorem D6S {q:Int×Int} (h:q∈Ae v R skip es):nbB es q.1 q.2=true∧q.1∈v∧q.2∈v:=by
 obtain ⟨i,hi,hq⟩:=C4O.1 h;have he:=aJ hi;obtain ⟨a,b,r,e,h1⟩:=B7r hq;have ha:a∈v:=G.kQ.fR _ he a (by rw [e];simp)
 have hb:b∈v:=G.kQ.fR _ he b (by rw [e];simp)
 have hn:nbB es a b=true:=by
  rcases G.cases he with ⟨x,e2,_⟩ | ⟨x,y,e2,_,hn⟩
  · rw [e] at e2;simp at e2
  · rw [e] at e2;simp only [List.cons.injEq] at e2;obtain ⟨rfl,rfl,_⟩:=e2;exact hn
 rcases h1 with ⟨rfl,_⟩ | ⟨rfl,_⟩
 · exact ⟨by rw [Go.Hg.rD];exact hn,hb,ha⟩
 · exact ⟨hn,ha,hb⟩
theorem D5Z (hR:∀ r∈R,0≤r) (hv:∀ x∈v,0≤x∧x<1000):Acy (Ae v R skip es):=by
 refine ⟨fun x=>(uJ v R x).toNat * 1000+x.toNat,fun q h=>?_⟩
 obtain ⟨i,hi,hq⟩:=C4O.1 h;have he:=aJ hi;obtain ⟨a,b,r,e,h1⟩:=B7r hq;have ha:=hv a (G.kQ.fR _ he a (by rw [e];simp))
 have hb:=hv b (G.kQ.fR _ he b (by rw [e];simp))
 have eE:a<b:=by
  rcases G.cases he with ⟨x,e2,_⟩ | ⟨x,y,e2,vH,_⟩
  · rw [e] at e2;simp at e2
  · rw [e] at e2;simp only [List.cons.injEq] at e2;obtain ⟨rfl,rfl,_⟩:=e2;exact vH
 have k1:=C18 (v:=v) hR a;have k2:=C18 (v:=v) hR b;rcases h1 with ⟨rfl,h1⟩ | ⟨rfl,h1⟩
 · show (uJ v R b).toNat * 1000+b.toNat<(uJ v R a).toNat * 1000+a.toNat;omega
 · show (uJ v R a).toNat * 1000+a.toNat<(uJ v R b).toNat * 1000+b.toNat;omega
end
theorem D50 {v R:List Int} {skip:Nat} {es:List (List Int)}:(Ae v R skip es).length≤es.length:=WQ v R skip es es.length (au _)
theorem D0c {n:Nat} (hn:n≤9):∀ x∈A1e n,0≤x∧x<1000:=by
 intro x hx;unfold A1e at hx;obtain ⟨i,hi,rfl⟩:=bh.1 hx
 have:=bX.1 hi
 omega
end Go.Mid
