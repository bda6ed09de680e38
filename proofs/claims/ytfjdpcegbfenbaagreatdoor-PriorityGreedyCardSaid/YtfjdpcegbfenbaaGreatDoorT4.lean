/- Tools for plain laws: loops step by step, sums, bounds. -/
import Derived.Test.YtfjdpcegbfenbaaGreatDoorN2
import Derived.Test.YtfjdpcegbfenbaaGreatDoorT2
set_option linter.unusedSimpArgs false
set_option linter.unusedVariables false
open BitVec renaming ofInt → b8, toNat_ofNat → ie
open Bool renaming false_eq_true → aI, false_or → jH, and_eq_true → aj, eq_iff_iff → de, true_and → ej, not_eq_true' → ec, not_eq_true → fZ, or_eq_true → cr, not_true → b3, not_false → ek
open Classical renaming byContradiction → bZ
open Go.IntKind renaming wrap → hO, bits → gx, signed → fh, i64 → af, u64 → aG, u32 → cG
open Int renaming lt_trans → pW, min_eq_left → nL, max_eq_right → m7, toNat_natCast → az, natCast_nonneg → au, lt_irrefl → bx, natCast_zero → cM, le_refl → lr
open List renaming take_length → dT, range → bA, range' → mD, filter_cons → jk, filter_congr → mG, range_eq_range' → lq, getElem_cons_succ → fO, any_cons → iB, range_succ → jL, length_map → aB, length_filter_le → dt, pairwise_cons → bN, mem_cons → aE, nil_append → a6, getElem?_append_right → bE, append_assoc → bf, set_append_right → eh, pairwise_append → cF, mem_append → ay, foldl_cons → gv, getElem?_eq_getElem → ah, any_eq_true → fY, contains_iff_mem → a8, getElem?_eq_some_iff → aF, any_eq_false → gC, mem_map → bj, mem_filter → cf, mem_zipIdx_iff_getElem? → iw, zipIdx_cons → jh, pairwise_iff_getElem → dE, all_eq_true → bB, pairwise_map → ed, filter_filter → jR, mem_cons_of_mem → bC, mem_cons_self → dO, isEmpty_iff → eC, length_eq_zero_iff → dA, not_mem_nil → m8, length_tail → kQ, getElem_tail → mK, getD_eq_getElem?_getD → bh, mem_iff_getElem → dQ, getElem_mem → aP, not_any_eq_all_not → jX, mem_singleton → aX, length_singleton → eg, getElem?_cons_zero → bP, take_of_length_le → a7, drop_length → eW, drop_eq_getElem_cons → bY, drop_zero → fm, mem_or_eq_of_mem_set → bz, filter_append → eV, map_append → b5, length_take → aW, mem_of_getElem? → bG, length_append → aQ, getElem?_map → aH, map_set → fa, map_cons → aD, map_nil → cl, getElem?_set_ne → eB, foldl_append → iK, take_nil → iA, mem_range → cA
open List.cons renaming inj → mN, injEq → iu
open Nat renaming ble_eq_true_of_le → gp, and_one_is_mod → jS, eq_of_testBit_eq → jc, zero_testBit → eX, pow_succ → lO, add_zero → dF, mul_one → gB, testBit_two_pow_sub_one → iJ, testBit_and → gw, le_refl → ar, zero_le → dg, one_shiftLeft → mJ, testBit_lt_two_pow → fP, lt_of_lt_of_le → bp, pow_le_pow_right → eD, le_trans → du, sub_zero → gy, testBit_or → fp, mod_eq_of_lt → eU, lt_of_le_of_lt → ez, or_lt_two_pow → fD, lt_succ_self → kP, zero_add → bR, add_sub_cancel → dP, lt_or_eq_of_le → ma, le_of_eq → fQ, min_eq_left → cY, le_of_lt → fM, min_eq_right → ji
open Option renaming getD_some → bK, bind_some → ai
namespace Go.Mid
section
variable {A B:Type} {f:A→Option (A ⊕ B)}
theorem r9 (n:Nat) (T:Nat→A) (b:B) (h1:∀ i,i < n→f (T i)=some (.inl (T (i + 1)))) (h2:f (T n)=some (.inr b)):dm f (T 0)=some b:=by
 have:∀ k i,i + k=n→dm f (T i)=some b:=by
  intro k
  induction k with
  | zero=>intro i hi; obtain rfl:i=n:=by omega
          exact oK h2
  | succ k ih=>intro i hi; rw [sC (h1 i (by omega))]; exact ih (i + 1) (by omega)
 exact this n 0 (by omega)
end
theorem jC {a b:Nat} (h:a ≤ b):a.ble b=true:=gp h
theorem kU {a b:Nat} (h:a < b):a.blt b=true:=gp h
theorem oL {α:Type} (l:List α):l.take l.length=l:=dT
theorem tw {α:Type} {l:List α} {i:Nat} (h:i < l.length):l.take (i + 1)=l.take i++[l[i]]:=List.take_succ_eq_append_getElem h
section
variable {α β:Type}
end
end Go.Mid
namespace Go.Mid
theorem C5I (m:Nat):(m &&& 1)=if m.testBit 0 then 1 else 0:=by
 rw [jS,Nat.testBit_zero]
 have:=Nat.mod_two_eq_zero_or_one m
 rcases this with h | h <;> simp [h]
def p8 (m:Nat):List Nat:=(bA 32).filter fun i=>m.testBit i
theorem UU:∀ {m:Nat},m ≠ 0→∃ k,m.testBit k=true∧∀ j,j < k→m.testBit j=false:=by
 intro m
 induction m using Nat.strongRecOn with
 | _ m ih =>
   intro h;by_cases h0:m.testBit 0=true
   · exact ⟨0,h0,fun j hj=>by omega⟩
   · have h2:m / 2 ≠ 0:=by
      intro e;rw [Nat.testBit_zero] at h0
      have:m % 2 ≠ 1:=by simpa using h0
      omega
     obtain ⟨k,hk,hl⟩:=ih (m / 2) (by omega) h2
     refine ⟨k + 1,by rw [Nat.testBit_succ]; exact hk,fun j hj=>?_⟩
     cases j with
     | zero=>simpa using h0
     | succ j=>rw [Nat.testBit_succ]; exact hl j (by omega)
theorem D0Q {m k:Nat} (hk:m.testBit k=true) (hl:∀ j,j < k→m.testBit j=false):∃ q,m=2 ^ k * (2 * q + 1):=by
 refine ⟨m / 2 ^ (k + 1),?_⟩;have h1:m % 2 ^ k=0:=by
  apply jc;intro i;rw [Nat.testBit_mod_two_pow,eX];by_cases h:i < k
  · rw [hl i h]; simp
  · simp [h]
 have h2:m / 2 ^ k % 2=1:=by
  rw [Nat.testBit_eq_decide_div_mod_eq] at hk;simpa using hk
 have h3:m / 2 ^ (k + 1)=m / 2 ^ k / 2:=by rw [lO,Nat.div_div_eq_div_mul]
 rw [h3];have h4:=Nat.div_add_mod m (2 ^ k);rw [h1,dF] at h4;have h5:2 * (m / 2 ^ k / 2) + 1=m / 2 ^ k:=by omega
 rw [h5]; exact h4.symm
theorem C3M {m k j:Nat} (hk:m.testBit k=true) (hl:∀ j,j < k→m.testBit j=false):(m - 1).testBit j=if j < k then true else if j=k then false else m.testBit j:=by
 obtain ⟨q,rfl⟩:=D0Q hk hl;have hp:0 < 2 ^ k:=Nat.two_pow_pos k;have e1:2 ^ k * (2 * q + 1) - 1=2 ^ (k + 1) * q + (2 ^ k - 1):=by
  rw [lO,Nat.mul_add,gB,← Nat.mul_assoc];omega
 have e2:2 ^ k * (2 * q + 1)=2 ^ (k + 1) * q + 2 ^ k:=by
  rw [lO,Nat.mul_add,gB,← Nat.mul_assoc]
 rw [e1,e2];have UW:2 ^ k - 1 < 2 ^ (k + 1):=by rw [lO]; omega
 have Ja:2 ^ k < 2 ^ (k + 1):=by rw [lO]; omega
 rw [Nat.testBit_two_pow_mul_add _ UW,Nat.testBit_two_pow_mul_add _ Ja];by_cases h1:j < k
 · simp [h1,Nat.lt_succ_of_lt h1,iJ]
 · by_cases h2:j=k
   · subst h2; simp [iJ]
   · have:¬ j < k + 1:=by omega
     simp [h1,h2,this]
theorem D0R {m k:Nat} (hk:m.testBit k=true) (hl:∀ j,j < k→m.testBit j=false) (i:Nat):(m &&& (m - 1)).testBit i=(m.testBit i && decide (i ≠ k)):=by
 rw [gw,C3M hk hl];by_cases h1:i < k
 · simp [h1,hl i h1]
 · by_cases h2:i=k
   · subst h2; simp
   · simp [h1,h2]
theorem B5D {p:Nat→Bool} {k:Nat}:∀ (n s:Nat),s ≤ k→k < s + n→(∀ j,s ≤ j→j < k→p j=false)→p k=true →
 (mD s n).filter p=k::(mD s n).filter (fun i=>p i && decide (i ≠ k))
 | 0,s,h1,h2,_,_=>by omega
 | n + 1,s,h1,h2,hl,hk=>by
   rw [List.range'_succ];by_cases h:s=k
   · subst h;simp only [jk,hk,if_true,ne_eq,not_true_eq_false,decide_false,Bool.and_false,aI,if_false];congr 1;apply mG;intro x hx
     have:=List.mem_range'_1.1 hx
     have:x ≠ s:=by omega
     simp [this]
   · have hs:p s=false:=hl s (ar _) (by omega)
     simp only [jk,hs,Bool.false_and,aI,if_false];exact B5D n (s + 1) (by omega) (by omega) (fun j a b=>hl j (by omega) b) hk
theorem C4G {m k:Nat} (h:k < 32) (hk:m.testBit k=true) (hl:∀ j,j < k→m.testBit j=false):p8 m=k::p8 (m &&& (m - 1)):=by
 unfold p8;rw [lq];rw [B5D 32 0 (dg _) (by omega) (fun j _ b=>hl j b) hk]
 congr 2;funext i;exact (D0R hk hl i).symm
end Go.Mid
namespace Go.Hg
def B20 (e s:Nat):Bool:=(e &&& s) == e
def less (a b:Nat):Nat:=a ^^^ (a &&& b)
theorem pM (a b i:Nat):(less a b).testBit i=(a.testBit i && !b.testBit i):=by
 unfold less;rw [Nat.testBit_xor,gw];cases a.testBit i <;> cases b.testBit i <;> rfl
theorem lL (v i:Nat):(1 <<< v).testBit i=decide (i=v):=by
 rw [mJ,Nat.testBit_two_pow];exact decide_eq_decide.2 eq_comm
theorem n8 {s n i:Nat} (h:s < 2 ^ n) (hi:n ≤ i):s.testBit i=false :=
 fP (bp h (eD (by omega) hi))
theorem vJ {s n:Nat} (h:∀ i,n ≤ i→s.testBit i=false):s < 2 ^ n:=Nat.lt_pow_two_of_testBit s h
def leaves:Nat→Nat→Nat→List Nat
 | 0,_,s=>[s]
 | k + 1,v,s=>leaves k (v + 1) (s ||| 1 <<< v)++leaves k (v + 1) s
def C3N (E:List Nat) (u m:Nat):Bool:=E.any fun e=>e.testBit u && B20 (less e (1 <<< u)) m
def C3O (E:List Nat) (s:Nat):Bool:=E.any fun e=>B20 e s
def later (k v:Nat):Nat:=(2 ^ k - 1) <<< v
def D0S (E:List Nat) (k v qQ out:Nat):Bool:=(bA v).any fun u=>out.testBit u && !C3N E u (qQ ||| later k v)
def C16 (E:List Nat):Nat→Nat→Nat→Nat→List Nat
 | 0,v,qQ,out=>if D0S E 0 v qQ out then [] else [qQ]
 | k + 1,v,qQ,out=>if D0S E (k + 1) v qQ out then [] else
   (if C3O E (qQ ||| 1 <<< v) then [] else C16 E k (v + 1) (qQ ||| 1 <<< v) out)++C16 E k (v + 1) qQ (out ||| 1 <<< v)
section
variable {β:Type}
def idx (p:β→Bool):List β→Nat→Option Nat
 | [],_=>none
 | x::r,i=>if p x then some i else idx p r (i + 1)
theorem UX {p:β→Bool}:∀ {l:List β} {i k:Nat},idx p l i=some k→i ≤ k∧k < i + l.length∧(∃ h:k - i < l.length,p (l[k - i]'h)=true)∧∀ j (h:j < l.length),i + j < k→p l[j]=false
 | [],i,k,h=>by cases h
 | x::r,i,k,h=>by
   simp only [idx] at h;by_cases hp:p x=true
   · simp only [hp,if_true,Option.some.injEq] at h;subst h;refine ⟨ar _,by simp,⟨by simp,by simpa using hp⟩,fun j _ hj=>by omega⟩
   · simp only [hp,if_false,aI] at h;obtain ⟨h1,h2,⟨h3,h4⟩,h5⟩:=UX h;have e:k - i=(k - (i + 1)) + 1:=by omega
     refine ⟨by omega,by simp; omega,⟨by simp; omega,?_⟩,?_⟩
     · simp only [e,fO]; exact h4
     · intro j hj hjk;cases j with
       | zero=>simpa using hp
       | succ j=>simp only [fO]; exact h5 j (by simpa using hj) (by omega)
theorem UY (p:β→Bool):∀ (l:List β) (i:Nat),(idx p l i).isSome=l.any p
 | [],_=>rfl
 | x::r,i=>by
   simp only [idx,iB];by_cases hp:p x=true
   · simp [hp]
   · simp only [hp,if_false,aI,jH]; exact UY p r (i + 1)
end
def A0G (a b:List Int):Bool:=a.all fun x=>b.contains x
def asc:List Int→Bool
 | a::b::r=>decide (a < b) && asc (b::r)
 | _=>true
def bef:List Int→List Int→Option Bool
 | a::r,b::q=>if a=b then bef r q else some (decide (a < b))
 | _,_=>none
def before (a b:List Int):Bool:=match bef a b with | some t=>t | none=>decide (a.length < b.length)
def free (es:List (List Int)) (l:List Int):Bool:=!es.any fun e=>A0G e l
def pick (v:List Int) (s:Nat):List Int:=((v.take 8).zipIdx.filter fun x=>s.testBit x.2).map (·.1)
def A6T (v:List Int) (es:List (List Int)) (l:List Int):Bool:=asc l && A0G l v && free es l
def A1E (v:List Int) (es:List (List Int)) (l:List Int):Bool:=A6T v es l && v.all fun x=>l.contains x || !free es (l++[x])
def sunk:Nat→List (List Int)→List (List Int)
 | 0,out=>out
 | k + 1,out=>match out[k + 1]?,out[k]? with
   | some x,some y=>if before x y then sunk k ((out.set (k + 1) y).set k x) else out
   | _,_=>out
theorem mA:∀ (k:Nat) (out:List (List Int)),(sunk k out).length=out.length
 | 0,_=>rfl
 | k + 1,out=>by
   unfold sunk;split
   · split
     · rw [mA]; simp
     · rfl
   · rfl
def A7L (ls:List (List Int)) (i:Nat) (x:List Int):Bool:=(ls.zipIdx).all fun y=>!(A0G y.1 x && (decide (y.1.length < x.length) || decide (y.2 < i)))
def A32 (ls:List (List Int)) (i:Nat) (x:List Int) (out:List (List Int)):List (List Int):=if A7L ls i x then sunk out.length (out++[x]) else out
def A4G (ls:List (List Int)):List (List Int)→Nat→List (List Int)→List (List Int)
 | [],_,out=>out
 | x::r,i,out=>A4G ls r (i + 1) (A32 ls i x out)
def A5w (ls:List (List Int)):List (List Int):=A4G ls ls 0 []
theorem B7B (ls:List (List Int)) (i:Nat) (x:List Int) (out:List (List Int)):(A32 ls i x out).length ≤ out.length + 1:=by
 unfold A32;split
 · rw [mA]; simp
 · omega
def idsP (v:List Int) (s:Nat):List Int:=(v.zipIdx.filter fun x=>s.testBit x.2).map (·.1)
def A0t (v:List Int) (y:Int):Nat:=(idx (· == y) v 0).getD 0
theorem iV {v:List Int} {y:Int} (h:y ∈ v):A0t v y < v.length:=by
 have h2:=UY (· == y) v 0;have h3:v.any (· == y)=true:=by simp [h]
 rw [h3] at h2;unfold A0t;cases hk:idx (· == y) v 0 with
 | none=>rw [hk] at h2; cases h2
 | some k=>have:=UX hk; simp; omega
def bitsFrom (v:List Int) (b:Nat) (e:List Int):Nat:=e.foldl (fun b y=>b ||| 1 <<< A0t v y) b
def A2v (v:List Int) (e:List Int):Nat:=bitsFrom v 0 e
theorem jD:∀ {l:List Int} {i j:Nat},asc l=true→(h:i < j)→(hj:j < l.length)→l[i] < l[j]
 | [],_,_,_,_,hj=>by simp at hj
 | [x],_,_,_,_,hj=>by simp at hj; omega
 | x::y::r,i,j,ha,h,hj=>by
   simp only [asc,aj,decide_eq_true_eq] at ha;cases i with
   | zero =>
     cases j with
     | zero=>omega
     | succ j =>
       simp only [List.getElem_cons_zero,fO];cases j with
       | zero=>exact ha.1
       | succ j=>exact pW ha.1 (jD (l:=y::r) (i:=0) ha.2 (by omega) (by simpa using hj))
   | succ i =>
     cases j with
     | zero=>omega
     | succ j=>simpa using jD (l:=y::r) ha.2 (by omega) (by simpa using hj)
def A9Q (v:List Int) (es:List (List Int)) (i:Nat) (e:List Int):Bool:=!e.isEmpty && asc e && A0G e v && (i == 0 || before (es.getD (i - 1) []) e)
def A9j (es:List (List Int)) (i:Nat) (e:List Int):Bool:=es.zipIdx.any fun y=>y.2 != i && A0G y.1 e
def A5x (v:List Int) (es:List (List Int)):Bool:=asc v && decide (es.length ≤ 20000) && (!(es.zipIdx.any fun x=>!A9Q v es x.2 x.1) && !(es.zipIdx.any fun x=>A9j es x.2 x.1))
structure HOk (v:List Int) (es:List (List Int)):Prop where
 nv:v.length ≤ 40
 ne:es.length ≤ 20000
 el:∀ e ∈ es,e.length < 9223372036854775808
 qQ:∀ e ∈ es,∀ y ∈ e,y ∈ v
def D4B (v:List Int) (es:List (List Int)):List Nat:=C16 (es.map (A2v v)) v.length 0 0 0
def B89 (v:List Int) (es:List (List Int)):List (List Int):=(D4B v es).map (idsP v)
def D2O (v:List Int) (es:List (List Int)) (out:List (List Int)) (b:Nat):List (List Int) :=
 if A1E v es (idsP v b) then sunk out.length (out++[idsP v b]) else out
def D4C (v:List Int) (es:List (List Int)):List (List Int):=(bA (2 ^ v.length)).foldl (D2O v es) []
def A06 (n:Nat):List Int:=(bA n).map fun (i:Nat)=>2 + 3 * (i:Int)
theorem vK (n:Nat):A06 (n + 1)=A06 n++[2 + 3 * (n:Int)]:=by simp [A06,jL]
@[simp] theorem lM (n:Nat):(A06 n).length=n:=by simp [A06]
def A6U (V:List Int) (E:List Nat):List (List Int):=((E.take 12).map (pick V)).filter fun e=>!e.isEmpty
theorem uq (V:List Int) (s:Nat):(pick V s).length ≤ V.length:=by
 unfold pick;rw [aB];refine du (dt _ _) ?_;simp; omega
def hEs (N:Nat) (E:List Nat):List (List Int):=A5w (A6U (A06 (N % 9)) E)
def qR:List Int→List Int→Bool
 | [],[]=>false
 | [],_::_=>true
 | _::_,[]=>false
 | x::a,y::b=>if x=y then qR a b else decide (x < y)
theorem nq:∀ a b:List Int,before a b=qR a b
 | [],[]=>rfl
 | [],_::_=>by simp [before,bef,qR]
 | _::_,[]=>by simp [before,bef,qR]
 | x::a,y::b=>by
   have ih:=nq a b;simp only [before,bef,qR] at ih ⊢;by_cases h:x=y
   · simp only [h,if_true];rw [← ih];cases bef a b <;> simp
   · simp [h]
theorem HH:∀ a:List Int,qR a a=false
 | []=>rfl
 | x::a=>by simp [qR,HH a]
theorem UZ:∀ {a b c:List Int},qR a b=true→qR b c=true→qR a c=true
 | [],[],_,h,_=>by simp [qR] at h
 | [],_::_,[],_,h=>by simp [qR] at h
 | [],_::_,_::_,_,_=>rfl
 | _::_,[],_,h,_=>by simp [qR] at h
 | _::_,_::_,[],_,h=>by simp [qR] at h
 | x::a,y::b,z::c,h,g=>by
   simp only [qR] at h g ⊢;by_cases h1:x=y
   · subst h1;by_cases h2:x=z
     · subst h2; simp only [if_true] at h g ⊢; exact UZ h g
     · simp only [h2,if_false,if_true] at h g ⊢; exact g
   · by_cases h2:y=z
     · subst h2; simp only [h1,if_false,if_true] at h g ⊢; exact h
     · simp only [h1,h2,if_false,decide_eq_true_eq] at h g;have h3:¬ x=z:=by omega
       simp only [h3,if_false,decide_eq_true_eq];omega
theorem C3P:∀ {a b:List Int},qR a b=false→a ≠ b→qR b a=true
 | [],[],_,h=>absurd rfl h
 | [],_::_,h,_=>by simp [qR] at h
 | _::_,[],_,_=>rfl
 | x::a,y::b,h,eA=>by
   simp only [qR] at h ⊢;by_cases h1:x=y
   · subst h1;simp only [if_true] at h ⊢;exact C3P h fun e=>eA (by rw [e])
   · have h2:¬ y=x:=fun e=>h1 e.symm
     simp only [h1,if_false,decide_eq_false_iff_not] at h;simp only [h2,if_false,decide_eq_true_eq];omega
abbrev kb (l:List (List Int)):Prop:=l.Pairwise fun a b=>qR a b=true
theorem kb.ext:∀ {l m:List (List Int)},kb l→kb m→(∀ x,x ∈ l↔x ∈ m)→l=m
 | [],[],_,_,_=>rfl
 | [],y::m,_,_,h=>by have:=(h y).2 (by simp); simp at this
 | x::l,[],_,_,h=>by have:=(h x).1 (by simp); simp at this
 | x::l,y::m,hl,hm,h=>by
   rw [kb,bN] at hl hm;have vq:x=y:=by
    apply bZ;intro eA;have h1:x ∈ m:=by
     have:=(h x).1 (by simp)
     rcases aE.1 this with e | e
     · exact absurd e eA
     · exact e
    have h2:y ∈ l:=by
     have:=(h y).2 (by simp)
     rcases aE.1 this with e | e
     · exact absurd e.symm eA
     · exact e
    have:=UZ (hl.1 y h2) (hm.1 x h1)
    rw [HH] at this; cases this
   subst vq;congr 1;refine kb.ext hl.2 hm.2 fun z=>?_
   constructor
   · intro hz
     have:=(h z).1 (by simp [hz])
     rcases aE.1 this with e | e
     · subst e; have:=hl.1 z hz; rw [HH] at this; cases this
     · exact e
   · intro hz
     have:=(h z).2 (by simp [hz])
     rcases aE.1 this with e | e
     · subst e; have:=hm.1 z hz; rw [HH] at this; cases this
     · exact e
theorem B6O:∀ (k:Nat) (P Q:List (List Int)) (x:List Int),P.length=k→kb (P++Q)→(∀ q ∈ Q,qR x q=true)→x ∉ P →
 kb (sunk k (P++x::Q))∧(sunk k (P++x::Q)).Perm (P++x::Q)
 | 0,P,Q,x,hk,hs,hq,_=>by
   have:P=[]:=List.eq_nil_of_length_eq_zero hk
   subst this;simp only [a6,sunk] at hs ⊢;exact ⟨bN.2 ⟨hq,hs⟩,List.Perm.refl _⟩
 | k + 1,P,Q,x,hk,hs,hq,hx=>by
   obtain ⟨P',p,rfl⟩:∃ P' p,P=P'++[p]:=by
    rcases List.eq_nil_or_concat P with h | ⟨P',p,h⟩
    · subst h; simp at hk
    · exact ⟨P',p,by simpa using h⟩
   have nR:P'.length=k:=by simpa using hk
   have e1:(P'++[p]++x::Q)[k + 1]?=some x:=by
    rw [bE (by simp; omega)]; simp [nR]
   have e2:(P'++[p]++x::Q)[k]?=some p:=by
    rw [bf,bE (by omega)]; simp [nR]
   have e3:((P'++[p]++x::Q).set (k + 1) p).set k x=P'++x::p::Q:=by
    subst nR;rw [bf,eh _ _ (by omega),eh _ _ (by omega)]
    simp
   unfold sunk;rw [e1,e2];simp only;rw [nq];by_cases hb:qR x p=true
   · rw [if_pos hb,e3];have D3:kb (P'++p::Q):=by simpa using hs
     obtain ⟨h1,h2⟩:=B6O k P' (p::Q) x nR D3 (fun q hqm=>by
      rcases aE.1 hqm with e | e
      · subst e; exact hb
      · exact hq q e) (fun h=>hx (by simp [h]))
     refine ⟨h1,h2.trans ?_⟩;rw [bf];exact (List.Perm.swap p x Q).append_left P'
   · rw [if_neg hb];have hb:qR x p=false:=by simpa using hb
     have eA:x ≠ p:=fun e=>hx (by simp [e])
     have hpx:=C3P hb eA;refine ⟨?_,List.Perm.refl _⟩;rw [kb,cF] at hs;obtain ⟨h1,h2,h3⟩:=hs;rw [kb,cF];refine ⟨h1,bN.2 ⟨hq,h2⟩,fun a ha b hbm=>?_⟩
     have Qq:qR a x=true:=by
      rcases ay.1 ha with h | h
      · rw [cF] at h1;exact UZ (h1.2.2 a h p (by simp)) hpx
      · simp at h; subst h; exact hpx
     rcases aE.1 hbm with e | e
     · subst e; exact Qq
     · exact h3 a ha b e
theorem rh (l:List (List Int)):∀ (out:List (List Int)),kb out→(out++l).Nodup→kb (l.foldl (fun out x=>sunk out.length (out++[x])) out)∧∀ y,y ∈ l.foldl (fun out x=>sunk out.length (out++[x])) out↔y ∈ out∨y ∈ l:=by
 induction l with
 | nil=>intro out hs _; exact ⟨hs,fun y=>by simp⟩
 | cons x l ih =>
   intro out hs hn;have hx:x ∉ out:=by
    intro h;rw [List.nodup_append] at hn;exact hn.2.2 x h x (by simp) rfl
   obtain ⟨h1,h2⟩:=B6O out.length out [] x rfl (by simpa using hs) (by simp) hx
   have AE:(sunk out.length (out++[x])++l).Nodup:=by
    have:(sunk out.length (out++[x])++l).Perm (out++x::l):=by
     refine (h2.append_right l).trans ?_;simp
    exact this.nodup_iff.2 hn
   obtain ⟨h3,h4⟩:=ih (sunk out.length (out++[x])) h1 AE;simp only [gv];refine ⟨h3,fun y=>?_⟩
   rw [h4 y,h2.mem_iff];simp [or_assoc]
theorem gu {v:List Int} {y:Int} (h:y ∈ v):v[A0t v y]?=some y:=by
 have h2:=UY (· == y) v 0;have h3:v.any (· == y)=true:=by simp [h]
 rw [h3] at h2;unfold A0t;cases hk:idx (· == y) v 0 with
 | none=>rw [hk] at h2; cases h2
 | some k =>
   obtain ⟨_,_,⟨h4,h5⟩,_⟩:=UX hk;simp only [gy] at h4 h5;simp only [bK];rw [ah h4];simpa using h5
theorem kV {v:List Int} (ha:asc v=true) {i j:Nat} (hi:i < v.length) (hj:j < v.length) (h:v[i]=v[j]):i=j:=by
 rcases Nat.lt_trichotomy i j with eF | he | Ld
 · have:=jD ha eF hj; omega
 · exact he
 · have:=jD ha Ld hi; omega
theorem U0 (v:List Int) (i:Nat):∀ (e:List Int) (b:Nat),(bitsFrom v b e).testBit i=(b.testBit i || e.any fun y=>A0t v y == i)
 | [],b=>by simp [bitsFrom]
 | y::e,b=>by
   have:=U0 v i e (b ||| 1 <<< A0t v y)
   simp only [bitsFrom,gv] at this ⊢;rw [this,fp,lL,iB]
   have:decide (i=A0t v y)=(A0t v y == i):=by
    apply de.2; simp; exact eq_comm
   rw [this,Bool.or_assoc]
theorem rk {v e:List Int} (ha:asc v=true) (he:∀ y ∈ e,y ∈ v) (i:Nat) (hi:i < v.length):(A2v v e).testBit i=e.contains v[i]:=by
 unfold A2v;rw [U0,eX,jH];apply de.2;rw [fY,a8];constructor
 · rintro ⟨y,hy,hp⟩;simp only [beq_iff_eq] at hp
   have:=gu (he y hy)
   rw [hp,ah hi] at this;rw [Option.some.inj this]; exact hy
 · intro hm;refine ⟨v[i],hm,?_⟩
   have:=gu (he _ hm)
   obtain ⟨h1,h2⟩:=aF.1 this;simp only [beq_iff_eq];exact kV ha h1 hi h2
theorem ur {v e:List Int} (he:∀ y ∈ e,y ∈ v) (i:Nat) (hi:v.length ≤ i):(A2v v e).testBit i=false:=by
 unfold A2v;rw [U0,eX,jH,gC];intro y hy
 have:=iV (he y hy)
 simp; omega
theorem lh {v:List Int} {s:Nat} {y:Int}:y ∈ idsP v s↔∃ i,∃ h:i < v.length,v[i]=y∧s.testBit i=true:=by
 unfold idsP;simp only [bj,cf,Prod.exists,exists_and_right,exists_eq_right];constructor
 · rintro ⟨i,h1,h2⟩;rw [iw] at h1;simp only at h1;obtain ⟨h3,h4⟩:=aF.1 h1;exact ⟨i,⟨h3,h4⟩,h2⟩
 · rintro ⟨i,⟨h,h1⟩,h2⟩;exact ⟨i,by rw [iw]; simp [h,h1],h2⟩
theorem uu {v:List Int} (ha:asc v=true) {s i:Nat} (hi:i < v.length):(idsP v s).contains v[i]=s.testBit i:=by
 apply de.2;rw [a8,lh];constructor
 · rintro ⟨j,hj,h1,h2⟩;rw [← kV ha hj hi h1]; exact h2
 · intro h; exact ⟨i,hi,rfl,h⟩
def FI:List Int→Nat→Nat→List Int
 | [],_,_=>[]
 | x::r,o,s=>if s.testBit o then x::FI r (o + 1) s else FI r (o + 1) s
theorem U1 (s:Nat):∀ (v:List Int) (o:Nat),((v.zipIdx o).filter fun x=>s.testBit x.2).map (·.1)=FI v o s
 | [],_=>rfl
 | x::r,o=>by
   simp only [jh,FI];cases h:s.testBit o with
   | true=>simp [h,U1 s r (o + 1)]
   | false=>simp [h,U1 s r (o + 1)]
theorem D4D (v:List Int) (s:Nat):idsP v s=FI v 0 s:=U1 s v 0
theorem U2 (s:Nat):∀ (v:List Int) (o:Nat),(FI v o s).Sublist v
 | [],_=>List.Sublist.refl _
 | x::r,o=>by
   simp only [FI];split
   · exact (U2 s r (o + 1)).cons_cons x
   · exact (U2 s r (o + 1)).cons x
theorem fA {l:List Int}:asc l=true↔l.Pairwise (· < ·):=by
 constructor
 · intro h;rw [dE];intro i j hi hj gL;exact jD h gL hj
 · intro h;rw [dE] at h
   have:∀ i (h:i + 1 < l.length),l[i] < l[i + 1]:=fun i hi=>h i (i + 1) (by omega) hi (by omega)
   clear h
   induction l with
   | nil=>rfl
   | cons x l ih =>
     cases l with
     | nil=>rfl
     | cons y l =>
       simp only [asc,aj,decide_eq_true_eq];exact ⟨this 0 (by simp),ih fun i hi=>this (i + 1) (by simpa using hi)⟩
theorem l4 {v:List Int} (ha:asc v=true) (s:Nat):asc (idsP v s)=true:=by
 rw [D4D,fA];exact (fA.1 ha).sublist (U2 s v 0)
theorem within_iff {a b:List Int}:A0G a b=true↔∀ y ∈ a,y ∈ b:=by
 unfold A0G;rw [bB];simp
structure Le (v:List Int) (es:List (List Int)):Prop where
 av:asc v=true
 qQ:∀ e ∈ es,∀ y ∈ e,y ∈ v
 ne:∀ e ∈ es,e ≠ []
section
variable {v:List Int} {es:List (List Int)} (G:Le v es)
include G
end
set_option linter.unusedSectionVars false
def first (s t:Nat):Prop:=∃ i,s.testBit i=true∧t.testBit i=false∧∀ j,j < i→s.testBit j=t.testBit j
section
variable {v:List Int} {es:List (List Int)} (G:Le v es)
include G
end
def A4 (ls:List (List Int)):List (List Int):=(ls.zipIdx.filter fun x=>A7L ls x.2 x.1).map (·.1)
theorem C7k (ls:List (List Int)):A5w ls=(A4 ls).foldl (fun out x=>sunk out.length (out++[x])) []:=by
 unfold A5w A4
 suffices ∀ (r:List (List Int)) (i:Nat) (a:List (List Int)),A4G ls r i a=(((r.zipIdx i).filter fun x=>A7L ls x.2 x.1).map (·.1)).foldl (fun out x=>sunk out.length (out++[x])) a from this ls 0 []
 intro r
 induction r with
 | nil=>intro i a; rfl
 | cons x r ih =>
   intro i a;simp only [A4G,jh,ih,A32];cases hk:A7L ls i x with
   | true=>rw [List.filter_cons_of_pos (by simpa using hk)]; rfl
   | false=>rw [List.filter_cons_of_neg (by simp [hk])]; rfl
theorem mB:∀ {a b:List Int},a.Pairwise (· < ·)→b.Pairwise (· < ·)→(∀ x,x ∈ a↔x ∈ b)→a=b
 | [],[],_,_,_=>rfl
 | [],y::m,_,_,h=>by have:=(h y).2 (by simp); simp at this
 | x::l,[],_,_,h=>by have:=(h x).1 (by simp); simp at this
 | x::l,y::m,hl,hm,h=>by
   rw [bN] at hl hm;have vq:x=y:=by
    apply bZ;intro eA;have h1:x ∈ m:=by
     rcases aE.1 ((h x).1 (by simp)) with e | e
     · exact absurd e eA
     · exact e
    have h2:y ∈ l:=by
     rcases aE.1 ((h y).2 (by simp)) with e | e
     · exact absurd e.symm eA
     · exact e
    have:=hl.1 y h2
    have:=hm.1 x h1
    omega
   subst vq;congr 1;refine mB hl.2 hm.2 fun z=>?_
   constructor
   · intro hz;rcases aE.1 ((h z).1 (by simp [hz])) with e | e
     · subst e; have:=hl.1 z hz; omega
     · exact e
   · intro hz;rcases aE.1 ((h z).2 (by simp [hz])) with e | e
     · subst e; have:=hm.1 z hz; omega
     · exact e
theorem mC:∀ {b a:List Int},a.Pairwise (· < ·)→b.Pairwise (· < ·)→(∀ x ∈ a,x ∈ b)→a.Sublist b
 | [],[],_,_,_=>List.Sublist.refl _
 | [],x::a,_,_,h=>by have:=h x (by simp); simp at this
 | y::b,[],_,_,_=>List.nil_sublist _
 | y::b,x::a,ha,hb,h=>by
   have ha':=ha;rw [bN] at ha hb;by_cases vq:x=y
   · subst vq;refine (mC ha.2 hb.2 fun z hz=>?_).cons_cons x
     rcases aE.1 (h z (by simp [hz])) with e | e
     · subst e; have:=ha.1 z hz; omega
     · exact e
   · have hx:x ∈ b:=by
      rcases aE.1 (h x (by simp)) with e | e
      · exact absurd e vq
      · exact e
     have X8:=hb.1 x hx;refine (mC ha' hb.2 fun z hz=>?_).cons y
     rcases aE.1 (h z hz) with e | e
     · subst e;rcases aE.1 hz with e | e
       · omega
       · have:=ha.1 z e; omega
     · exact e
theorem C8Y {a b:List Int} (ha:asc a=true) (hb:asc b=true) (h:A0G a b=true) (hl:b.length ≤ a.length):a=b:=by
 rw [fA] at ha hb;rw [within_iff] at h;exact (mC ha hb h).eq_of_length_le hl
theorem kW {α:Type} {l:List α} {x:α} {i:Nat}:(x,i) ∈ l.zipIdx↔∃ h:i < l.length,l[i]=x:=by
 rw [iw];simp only;rw [aF]
theorem C3Q {ls:List (List Int)} {i:Nat} {x:List Int} (h:A7L ls i x=true) {k:Nat} (hk:k < ls.length):A0G ls[k] x=true→x.length ≤ ls[k].length∧i ≤ k:=by
 intro hw;unfold A7L at h;rw [bB] at h
 have:=h (ls[k],k) (kW.2 ⟨hk,rfl⟩)
 simp only [hw,ej,ec,Bool.or_eq_false_iff,decide_eq_false_iff_not] at this;omega
theorem C1n {ls:List (List Int)} (qi:∀ e ∈ ls,asc e=true) {i j:Nat} (hi:i < ls.length) (hj:j < ls.length) (ki:A7L ls i ls[i]=true) (kj:A7L ls j ls[j]=true) (hw:A0G ls[j] ls[i]=true):i=j:=by
 have h1:=C3Q ki hj hw;have he:=C8Y (qi _ (by simp)) (qi _ (by simp)) hw h1.1
 have h2:=C3Q kj hi (by rw [he]; exact within_iff.2 fun _ h=>h)
 omega
theorem U3 {ls:List (List Int)} (qi:∀ e ∈ ls,asc e=true):(A4 ls).Pairwise fun a b=>A0G a b=false∧A0G b a=false:=by
 unfold A4;rw [ed];refine List.Pairwise.imp_of_mem (R:=fun a b=>a.2 ≠ b.2) ?_ (List.Pairwise.filter _ ?_)
 · rintro ⟨a,i⟩ ⟨b,j⟩ ha hb eA;rw [cf] at ha hb;obtain ⟨hi,rfl⟩:=kW.1 ha.1;obtain ⟨hj,rfl⟩:=kW.1 hb.1;simp only at ha hb eA ⊢;constructor
   · cases hw:A0G ls[i] ls[j] with
     | false=>rfl
     | true=>exact absurd (C1n qi hj hi hb.2 ha.2 hw).symm eA
   · cases hw:A0G ls[j] ls[i] with
     | false=>rfl
     | true=>exact absurd (C1n qi hi hj ha.2 hb.2 hw) eA
 · rw [dE];intro i j hi hj gL;simp;omega
theorem C4H (a:List Int):A0G a a=true:=within_iff.2 fun _ h=>h
theorem U4 {ls:List (List Int)} (qi:∀ e ∈ ls,asc e=true):kb (A5w ls)∧∀ y,y ∈ A5w ls↔y ∈ A4 ls:=by
 rw [C7k];have hn:(A4 ls).Nodup:=(U3 qi).imp fun h e=>by
  subst e;rw [C4H] at h; cases h.1
 obtain ⟨h1,h2⟩:=rh (A4 ls) [] (by simp) (by simpa using hn)
 exact ⟨h1,fun y=>by rw [h2 y]; simp⟩
theorem C8Z {ls:List (List Int)} {y:List Int} (h:y ∈ A4 ls):y ∈ ls:=by
 unfold A4 at h;rw [bj] at h;obtain ⟨⟨x,i⟩,h1,rfl⟩:=h;rw [cf] at h1;obtain ⟨hi,rfl⟩:=kW.1 h1.1;simp
theorem C7l {ls:List (List Int)} (qi:∀ e ∈ ls,asc e=true) {a b:List Int} (ha:a ∈ A5w ls) (hb:b ∈ A5w ls) (hw:A0G a b=true):a=b:=by
 rw [(U4 qi).2] at ha hb;apply bZ;intro eA;rcases List.Pairwise.forall_of_forall_of_flip (R:=fun a b=>a ≠ b→A0G a b=false) (l:=A4 ls) (by intro x _ h; exact absurd rfl h) ((U3 qi).imp fun h _=>h.1) ((U3 qi).imp fun h _=>h.2) ha hb with h
 rw [h eA] at hw; cases hw
theorem C3R (ls:List (List Int)):(A5w ls).length ≤ ls.length:=by
 unfold A5w
 suffices ∀ (r:List (List Int)) (i:Nat) (a:List (List Int)),(A4G ls r i a).length ≤ a.length + r.length by simpa using this ls 0 []
 intro r
 induction r with
 | nil=>intro i a; simp [A4G]
 | cons x r ih =>
   intro i a;simp only [A4G,List.length_cons]
   have:=ih (i + 1) (A32 ls i x a)
   have:=B7B ls i x a
   omega
theorem C80 {v:List Int} {es:List (List Int)} (G:Le v es) (he:∀ e ∈ es,asc e=true) (hl:es.length ≤ 20000) (hs:kb es) (Lf:∀ a ∈ es,∀ b ∈ es,A0G a b=true→a=b):A5x v es=true:=by
 unfold A5x;rw [G.av,ej];simp only [hl,decide_true,ej,aj,ec];constructor
 · rw [gC];rintro ⟨e,i⟩ hm;obtain ⟨hi,rfl⟩:=kW.1 hm;simp only [ec,Bool.not_eq_false];unfold A9Q;have h1:es[i].isEmpty=false:=by
    have:=G.ne es[i] (by simp)
    simpa using this
   have h2:A0G es[i] v=true:=within_iff.2 (G.qQ _ (by simp))
   rw [h1,he _ (by simp),h2]
   cases i with
   | zero=>rfl
   | succ i =>
     have e:es.getD (i + 1 - 1) []=es[i]:=by simp [List.getD,show i < es.length by omega]
     rw [e,nq,dE.1 hs i (i + 1) (by omega) hi (by omega)]
     rfl
 · rw [gC];rintro ⟨e,i⟩ hm;obtain ⟨hi,rfl⟩:=kW.1 hm;simp only [fZ];unfold A9j;rw [gC];rintro ⟨y,k⟩ HI;obtain ⟨hk,rfl⟩:=kW.1 HI;simp only [aj,bne_iff_ne,ne_eq,not_and];intro eA hw
   have:=Lf _ (by simp) _ (by simp) hw
   rcases Nat.lt_or_gt_of_ne eA with h | h
   · have h2:=dE.1 hs k i hk hi h;rw [this,HH] at h2; cases h2
   · have h2:=dE.1 hs i k hi hk h;rw [this,HH] at h2; cases h2
theorem C1o (n:Nat):asc (A06 n)=true:=by
 rw [fA];unfold A06;rw [ed];exact List.pairwise_lt_range.imp fun h=>by omega
theorem C3S (V:List Int) (s:Nat):(pick V s).Sublist V:=by
 unfold pick;have h1:(((V.take 8).zipIdx.filter fun x=>s.testBit x.2).map (·.1)).Sublist ((V.take 8).zipIdx.map (·.1)):=List.filter_sublist.map _
 rw [List.zipIdx_map_fst] at h1;exact h1.trans (List.take_sublist 8 V)
theorem oD {V:List Int} {E:List Nat} {e:List Int} (h:e ∈ A6U V E):e ≠ []∧∃ s,e=pick V s:=by
 unfold A6U at h;rw [cf,bj] at h;obtain ⟨⟨s,_,rfl⟩,h2⟩:=h;exact ⟨by simpa using h2,s,rfl⟩
section
variable (N:Nat) (E:List Nat)
theorem mY:∀ e ∈ A6U (A06 (N % 9)) E,asc e=true:=by
 intro e he;obtain ⟨_,s,rfl⟩:=oD he;exact fA.2 ((fA.1 (C1o _)).sublist (C3S _ _))
theorem pN {e:List Int} (h:e ∈ hEs N E):e ∈ A6U (A06 (N % 9)) E:=by
 unfold hEs at h;rw [(U4 (mY N E)).2] at h;exact C8Z h
theorem Dy:Le (A06 (N % 9)) (hEs N E) where
 av:=C1o _
 qQ:=fun e he y hy=>by
  obtain ⟨_,s,rfl⟩:=oD (pN N E he);exact (C3S _ _).subset hy
 ne:=fun e he=>(oD (pN N E he)).1
theorem pO:(A6U (A06 (N % 9)) E).length ≤ 12:=by
 unfold A6U;refine du (dt _ _) ?_;simp; omega
theorem pe:(hEs N E).length ≤ 12:=du (C3R _) (pO N E)
theorem xx:A5x (A06 (N % 9)) (hEs N E)=true:=by
 refine C80 (Dy N E) (fun e he=>mY N E e (pN N E he)) (by have:=pe N E; omega) (U4 (mY N E)).1 ?_
 intro a ha b hb hw;exact C7l (mY N E) ha hb hw
end
def grow (E:List Nat) (s u:Nat):Nat:=if C3O E (s ||| 1 <<< u) then s else s ||| 1 <<< u
end Go.Hg
namespace Go.Hg
abbrev PrV:=List (Int×Int)
def nbB (es:List (List Int)) (a b:Int):Bool:=decide (a ≠ b) && es.contains [min a b,max a b]
def A5Z (es:List (List Int)) (a:Int):Bool:=es.contains [a]
def A4z (p:PrV) (a b:Int):Bool:=p.contains (a,b)
def A2R (p:PrV) (l:List Int) (x:Int):Bool:=!(l.any fun y=>A4z p y x)
def A09 (v:List Int) (es:List (List Int)):List Int:=v.filter fun x=>!A5Z es x
def A2w (es:List (List Int)) (rest:List Int) (x:Int):List Int:=rest.filter fun y=>decide (y ≠ x) && !nbB es y x
theorem n9 (es:List (List Int)) (a b:Int):nbB es a b=nbB es b a:=by
 unfold nbB;rw [Int.min_comm,Int.max_comm];by_cases h:a=b <;> simp [h,eq_comm]
theorem qj {p:PrV} {l:List Int} {x:Int}:A2R p l x=true↔∀ y ∈ l,A4z p y x=false:=by
 unfold A2R; simp
theorem fF {es:List (List Int)} {rest:List Int} {x y:Int}:y ∈ A2w es rest x↔y ∈ rest∧y ≠ x∧nbB es y x=false:=by
 unfold A2w; simp
theorem C4I (es:List (List Int)) (rest:List Int) (x y:Int):A2w es (A2w es rest x) y=A2w es (A2w es rest y) x:=by
 unfold A2w;rw [jR,jR];congr 1; funext z; rw [Bool.and_comm]
theorem C1p {p:PrV} {l m:List Int} {x:Int} (h:∀ y ∈ m,y ∈ l) (hb:A2R p l x=true):A2R p m x=true:=by
 rw [qj] at hb ⊢; exact fun y hy=>hb y (h y hy)
theorem lR {es:List (List Int)} {rest:List Int} {x:Int} (h:x ∈ rest):(A2w es rest x).length < rest.length:=by
 unfold A2w;refine Nat.lt_of_le_of_ne (dt _ _) fun e=>?_
 have:=List.length_filter_eq_length_iff.1 e x h
 simp at this
inductive Run (es:List (List Int)) (p:PrV):List Int→List Int→Prop
 | nil:Run es p [] []
 | cons {rest ks:List Int} {x:Int}:x ∈ rest→A2R p rest x=true→Run es p (A2w es rest x) ks→Run es p rest (x::ks)
section
variable {es:List (List Int)} {p:PrV}
theorem C3T {r:List Int} (hi:∀ a ∈ r,∀ b ∈ r,nbB es a b=false):∀ {ks rest:List Int},Run es p rest ks→(∀ k ∈ ks,k ∈ r)→∀ x,x ∈ rest→x ∈ r→A2R p rest x=true→∃ HJ,Run es p (A2w es rest x) HJ∧∀ k ∈ HJ,k ∈ r
 | [],rest,h,hr,x,hx,O8,hb=>by cases h; cases hx
 | y::ks,rest,h,hr,x,hx,O8,hb=>by
   cases h with
   | cons hy hby h =>
     by_cases e:y=x
     · subst e;exact ⟨ks,h,fun k hk=>hr k (bC _ hk)⟩
     · have U5:=hr y dO;obtain ⟨HJ,h1,h2⟩:=C3T hi h (fun k hk=>hr k (bC _ hk)) x (fF.2 ⟨hx,fun e'=>e e'.symm,hi x O8 y U5⟩) O8
        (C1p (fun z hz=>(fF.1 hz).1) hb)
       refine ⟨y::HJ,.cons (fF.2 ⟨hy,e,hi y U5 x O8⟩) (C1p (fun z hz=>(fF.1 hz).1) hby) (C4I es rest x y ▸ h1),?_⟩
       intro k hk;rcases aE.1 hk with rfl | hk
       · exact U5
       · exact h2 k hk
theorem Run.sub:∀ {ks rest:List Int},Run es p rest ks→∀ k ∈ ks,k ∈ rest
 | [],_,_,k,hk=>by cases hk
 | y::ks,rest,h,k,hk=>by
   cases h with
   | cons hy hb h =>
     rcases aE.1 hk with rfl | hk
     · exact hy
     · exact (fF.1 (Run.sub h k hk)).1
theorem Run.ind:∀ {ks rest:List Int},Run es p rest ks→∀ a ∈ ks,∀ b ∈ ks,nbB es a b=false
 | [],_,_,k,hk=>by cases hk
 | y::ks,rest,h,a,ha=>by
   intro b jr;cases h with
   | cons hy hb h =>
     rcases aE.1 ha with ea | Cl
     · rcases aE.1 jr with eb | nY
       · subst ea; subst eb; simp [nbB]
       · subst ea; rw [n9]; exact (fF.1 (Run.sub h b nY)).2.2
     · rcases aE.1 jr with eb | nY
       · subst eb; exact (fF.1 (Run.sub h a Cl)).2.2
       · exact Run.ind h a Cl b nY
theorem Run.Lg:∀ {ks rest:List Int},Run es p rest ks→∀ y ∈ rest,y ∉ ks→∃ k ∈ ks,nbB es y k=true
 | [],rest,h,y,hy=>by cases h; cases hy
 | x::ks,rest,h,y,hy=>by
   intro hn;cases h with
   | cons hx hb h =>
     have h1:y ≠ x:=fun e=>hn (e ▸ dO)
     cases hc:nbB es y x with
     | true=>exact ⟨x,dO,hc⟩
     | false =>
       obtain ⟨k,hk,e⟩:=Run.Lg h y (fF.2 ⟨hy,h1,hc⟩) (fun hh=>hn (bC _ hh))
       exact ⟨k,bC _ hk,e⟩
def pickL (p:PrV) (r rest:List Int):Option Int:=rest.find? fun x=>r.contains x && A2R p rest x
def gRun (es:List (List Int)) (p:PrV) (r:List Int):Nat→List Int→List Int×Bool
 | 0,rest=>([],rest.isEmpty)
 | n + 1,rest=>match pickL p r rest with
   | some x=>let q:=gRun es p r n (A2w es rest x); (x::q.1,q.2)
   | none=>([],rest.isEmpty)
theorem nr {r rest:List Int} {x:Int} (h:pickL p r rest=some x):x ∈ rest∧x ∈ r∧A2R p rest x=true:=by
 have h1:=List.mem_of_find?_eq_some h;have h2:=List.find?_some h;simp only [aj,a8] at h2;exact ⟨h1,h2.1,h2.2⟩
theorem B9a {r rest:List Int} (h:pickL p r rest=none):∀ x ∈ rest,x ∈ r→A2R p rest x=false:=by
 intro x hx hr
 have:=List.find?_eq_none.1 h x hx
 simp only [aj,a8,not_and,fZ] at this;exact this hr
theorem s7 (r:List Int):∀ (n:Nat) (rest:List Int),(gRun es p r n rest).2=true→Run es p rest (gRun es p r n rest).1∧∀ k ∈ (gRun es p r n rest).1,k ∈ r
 | 0,rest,h=>by
   simp only [gRun,eC] at h ⊢;subst h; exact ⟨.nil,fun k hk=>by cases hk⟩
 | n + 1,rest,h=>by
   simp only [gRun] at h ⊢;cases hp:pickL p r rest with
   | none =>
     simp only [hp,eC] at h ⊢;subst h; exact ⟨.nil,fun k hk=>by cases hk⟩
   | some x =>
     simp only [hp] at h ⊢;obtain ⟨h1,h2,h3⟩:=nr hp;obtain ⟨h4,h5⟩:=s7 r n _ h;refine ⟨.cons h1 h3 h4,fun k hk=>?_⟩
     rcases aE.1 hk with rfl | hk
     · exact h2
     · exact h5 k hk
theorem oU {r:List Int} (hi:∀ a ∈ r,∀ b ∈ r,nbB es a b=false):∀ (n:Nat) (rest ks:List Int),rest.length ≤ n→Run es p rest ks→(∀ k ∈ ks,k ∈ r)→(gRun es p r n rest).2=true
 | 0,rest,ks,hn,h,hk=>by
   simp only [gRun,eC];exact dA.1 (by omega)
 | n + 1,rest,ks,hn,h,hk=>by
   simp only [gRun];cases hp:pickL p r rest with
   | none =>
     simp only [eC];cases h with
     | nil=>rfl
     | cons hy hb h =>
       have:=B9a hp _ hy (hk _ dO)
       rw [this] at hb; cases hb
   | some x =>
     simp only;obtain ⟨h1,h2,h3⟩:=nr hp;obtain ⟨HJ,h4,h5⟩:=C3T hi h hk x h1 h2 h3;exact oU hi n _ HJ (by have:=lR (es:=es) h1; omega) h4 h5
theorem rl {r:List Int} (ha:∀ rest:List Int,rest ≠ []→∃ x ∈ rest,A2R p rest x=true):∀ (n:Nat) (rest:List Int),rest.length ≤ n→(∀ x ∈ rest,x ∈ r)→(gRun es p r n rest).2=true
 | 0,rest,hn,h=>by
   simp only [gRun,eC];exact dA.1 (by omega)
 | n + 1,rest,hn,h=>by
   simp only [gRun];cases hp:pickL p r rest with
   | none =>
     simp only [eC];by_cases e:rest=[]
     · exact e
     · obtain ⟨x,hx,hb⟩:=ha rest e;rw [B9a hp x hx (h x hx)] at hb; cases hb
   | some x =>
     simp only;obtain ⟨h1,h2,h3⟩:=nr hp;exact rl ha n _ (by have:=lR (es:=es) h1; omega) (fun y hy=>h y (fF.1 hy).1)
def Acy (p:PrV):Prop:=∃ f:Int→Nat,∀ q ∈ p,f q.1 < f q.2
theorem uv (h:Acy p):∀ rest:List Int,rest ≠ []→∃ x ∈ rest,A2R p rest x=true:=by
 obtain ⟨f,hf⟩:=h;intro rest eA
 have:∀ l:List Int,l ≠ []→∃ x ∈ l,∀ y ∈ l,f x ≤ f y:=by
  intro l
  induction l with
  | nil=>intro h; exact absurd rfl h
  | cons a l ih =>
    intro _;by_cases e:l=[]
    · subst e; exact ⟨a,dO,fun y hy=>by simp at hy; subst hy; exact ar _⟩
    · obtain ⟨x,hx,hm⟩:=ih e;by_cases hc:f a ≤ f x
      · refine ⟨a,dO,fun y hy=>?_⟩
        rcases aE.1 hy with rfl | hy
        · exact ar _
        · exact du hc (hm y hy)
      · refine ⟨x,bC _ hx,fun y hy=>?_⟩
        rcases aE.1 hy with rfl | hy
        · omega
        · exact hm y hy
 obtain ⟨x,hx,hm⟩:=this rest eA;refine ⟨x,hx,qj.2 fun y hy=>?_⟩
 cases hb:A4z p y x with
 | false=>rfl
 | true =>
   have h1:=hf _ (a8.1 hb);have h2:=hm y hy;simp only at h1; omega
end
structure Gr (v:List Int) (es:List (List Int)):Prop where
 l5:Le v es
 asc:∀ e ∈ es,Go.Hg.asc e=true
 two:∀ e ∈ es,e.length ≤ 2
structure Rep (v:List Int) (es:List (List Int)) (l:List Int):Prop where
 asc:asc l=true
 sub:∀ x ∈ l,x ∈ v
 own:∀ x ∈ l,A5Z es x=false
 ind:∀ a ∈ l,∀ b ∈ l,nbB es a b=false
 Lg:∀ x ∈ v,x ∉ l→A5Z es x=false→∃ y ∈ l,nbB es x y=true
section
variable {v:List Int} {es:List (List Int)}
theorem Gr.cases (G:Gr v es) {e:List Int} (he:e ∈ es):(∃ a,e=[a]∧A5Z es a=true)∨∃ a b,e=[a,b]∧a < b∧nbB es a b=true:=by
 have h1:=G.l5.ne e he;have h2:=G.two e he;have h3:=G.asc e he
 match e,h1,h2,h3 with
 | [],h,_,_=>exact absurd rfl h
 | [a],_,_,_=>exact .inl ⟨a,rfl,a8.2 he⟩
 | [a,b],_,_,h =>
   have qO:a < b:=by simpa [Go.Hg.asc] using h
   exact .inr ⟨a,b,rfl,qO,by
    unfold nbB;rw [nL (by omega),m7 (by omega)]
    simp only [aj,decide_eq_true_eq];exact ⟨by omega,a8.2 he⟩⟩
 | _::_::_::_,_,h,_=>exact absurd h (by simp)
theorem Gr.free (G:Gr v es) {l:List Int}:free es l=true↔(∀ x ∈ l,A5Z es x=false)∧∀ a ∈ l,∀ b ∈ l,nbB es a b=false:=by
 unfold Go.Hg.free;constructor
 · intro h;have hn:∀ e ∈ es,¬ (∀ y ∈ e,y ∈ l):=by
    intro e he hw
    have:(es.any fun e=>A0G e l)=true:=fY.2 ⟨e,he,within_iff.2 hw⟩
    rw [this] at h; cases h
   refine ⟨fun x hx=>?_,fun a ha b hb=>?_⟩
   · cases hc:A5Z es x with
     | false=>rfl
     | true=>exact absurd (fun y hy=>by simp at hy; subst hy; exact hx) (hn _ (a8.1 hc))
   · cases hc:nbB es a b with
     | false=>rfl
     | true =>
       unfold nbB at hc;simp only [aj] at hc;refine absurd (fun y hy=>?_) (hn _ (a8.1 hc.2))
       simp only [aE,m8,or_false] at hy;rcases hy with rfl | rfl
       · rcases Int.le_total a b with h | h
         · rw [nL h]; exact ha
         · rw [Int.min_eq_right h]; exact hb
       · rcases Int.le_total a b with h | h
         · rw [m7 h]; exact hb
         · rw [Int.max_eq_left h]; exact ha
 · rintro ⟨h1,h2⟩;cases hc:(es.any fun e=>A0G e l) with
   | false=>rfl
   | true =>
     obtain ⟨e,he,hw⟩:=fY.1 hc;have hw:=within_iff.1 hw;rcases G.cases he with ⟨a,rfl,ho⟩ | ⟨a,b,rfl,qO,hn⟩
     · rw [h1 a (hw a (by simp))] at ho; cases ho
     · rw [h2 a (hw a (by simp)) b (hw b (by simp))] at hn; cases hn
theorem oa (G:Gr v es) {l:List Int}:A1E v es l=true↔Rep v es l:=by
 unfold A1E A6T;simp only [aj,bB,cr,ec,a8];constructor
 · rintro ⟨⟨⟨h1,h2⟩,h3⟩,h4⟩;obtain ⟨f1,f2⟩:=G.free.1 h3;refine ⟨h1,within_iff.1 h2,f1,f2,fun x hx hn ho=>?_⟩
   rcases h4 x hx with h | h
   · exact absurd h hn
   · refine bZ fun hc=>?_
     have w7:∀ y ∈ l,nbB es x y=false:=fun y hy=>by
      cases e:nbB es x y with
      | false=>rfl
      | true=>exact absurd ⟨y,hy,e⟩ hc
     have:free es (l++[x])=true:=by
      refine G.free.2 ⟨fun z hz=>?_,fun a ha b hb=>?_⟩
      · rcases ay.1 hz with hz | hz
        · exact f1 z hz
        · simp at hz; subst hz; exact ho
      · rcases ay.1 ha with Cl | Cl
        · rcases ay.1 hb with nY | nY
          · exact f2 a Cl b nY
          · have eb:b=x:=by simpa using nY
            rw [eb,n9]; exact w7 a Cl
        · have ea:a=x:=by simpa using Cl
          rcases ay.1 hb with nY | nY
          · rw [ea]; exact w7 b nY
          · have eb:b=x:=by simpa using nY
            rw [ea,eb]; simp [nbB]
     rw [this] at h; cases h
 · intro R;refine ⟨⟨⟨R.asc,within_iff.2 R.sub⟩,G.free.2 ⟨R.own,R.ind⟩⟩,fun x hx=>?_⟩
   by_cases hm:x ∈ l
   · exact .inl hm
   · refine .inr ?_;cases hf:free es (l++[x]) with
     | false=>rfl
     | true =>
       obtain ⟨f1,f2⟩:=G.free.1 hf;obtain ⟨y,hy,e⟩:=R.Lg x hx hm (f1 x (by simp))
       rw [f2 x (by simp) y (by simp [hy])] at e; cases e
theorem Cm {p:PrV} {ks l:List Int} (h:Run es p (A09 v es) ks) (ha:asc l=true) (hm:∀ x,x ∈ l↔x ∈ ks):Rep v es l where
 asc:=ha
 sub:=fun x hx=>(cf.1 (h.sub x ((hm x).1 hx))).1
 own:=fun x hx=>by have:=(cf.1 (h.sub x ((hm x).1 hx))).2; simpa using this
 ind:=fun a ha b hb=>h.ind a ((hm a).1 ha) b ((hm b).1 hb)
 Lg:=fun x hx hn ho=>by
  obtain ⟨k,hk,e⟩:=h.Lg x (cf.2 ⟨hx,by simp [ho]⟩) (fun hh=>hn ((hm x).2 hh))
  exact ⟨k,(hm k).2 hk,e⟩
def C7m (p:PrV) (r s:List Int):Prop:=(∀ x ∈ r,x ∉ s→∃ y ∈ s,y ∉ r∧A4z p y x=true)∧∃ y ∈ s,y ∉ r
def C7n (p:PrV) (r s:List Int):Prop:=∃ y ∈ s,y ∉ r∧∀ x ∈ r,x ∉ s→A4z p y x=true
end
end Go.Hg
namespace Go.Mid
theorem FJ {k:IntKind} (hk:k.signed=false) {n:Nat} (h:n < 2 ^ k.bits):k.wrap (n:Int)=(n:Int):=by
 cases k <;> first | exact absurd hk (by decide) | (simp only [hO,gx,fh] at h ⊢; simp; omega)
theorem HK (w m:Nat):b8 w (m:Int)=BitVec.ofNat w m:=by simp
theorem Lh {k:IntKind} (hk:k.signed=false) {m n:Nat} (hm:m < 2 ^ k.bits) (hn:n < 2 ^ k.bits):pc k (m:Int) (n:Int)=((m &&& n:Nat):Int):=by
 unfold pc;rw [HK,HK,BitVec.toNat_and,ie,ie,eU hm,eU hn];exact FJ hk (ez Nat.and_le_left hm)
theorem FK {k:IntKind} (hk:k.signed=false) {m n:Nat} (hm:m < 2 ^ k.bits) (hn:n < 2 ^ k.bits):sW k (m:Int) (n:Int)=((m ||| n:Nat):Int):=by
 unfold sW;rw [HK,HK,BitVec.toNat_or,ie,ie,eU hm,eU hn];exact FJ hk (fD hm hn)
theorem U6 {w m n:Nat} (hm:m < 2 ^ w):Go.Hg.less m n < 2 ^ w:=Nat.lt_pow_two_of_testBit _ fun i hi=>by
 rw [Go.Hg.pM,fP (bp hm (eD (by decide) hi))]; rfl
theorem C5J {k:IntKind} (hk:k.signed=false) {m n:Nat} (hm:m < 2 ^ k.bits) (hn:n < 2 ^ k.bits):AR k (m:Int) (n:Int)=((Go.Hg.less m n:Nat):Int):=by
 have h:(b8 k.bits (m:Int) &&& ~~~ b8 k.bits (n:Int)).toNat=Go.Hg.less m n:=by
  rw [HK,HK];apply jc;intro i;rw [BitVec.toNat_and,gw,Go.Hg.pM,ie,eU hm];by_cases hi:i < k.bits
  · congr 1;rw [← BitVec.getLsbD,BitVec.getLsbD_not];simp only [hi,decide_true,ej,BitVec.getLsbD_ofNat]
  · rw [fP (bp hm (eD (by decide) (by omega)))]
    rfl
 unfold AR;rw [h];exact FJ hk (U6 hm)
theorem D4E {k:IntKind} {m i:Nat} (hi:i ≤ k.bits):jJ k (m:Int) (i:Int)=((m >>> i:Nat):Int):=by
 unfold jJ;have e:min ((i:Int).toNat) k.bits=i:=by rw [az]; omega
 rw [e,Nat.shiftRight_eq_div_pow]
 have:((2:Int) ^ i)=((2 ^ i:Nat):Int):=by simp
 rw [this];exact Int.ofNat_fdiv m (2 ^ i) |>.symm
theorem D4F {k:IntKind} (hk:k.signed=false) {m i:Nat} (hi:i ≤ k.bits) (h:m <<< i < 2 ^ k.bits):qh k (m:Int) (i:Int)=((m <<< i:Nat):Int):=by
 unfold qh;have e:min ((i:Int).toNat) k.bits=i:=by rw [az]; omega
 rw [e]
 have:(m:Int) * 2 ^ i=((m <<< i:Nat):Int):=by rw [Nat.shiftLeft_eq]; simp
 rw [this];exact FJ hk h
theorem uX {i w:Nat} (h:i < w):1 <<< i < 2 ^ w:=by rw [mJ]; exact Nat.pow_lt_pow_right (by decide) h
theorem D4G {k:IntKind} (hk:k.signed=false) {m i:Nat} (hi:i ≤ k.bits) (h2:1 < k.bits) (hm:m < 2 ^ k.bits):pc k (jJ k (m:Int) (i:Int)) 1=if m.testBit i then 1 else 0:=by
 rw [D4E hi];have h1:m >>> i < 2 ^ k.bits:=ez (Nat.shiftRight_le m i) hm
 have:=Lh (k:=k) hk (m:=m >>> i) (n:=1) h1 (Nat.one_lt_two_pow (by omega))
 have h2:pc k ((m >>> i:Nat):Int) 1=(((m >>> i) &&& 1:Nat):Int):=this;rw [h2,C5I,Nat.testBit_shiftRight,dF];cases m.testBit i <;> rfl
end Go.Mid
namespace Go.Mid
open Go.Hg (asc A0G free A6T A1E)
theorem yh {n:Nat} (h:1 ≤ n) (h':n ≤ 9223372036854775807):af.wrap ((n:Int) - 1)=((n - 1:Nat):Int):=by rw [wrap_i64 (by omega) (by omega)]; omega
theorem C5K {l:List Int}:asc l=true↔∀ j (h:j + 1 < l.length),l[j] < l[j + 1]:=by
 constructor
 · intro h j hj;exact Go.Hg.jD h (kP j) hj
 · intro h
   induction l with
   | nil=>rfl
   | cons a r ih =>
     cases r with
     | nil=>rfl
     | cons b r =>
       simp only [asc,aj,decide_eq_true_eq];refine ⟨h 0 (by simp),ih fun j hj=>?_⟩
       have:=h (j + 1) (by simpa using hj)
       simpa only [fO] using this
theorem D0T {f:List Int×Int→Option (List Int×Int ⊕ Bool ⊕ PUnit)} (l:List Int)
 (hs:∀ i (h:i + 1 < l.length),f (l,((i + 1:Nat):Int))=if decide (l[i + 1] ≤ l[i]) then some (.inr (.inl false)) else some (.inl (l,((i + 2:Nat):Int))))
 (he:∀ i:Nat,l.length ≤ i→f (l,(i:Int))=some (.inr (.inr ()))) :
 ((dm f (l,(1:Int))).bind fun u=>Sum.elim (fun v=>some v) (fun _=>some true) u)=some (asc l):=by
 have key:=Kh (f:=f) l.tail (fun i=>(l,((i + 1:Nat):Int))) (fun i x=>decide (x ≤ l.getD i 0)) (fun _=>.inl false) (.inr ()) (fun i hi=>by
  have eN:i + 1 < l.length:=by rw [kQ] at hi; omega
  have e1:l.tail[i]=l[i + 1]:=by rw [mK]
  have e2:l.getD i 0=l[i]:=by rw [bh,ah (by omega)]; rfl
  rw [hs i eN,e1,e2]) (he _ (by rw [kQ]; omega))
 have key:dm f (l,(1:Int))=_:=key;rw [key];cases hf:rK (fun i x=>decide (x ≤ l.getD i 0)) l.tail 0 with
 | none =>
   rw [TY] at hf
   have:asc l=true:=C5K.2 fun j hj=>by
    have h1:=hf j (by rw [kQ]; omega)
    rw [mK,bR,bh,ah (by omega)] at h1
    simpa using h1
   rw [this]; rfl
 | some k =>
   obtain ⟨_,h2,⟨h3,h4⟩,_⟩:=TZ hf
   have:asc l=false:=by
    cases hc:asc l with
    | false=>rfl
    | true =>
      have hk:k + 1 < l.length:=by rw [kQ] at h2; omega
      have h5:=C5K.1 hc k hk;simp only [gy,mK,bh,ah (show k < l.length by omega),bK,decide_eq_true_eq] at h4
      omega
   rw [this]; rfl
theorem U7 {l:List Int} (hl:l.length ≤ 1000000):Hj l=some (asc l):=by
 unfold Hj;refine D0T l (fun i h=>?_) (fun i h=>?_)
 · have h':((i + 1:Nat):Int) < (l.length:Int):=by omega
   simp only [Uo,h',decide_true,cond_true,au,az,ah h,ai,yh (show 1 ≤ i + 1 by omega) (by omega),
    dP,ah (show i < l.length by omega),j5 (show i + 1 < 9223372036854775807 by omega)]
   by_cases c:l[i + 1] ≤ l[i]
   · simp only [c,decide_true,cond_true,if_true]
   · simp only [c,decide_false,cond_false,aI,if_false]
 · have h':¬ ((i:Int) < (l.length:Int)):=by omega
   simp only [Uo,h',decide_false,cond_false]
theorem D0U {n:Nat} (h:n < 9223372036854775808):af.wrap (jJ .u64 (aG.wrap (af.wrap (n:Int))) 1)=((n / 2:Nat):Int):=by
 have e1:af.wrap (n:Int)=n:=Og (by omega)
 have e2:aG.wrap (n:Int)=n:=by simp only [hO,gx,fh]; simp; omega
 have e3:jJ .u64 (n:Int) 1=(n:Int).fdiv 2:=rfl;rw [e1,e2,e3,Int.fdiv_eq_ediv_of_nonneg _ (by omega),show ((n:Int) / 2)=((n / 2:Nat):Int) by omega,Og (by omega)]
theorem D6m (x y:Int):Oo (x,y)=some (decide (x < y)):=by
 simp [Oo,FD]
theorem D0V {i j:Nat} (h:i + j < 9223372036854775808):af.wrap (jJ .u64 (aG.wrap (af.wrap ((i:Int) + (j:Int)))) 1)=(((i + j) / 2:Nat):Int):=by
 rw [← D0U h]; rfl
structure Place (l:List Int) (y:Int) (i:Nat):Prop where
 le:i ≤ l.length
 lo:∀ k (h:k < l.length),k < i→l[k] < y
 hi:∀ k (h:k < l.length),i ≤ k→y ≤ l[k]
theorem C4J {l:List Int} (ha:asc l=true) (hl:l.length ≤ 1000000) (y:Int):∃ i:Nat,dm Kv (l,y,(l.length:Int),0,(l.length:Int))=some (l,y,(l.length:Int),(i:Int))∧Place l y i:=by
 obtain ⟨b,hb,i,rfl,hp⟩:=C8C (f:=Kv)
  (fun a=>∃ i j:Nat,a=(l,y,(l.length:Int),(i:Int),(j:Int))∧i ≤ j∧j ≤ l.length∧(∀ k (h:k < l.length),k < i→l[k] < y)∧(∀ k (h:k < l.length),j ≤ k→y ≤ l[k]))
  (fun b=>∃ i:Nat,b=(l,y,(l.length:Int),(i:Int))∧Place l y i) (fun a=>(a.2.2.2.2 - a.2.2.2.1).toNat) (by
    rintro a ⟨i,j,rfl,gL,hj,h1,h2⟩;by_cases c:i < j
    · left;have c':(i:Int) < (j:Int):=by omega
      have hm:(i + j) / 2 < l.length:=by omega
      simp only [Kv,c',decide_true,cond_true,D0V (show i + j < 9223372036854775808 by omega),au,az,ah hm,ai,D6m]
      by_cases d:l[(i + j) / 2] < y
      · simp only [d,decide_true,cond_true,j5 (show (i + j) / 2 < 9223372036854775807 by omega)]
        refine ⟨_,rfl,⟨(i + j) / 2 + 1,j,rfl,by omega,hj,fun k hk Bw=>?_,h2⟩,by show ((j:Int) - (((i + j) / 2 + 1:Nat):Int)).toNat < ((j:Int) - (i:Int)).toNat; omega⟩
        rcases ma (Nat.le_of_lt_succ Bw) with h | h
        · exact pW (Go.Hg.jD ha h hm) d
        · subst h; exact d
      · simp only [d,decide_false,cond_false];refine ⟨_,rfl,⟨i,(i + j) / 2,rfl,by omega,by omega,h1,fun k hk Bw=>?_⟩,by show ((((i + j) / 2:Nat):Int) - (i:Int)).toNat < ((j:Int) - (i:Int)).toNat; omega⟩
        rcases ma Bw with h | h
        · exact Int.le_of_lt (Int.lt_of_le_of_lt (Int.not_lt.1 d) (Go.Hg.jD ha h hk))
        · subst h; exact Int.not_lt.1 d
    · right;have c':¬ ((i:Int) < (j:Int)):=by omega
      obtain rfl:i=j:=by omega
      simp only [Kv,c',decide_false,cond_false];exact ⟨_,rfl,i,rfl,hj,h1,h2⟩) (l,y,(l.length:Int),0,(l.length:Int)) ⟨0,l.length,rfl,by omega,ar _,fun k _ hk=>by omega,fun k h hk=>by omega⟩
 exact ⟨i,hb,hp⟩
theorem Place.found {l:List Int} {y:Int} {i:Nat} (ha:asc l=true) (hp:Place l y i):l.contains y=(match l[i]? with | some x=>x == y | none=>false):=by
 cases hc:l[i]? with
 | none =>
   have hi:l.length ≤ i:=List.getElem?_eq_none_iff.1 hc
   have:¬ y ∈ l:=fun hm=>by
    obtain ⟨k,hk,rfl⟩:=dQ.1 hm
    have:=hp.lo k hk (by omega); omega
   simp [this]
 | some x =>
   obtain ⟨hi,rfl⟩:=aF.1 hc;apply de.2;rw [a8,beq_iff_eq];constructor
   · intro hm;obtain ⟨k,hk,rfl⟩:=dQ.1 hm;have h1:¬ k < i:=fun h=>by have:=hp.lo k hk h; omega
     by_cases h2:k=i
     · subst h2; rfl
     · have h3:=hp.hi i hi (ar _);have h4:=Go.Hg.jD ha (show i < k by omega) hk
       omega
   · intro e; rw [← e]; exact aP hi
theorem U8 {l:List Int} (ha:asc l=true) (hl:l.length ≤ 1000000) (y:Int):∃ i:Nat,Hk (l,y)=some ((i:Int),l.contains y)∧Place l y i:=by
 obtain ⟨i,h1,hp⟩:=C4J ha hl y;refine ⟨i,?_,hp⟩;rw [hp.found ha];unfold Hk;simp only;rw [h1];simp only [ai];by_cases c:i < l.length
 · have c':(i:Int) < (l.length:Int):=by omega
   simp only [c',decide_true,cond_true,au,az,ah c,ai];by_cases d:l[i]=y
   · simp [d]
   · have d':(l[i] == y)=false:=by simpa using d
     simp only [d',cond_false,Oq,ai,bne_self_eq_false]
 · have c':¬ (i:Int) < (l.length:Int):=by omega
   simp only [c',decide_false,cond_false,List.getElem?_eq_none_iff.2 (Nat.not_lt.1 c)]
theorem O9 {l part:List Int} (ha:asc l=true) (hl:l.length ≤ 1000000) (hp:part.length ≤ 1000000):FE (l,part)=some (A0G part l):=by
 have key:=zP (f:=Ot) part (fun i=>(l,part,(part.length:Int),(i:Int))) (fun y=>!l.contains y) (.inl false) (.inr ()) (fun i hi=>by
  have eN:(i:Int) < (part.length:Int):=by omega
  obtain ⟨j,h1,_⟩:=U8 ha hl part[i];simp only [Ot,eN,decide_true,cond_true,au,az,ah hi,ai,h1,j5 (show i < 9223372036854775807 by omega)]
  cases l.contains part[i] <;> rfl) (by
  simp only [Ot,bx,decide_false,cond_false])
 simp only [cM] at key;unfold FE;simp only;rw [key];unfold A0G;have e:(part.all fun x=>l.contains x)=!(part.any fun y=>!l.contains y):=by rw [jX]; simp
 rw [e];cases part.any fun y=>!l.contains y <;> rfl
theorem A7q {v:List Int} {es:List (List Int)} {l:List Int} (hv:asc v=true) (nv:v.length ≤ 1000000) (ne:es.length ≤ 1000000) (el:∀ e ∈ es,e.length ≤ 1000000) (hl:l.length ≤ 1000000) :
 K3 ((v,es),l)=some (A6T v es l):=by
 unfold K3 A6T;simp only [U7 hl,ai];cases ha:asc l with
 | false=>rfl
 | true =>
   simp only [b3,cond_false,O9 hv nv hl,ai,ej];cases A0G l v with
   | false=>rfl
   | true =>
     simp only [b3,cond_false,ej];have key:=Kh (f:=OS) es (fun i=>(es,l,(es.length:Int),(i:Int))) (fun _ e=>A0G e l) (fun i=>.inl (i:Int)) (.inr ()) (fun i hi=>by
      have eN:(i:Int) < (es.length:Int):=by omega
      simp only [OS,UA,eN,decide_true,cond_true,au,az,ah hi,ai,
       O9 ha hl (el _ (aP hi)),j5 (show i < 9223372036854775807 by omega)]
      cases A0G es[i] l <;> rfl) (by
      simp only [OS,bx,decide_false,cond_false])
     simp only [cM] at key;unfold UC UB;simp only;rw [key];unfold free;have ha:=Of (fun e=>A0G e l) es 0
     cases hf:rK (fun _ e=>A0G e l) es 0 with
     | none=>rw [hf] at ha; rw [← ha]; rfl
     | some k =>
       rw [hf] at ha;rw [← ha];simp
theorem C7o {l:List Int} {y:Int} {i:Nat} (ha:asc l=true) (hp:Place l y i) (hn:y ∉ l):asc (l.take i++y::l.drop i)=true:=by
 rw [Go.Hg.fA];have hpw:=Go.Hg.fA.1 ha;have h1:∀ x ∈ l.take i,x < y:=by
  intro x hx;obtain ⟨k,hk,rfl⟩:=List.mem_take_iff_getElem.1 hx;exact hp.lo k (by omega) (by omega)
 have h2:∀ x ∈ l.drop i,y < x:=by
  intro x hx;obtain ⟨k,hk,rfl⟩:=List.mem_drop_iff_getElem.1 hx;have h3:=hp.hi (k + i) (by omega) (by omega)
  have h4:l[k + i] ≠ y:=fun e=>hn (e ▸ aP _)
  have e5:l[i + k]=l[k + i]:=by congr 1; omega
  omega
 rw [cF];refine ⟨hpw.sublist (List.take_sublist _ _),?_,?_⟩
 · rw [bN];exact ⟨h2,hpw.sublist (List.drop_sublist _ _)⟩
 · intro a ha b hb;rcases aE.1 hb with rfl | hb
   · exact h1 a ha
   · exact pW (h1 a ha) (h2 b hb)
theorem B9b {l:List Int} {y:Int} {i:Nat} (x:Int):x ∈ l.take i++y::l.drop i↔x ∈ l++[y]:=by
 rw [ay,aE,ay,aX]
 conv=>rhs; rw [← List.take_append_drop i l,ay]
 exact ⟨fun h=>h.elim (fun h=>.inl (.inl h)) (fun h=>h.elim .inr (fun h=>.inl (.inr h))),fun h=>h.elim (fun h=>h.elim .inl (fun h=>.inr (.inr h))) (fun h=>.inr (.inl h))⟩
theorem D0W {es:List (List Int)} {l m:List Int} (h:∀ x,x ∈ l↔x ∈ m):free es l=free es m:=by
 unfold free;congr 2;funext e;apply de.2;rw [Go.Hg.within_iff,Go.Hg.within_iff];exact ⟨fun g y hy=>(h y).1 (g y hy),fun g y hy=>(h y).2 (g y hy)⟩
theorem A8Y {v:List Int} {es:List (List Int)} {l:List Int} (hv:asc v=true) (nv:v.length ≤ 100000) (ne:es.length ≤ 1000000) (el:∀ e ∈ es,e.length ≤ 1000000) (hl:l.length ≤ 100000) :
 K4 ((v,es),l)=some (A1E v es l):=by
 unfold K4 A1E;simp only [A7q hv (show v.length ≤ 1000000 by omega) ne el (show l.length ≤ 1000000 by omega),ai]
 cases hi:A6T v es l with
 | false=>rfl
 | true =>
   simp only [b3,cond_false,ej];unfold A6T at hi;simp only [aj] at hi;obtain ⟨⟨ha,hw⟩,hf⟩:=hi;have key:=zP (f:=OU) v (fun i=>((l,v,(v.length:Int),(i:Int)),v,es)) (fun x=>!(l.contains x || !free es (l++[x]))) (.inl false) (.inr ()) (fun i hi=>by
    have eN:(i:Int) < (v.length:Int):=by omega
    obtain ⟨j,h1,hp⟩:=U8 ha (show l.length ≤ 1000000 by omega) v[i]
    simp only [OU,eN,decide_true,cond_true,au,az,ah hi,ai,h1,j5 (show i < 9223372036854775807 by omega)]
    cases hc:l.contains v[i] with
    | true=>simp
    | false =>
      have hn:v[i] ∉ l:=by intro hm; rw [a8.2 hm] at hc; cases hc
      have nI:Cj 8 l=some (l.length,l):=by
       unfold Cj;rw [jC (show l.length * 8 ≤ 140737488355328 by omega),cond_true]
      have nP:OT ((l.length,(j:Int),1),l,[v[i]])=some (l.length + 1,l.take j++v[i]::l.drop j,[v[i]]):=by
       unfold OT;have q1:Nat.beq 1 1=true:=rfl;have q2:Nat.beq l.length l.length=true:=Nat.beq_refl _;simp only [eg,q1,cond_true,bP,ai,q2,au,decide_true,az,jC hp.le,kU (show l.length < 1000000000000 by omega)]
      have hlen:(l.take j++v[i]::l.drop j).length=l.length + 1:=by
       have:=hp.le
       simp; omega
      have zg:=A7q (l:=l.take j++v[i]::l.drop j) hv (show v.length ≤ 1000000 by omega) ne el (by omega)
      have hb:A6T v es (l.take j++v[i]::l.drop j)=free es (l++[v[i]]):=by
       unfold A6T;rw [C7o ha hp hn,D0W (fun x=>B9b x)]
       have:A0G (l.take j++v[i]::l.drop j) v=true:=by
        rw [Go.Hg.within_iff];intro y hy;rcases ay.1 ((B9b y).1 hy) with h | h
        · exact Go.Hg.within_iff.1 hw y h
        · simp only [aX] at h; subst h; exact aP hi
       rw [this]; rfl
      simp only [ek,cond_true,nI,ai,a6,nP,hlen,jC (ar _),a7 (fQ hlen),zg,hb];cases free es (l++[v[i]]) <;> simp) (by
    simp only [OU,bx,decide_false,cond_false])
   simp only [cM] at key;rw [key];have e:(v.all fun x=>l.contains x || !free es (l++[x]))=!(v.any fun x=>!(l.contains x || !free es (l++[x]))):=by rw [jX]; simp
   rw [e];cases v.any fun x=>!(l.contains x || !free es (l++[x])) <;> rfl
end Go.Mid
namespace Go.Mid
open Go.Hg (asc A0G free A6T A1E before bef sunk)
theorem C4K {α:Type} (l:List α) (p:α→Bool):(l.all p)=!(l.any fun x=>!p x):=by rw [jX]; simp
theorem C7p {l:List Int} (hl:l.length ≤ 1000000) (y:Int):KA (l,y)=some (l.contains y):=by
 have key:=zP (f:=Oy) l (fun i=>(l,y,(i:Int))) (fun x=>x == y) (.inl true) (.inr ()) (fun i hi=>by
  have eN:(i:Int) < (l.length:Int):=by omega
  simp only [Oy,eN,decide_true,cond_true,au,az,ah hi,ai,j5 (show i < 9223372036854775807 by omega)]
  cases l[i] == y <;> rfl) (by
  simp only [Oy,bx,decide_false,cond_false])
 simp only [cM] at key;unfold KA;simp only;rw [key];have e:(l.any fun x=>x == y)=l.contains y:=by rw [List.contains_eq_any_beq]; congr 1; funext x; exact Bool.beq_comm
 rw [e];cases l.contains y <;> rfl
theorem C7q {l:List Int} (hl:l.length ≤ 1000000) (y:Int):KB (l,y)=some (l.contains y):=by
 unfold KB;simp only [C7p hl,ai]
theorem C1G {a b:List Int} (ha:a.length ≤ 1000000) (hb:b.length ≤ 1000000):Ds (a,b)=some (A0G a b):=by
 have key:=zP (f:=Oz) a (fun i=>(a,b,(i:Int))) (fun x=>!b.contains x) (.inl false) (.inr ()) (fun i hi=>by
  have eN:(i:Int) < (a.length:Int):=by omega
  simp only [Oz,eN,decide_true,cond_true,au,az,ah hi,ai,C7q hb,j5 (show i < 9223372036854775807 by omega)]
  cases b.contains a[i] <;> rfl) (by
  simp only [Oz,bx,decide_false,cond_false])
 simp only [cM] at key;unfold Ds;simp only;rw [key];unfold A0G;rw [C4K];cases a.any fun y=>!b.contains y <;> rfl
theorem C1H {a b:List Int} (ha:a.length ≤ 1000000):Hn (a,b)=some (before a b):=by
 have main:∀ (k i:Nat),a.length - i=k→i ≤ a.length→dm Hm (a,b,(i:Int))=some (match bef (a.drop i) (b.drop i) with | some t=>.inl t | none=>.inr (a,b)):=by
  intro k
  induction k with
  | zero =>
    intro i hk hi;obtain rfl:i=a.length:=by omega
    refine oK ?_;simp only [Hm,bx,decide_false,cond_false,eW,bef]
  | succ k ih =>
    intro i hk hi;have h1:i < a.length:=by omega
    have tV:(i:Int) < (a.length:Int):=by omega
    rw [bY h1];by_cases h2:i < b.length
    · have qZ:(i:Int) < (b.length:Int):=by omega
      rw [bY h2];simp only [bef];have st:Hm (a,b,(i:Int))=if a[i]=b[i] then some (.inl (a,b,((i + 1:Nat):Int))) else some (.inr (.inl (decide (a[i] < b[i])))):=by
       simp only [Hm,tV,qZ,decide_true,cond_true,au,az,ah h1,ah h2,ai,j5 (show i < 9223372036854775807 by omega)]
       by_cases c:a[i]=b[i]
       · simp [c]
       · have c':(a[i] != b[i])=true:=by simpa using c
         simp only [c',cond_true,c,if_false]
      by_cases c:a[i]=b[i]
      · rw [if_pos c] at st;rw [sC st,ih (i + 1) (by omega) (by omega),if_pos c]
      · rw [if_neg c] at st;rw [oK st,if_neg c]
    · have qZ:¬ (i:Int) < (b.length:Int):=by omega
      have e:b.drop i=[]:=List.drop_eq_nil_of_le (by omega)
      rw [e];simp only [bef];refine oK ?_;simp only [Hm,tV,qZ,decide_true,decide_false,cond_true,cond_false]
 have key:=main a.length 0 (by omega) (dg _)
 simp only [cM,fm] at key;unfold Hn before;simp only;rw [key];cases bef a b with
 | some t=>rfl
 | none=>simp
theorem B9c {A B:Type} {f:A→Option (A ⊕ B)} (st:Nat→List (List Int)→A) (fin:List (List Int)→B) (n:Nat)
 (hf:∀ k out,out.length=n→(∀ x ∈ out,x.length ≤ 1000000)→∀ (h:k + 1 < out.length),f (st (k + 1) out)=if before out[k + 1] out[k] then some (.inl (st k ((out.set (k + 1) out[k]).set k out[k + 1]))) else some (.inr (fin out)))
 (h0:∀ out,f (st 0 out)=some (.inr (fin out))):∀ (k:Nat) (out:List (List Int)),k < out.length→out.length=n→(∀ x ∈ out,x.length ≤ 1000000)→dm f (st k out)=some (fin (sunk k out))
 | 0,out,_,_,_=>oK (h0 out)
 | k + 1,out,hk,hn,hb=>by
   have e1:out[k + 1]?=some out[k + 1]:=ah hk;have e2:out[k]?=some out[k]:=ah (by omega)
   have Cn:=hf k out hn hb hk;unfold sunk;simp only [e1,e2];by_cases c:before out[k + 1] out[k]=true
   · rw [if_pos c] at Cn;rw [if_pos c,sC Cn];refine B9c st fin n hf h0 k _ (by simp; omega) (by simpa using hn) ?_
     intro x hx;rcases bz hx with h | h
     · rcases bz h with h | h
       · exact hb x h
       · rw [h]; exact hb _ (aP _)
     · rw [h]; exact hb _ (aP _)
   · rw [if_neg c] at Cn;rw [if_neg c,oK Cn]
theorem C81 {v:List Int} {i:Nat} (hi:i < v.length) (b:Nat):Go.Hg.idsP (v.take (i + 1)) b=Go.Hg.idsP (v.take i) b++if b.testBit i then [v[i]] else []:=by
 unfold Go.Hg.idsP;rw [tw hi,List.zipIdx_append,eV,b5];congr 1;simp only [List.zipIdx_singleton,aW,bR,cY (fM hi)];cases hb:b.testBit i <;> simp [hb]
theorem D0X (v:List Int) (b:Nat):(Go.Hg.idsP v b).length ≤ v.length:=by
 unfold Go.Hg.idsP;rw [aB];refine du (dt _ _) ?_;simp
theorem C3V (k:Nat) (out:List (List Int)):(sunk k out).length=out.length:=Go.Hg.mA k out
theorem C3W:∀ (k:Nat) (out:List (List Int)) (x:List Int),x ∈ sunk k out→x ∈ out
 | 0,out,x,h=>h
 | k + 1,out,x,h=>by
   unfold sunk at h;split at h
   · rename_i y z h1 h2;split at h
     · have:=C3W k _ x h
       rcases bz this with h | h
       · rcases bz h with h | h
         · exact h
         · rw [h]; exact bG h2
       · rw [h]; exact bG h1
     · exact h
   · exact h
section
variable {v:List Int} {es:List (List Int)} (nv:v.length ≤ 20) (ne:es.length ≤ 1000000) (el:∀ e ∈ es,e.length ≤ 1000000)
end
end Go.Mid
namespace Go.Mid
open Go.Hg (asc A0G free A6T A1E before PrV nbB A5Z A4z A2R A09 A2w Run)
section
variable {A B α β:Type} {f:A→Option (A ⊕ B)}
theorem B5F (l:List α) (Dz:α→List β) (st:Nat→List β→A) (fin:List β→B)
 (h1:∀ i (h:i < l.length),f (st i ((l.take i).flatMap Dz))=some (.inl (st (i + 1) ((l.take i).flatMap Dz++Dz l[i]))))
 (h2:f (st l.length (l.flatMap Dz))=some (.inr (fin (l.flatMap Dz)))):dm f (st 0 [])=some (fin (l.flatMap Dz)):=by
 have key:=r9 (f:=f) l.length (fun i=>st i ((l.take i).flatMap Dz)) (fin (l.flatMap Dz)) (fun i hi=>by
  rw [h1 i hi,tw hi,List.flatMap_append];simp) (by rw [oL]; exact h2)
 exact key
theorem U9 (p:α→Bool) (l:List α):(l.flatMap fun x=>if p x then [x] else [])=l.filter p:=by
 induction l with
 | nil=>rfl
 | cons x r ih =>
   rw [List.flatMap_cons,ih,jk];cases p x <;> rfl
theorem C3X (p:α→Bool) (l:List α) (i:Nat):((l.take i).flatMap fun x=>if p x then [x] else []).length ≤ i:=by
 rw [U9];exact du (dt _ _) (by rw [aW]; omega)
end
theorem C1I {p:PrV} (hp:p.length ≤ 1000000) (a b:Int):OZ (p,a,b)=some (A4z p a b):=by
 have key:=zP (f:=OY) p (fun i=>(p,a,b,(i:Int))) (fun x=>x.1 == a && x.2 == b) (.inl true) (.inr ()) (fun i hi=>by
  have eN:(i:Int) < (p.length:Int):=by omega
  simp only [OY,eN,decide_true,cond_true,au,az,ah hi,ai,j5 (show i < 9223372036854775807 by omega)]
  cases p[i].1 == a <;> cases p[i].2 == b <;> rfl) (by
  simp only [OY,bx,decide_false,cond_false])
 simp only [cM] at key;unfold OZ;simp only;rw [key];have e:(p.any fun x=>x.1 == a && x.2 == b)=A4z p a b:=by
  unfold A4z;rw [List.contains_eq_any_beq];congr 1; funext x;apply de.2;simp only [aj,beq_iff_eq];exact ⟨fun h=>by rw [← h.1,← h.2],fun h=>by rw [← h]; exact ⟨rfl,rfl⟩⟩
 rw [e];cases A4z p a b <;> rfl
theorem B6P {p:PrV} {l:List Int} (hp:p.length ≤ 1000000) (hl:l.length ≤ 1000000) (v:Int):HE (p,l,v)=some (A2R p l v):=by
 have key:=zP (f:=O0) l (fun i=>(p,l,v,(i:Int))) (fun y=>A4z p y v) (.inl false) (.inr ()) (fun i hi=>by
  have eN:(i:Int) < (l.length:Int):=by omega
  simp only [O0,eN,decide_true,cond_true,au,az,ah hi,ai,C1I hp,j5 (show i < 9223372036854775807 by omega)]
  cases A4z p l[i] v <;> rfl) (by
  simp only [O0,bx,decide_false,cond_false])
 simp only [cM] at key;unfold HE;simp only;rw [key];unfold A2R;cases l.any fun y=>A4z p y v <;> rfl
theorem C82:∀ {a b:List Int},a.length=b.length→((a.zip b).any fun x=>x.1 != x.2)=!decide (a=b)
 | [],[],_=>rfl
 | [],_::_,h=>by simp at h
 | _::_,[],h=>by simp at h
 | x::a,y::b,h=>by
   have:=C82 (a:=a) (b:=b) (by simpa using h)
   simp only [List.zip_cons_cons,iB,this];by_cases c:x=y
   · simp [c]
   · simp [c]
theorem B9d {a b:List Int} (ha:a.length ≤ 1000000):Dx (a,b)=some (decide (a=b)):=by
 unfold Dx;simp only;by_cases hn:a.length=b.length
 · have rT:((a.length:Int) != (b.length:Int))=false:=by simp [hn]
   rw [rT,cond_false];have key:=zP (f:=K7) (a.zip b) (fun i=>(a,b,(i:Int))) (fun x=>x.1 != x.2) (.inl false) (.inr ()) (fun i hi=>by
    rw [List.length_zip] at hi;have Cl:i < a.length:=by omega
    have nY:i < b.length:=by omega
    have eN:(i:Int) < (a.length:Int):=by omega
    simp only [K7,eN,decide_true,cond_true,au,az,ah Cl,ah nY,ai,j5 (show i < 9223372036854775807 by omega),List.getElem_zip]
    cases a[i] != b[i] <;> rfl) (by
    have:¬ (((a.zip b).length:Int) < (a.length:Int)):=by rw [List.length_zip]; omega
    simp only [K7,this,decide_false,cond_false])
   have key:dm K7 (a,b,0)=_:=key;rw [key];have e:=C82 hn;rw [e];cases decide (a=b) <;> rfl
 · have rT:((a.length:Int) != (b.length:Int))=true:=by
    rw [bne_iff_ne]; omega
   rw [rT,cond_true]
   have:¬ a=b:=fun e=>hn (by rw [e])
   simp [this]
theorem B6Q {v:List Int} {es:List (List Int)} {l:List Int} (ne:es.length ≤ 1000000) (el:∀ e ∈ es,e.length ≤ 1000000):K8 ((v,es),l)=some (es.contains l):=by
 have key:=zP (f:=OW) es (fun i=>((l,(i:Int)),v,es)) (fun e=>decide (e=l)) (.inl true) (.inr ()) (fun i hi=>by
  have eN:(i:Int) < (es.length:Int):=by omega
  simp only [OW,eN,decide_true,cond_true,au,az,ah hi,ai,B9d (el _ (aP hi)),j5 (show i < 9223372036854775807 by omega)]
  cases decide (es[i]=l) <;> rfl) (by
  simp only [OW,bx,decide_false,cond_false])
 simp only [cM] at key;unfold K8;simp only;rw [key];have e:(es.any fun e=>decide (e=l))=es.contains l:=by
  apply de.2;rw [a8,fY];exact ⟨fun ⟨x,h1,h2⟩=>by rw [← of_decide_eq_true h2]; exact h1,fun h=>⟨l,h,decide_eq_true rfl⟩⟩
 rw [e];cases es.contains l <;> rfl
section
variable {v:List Int} {es:List (List Int)} (ne:es.length ≤ 1000000) (el:∀ e ∈ es,e.length ≤ 1000000)
include ne el
theorem C83 (a b:Int):La ((v,es),a,b)=some (nbB es a b):=by
 unfold La nbB;have e1:(if b < a then b else a)=min a b:=by rw [Int.min_def]; split <;> split <;> omega
 have e2:(if b > a then b else a)=max a b:=by rw [Int.max_def]; split <;> split <;> omega
 simp only [e1,e2,B6Q ne el,ai];by_cases c:a=b
 · simp [c]
 · have c':(a != b)=true:=by simpa using c
   simp [c',c]
theorem C3Y (nv:v.length ≤ 1000000):OX (v,es)=some (A09 v es):=by
 have key:=B5F (f:=K9) v (fun x=>if !A5Z es x then [x] else []) (fun i acc=>((acc.length,(i:Int)),(v,es),acc)) (fun acc=>(acc.length,acc)) (fun i hi=>by
  have eN:(i:Int) < (v.length:Int):=by omega
  have hl:=C3X (fun x=>!A5Z es x) v i
  have ho:A5Z es v[i]=es.contains [v[i]]:=rfl;simp only [K9,eN,decide_true,cond_true,au,az,ah hi,ai,B6Q ne el,← ho,j5 (show i < 9223372036854775807 by omega),jC (ar _)]
  cases A5Z es v[i] with
  | true=>simp
  | false =>
    simp only [ek,cond_true,if_true,oL,aQ,eg];rw [jC (by omega),cond_true]) (by
  simp only [K9,bx,decide_false,cond_false])
 rw [U9] at key;have key:dm K9 ((0,0),(v,es),[])=_:=key;unfold OX;rw [key];simp only [ai,jC (ar _),cond_true,oL];rfl
theorem C3Z {rest:List Int} (hr:rest.length ≤ 1000000) (x:Int):O1 ((v,es),rest,x)=some (A2w es rest x):=by
 have key:=B5F (f:=Lb) rest (fun y=>if (decide (y ≠ x) && !nbB es y x) then [y] else []) (fun i acc=>((rest,x,acc.length,(i:Int)),(v,es),acc)) (fun acc=>(acc.length,acc)) (fun i hi=>by
  have eN:(i:Int) < (rest.length:Int):=by omega
  have hl:=C3X (fun y=>decide (y ≠ x) && !nbB es y x) rest i
  simp only [ne_eq] at hl;simp only [Lb,eN,decide_true,cond_true,au,az,ah hi,ai,C83 ne el,j5 (show i < 9223372036854775807 by omega),jC (ar _)]
  by_cases c:rest[i]=x
  · simp [c]
  · have c':(rest[i] != x)=true:=by simpa using c
    cases hn:nbB es rest[i] x with
    | true=>simp [c]
    | false =>
      simp only [c',c,ne_eq,not_false_eq_true,decide_true,ek,Bool.and_self,cond_true,if_true,oL,aQ,eg];rw [jC (by omega),cond_true]) (by
  simp only [Lb,bx,decide_false,cond_false])
 rw [U9] at key;have key:dm Lb ((rest,x,0,0),(v,es),[])=_:=key;unfold O1;simp only;rw [key];simp only [ai,jC (ar _),cond_true,oL];rfl
end
def FL (es:List (List Int)) (p:PrV) (r:List Int):Nat→List Int→Bool
 | 0,rest=>rest.isEmpty
 | n + 1,rest=>rest.isEmpty || rest.any fun x=>r.contains x && A2R p rest x && FL es p r n (A2w es rest x)
theorem Pb {es:List (List Int)} {p:PrV} {r:List Int}:∀ (n:Nat) (rest:List Int),rest.length ≤ n→(FL es p r n rest=true↔∃ ks,Run es p rest ks∧∀ k ∈ ks,k ∈ r)
 | 0,rest,h=>by
   simp only [FL,eC];obtain rfl:rest=[]:=dA.1 (by omega)
   exact ⟨fun _=>⟨[],.nil,fun k hk=>by cases hk⟩,fun _=>rfl⟩
 | n + 1,rest,h=>by
   simp only [FL,cr,eC,fY,aj,a8];constructor
   · rintro (rfl | ⟨x,hx,⟨h1,h2⟩,h3⟩)
     · exact ⟨[],.nil,fun k hk=>by cases hk⟩
     · obtain ⟨ks,h4,h5⟩:=(Pb n _ (by have:=Go.Hg.lR (es:=es) hx; omega)).1 h3
       refine ⟨x::ks,.cons hx h2 h4,fun k hk=>?_⟩
       rcases aE.1 hk with rfl | hk
       · exact h1
       · exact h5 k hk
   · rintro ⟨ks,h1,h2⟩;cases h1 with
     | nil=>exact .inl rfl
     | cons hx hb hr =>
       rename_i ks x;refine .inr ⟨x,hx,⟨h2 x dO,hb⟩,(Pb n _ (by have:=Go.Hg.lR (es:=es) hx; omega)).2 ⟨ks,hr,fun k hk=>h2 k (bC _ hk)⟩⟩
section
variable {v:List Int} {es:List (List Int)} {p:PrV} {r:List Int} (ne:es.length ≤ 1000000) (el:∀ e ∈ es,e.length ≤ 1000000) (hp:p.length ≤ 1000000) (hr:r.length ≤ 1000000)
include ne el hp hr
end
def HL:Nat→List Int→List Int
 | 0,out=>out
 | k + 1,out=>match out[k + 1]?,out[k]? with
   | some x,some y=>if x < y then HL k ((out.set (k + 1) y).set k x) else out
   | _,_=>out
def zR (out:List Int) (x:Int):List Int:=HL out.length (out++[x])
theorem B9e {A B:Type} {f:A→Option (A ⊕ B)} (st:Nat→List Int→A) (fin:List Int→B) (n:Nat)
 (hf:∀ k out,out.length=n→∀ (h:k + 1 < out.length),f (st (k + 1) out)=if out[k + 1] < out[k] then some (.inl (st k ((out.set (k + 1) out[k]).set k out[k + 1]))) else some (.inr (fin out)))
 (h0:∀ out,f (st 0 out)=some (.inr (fin out))):∀ (k:Nat) (out:List Int),k < out.length→out.length=n→dm f (st k out)=some (fin (HL k out))
 | 0,out,_,_=>oK (h0 out)
 | k + 1,out,hk,hn=>by
   have e1:out[k + 1]?=some out[k + 1]:=ah hk;have e2:out[k]?=some out[k]:=ah (by omega)
   have Cn:=hf k out hn hk;unfold HL;simp only [e1,e2];by_cases c:out[k + 1] < out[k]
   · rw [if_pos c] at Cn;rw [if_pos c,sC Cn];exact B9e st fin n hf h0 k _ (by simp; omega) (by simpa using hn)
   · rw [if_neg c] at Cn;rw [if_neg c,oK Cn]
theorem B9f (a b:Int):before [a] [b]=decide (a < b):=by
 unfold before;simp only [Go.Hg.bef];by_cases h:a=b
 · subst h; simp [Go.Hg.bef]
 · simp [h]
theorem C30:∀ (k:Nat) (out:List Int),Go.Hg.sunk k (out.map fun x=>[x])=(HL k out).map fun x=>[x]
 | 0,_=>rfl
 | k + 1,out=>by
   unfold Go.Hg.sunk HL;rw [aH,aH];cases out[k + 1]? with
   | none=>rfl
   | some x =>
     cases out[k]? with
     | none=>rfl
     | some y =>
       simp only [Option.map_some,B9f,decide_eq_true_eq];split
       · rw [← C30 k,fa,fa]
       · rfl
theorem C5L (out:List Int) (x:Int):Go.Hg.sunk (out.map fun x=>[x]).length (out.map (fun x=>[x])++[[x]])=(zR out x).map fun x=>[x]:=by
 unfold zR;rw [← C30,b5,aB]; rfl
theorem C31:∀ (ks out:List Int),(ks.map fun x=>[x]).foldl (fun out x=>Go.Hg.sunk out.length (out++[x])) (out.map fun x=>[x])=(ks.foldl zR out).map fun x=>[x]
 | [],_=>rfl
 | k::ks,out=>by
   simp only [aD,gv];rw [C5L,C31 ks]
theorem C4L {ks:List Int} (hn:ks.Nodup):asc (ks.foldl zR [])=true∧∀ x,x ∈ ks.foldl zR []↔x ∈ ks:=by
 have h:=Go.Hg.rh (ks.map fun x=>[x]) ([]:List (List Int)) List.Pairwise.nil (by
  rw [a6];exact List.Pairwise.map _ (fun a b qO e=>qO (mN e).1) hn)
 have e:=C31 ks [];simp only [cl] at e;rw [e] at h;refine ⟨?_,fun x=>?_⟩
 · rw [Go.Hg.fA];have h1:=ed.1 h.1;refine h1.imp fun {a b} qO=>?_
   rw [← Go.Hg.nq,B9f] at qO;exact of_decide_eq_true qO
 · have h2:=h.2 [x];simp only [bj,iu,and_true,exists_eq_right,m8,false_or] at h2;exact h2
theorem C32 (out:List Int) (x:Int):(zR out x).length=out.length + 1:=by
 have h:=congrArg List.length (C5L out x);rw [Go.Hg.mA] at h;simp at h;omega
theorem C1q {es:List (List Int)} {p:PrV}:∀ {ks rest:List Int},Run es p rest ks→ks.Nodup
 | [],_,_=>List.nodup_nil
 | x::ks,rest,h=>by
   cases h with
   | cons hx hb h =>
     exact List.nodup_cons.2 ⟨fun hm=>(Go.Hg.fF.1 (h.sub x hm)).2.1 rfl,C1q h⟩
section
variable {v:List Int} {es:List (List Int)} {p:PrV} (ne:es.length ≤ 1000000) (el:∀ e ∈ es,e.length ≤ 1000000) (hp:p.length ≤ 1000000) (ha:Go.Hg.Acy p)
include ne el hp ha
theorem B1U (r:List Int):∀ (n:Nat) (rest out:List Int),rest.length ≤ n→rest.length + out.length ≤ 1000000→(∀ x ∈ rest,x ∈ r) →
 dm HF ((p,rest,out.length),(v,es),out)=some (((Go.Hg.gRun es p r n rest).1.foldl zR out).length,(Go.Hg.gRun es p r n rest).1.foldl zR out)
 | n,rest,out,hn,hm,hr=>by
   by_cases h0:rest=[]
   · subst h0;have e:(Go.Hg.gRun es p r n []).1=[]:=by cases n <;> rfl
     rw [e];refine oK ?_;simp [HF]
   · match n,hn with
     | 0,hn=>exact absurd (dA.1 (by omega)) h0
     | n + 1,hn =>
       obtain ⟨x,hx,hb⟩:=Go.Hg.uv ha rest h0;have hf:(rK (fun _ x=>A2R p rest x) rest 0).isSome=true:=by
        rw [Of (fun x=>A2R p rest x)]
        exact fY.2 ⟨x,hx,hb⟩
       obtain ⟨k,hk⟩:=Option.isSome_iff_exists.1 hf;obtain ⟨_,k1,⟨k2,k3⟩,k4⟩:=TZ hk;simp only [gy,bR] at k1 k2 k3 k4;have l1:dm Lc ((p,rest,out.length,0),(v,es),out)=some ((p,rest,out.length,(k:Int)),(v,es),out):=by
        have key:=r9 (f:=Lc) k (fun i=>((p,rest,out.length,(i:Int)),(v,es),out)) ((p,rest,out.length,(k:Int)),(v,es),out) (fun i hi=>by
         simp only [Lc,au,decide_true,cond_true,az,ah (show i < rest.length by omega),ai,B6P hp (show rest.length ≤ 1000000 by omega),k4 i (by omega) hi,ek,j5 (show i < 9223372036854775807 by omega)]) (by
         simp only [Lc,au,decide_true,cond_true,az,ah k2,ai,B6P hp (show rest.length ≤ 1000000 by omega),k3,b3,cond_false])
        exact key
       have vL:Go.Hg.pickL p r rest=some rest[k]:=by
        unfold Go.Hg.pickL;rw [List.find?_eq_some_iff_getElem];refine ⟨by simp only [aj,a8]; exact ⟨hr _ (aP k2),k3⟩,k,k2,rfl,fun j hj=>?_⟩
        rw [k4 j (by omega) hj]; simp
       have eF:=Go.Hg.lR (es:=es) (aP k2);have qI:((rest.length:Int) > 0):=by omega
       have hw:af.wrap (((out.length + 1:Nat):Int) - 1)=(out.length:Int):=by
        rw [yh (by omega) (by omega)]; rfl
       have uY:(out++[rest[k]]).length=out.length + 1:=by simp
       have sk:=B9e (f:=O3) (fun j iD=>((p,A2w es rest rest[k],out.length + 1,(j:Int)),(v,es),iD)) (fun iD=>((p,A2w es rest rest[k],out.length + 1),(v,es),iD)) (out.length + 1) (fun j o hj h=>by
        have CJ:((j + 1:Nat):Int) > 0:=by omega
        have e3:j < o.length:=by omega
        simp only [O3,CJ,decide_true,cond_true,au,az,kU (show j + 1 < out.length + 1 by omega),kU (show j < out.length + 1 by omega),ah h,ah e3,ai,yh (show 1 ≤ j + 1 by omega) (by omega),dP]
        have e4:(o.set (j + 1) o[j])[j]?=some o[j]:=by rw [eB (by omega),ah e3]
        rw [e4];by_cases c:o[j + 1] < o[j] <;> simp [c]) (fun o=>by
        simp [O3]) out.length (out++[rest[k]]) (by omega) uY
       have st:HF ((p,rest,out.length),(v,es),out)=some (.inl ((p,A2w es rest rest[k],(zR out rest[k]).length),(v,es),zR out rest[k])):=by
        simp only [HF,qI,decide_true,cond_true,l1,ai,au,az,ah k2,C3Z ne el (show rest.length ≤ 1000000 by omega),jC (ar _),jC (show (out.length + 1) * 8 ≤ 140737488355328 by omega),oL,hw,sk,C32]
        rfl
       rw [sC st];simp only [Go.Hg.gRun,vL,gv];exact B1U r n _ _ (by omega) (by rw [C32]; omega) (fun y hy=>hr y (Go.Hg.fF.1 hy).1)
theorem C1J (nv:v.length ≤ 100000):HG ((v,es),p)=some ((Go.Hg.gRun es p (A09 v es) (A09 v es).length (A09 v es)).1.foldl zR []):=by
 unfold HG;have hl:(A09 v es).length ≤ v.length:=dt _ _;have key:=B1U (v:=v) ne el hp ha (A09 v es) (A09 v es).length (A09 v es) [] (ar _) (by simp; omega) (fun _ h=>h)
 have key:dm HF ((p,A09 v es,0),(v,es),[])=_:=key;simp only [C3Y ne el (show v.length ≤ 1000000 by omega),ai,key,jC (ar _),cond_true,oL]
end
end Go.Mid
namespace Go.Mid
open Go.Hg (asc A0G free A6T A1E before bef A9Q A9j A5x)
theorem D4H (x y:Int):Ou (x,y)=some (if x < y then -1 else if x > y then 1 else 0):=by
 unfold Ou FD;simp only [ai,bne_self_eq_false,cond_false];by_cases h1:x < y
 · simp [h1]
 · by_cases h2:x > y
   · simp [h1,h2]
   · simp [h1,h2]
theorem C7r {a b:List Int} (ha:a.length ≤ 1000000):∃ c:Int,Ov (a,b)=some c∧decide (c ≥ 0)=!before a b:=by
 have main:∀ (k i:Nat),a.length - i=k→i ≤ a.length→(∃ c:Int,dm yg (a,b,a,(a.length:Int),(i:Int))=some (.inl c)∧decide (c ≥ 0)=!(match bef (a.drop i) (b.drop i) with | some t=>t | none=>decide (a.length < b.length))) ∨
  (dm yg (a,b,a,(a.length:Int),(i:Int))=some (.inr (a,b))∧bef (a.drop i) (b.drop i)=none):=by
  intro k
  induction k with
  | zero =>
    intro i hk hi;obtain rfl:i=a.length:=by omega
    right;refine ⟨oK ?_,by rw [eW]; rfl⟩
    simp only [yg,bx,decide_false,cond_false]
  | succ k ih =>
    intro i hk hi;have h1:i < a.length:=by omega
    have tV:(i:Int) < (a.length:Int):=by omega
    rw [bY h1];by_cases h2:i < b.length
    · have qZ:¬ (i:Int) ≥ (b.length:Int):=by omega
      rw [bY h2];simp only [bef];by_cases c:a[i]=b[i]
      · have st:yg (a,b,a,(a.length:Int),(i:Int))=some (.inl (a,b,a,(a.length:Int),((i + 1:Nat):Int))):=by
         simp only [yg,tV,qZ,decide_true,decide_false,cond_true,cond_false,au,az,ah h1,ah h2,ai,j5 (show i < 9223372036854775807 by omega),D4H]
         simp [c]
        rw [sC st,if_pos c];exact ih (i + 1) (by omega) (by omega)
      · left;have st:yg (a,b,a,(a.length:Int),(i:Int))=some (.inr (.inl (if a[i] < b[i] then -1 else 1))):=by
         simp only [yg,tV,qZ,decide_true,decide_false,cond_true,cond_false,au,az,ah h1,ah h2,ai,D4H];by_cases d:a[i] < b[i]
         · simp [d]
         · have d2:a[i] > b[i]:=by omega
           simp [d,d2]
        refine ⟨_,oK st,?_⟩;rw [if_neg c];by_cases d:a[i] < b[i] <;> simp [d]
    · left;have qZ:(i:Int) ≥ (b.length:Int):=by omega
      have e:b.drop i=[]:=List.drop_eq_nil_of_le (by omega)
      have st:yg (a,b,a,(a.length:Int),(i:Int))=some (.inr (.inl 1)):=by
       simp only [yg,tV,qZ,decide_true,cond_true,au,az,ah h1,ai]
      refine ⟨1,oK st,?_⟩;rw [e];simp only [bef]
      have:¬ a.length < b.length:=by omega
      simp [this]
 unfold Ov before;simp only;rcases main a.length 0 (by omega) (dg _) with ⟨c,h1,h2⟩ | ⟨h1,h2⟩
 · have h1:dm yg (a,b,a,(a.length:Int),0)=_:=h1;rw [h1];exact ⟨c,rfl,h2⟩
 · have h1:dm yg (a,b,a,(a.length:Int),0)=_:=h1;rw [h1];simp only [fm] at h2;rw [h2];by_cases d:a.length < b.length
   · refine ⟨-1,by simp [d],by simp [d]⟩
   · refine ⟨0,by simp [d],by simp [d]⟩
theorem B9g {α:Type} (p:Nat→α→Bool):∀ (l:List α) (i:Nat),(rK p l i).isSome=(l.zipIdx i).any fun x=>p x.2 x.1
 | [],_=>rfl
 | x::r,i=>by
   simp only [rK,jh,iB];by_cases h:p i x=true
   · simp [h]
   · simp only [h,if_false,aI,jH]; exact B9g p r (i + 1)
theorem Va {A B α:Type} {f:A→Option (A ⊕ B)} (l:List α) (st:Nat→A) (p:Nat→α→Bool) (b e:B)
 (h1:∀ i (h:i < l.length),f (st i)=if p i l[i] then some (.inr b) else some (.inl (st (i + 1)))) (h2:f (st l.length)=some (.inr e)) :
 dm f (st 0)=some (if (l.zipIdx.any fun x=>p x.2 x.1) then b else e):=by
 rw [Kh l st p (fun _=>b) e h1 h2,← B9g p l 0]
 cases rK p l 0 <;> rfl
section
variable {v:List Int} {es:List (List Int)} (nv:v.length ≤ 1000000) (el:∀ e ∈ es,e.length ≤ 1000000)
include nv el
theorem B6m:Kz (v,es)=some (A5x v es):=by
 unfold Kz A5x;simp only [U7 nv,ai];cases ha:asc v with
 | false=>rfl
 | true =>
   simp only [b3,cond_false,ej];by_cases hn:es.length ≤ 20000
   · have rT:¬ (es.length:Int) > 20000:=by omega
     simp only [hn,rT,decide_true,decide_false,cond_false,ej];have k0:=Va (f:=Kw) es (fun i=>((es,(es.length:Int),(i:Int)),v,es)) (fun i e=>!A9Q v es i e) (.inl false) (.inr (v,es)) (fun i hi=>by
      have eN:(i:Int) < (es.length:Int):=by omega
      have hle:=el _ (aP hi);simp only [Kw,eN,decide_true,cond_true,au,az,ah hi,ai,U7 hle,O9 ha nv hle,j5 (show i < 9223372036854775807 by omega)]
      unfold A9Q;by_cases h0:es[i]=[]
      · simp [h0]
      · have DQ:((es[i].length:Int) == 0)=false:=by
         rw [beq_eq_false_iff_ne]
         have:=List.length_pos_iff.2 h0
         omega
        have Vb:es[i].isEmpty=false:=by cases hc:es[i] with | nil=>exact absurd hc h0 | cons _ _=>rfl
        rw [DQ,cond_false,Vb];cases asc es[i] with
        | false=>rfl
        | true =>
          cases A0G es[i] v with
          | false=>rfl
          | true =>
            simp only [b3,cond_false,ek,ej];by_cases hz:i=0
            · subst hz; simp
            · have hp:(i:Int) > 0:=by omega
              have CD:(i == 0)=false:=by simpa using hz
              obtain ⟨c,h1,h2⟩:=C7r (a:=es[i - 1]) (b:=es[i]) (el _ (aP _));simp only [hp,decide_true,cond_true,yh (show 1 ≤ i by omega) (by omega),au,az,ah (show i - 1 < es.length by omega),ai,h1,h2,CD,jH,
               bh,bK]
              cases before es[i - 1] es[i] <;> simp) (by
      simp only [Kw,bx,decide_false,cond_false])
     have k0:dm Kw ((es,(es.length:Int),0),v,es)=_:=k0;rw [k0];cases hb:es.zipIdx.any fun x=>!A9Q v es x.2 x.1 with
     | true=>rfl
     | false =>
       have kL:∀ i (h:i < es.length),A9Q v es i es[i]=true:=by
        intro i hi
        have:=gC.1 hb (es[i],i) (Go.Hg.kW.2 ⟨hi,rfl⟩)
        simpa using this
       have qi:∀ i (h:i < es.length),asc es[i]=true:=by
        intro i hi
        have:=kL i hi
        unfold A9Q at this;simp only [aj] at this;exact this.1.1.2
       have k2:∀ i (h:i < es.length),dm Kx (((i:Int),es[i],es,(es.length:Int),(i:Int),es,(es.length:Int),0),v,es)=some (if A9j es i es[i] then .inl false else .inr ((es,(es.length:Int),(i:Int)),v,es)):=by
        intro i hi;have k:=Va (f:=Kx) es (fun k=>(((i:Int),es[i],es,(es.length:Int),(i:Int),es,(es.length:Int),(k:Int)),v,es)) (fun k y=>k != i && A0G y es[i]) (.inl false) (.inr ((es,(es.length:Int),(i:Int)),v,es)) (fun k hk=>by
         have nR:(k:Int) < (es.length:Int):=by omega
         simp only [Kx,nR,decide_true,cond_true,au,az,ah hk,ai,O9 (qi i hi) (el _ (aP hi)) (el _ (aP hk)),j5 (show k < 9223372036854775807 by omega)]
         by_cases c:k=i
         · subst c; simp
         · have c':((i:Int) != (k:Int))=true:=by rw [bne_iff_ne]; omega
           have c2:(k != i)=true:=by simpa using c
           rw [c',c2,cond_true];cases A0G es[k] es[i] <;> rfl) (by
         simp only [Kx,bx,decide_false,cond_false])
        exact k
       have k1:=Va (f:=Ky) es (fun i=>((es,(es.length:Int),(i:Int)),v,es)) (fun i e=>A9j es i e) (.inl false) (.inr ()) (fun i hi=>by
        have eN:(i:Int) < (es.length:Int):=by omega
        simp only [Ky,eN,decide_true,cond_true,au,az,ah hi,ai,k2 i hi,j5 (show i < 9223372036854775807 by omega)]
        cases A9j es i es[i] with
        | true=>rfl
        | false=>simp [j5 (show i < 9223372036854775807 by omega)]) (by
        simp only [Ky,bx,decide_false,cond_false])
       have k1:dm Ky ((es,(es.length:Int),0),v,es)=_:=k1;simp only [if_false,aI,ai,Sum.elim_inr];rw [k1];cases es.zipIdx.any fun x=>A9j es x.2 x.1 <;> rfl
   · have rT:(es.length:Int) > 20000:=by omega
     simp [hn,rT]
end
end Go.Mid
namespace Go.Mid
open Go.Hg (asc A0G A1E B20 less A2v bitsFrom A0t idsP C16 C3N C3O later D0S D4B B89 A5x HOk)
def jE (l:List Nat):List Int:=l.map fun (n:Nat)=>(n:Int)
@[simp] theorem A5 (l:List Nat):(jE l).length=l.length:=by simp [jE]
theorem DA {l:List Nat} {i:Nat} (h:i < l.length):(jE l)[i]?=some ((l[i]:Nat):Int):=by
 unfold jE; rw [aH,ah h]; rfl
theorem D0Y (a b:List Nat):jE (a++b)=jE a++jE b:=by simp [jE]
theorem C33 {v e:List Int} (he:∀ y ∈ e,y ∈ v):A2v v e < 2 ^ v.length:=Go.Hg.vJ fun i hi=>Go.Hg.ur he i hi
theorem C84 (n:Nat):(((n:Nat):Int) == 0)=(n == 0):=by
 cases n with
 | zero=>rfl
 | succ n=>rfl
section
variable {n:Nat} {E:List Nat} (hn:n ≤ 40) (hE:∀ e ∈ E,e < 2 ^ n) (nE:E.length ≤ 1000000)
include hn hE nE
end
section
variable {v:List Int} {es:List (List Int)} (H:HOk v es) (el:∀ e ∈ es,e.length ≤ 1000000)
include H el
end
end Go.Mid
namespace Go.Mid
open Go.Hg (asc A0G A6T A1E before sunk idsP pick A6U A06 hEs A7L A32 A4G A5w PrV nbB A4z)
theorem C85 {s:Nat} (h:s < 4294967296):cG.wrap (s:Int)=(s:Int):=FJ (k:=.u32) rfl h
theorem C7s {s i:Nat} (hs:s < 4294967296) (hi:i < 32):Ow ((s:Int),(i:Int))=some (s.testBit i):=by
 unfold Ow;have h1:((i:Int) ≥ 0):=by omega
 have h2:((i:Int) < 32):=by omega
 simp only [h1,h2,decide_true,cond_true,au,D4G (k:=.u32) rfl (show i ≤ 32 by omega) (by decide) (show s < 2 ^ cG.bits from hs)]
 cases s.testBit i <;> rfl
theorem C4M {v:List Int} {es:List (List Int)} (nv:v.length ≤ 20) {s:Nat} (hs:s < 4294967296):Ox ((v,es),(s:Int))=some (pick v s):=by
 have vL:pick v s=idsP (v.take 8) s:=rfl;have Vc:idsP (v.take (min v.length 8)) s=idsP (v.take 8) s:=by
  by_cases h:v.length ≤ 8
  · rw [cY h,dT,a7 h]
  · rw [ji (by omega)]
 have key:=r9 (f:=Hl) (min v.length 8) (fun i=>(((s:Int),(idsP (v.take i) s).length,(i:Int)),(v,es),idsP (v.take i) s)) ((idsP (v.take 8) s).length,idsP (v.take 8) s) (fun i hi=>by
  have yL:i < v.length:=by omega
  have eN:(i:Int) < (v.length:Int):=by omega
  have hi8:(i:Int) < 8:=by omega
  have hl:=D0X (v.take i) s;rw [aW] at hl;simp only [Hl,eN,hi8,decide_true,cond_true,au,az,C85 hs,C7s hs (show i < 32 by omega),ah yL,ai,j5 (show i < 9223372036854775807 by omega),C81 yL,
   jC (ar _),jC (show ((idsP (v.take i) s).length + 1) * 8 ≤ 140737488355328 by omega),oL]
  cases s.testBit i <;> simp) (by
  rw [Vc];by_cases h:v.length ≤ 8
  · have h':¬ ((min v.length 8:Nat):Int) < (v.length:Int):=by omega
    simp only [Hl,h',decide_false,cond_false]
  · have h1:((min v.length 8:Nat):Int) < (v.length:Int):=by omega
    have h2:¬ ((min v.length 8:Nat):Int) < 8:=by omega
    simp only [Hl,h1,h2,decide_true,decide_false,cond_true,cond_false])
 have key:dm Hl (((s:Int),0,0),(v,es),[])=_:=key;unfold Ox;simp only;rw [key,vL];simp only [ai,jC (ar _),cond_true,oL]
theorem Vd {α:Type} {l:List α} {i:Nat} (h:i < l.length):(l.take (i + 1)).zipIdx=(l.take i).zipIdx++[(l[i],i)]:=by
 rw [tw h,List.zipIdx_append];simp [cY (fM h)]
theorem B21 (ls:List (List Int)):∀ (l:List (List Int)) (i:Nat) (out:List (List Int)),A4G ls l i out=(l.zipIdx i).foldl (fun out x=>A32 ls x.2 x.1 out) out
 | [],_,_=>rfl
 | x::r,i,out=>by
   simp only [A4G,jh,gv,B21 ls r]
section
variable {ls:List (List Int)} (nl:ls.length ≤ 1000) (el:∀ e ∈ ls,e.length ≤ 100000)
def oM (ls:List (List Int)) (i:Nat):List (List Int):=(ls.take i).zipIdx.foldl (fun out x=>A32 ls x.2 x.1 out) []
theorem C1r {i:Nat} (h:i < ls.length):oM ls (i + 1)=A32 ls i ls[i] (oM ls i):=by
 unfold oM;rw [Vd h,iK]; rfl
include el in
theorem C34:∀ i,i ≤ ls.length→(oM ls i).length ≤ i∧∀ x ∈ oM ls i,x.length ≤ 100000
 | 0,_=>⟨ar _,fun x hx=>by simp [oM] at hx⟩
 | i + 1,h=>by
   obtain ⟨h1,h2⟩:=C34 i (by omega)
   rw [C1r (by omega)]
   unfold A32;split
   · refine ⟨by rw [C3V]; simp; omega,fun x hx=>?_⟩
     rcases ay.1 (C3W _ _ x hx) with h | h
     · exact h2 x h
     · simp only [aX] at h; subst h; exact el _ (aP _)
   · exact ⟨by omega,h2⟩
include nl el in
theorem C35:KE ls=some (A5w ls):=by
 have l1:∀ (i n:Nat) (out:List (List Int)) (h:i < ls.length),dm KC ((ls,n,(i:Int),true,0),out)=some ((ls,n,(i:Int),A7L ls i ls[i]),out):=by
  intro i n out hi;have key:=r9 (f:=KC) ls.length (fun k=>((ls,n,(i:Int),(ls.take k).zipIdx.all (fun y=>!(A0G y.1 ls[i] && (decide (y.1.length < ls[i].length) || decide (y.2 < i)))),(k:Int)),out)) ((ls,n,(i:Int),A7L ls i ls[i]),out) (fun k hk=>by
   have nR:(k:Int) < (ls.length:Int):=by omega
   have e1:=el _ (aP hk);have e2:=el _ (aP hi);simp only [KC,nR,decide_true,cond_true,au,az,ah hk,ah hi,ai,C1G (show ls[k].length ≤ 1000000 by omega) (show ls[i].length ≤ 1000000 by omega),j5 (show k < 9223372036854775807 by omega),Vd hk,List.all_append,
    List.all_cons,List.all_nil,Bool.and_true]
   cases A0G ls[k] ls[i] with
   | false=>simp
   | true =>
     by_cases c1:ls[k].length < ls[i].length
     · have Pc:((ls[k].length:Int) < (ls[i].length:Int)):=by omega
       simp [c1,Pc]
     · have Pc:¬ ((ls[k].length:Int) < (ls[i].length:Int)):=by omega
       by_cases c2:k < i
       · have Co:((k:Int) < (i:Int)):=by omega
         simp [c1,Pc,c2,Co]
       · have Co:¬ ((k:Int) < (i:Int)):=by omega
         simp [c1,Pc,c2,Co]) (by
   simp only [KC,bx,decide_false,cond_false,oL];rfl)
  exact key
 have key:=r9 (f:=KD) ls.length (fun i=>((ls,(oM ls i).length,(i:Int)),oM ls i)) ((oM ls ls.length).length,oM ls ls.length) (fun i hi=>by
  have eN:(i:Int) < (ls.length:Int):=by omega
  obtain ⟨h1,h2⟩:=C34 el i (fM hi);have e2:=el _ (aP hi);simp only [KD,eN,decide_true,cond_true,l1 i _ _ hi,ai,C1r hi];unfold A32;cases A7L ls i ls[i] with
  | false=>simp [j5 (show i < 9223372036854775807 by omega)]
  | true =>
    have uY:(oM ls i++[ls[i]]).length=(oM ls i).length + 1:=by simp
    have hw:af.wrap ((((oM ls i).length + 1:Nat):Int) - 1)=((oM ls i).length:Int):=by
     rw [yh (by omega) (by omega)]; rfl
    have sk:dm OA ((ls,(oM ls i).length + 1,(i:Int),((oM ls i).length:Int)),oM ls i++[ls[i]])=some ((ls,(oM ls i).length + 1,(i:Int)),sunk (oM ls i).length (oM ls i++[ls[i]])):=by
     refine B9c (fun k o=>((ls,(oM ls i).length + 1,(i:Int),(k:Int)),o)) (fun o=>((ls,(oM ls i).length + 1,(i:Int)),o)) ((oM ls i).length + 1) (fun k out hn hx h=>?_) (fun out=>?_) (oM ls i).length (oM ls i++[ls[i]]) (by rw [uY]; omega) uY (fun x hx=>?_)
     · have CJ:((k + 1:Nat):Int) > 0:=by omega
       have e1:k + 1 < (oM ls i).length + 1:=by omega
       have e2:k < (oM ls i).length + 1:=by omega
       have e3:k < out.length:=by omega
       simp only [OA,CJ,decide_true,cond_true,au,az,kU e1,kU e2,ah h,ah e3,ai,yh (show 1 ≤ k + 1 by omega) (by omega),dP,
        C1H (hx _ (aP h))]
       have e4:(out.set (k + 1) out[k])[k]?=some out[k]:=by rw [eB (by omega),ah e3]
       rw [e4];cases before out[k + 1] out[k] <;> simp
     · simp [OA]
     · rcases ay.1 hx with h | h
       · have:=h2 x h; omega
       · simp only [aX] at h; subst h; omega
    have uS:(sunk (oM ls i).length (oM ls i++[ls[i]])).length=(oM ls i).length + 1:=by rw [C3V,uY]
    simp only [b3,cond_false,au,decide_true,cond_true,if_true,az,ah hi,ai,bR,iA,a6,dT,jC (ar _),jC (show ls[i].length * 8 ≤ 140737488355328 by omega),
     jC (show ((oM ls i).length + 1) * 24 ≤ 140737488355328 by omega),oL,hw,sk,j5 (show i < 9223372036854775807 by omega),uS]) (by
  simp only [KD,bx,decide_false,cond_false])
 have key:dm KD ((ls,0,0),[])=_:=key;unfold KE;rw [key];have e:oM ls ls.length=A5w ls:=by
  unfold oM A5w;rw [B21,oL]
 simp only [ai,jC (ar _),cond_true,oL,e]
end
theorem D5u (N:Nat):af.wrap ((N:Int).tmod 9)=((N % 9:Nat):Int):=by
 have e:(N:Int).tmod 9=((N % 9:Nat):Int):=(Int.ofNat_tmod N 9).symm;rw [e];exact Og (by omega)
theorem D4I (N:Nat) (E:List Int) (n:Nat) (hn:n ≤ 9):dm KF (((n:Int),0),((N:Int),E),(([],0),[],0),([],0),[],0)=some (((N:Int),E),(([],0),[],0),(A06 n,n),[],0):=by
 have key:=r9 (f:=KF) n (fun i=>(((n:Int),(i:Int)),((N:Int),E),(([],0),[],0),(A06 i,i),[],0)) (((N:Int),E),(([],0),[],0),(A06 n,n),[],0) (fun i hi=>by
  have eN:(i:Int) < (n:Int):=by omega
  have hl:(A06 i).length=i:=Go.Hg.lM i;have e1:af.wrap (2 + af.wrap (3 * (i:Int)))=2 + 3 * (i:Int):=by
   rw [wrap_i64 (x:=3 * (i:Int)) (by omega) (by omega),wrap_i64 (by omega) (by omega)]
  have Ui:(A06 i++[2 + 3 * (i:Int)]).length=i + 1:=by simp
  simp only [KF,eN,decide_true,cond_true,beq_self_eq_true,hl,jC (ar _),jC (show (i + 1) * 8 ≤ 140737488355328 by omega),e1,a7 (fQ hl),Ui,j5 (show i < 9223372036854775807 by omega),Go.Hg.vK]) (by
  simp only [KF,bx,decide_false,cond_false])
 exact key
def A6 (V:List Int) (E:List Nat) (i:Nat):List (List Int):=((E.take i).map (pick V)).filter fun e=>!e.isEmpty
theorem C36 (V:List Int) {E:List Nat} {i:Nat} (h:i < E.length):A6 V E (i + 1)=A6 V E i++if (pick V E[i]).isEmpty then [] else [pick V E[i]]:=by
 unfold A6;rw [tw h,b5,eV];congr 1;simp only [aD,cl,jk,List.filter_nil];cases (pick V E[i]).isEmpty <;> rfl
theorem C4N (V:List Int) (E:List Nat) (i:Nat):(A6 V E i).length ≤ i:=by
 unfold A6;refine du (dt _ _) ?_;rw [aB,aW]; omega
theorem C7t {N:Nat} {E:List Nat} (hE:∀ e ∈ E,e < 256):OB ((N:Int),jE E)=some ((A06 (N % 9),hEs N E),decide (E.length ≤ 12)):=by
 have hn:N % 9 ≤ 9:=by omega
 have BB:(A06 (N % 9)).length=N % 9:=Go.Hg.lM _;have key:=r9 (f:=Ho) (min E.length 12) (fun i=>(((A6 (A06 (N % 9)) E i).length,(i:Int)),((N:Int),jE E),(([],0),[],0),((A06 (N % 9),N % 9),[],0),A6 (A06 (N % 9)) E i))
  ((A6U (A06 (N % 9)) E).length,((N:Int),jE E),(([],0),[],0),((A06 (N % 9),N % 9),[],0),A6U (A06 (N % 9)) E) (fun i hi=>by
  have yL:i < E.length:=by omega
  have eN:(i:Int) < ((jE E).length:Int):=by rw [A5]; omega
  have Ve:(i:Int) < 12:=by omega
  have hl:=C4N (A06 (N % 9)) E i;have hb:=hE _ (aP yL);simp only [Ho,eN,Ve,decide_true,cond_true,au,az,DA yL,ai,BB,jC (ar _),List.length_nil,iA,a7 (fQ BB),C4M (show (A06 (N % 9)).length ≤ 20 by omega) (show E[i] < 4294967296 by omega),
   jC (show ((A6 (A06 (N % 9)) E i).length + 1) * 24 ≤ 140737488355328 by omega),oL,j5 (show i < 9223372036854775807 by omega),C36 (A06 (N % 9)) yL]
  cases hp:pick (A06 (N % 9)) E[i] with
  | nil=>simp
  | cons a r =>
    have:(((a::r).length:Int) > 0):=by simp
    simp only [this,decide_true,cond_true,List.isEmpty_cons,aI,if_false,aQ,eg]) (by
  have e:A6 (A06 (N % 9)) E (min E.length 12)=A6U (A06 (N % 9)) E:=by
   unfold A6 A6U;congr 2;by_cases h:E.length ≤ 12
   · rw [cY h,dT,a7 h]
   · rw [ji (by omega)]
  rw [e];by_cases h:E.length ≤ 12
  · have h':¬ ((min E.length 12:Nat):Int) < ((jE E).length:Int):=by rw [A5]; omega
    simp only [Ho,h',decide_false,cond_false]
  · have h1:((min E.length 12:Nat):Int) < ((jE E).length:Int):=by rw [A5]; omega
    have h2:¬ ((min E.length 12:Nat):Int) < 12:=by omega
    simp only [Ho,h1,h2,decide_true,decide_false,cond_true,cond_false])
 have key:dm Ho ((0,0),((N:Int),jE E),(([],0),[],0),((A06 (N % 9),N % 9),[],0),[])=_:=key;have hed:KE (A6U (A06 (N % 9)) E)=some (hEs N E):=by
  refine C35 (by have:=Go.Hg.pO N E; omega) fun e he=>?_
  obtain ⟨_,s,rfl⟩:=Go.Hg.oD he
  have:=Go.Hg.uq (A06 (N % 9)) s
  omega
 unfold OB;simp only [D5u,D4I N (jE E) (N % 9) hn,ai,key,jC (ar _),cond_true,oL,hed,BB,a7 (fQ BB)];by_cases h:E.length ≤ 12
 · have h':((jE E).length:Int) ≤ 12:=by rw [A5]; omega
   simp [h];omega
 · have h':¬ ((jE E).length:Int) ≤ 12:=by rw [A5]; omega
   simp [h];omega
def Pd (y:Nat) (s:Nat×Nat) (k:Nat):Nat×Nat:=if y.testBit k && decide (s.1 < 2) then (s.1 + 1,s.2 ||| 1 <<< k) else s
def rL (y k:Nat):Nat×Nat:=(bA k).foldl (Pd y) (0,0)
def pf (y:Nat):Nat:=(rL y 8).2
theorem B9h (y k:Nat):rL y (k + 1)=Pd y (rL y k) k:=by
 unfold rL;rw [jL,iK]; rfl
theorem Pe (y:Nat):∀ k,(rL y k).1 ≤ 2∧(rL y k).2 < 2 ^ k∧((bA k).filter fun i=>(rL y k).2.testBit i).length=(rL y k).1
 | 0=>⟨by simp [rL],by simp [rL],rfl⟩
 | k + 1=>by
   obtain ⟨h1,h2,h3⟩:=Pe y k;rw [B9h];unfold Pd;have hp:2 ^ k < 2 ^ (k + 1):=Nat.pow_lt_pow_right (by decide) (kP k)
   split
   · rename_i hc;simp only [aj,decide_eq_true_eq] at hc;refine ⟨by show (rL y k).1 + 1 ≤ 2; omega,fD (by omega) (uX (kP k)),?_⟩
     rw [jL,eV,aQ];have e1:((bA k).filter fun i=>((rL y k).2 ||| 1 <<< k).testBit i)=(bA k).filter fun i=>(rL y k).2.testBit i:=by
      refine mG fun i hi=>?_
      have:=cA.1 hi
      rw [fp,Go.Hg.lL];have eA:¬ i=k:=by omega
      simp [eA]
     rw [e1,h3];simp [fp,Go.Hg.lL]
   · refine ⟨h1,by omega,?_⟩
     rw [jL,eV,aQ,h3]
     have:(rL y k).2.testBit k=false:=fP h2
     simp [this]
theorem D2P (y:Nat):pf y < 256:=(Pe y 8).2.1
theorem C86 (V:List Int) (y:Nat):(pick V (pf y)).length ≤ 2:=by
 obtain ⟨h1,_,h3⟩:=Pe y 8
 have:(pick V (pf y)).length ≤ ((bA 8).filter fun i=>(rL y 8).2.testBit i).length:=by
  unfold pick;rw [aB];have e:((V.take 8).zipIdx.filter fun x=>(pf y).testBit x.2).length=(((V.take 8).zipIdx.filter fun x=>(pf y).testBit x.2).map (·.2)).length:=by rw [aB]
  rw [e];have e2:((V.take 8).zipIdx.filter fun x=>(pf y).testBit x.2).map (·.2)=(bA (V.take 8).length).filter fun i=>(pf y).testBit i:=by
   have:(V.take 8).zipIdx.map (·.2)=bA (V.take 8).length:=by
    rw [List.zipIdx_map_snd,lq]
   rw [← this,List.filter_map]; rfl
  rw [e2];have hl:(V.take 8).length ≤ 8:=by rw [aW]; omega
  have hs:(bA (V.take 8).length).Sublist (bA 8):=List.range_sublist.2 hl;exact (hs.filter _).length_le
 omega
theorem D1t {k:IntKind} {m i:Nat} (hi:i ≤ k.bits):((jJ k (m:Int) (i:Int)).tmod 2 == 1)=m.testBit i:=by
 rw [D4E hi]
 have:((m >>> i:Nat):Int).tmod 2=(((m >>> i) % 2:Nat):Int):=(Int.ofNat_tmod (m >>> i) 2).symm
 rw [this,← jS,C5I,Nat.testBit_shiftRight,dF];cases m.testBit i <;> rfl
abbrev Z0:(List Int×Nat)×List (List Int)×Nat:=(([],0),[],0)
section
variable {N:Nat} {E:List Nat} {R:List Int} {skip:Nat}
theorem D5v (c:Nat) {i:Nat} (hi:i < E.length) (cut:List Int):dm KH ((c,(i:Int),0,0,0),((N:Int),jE E),(R,(skip:Int)),Z0,cut)=some ((c,(i:Int),((pf E[i]:Nat):Int)),((N:Int),jE E),(R,(skip:Int)),Z0,cut):=by
 have key:=r9 (f:=KH) 8 (fun k=>((c,(i:Int),(((rL E[i] k).1:Nat):Int),(((rL E[i] k).2:Nat):Int),(k:Int)),((N:Int),jE E),(R,(skip:Int)),Z0,cut)) ((c,(i:Int),((pf E[i]:Nat):Int)),((N:Int),jE E),(R,(skip:Int)),Z0,cut) (fun k hk=>by
  have nR:(k:Int) < 8:=by omega
  obtain ⟨h1,h2,_⟩:=Pe E[i] k;have hp:(rL E[i] k).2 < 2 ^ IntKind.u8.bits:=bp h2 (eD (by decide) (show k ≤ 8 by omega))
  have e1:qh .u8 1 (k:Int)=((1 <<< k:Nat):Int):=D4F (k:=.u8) rfl (m:=1) (show k ≤ 8 by omega) (uX (show k < 8 by omega))
  have e2:=FK (k:=.u8) rfl hp (uX (show k < 8 by omega))
  simp only [KH,nR,decide_true,cond_true,au,az,DA hi,ai,D1t (k:=.u8) (show k ≤ 8 by omega),j5 (show k < 9223372036854775807 by omega),B9h,Pd,e1,e2]
  cases hb:E[i].testBit k with
  | false=>simp
  | true =>
    by_cases c2:(rL E[i] k).1 < 2
    · have Co:(((rL E[i] k).1:Nat):Int) < 2:=by omega
      simp [c2,Co,j5 (show (rL E[i] k).1 < 9223372036854775807 by omega)]
    · have Co:¬ (((rL E[i] k).1:Nat):Int) < 2:=by omega
      simp [c2,Co]) (by
  simp [KH,pf])
 exact key
theorem D5w (hE:E.length ≤ reachBytes):dm KJ ((0,0),((N:Int),jE E),(R,(skip:Int)),Z0,[])=some (E.length,((N:Int),jE E),(R,(skip:Int)),Z0,jE (E.map pf)):=by
 have hr:reachBytes=140737488351232:=rfl;have key:=r9 (f:=KJ) E.length (fun i=>((i,(i:Int)),((N:Int),jE E),(R,(skip:Int)),Z0,jE ((E.take i).map pf))) (E.length,((N:Int),jE E),(R,(skip:Int)),Z0,jE (E.map pf)) (fun i hi=>by
  have eN:(i:Int) < ((jE E).length:Int):=by rw [A5]; omega
  have hl:(jE ((E.take i).map pf)).length=i:=by simp; omega
  have e1:jE ((E.take (i + 1)).map pf)=jE ((E.take i).map pf)++[((pf E[i]:Nat):Int)]:=by
   rw [tw hi,b5,D0Y]; rfl
  have l1:=D5v (N:=N) (R:=R) (skip:=skip) i hi (jE ((E.take i).map pf));simp only [KJ,eN,decide_true,cond_true,l1,ai,hl,jC (ar _),jC (show (i + 1) * 1 ≤ 140737488355328 by omega),a7 (fQ hl),j5 (show i < 9223372036854775807 by omega),e1]) (by
  simp only [KJ,A5,bx,decide_false,cond_false,oL])
 exact key
end
def uw (v:List Int) (R:List Int) (x:Int):Int:=match rK (fun _ y=>y == x) (v.take R.length) 0 with | some i=>R.getD i 0 | none=>0
theorem C4O {v:List Int} {es:List (List Int)} {R:List Int} (nv:v.length ≤ 1000) (sk x:Int):KG ((v,es),(R,sk),x)=some (uw v R x):=by
 have hl:(v.take R.length).length=min R.length v.length:=aW;have key:=Kh (f:=Hp) (v.take R.length) (fun i=>((x,(i:Int)),(v,es),R,sk)) (fun _ y=>y == x) (fun i=>.inl (R.getD i 0)) (.inr ()) (fun i hi=>by
  rw [hl] at hi;have h1:i < v.length:=by omega
  have h2:i < R.length:=by omega
  have tV:(i:Int) < (v.length:Int):=by omega
  have qZ:(i:Int) < (R.length:Int):=by omega
  simp only [Hp,tV,qZ,decide_true,cond_true,au,az,ah h1,ah h2,ai,j5 (show i < 9223372036854775807 by omega),List.getElem_take,bh,bK]
  cases v[i] == x <;> rfl) (by
  rw [hl];by_cases h1:R.length < v.length
  · have tV:((min R.length v.length:Nat):Int) < (v.length:Int):=by omega
    have qZ:¬ ((min R.length v.length:Nat):Int) < (R.length:Int):=by omega
    simp only [Hp,tV,qZ,decide_true,decide_false,cond_true,cond_false]
  · have tV:¬ ((min R.length v.length:Nat):Int) < (v.length:Int):=by omega
    simp only [Hp,tV,decide_false,cond_false])
 have key:dm Hp ((x,0),(v,es),R,sk)=_:=key;unfold KG uw;simp only;rw [key];cases rK (fun _ y=>y == x) (v.take R.length) 0 <;> rfl
def DB (v R:List Int) (skip:Nat) (e:List Int) (i:Nat):PrV:=match e with
 | a::b::_=>if skip.testBit i then [] else if uw v R a > uw v R b then [(b,a)] else [(a,b)]
 | _=>[]
def A7 (v R:List Int) (skip:Nat) (es:List (List Int)) (i:Nat):PrV:=(es.take i).zipIdx.flatMap fun x=>DB v R skip x.1 x.2
def zS (v R:List Int) (skip:Nat) (es:List (List Int)):PrV:=A7 v R skip es es.length
theorem C87 (v R:List Int) (skip:Nat) (e:List Int) (i:Nat):(DB v R skip e i).length ≤ 1:=by
 unfold DB;split
 · split
   · simp
   · split <;> simp
 · simp
theorem C1s (v R:List Int) (skip:Nat) {es:List (List Int)} {i:Nat} (h:i < es.length):A7 v R skip es (i + 1)=A7 v R skip es i++DB v R skip es[i] i:=by
 unfold A7;rw [Vd h,List.flatMap_append];simp
theorem Vf (v R:List Int) (skip:Nat) (es:List (List Int)):∀ i,i ≤ es.length→(A7 v R skip es i).length ≤ i
 | 0,_=>by simp [A7]
 | i + 1,h=>by
   rw [C1s v R skip (by omega),aQ]
   have h1:=Vf v R skip es i (by omega)
   have h2:=C87 v R skip es[i] i;omega
theorem D5x {v R:List Int} {skip:Nat} {es:List (List Int)} (nv:v.length ≤ 1000) (ne:es.length ≤ 12) (ok:Bool) :
 dm KK ((ok,0,0),(R,(skip:Int)),Z0,(v,es),[])=some ((ok,(zS v R skip es).length),Z0,(v,es),zS v R skip es):=by
 have key:=r9 (f:=KK) es.length (fun i=>((ok,(A7 v R skip es i).length,(i:Int)),(R,(skip:Int)),Z0,(v,es),A7 v R skip es i)) ((ok,(zS v R skip es).length),Z0,(v,es),zS v R skip es) (fun i hi=>by
  have eN:(i:Int) < (es.length:Int):=by omega
  have hl:=Vf v R skip es i (by omega)
  simp only [KK,eN,decide_true,cond_true,au,az,ah hi,ai,D1t (k:=.u16) (show i ≤ 16 by omega),C4O nv,jC (ar _),jC (show ((A7 v R skip es i).length + 1) * 16 ≤ 140737488355328 by omega),oL,
   j5 (show i < 9223372036854775807 by omega),C1s v R skip hi]
  unfold DB
  match hm:es[i] with
  | []=>simp
  | [a]=>simp
  | a::b::r =>
    have h2:¬ (((a::b::r).length:Int) < 2):=by simp; omega
    simp only [h2,decide_false,cond_false,bP,List.getElem?_cons_succ,ai];cases skip.testBit i with
    | true=>simp
    | false =>
      by_cases c:uw v R a > uw v R b
      · simp [c]
      · simp [c]) (by
  simp only [KK,bx,decide_false,cond_false];rfl)
 exact key
theorem C88 {N:Nat} {E:List Nat} {R:List Int} {skip:Nat} (hE:E.length ≤ reachBytes):KL (((N:Int),jE E),R,(skip:Int)) =
 some ((A06 (N % 9),hEs N (E.map pf)),zS (A06 (N % 9)) R skip (hEs N (E.map pf)),decide (E.length ≤ 12)):=by
 have hl:(jE (E.map pf)).length=E.length:=by simp
 have h8:∀ e ∈ E.map pf,e < 256:=by
  intro e he;obtain ⟨y,_,rfl⟩:=bj.1 he;exact D2P y
 unfold KL;have BB:(A06 (N % 9)).length=N % 9:=Go.Hg.lM _;have hy:=C7t (N:=N) h8;rw [aB] at hy;have l0:=D5w (N:=N) (R:=R) (skip:=skip) hE;have l2:=D5x (v:=A06 (N % 9)) (R:=R) (skip:=skip) (es:=hEs N (E.map pf)) (by omega) (Go.Hg.pe _ _) (decide (E.length ≤ 12))
 simp only [l0,ai,hl,jC (ar _),cond_true,a7 (fQ hl),hy,l2,oL]
section
variable {N:Nat} {E:List Nat} {R:List Int} {skip:Nat}
theorem D4J:∀ e ∈ hEs N (E.map pf),e.length ≤ 2:=by
 intro e he;have h1:=Go.Hg.pN N _ he;unfold A6U at h1;obtain ⟨h1,_⟩:=cf.1 h1;obtain ⟨y,hy,rfl⟩:=bj.1 h1;obtain ⟨z,_,rfl⟩:=bj.1 (List.mem_of_mem_take hy);exact C86 _ z
theorem D4K:∀ e ∈ hEs N (E.map pf),asc e=true:=fun e he=>Go.Hg.mY N _ e (Go.Hg.pN N _ he)
theorem D5y:Go.Hg.Gr (A06 (N % 9)) (hEs N (E.map pf)):=⟨Go.Hg.Dy N _,D4K,D4J⟩
end
end Go.Mid
namespace Go.Mid
open Go.Hg (asc Gr PrV nbB A5Z A4z Acy A06 hEs)
theorem C37 {v R:List Int} {skip:Nat} {es:List (List Int)} {q:Int×Int}:q ∈ zS v R skip es↔∃ i,∃ h:i < es.length,q ∈ DB v R skip es[i] i:=by
 unfold zS A7;rw [oL,List.mem_flatMap];constructor
 · rintro ⟨x,hx,hq⟩;obtain ⟨e,i⟩:=x;obtain ⟨hi,he⟩:=Go.Hg.kW.1 hx;subst he;exact ⟨i,hi,hq⟩
 · rintro ⟨i,hi,hq⟩;exact ⟨(es[i],i),Go.Hg.kW.2 ⟨hi,rfl⟩,hq⟩
theorem B6R {v R:List Int} {skip i:Nat} {e:List Int} {q:Int×Int} (h:q ∈ DB v R skip e i):∃ a b r,e=a::b::r∧((q=(b,a)∧uw v R a > uw v R b)∨(q=(a,b)∧¬ uw v R a > uw v R b)):=by
 unfold DB at h;split at h
 · rename_i a b r;refine ⟨a,b,r,rfl,?_⟩;split at h
   · cases h
   · split at h
     · rename_i hc; simp only [aX] at h; exact .inl ⟨h,hc⟩
     · rename_i hc; simp only [aX] at h; exact .inr ⟨h,hc⟩
 · cases h
theorem C1t {v R:List Int} (hR:∀ r ∈ R,0 ≤ r) (x:Int):0 ≤ uw v R x:=by
 unfold uw;split
 · rename_i i hi;rw [bh];cases hc:R[i]? with
   | none=>exact lr _
   | some r=>exact hR r (bG hc)
 · exact lr _
section
variable {v R:List Int} {skip:Nat} {es:List (List Int)} (G:Gr v es)
include G
theorem D5z {q:Int×Int} (h:q ∈ zS v R skip es):nbB es q.1 q.2=true∧q.1 ∈ v∧q.2 ∈ v:=by
 obtain ⟨i,hi,hq⟩:=C37.1 h;have he:=aP hi;obtain ⟨a,b,r,e,h1⟩:=B6R hq;have ha:a ∈ v:=G.l5.qQ _ he a (by rw [e]; simp)
 have hb:b ∈ v:=G.l5.qQ _ he b (by rw [e]; simp)
 have hn:nbB es a b=true:=by
  rcases G.cases he with ⟨x,e2,_⟩ | ⟨x,y,e2,_,hn⟩
  · rw [e] at e2; simp at e2
  · rw [e] at e2;simp only [iu] at e2;obtain ⟨rfl,rfl,_⟩:=e2;exact hn
 rcases h1 with ⟨rfl,_⟩ | ⟨rfl,_⟩
 · exact ⟨by rw [Go.Hg.n9]; exact hn,hb,ha⟩
 · exact ⟨hn,ha,hb⟩
theorem D4L (hR:∀ r ∈ R,0 ≤ r) (hv:∀ x ∈ v,0 ≤ x∧x < 1000):Acy (zS v R skip es):=by
 refine ⟨fun x=>(uw v R x).toNat * 1000 + x.toNat,fun q h=>?_⟩
 obtain ⟨i,hi,hq⟩:=C37.1 h;have he:=aP hi;obtain ⟨a,b,r,e,h1⟩:=B6R hq;have ha:=hv a (G.l5.qQ _ he a (by rw [e]; simp))
 have hb:=hv b (G.l5.qQ _ he b (by rw [e]; simp))
 have eF:a < b:=by
  rcases G.cases he with ⟨x,e2,_⟩ | ⟨x,y,e2,vq,_⟩
  · rw [e] at e2; simp at e2
  · rw [e] at e2;simp only [iu] at e2;obtain ⟨rfl,rfl,_⟩:=e2;exact vq
 have k1:=C1t (v:=v) hR a;have k2:=C1t (v:=v) hR b;rcases h1 with ⟨rfl,h1⟩ | ⟨rfl,h1⟩
 · show (uw v R b).toNat * 1000 + b.toNat < (uw v R a).toNat * 1000 + a.toNat;omega
 · show (uw v R a).toNat * 1000 + a.toNat < (uw v R b).toNat * 1000 + b.toNat;omega
end
theorem D4M {v R:List Int} {skip:Nat} {es:List (List Int)}:(zS v R skip es).length ≤ es.length:=Vf v R skip es es.length (ar _)
theorem C89 {n:Nat} (hn:n ≤ 9):∀ x ∈ A06 n,0 ≤ x∧x < 1000:=by
 intro x hx;unfold A06 at hx;obtain ⟨i,hi,rfl⟩:=bj.1 hx
 have:=cA.1 hi
 omega
end Go.Mid
