/- Tools for plain laws: loops step by step, sums, bounds. -/
import Derived.Test.YtfjdpcegbfenbaaGreatDoorN2
import Derived.Test.YtfjdpcegbfenbaaGreatDoorT2
set_option linter.unusedSimpArgs false
set_option linter.unusedVariables false
open BitVec renaming ofInt → b8, toNat_and → ru, toNat_ofNat → iu
open Bool renaming false_eq_true → aI, false_or → gL, and_eq_true → aj, eq_iff_iff → c6, true_and → dm, not_true → bO, not_false → auI
open Classical renaming byContradiction → b5
open Go.IntKind renaming wrap → ie, bits → gu, signed → fe, i64 → af, u64 → aK
open Int renaming lt_trans → qH, min_eq_left → n3, max_eq_right → nj, le_total → vg, toNat_natCast → ar, natCast_nonneg → aq, not_lt → yn, lt_irrefl → ba, natCast_zero → b7, eq_ofNat_of_zero_le → eB, toNat → lV
open List renaming take_length → dM, range → bA, range' → mJ, filter_cons → jl, getElem_cons_succ → fL, any_cons → gK, pairwise_cons → bN, mem_cons → aG, getElem?_eq_getElem → ah, mem_map → bp, mem_filter → cZ, mem_zipIdx_iff_getElem? → iC, getElem?_eq_some_iff → aJ, contains_iff_mem → bj, zipIdx_cons → ji, pairwise_iff_getElem → dE, length_filter_le → dt, mem_cons_self → dS, mem_cons_of_mem → bC, isEmpty_iff → fU, any_eq_true → fV, length_tail → kT, getElem_tail → mR, getD_eq_getElem?_getD → bh, getElem?_eq_none_iff → mC, mem_iff_getElem → eA, getElem_mem → aM, not_any_eq_all_not → j0, contains_eq_any_beq → mU, drop_length → eS, drop_eq_getElem_cons → bY, drop_eq_nil_of_le → nP, drop_zero → fh, length_take → aW, length_zip → sd, length_pos_iff → gQ, length_cons → bf, cons_append → aS, length_append → aR, length_drop → cm, getElem?_append_right → bG, length → cz, length_nil → cM, set_append_right → eh, set_cons_zero → dR, ext_getElem? → fy, getElem?_set → dD, take_of_length_le → a6, length_set → iy, set_set → nK, replicate → au, length_replicate → fZ, map → fp, map_id → wR, map_append → b9, getElem?_eq_none → bJ, length_map → aB, append_nil → bD, map_congr_left → eJ, mem_range → cu, take → aP, getElem_of_mem → pd, countP_cons → rz, nodup_cons → bZ, countP_append → p9, pairwise_append → cF, mem_singleton → aX, mem_append → az, mem_append_left → cV, mem_append_right → kK, nodup_append → aT, map_cons → aF, pairwise_map → eG
open Nat renaming ble_eq_true_of_le → auP, testBit_zero → rl, testBit_succ → rm, eq_of_testBit_eq → jc, pow_succ → lQ, add_zero → dG, mul_add → wQ, mul_one → gz, mul_assoc → ue, testBit_two_pow_mul_add → lR, testBit_two_pow_sub_one → iJ, testBit_and → gp, le_refl → ay, zero_le → dg, one_shiftLeft → mQ, testBit_lt_two_pow → fM, lt_of_lt_of_le → br, pow_le_pow_right → ez, sub_zero → gv, le_trans → dF, mod_eq_of_lt → eQ, lt_of_le_of_lt → eU, zero_add → bS, add_sub_cancel → dT, lt_or_eq_of_le → mg, min_eq_left → cX, sub_self → gx, add_assoc → bV, blt → cP, beq → iI, le_of_lt → fH, min_eq_right → jk, lt_succ_iff_lt_or_eq → mV
open Option renaming getD_some → bI, bind_some → ai
open Option.some renaming injEq → aa
namespace Go.Mid
section
variable {A B:Type}{f:A->Option (A ⊕ B)}
theorem tQ (n:Nat)(T:Nat->A)(b:B)(h1:∀ i,i<n->f (T i)=some (.inl (T (i+1))))(h2:f (T n)=some (.inr b)):A0d f (T 0)=some b:=by
 have:∀ k i,i+k=n->A0d f (T i)=some b:=by
  intro k
  induction k with
  | zero=>intro i hi;obtain rfl:i=n:=by omega
          exact qc h2
  | succ k ih=>intro i hi;rw [vw (h1 i (by omega))];exact ih (i+1) (by omega)
 exact this n 0 (by omega)
end
theorem jE {a b:Nat}(h:a<=b):a.ble b=true:=auP h
theorem D9e {a b:Nat}(h:b<a):a.ble b=false:=by
 cases hc:a.ble b with
 | false=>rfl
 | true=>have:=Nat.le_of_ble_eq_true hc;omega
theorem lB {a b:Nat}(h:a<b):a.blt b=true:=auP h
theorem D9f {a b:Nat}(h:b<=a):a.blt b=false:=D9e (by omega)
theorem pN {α:Type}(l:List α):l.take l.length=l:=dM
theorem vz {α:Type}{l:List α}{i:Nat}(h:i<l.length):l.take (i+1)=l.take i++[l[i]]:=List.take_succ_eq_append_getElem h
section
variable {α β:Type}
end
end Go.Mid
namespace Go.Mid
theorem C5S (m:Nat):(m &&& 1)=if m.testBit 0 then 1 else 0:=by
 rw [Nat.and_one_is_mod,rl]
 have:=Nat.mod_two_eq_zero_or_one m
 rcases this with h | h<;>simp [h]
def rZ (m:Nat):List Nat:=(bA 32).filter λi=>m.testBit i
theorem W7:∀ {m:Nat},m≠0->∃ k,m.testBit k=true∧∀ j,j<k->m.testBit j=false:=by
 intro m
 induction m using Nat.strongRecOn with
 | _ m ih =>
   intro h;by_cases h0:m.testBit 0=true
   . exact ⟨0,h0,λj hj=>by omega⟩
   . have h2:m / 2≠0:=by
      intro e;rw [rl] at h0
      have:m%2≠1:=by simpa using h0
      omega
     obtain ⟨k,hk,hl⟩:=ih (m / 2) (by omega) h2
     refine ⟨k+1,by rw [rm];exact hk,λj hj=>?_⟩
     cases j with
     | zero=>simpa using h0
     | succ j=>rw [rm];exact hl j (by omega)
theorem D0Z {m k:Nat}(hk:m.testBit k=true)(hl:∀ j,j<k->m.testBit j=false):∃ q,m=2 ^ k*(2*q+1):=by
 refine ⟨m / 2 ^ (k+1),?_⟩;have h1:m%2 ^ k=0:=by
  apply jc;intro i;rw [Nat.testBit_mod_two_pow,Nat.zero_testBit];by_cases h:i<k
  . rw [hl i h];simp
  . simp [h]
 have h2:m / 2 ^ k%2=1:=by
  rw [Nat.testBit_eq_decide_div_mod_eq] at hk;simpa using hk
 have h3:m / 2 ^ (k+1)=m / 2 ^ k / 2:=by rw [lQ,Nat.div_div_eq_div_mul]
 rw [h3];have h4:=Nat.div_add_mod m (2 ^ k);rw [h1,dG] at h4;have h5:2*(m / 2 ^ k / 2)+1=m / 2 ^ k:=by omega
 rw [h5];exact h4.symm
theorem C3W {m k j:Nat}(hk:m.testBit k=true)(hl:∀ j,j<k->m.testBit j=false):(m-1).testBit j=if j<k then true else if j=k then false else m.testBit j:=by
 obtain ⟨q,rfl⟩:=D0Z hk hl;have hp:0<2 ^ k:=Nat.two_pow_pos k;have e1:2 ^ k*(2*q+1)-1=2 ^ (k+1)*q+(2 ^ k-1):=by
  rw [lQ,wQ,gz,← ue];omega
 have e2:2 ^ k*(2*q+1)=2 ^ (k+1)*q+2 ^ k:=by
  rw [lQ,wQ,gz,← ue]
 rw [e1,e2];have W8:2 ^ k-1<2 ^ (k+1):=by rw [lQ];omega
 have KX:2 ^ k<2 ^ (k+1):=by rw [lQ];omega
 rw [lR _ W8,lR _ KX];by_cases h1:j<k
 . simp [h1,Nat.lt_succ_of_lt h1,iJ]
 . by_cases h2:j=k
   . subst h2;simp [iJ]
   . have:¬ j<k+1:=by omega
     simp [h1,h2,this]
theorem D00 {m k:Nat}(hk:m.testBit k=true)(hl:∀ j,j<k->m.testBit j=false)(i:Nat):(m &&& (m-1)).testBit i=(m.testBit i&&decide (i≠k)):=by
 rw [gp,C3W hk hl];by_cases h1:i<k
 . simp [h1,hl i h1]
 . by_cases h2:i=k
   . subst h2;simp
   . simp [h1,h2]
theorem B5Q {p:Nat->Bool}{k:Nat}:∀ (n s:Nat),s<=k->k<s+n->(∀ j,s<=j->j<k->p j=false)->p k=true->
 (mJ s n).filter p=k::(mJ s n).filter (λi=>p i&&decide (i≠k))
 | 0,s,h1,h2,_,_=>by omega
 | n+1,s,h1,h2,hl,hk=>by
   rw [List.range'_succ];by_cases h:s=k
   . subst h;simp only [jl,hk,if_true,ne_eq,not_true_eq_false,decide_false,Bool.and_false,aI,if_false];congr 1;apply List.filter_congr;intro x hx
     have:=List.mem_range'_1.1 hx
     have:x≠s:=by omega
     simp [this]
   . have hs:p s=false:=hl s (ay _) (by omega)
     simp only [jl,hs,Bool.false_and,aI,if_false];exact B5Q n (s+1) (by omega) (by omega) (λj a b=>hl j (by omega) b) hk
theorem C4R {m k:Nat}(h:k<32)(hk:m.testBit k=true)(hl:∀ j,j<k->m.testBit j=false):rZ m=k::rZ (m &&& (m-1)):=by
 unfold rZ;rw [List.range_eq_range'];rw [B5Q 32 0 (dg _) (by omega) (λj _ b=>hl j b) hk]
 congr 2;funext i;exact (D00 hk hl i).symm
end Go.Mid
namespace Go.Hg
def B3h (e s:Nat):Bool:=(e &&& s)==e
def less (a b:Nat):Nat:=a ^^^ (a &&& b)
theorem qs (a b i:Nat):(less a b).testBit i=(a.testBit i && !b.testBit i):=by
 unfold less;rw [Nat.testBit_xor,gp];cases a.testBit i<;>cases b.testBit i<;>rfl
theorem lN (v i:Nat):(1 <<< v).testBit i=decide (i=v):=by
 rw [mQ,Nat.testBit_two_pow];exact decide_eq_decide.2 eq_comm
theorem pO {s n i:Nat}(h:s<2 ^ n)(hi:n<=i):s.testBit i=false :=
 fM (br h (ez (by omega) hi))
def leaves:Nat->Nat->Nat->List Nat
 | 0,_,s=>[s]
 | k+1,v,s=>leaves k (v+1) (s ||| 1 <<< v)++leaves k (v+1) s
def C3X (E:List Nat)(u m:Nat):Bool:=E.any λe=>e.testBit u&&B3h (less e (1 <<< u)) m
def C3Y (E:List Nat)(s:Nat):Bool:=E.any λe=>B3h e s
def later (k v:Nat):Nat:=(2 ^ k-1) <<< v
def D01 (E:List Nat)(k v sm out:Nat):Bool:=(bA v).any λu=>out.testBit u && !C3X E u (sm ||| later k v)
def C2g (E:List Nat):Nat->Nat->Nat->Nat->List Nat
 | 0,v,sm,out=>if D01 E 0 v sm out then [] else [sm]
 | k+1,v,sm,out=>if D01 E (k+1) v sm out then [] else
   (if C3Y E (sm ||| 1 <<< v) then [] else C2g E k (v+1) (sm ||| 1 <<< v) out)++C2g E k (v+1) sm (out ||| 1 <<< v)
section
variable {β:Type}
def idx (p:β->Bool):List β->Nat->Option Nat
 | [],_=>none
 | x::r,i=>if p x then some i else idx p r (i+1)
theorem W9 {p:β->Bool}:∀ {l:List β} {i k:Nat},idx p l i=some k->i<=k∧k<i+l.length∧(∃ h:k-i<l.length,p (l[k-i]'h)=true)∧∀ j (h:j<l.length),i+j<k->p l[j]=false
 | [],i,k,h=>by cases h
 | x::r,i,k,h=>by
   simp only [idx] at h;by_cases hp:p x=true
   . simp only [hp,if_true,aa] at h;subst h;refine ⟨ay _,by simp,⟨by simp,by simpa using hp⟩,λj _ hj=>by omega⟩
   . simp only [hp,if_false,aI] at h;obtain ⟨h1,h2,⟨h3,h4⟩,h5⟩:=W9 h;have e:k-i=(k-(i+1))+1:=by omega
     refine ⟨by omega,by simp;omega,⟨by simp;omega,?_⟩,?_⟩
     . simp only [e,fL];exact h4
     . intro j hj hjk;cases j with
       | zero=>simpa using hp
       | succ j=>simp only [fL];exact h5 j (by simpa using hj) (by omega)
theorem Xa (p:β->Bool):∀ (l:List β) (i:Nat),(idx p l i).isSome=l.any p
 | [],_=>rfl
 | x::r,i=>by
   simp only [idx,gK];by_cases hp:p x=true
   . simp [hp]
   . simp only [hp,if_false,aI,gL];exact Xa p r (i+1)
end
def within (a b:List Int):Bool:=a.all λx=>b.contains x
def asc:List Int->Bool
 | a::b::r=>decide (a<b)&&asc (b::r)
 | _=>true
def bef:List Int->List Int->Option Bool
 | a::r,b::q=>if a=b then bef r q else some (decide (a<b))
 | _,_=>none
def before (a b:List Int):Bool:=match bef a b with | some t=>t | none=>decide (a.length<b.length)
def free (es:List (List Int))(l:List Int):Bool:=!es.any λe=>within e l
def pick (v:List Int)(s:Nat):List Int:=((v.take 8).zipIdx.filter λx=>s.testBit x.2).map (·.1)
def A5O (v:List Int)(es:List (List Int))(l:List Int):Bool:=asc l&&within l v&&free es l
def A09 (v:List Int)(es:List (List Int))(l:List Int):Bool:=A5O v es l&&v.all λx=>l.contains x || !free es (l++[x])
def A4q:Nat->List (List Int)->List (List Int)
 | 0,out=>out
 | k+1,out=>match out[k+1]?,out[k]? with
   | some x,some y=>if before x y then A4q k ((out.set (k+1) y).set k x) else out
   | _,_=>out
def A75 (ls:List (List Int))(i:Nat)(x:List Int):Bool:=(ls.zipIdx).all λy=>!(within y.1 x&&(decide (y.1.length<x.length) || decide (y.2<i)))
def A4b (ls:List (List Int))(i:Nat)(x:List Int)(out:List (List Int)):List (List Int):=if A75 ls i x then A4q out.length (out++[x]) else out
def A4S (ls:List (List Int)):List (List Int)->Nat->List (List Int)->List (List Int)
 | [],_,out=>out
 | x::r,i,out=>A4S ls r (i+1) (A4b ls i x out)
def A5P (ls:List (List Int)):List (List Int):=A4S ls ls 0 []
def D7m (v:List Int)(s:Nat):List Int:=(v.zipIdx.filter λx=>s.testBit x.2).map (·.1)
def A0t (v:List Int)(y:Int):Nat:=(idx (· == y) v 0).getD 0
theorem iV {v:List Int}{y:Int}(h:y∈v):A0t v y<v.length:=by
 have h2:=Xa (· == y) v 0;have h3:v.any (· == y)=true:=by simp [h]
 rw [h3] at h2;unfold A0t;cases hk:idx (· == y) v 0 with
 | none=>rw [hk] at h2;cases h2
 | some k=>have:=W9 hk;simp;omega
def D9p (v:List Int)(b:Nat)(e:List Int):Nat:=e.foldl (λb y=>b ||| 1 <<< A0t v y) b
def A2w (v:List Int)(e:List Int):Nat:=D9p v 0 e
theorem jF:∀ {l:List Int} {i j:Nat},asc l=true->(h:i<j)->(hj:j<l.length)->l[i]<l[j]
 | [],_,_,_,_,hj=>by simp at hj
 | [x],_,_,_,_,hj=>by simp at hj;omega
 | x::y::r,i,j,ha,h,hj=>by
   simp only [asc,aj,decide_eq_true_eq] at ha;cases i with
   | zero =>
     cases j with
     | zero=>omega
     | succ j =>
       simp only [List.getElem_cons_zero,fL];cases j with
       | zero=>exact ha.1
       | succ j=>exact qH ha.1 (jF (l:=y::r) (i:=0) ha.2 (by omega) (by simpa using hj))
   | succ i =>
     cases j with
     | zero=>omega
     | succ j=>simpa using jF (l:=y::r) ha.2 (by omega) (by simpa using hj)
def edgeOk (v:List Int)(es:List (List Int))(i:Nat)(e:List Int):Bool:=!e.isEmpty&&asc e&&within e v&&(i==0 || before (es.getD (i-1) []) e)
def A3W (es:List (List Int))(i:Nat)(e:List Int):Bool:=es.zipIdx.any λy=>y.2 != i&&within y.1 e
def A4z (v:List Int)(es:List (List Int)):Bool:=asc v&&decide (es.length<=20000)&&(!(es.zipIdx.any λx=>!edgeOk v es x.2 x.1) && !(es.zipIdx.any λx=>A3W es x.2 x.1))
structure HOk (v:List Int)(es:List (List Int)):Prop where
 nv:v.length<=40
 ne:es.length<=20000
 el:∀ e∈es,e.length<9223372036854775808
 sm:∀ e∈es,∀ y∈e,y∈v
def D4P (v:List Int)(es:List (List Int)):List Nat:=C2g (es.map (A2w v)) v.length 0 0 0
def B9j (v:List Int)(es:List (List Int)):List (List Int):=(D4P v es).map (D7m v)
def D2X (v:List Int)(es:List (List Int))(out:List (List Int))(b:Nat):List (List Int) :=
 if A09 v es (D7m v b) then A4q out.length (out++[D7m v b]) else out
def D4Q (v:List Int)(es:List (List Int)):List (List Int):=(bA (2 ^ v.length)).foldl (D2X v es) []
def A06 (n:Nat):List Int:=(bA n).map λ(i:Nat)=>2+3*(i:Int)
@[simp] theorem E1S (n:Nat):(A06 n).length=n:=by simp [A06]
def A7d (V:List Int)(E:List Nat):List (List Int):=((E.take 12).map (pick V)).filter λe=>!e.isEmpty
def hEs (N:Nat)(E:List Nat):List (List Int):=A5P (A7d (A06 (N%9)) E)
def sn:List Int->List Int->Bool
 | [],[]=>false
 | [],_::_=>true
 | _::_,[]=>false
 | x::a,y::b=>if x=y then sn a b else decide (x<y)
theorem JF:∀ a:List Int,sn a a=false
 | []=>rfl
 | x::a=>by simp [sn,JF a]
theorem Xc:∀ {a b c:List Int},sn a b=true->sn b c=true->sn a c=true
 | [],[],_,h,_=>by simp [sn] at h
 | [],_::_,[],_,h=>by simp [sn] at h
 | [],_::_,_::_,_,_=>rfl
 | _::_,[],_,h,_=>by simp [sn] at h
 | _::_,_::_,[],_,h=>by simp [sn] at h
 | x::a,y::b,z::c,h,g=>by
   simp only [sn] at h g ⊢;by_cases h1:x=y
   . subst h1;by_cases h2:x=z
     . subst h2;simp only [if_true] at h g ⊢;exact Xc h g
     . simp only [h2,if_false,if_true] at h g ⊢;exact g
   . by_cases h2:y=z
     . subst h2;simp only [h1,if_false,if_true] at h g ⊢;exact h
     . simp only [h1,h2,if_false,decide_eq_true_eq] at h g;have h3:¬ x=z:=by omega
       simp only [h3,if_false,decide_eq_true_eq];omega
abbrev kf (l:List (List Int)):Prop:=l.Pairwise λa b=>sn a b=true
theorem kf.ext:∀ {l m:List (List Int)},kf l->kf m->(∀ x,x∈l↔x∈m)->l=m
 | [],[],_,_,_=>rfl
 | [],y::m,_,_,h=>by have:=(h y).2 (by simp);simp at this
 | x::l,[],_,_,h=>by have:=(h x).1 (by simp);simp at this
 | x::l,y::m,hl,hm,h=>by
   rw [kf,bN] at hl hm;have xL:x=y:=by
    apply b5;intro hne;have h1:x∈m:=by
     have:=(h x).1 (by simp)
     rcases aG.1 this with e | e
     . exact absurd e hne
     . exact e
    have h2:y∈l:=by
     have:=(h y).2 (by simp)
     rcases aG.1 this with e | e
     . exact absurd e.symm hne
     . exact e
    have:=Xc (hl.1 y h2) (hm.1 x h1)
    rw [JF] at this;cases this
   subst xL;congr 1;refine kf.ext hl.2 hm.2 λz=>?_
   constructor
   . intro hz
     have:=(h z).1 (by simp [hz])
     rcases aG.1 this with e | e
     . subst e;have:=hl.1 z hz;rw [JF] at this;cases this
     . exact e
   . intro hz
     have:=(h z).2 (by simp [hz])
     rcases aG.1 this with e | e
     . subst e;have:=hm.1 z hz;rw [JF] at this;cases this
     . exact e
theorem gn {v:List Int}{y:Int}(h:y∈v):v[A0t v y]?=some y:=by
 have h2:=Xa (· == y) v 0;have h3:v.any (· == y)=true:=by simp [h]
 rw [h3] at h2;unfold A0t;cases hk:idx (· == y) v 0 with
 | none=>rw [hk] at h2;cases h2
 | some k =>
   obtain ⟨_,_,⟨h4,h5⟩,_⟩:=W9 hk;simp only [gv] at h4 h5;simp only [bI];rw [ah h4];simpa using h5
theorem kX {v:List Int}(ha:asc v=true){i j:Nat}(hi:i<v.length)(hj:j<v.length)(h:v[i]=v[j]):i=j:=by
 rcases Nat.lt_trichotomy i j with eC | he | Nj
 . have:=jF ha eC hj;omega
 . exact he
 . have:=jF ha Nj hi;omega
theorem l8 {v:List Int}{s:Nat}{y:Int}:y∈D7m v s↔∃ i,∃ h:i<v.length,v[i]=y∧s.testBit i=true:=by
 unfold D7m;simp only [bp,cZ,Prod.exists,exists_and_right,exists_eq_right];constructor
 . rintro ⟨i,h1,h2⟩;rw [iC] at h1;simp only at h1;obtain ⟨h3,h4⟩:=aJ.1 h1;exact ⟨i,⟨h3,h4⟩,h2⟩
 . rintro ⟨i,⟨h,h1⟩,h2⟩;exact ⟨i,by rw [iC];simp [h,h1],h2⟩
theorem awl {v:List Int}(ha:asc v=true){s i:Nat}(hi:i<v.length):(D7m v s).contains v[i]=s.testBit i:=by
 apply c6.2;rw [bj,l8];constructor
 . rintro ⟨j,hj,h1,h2⟩;rw [← kX ha hj hi h1];exact h2
 . intro h;exact ⟨i,hi,rfl,h⟩
def HG:List Int->Nat->Nat->List Int
 | [],_,_=>[]
 | x::r,o,s=>if s.testBit o then x::HG r (o+1) s else HG r (o+1) s
theorem Xe (s:Nat):∀ (v:List Int) (o:Nat),((v.zipIdx o).filter λx=>s.testBit x.2).map (·.1)=HG v o s
 | [],_=>rfl
 | x::r,o=>by
   simp only [ji,HG];cases h:s.testBit o with
   | true=>simp [h,Xe s r (o+1)]
   | false=>simp [h,Xe s r (o+1)]
theorem D4R (v:List Int)(s:Nat):D7m v s=HG v 0 s:=Xe s v 0
theorem Xf (s:Nat):∀ (v:List Int) (o:Nat),(HG v o s).Sublist v
 | [],_=>List.Sublist.refl _
 | x::r,o=>by
   simp only [HG];split
   . exact (Xf s r (o+1)).cons_cons x
   . exact (Xf s r (o+1)).cons x
theorem gr {l:List Int}:asc l=true↔l.Pairwise (· < ·):=by
 constructor
 . intro h;rw [dE];intro i j hi hj gM;exact jF h gM hj
 . intro h;rw [dE] at h
   have:∀ i (h:i+1<l.length),l[i]<l[i+1]:=λi hi=>h i (i+1) (by omega) hi (by omega)
   clear h
   induction l with
   | nil=>rfl
   | cons x l ih =>
     cases l with
     | nil=>rfl
     | cons y l =>
       simp only [asc,aj,decide_eq_true_eq];exact ⟨this 0 (by simp),ih λi hi=>this (i+1) (by simpa using hi)⟩
theorem oC {v:List Int}(ha:asc v=true)(s:Nat):asc (D7m v s)=true:=by
 rw [D4R,gr];exact (gr.1 ha).sublist (Xf s v 0)
theorem D87 {a b:List Int}:within a b=true↔∀ y∈a,y∈b:=by
 unfold within;rw [List.all_eq_true];simp
structure Nk (v:List Int)(es:List (List Int)):Prop where
 av:asc v=true
 sm:∀ e∈es,∀ y∈e,y∈v
 ne:∀ e∈es,e ≠ []
section
variable {v:List Int}{es:List (List Int)}(G:Nk v es)
include G
end
set_option linter.unusedSectionVars false
def first (s t:Nat):Prop:=∃ i,s.testBit i=true∧t.testBit i=false∧∀ j,j<i->s.testBit j=t.testBit j
section
variable {v:List Int}{es:List (List Int)}(G:Nk v es)
include G
end
theorem nC:∀ {a b:List Int},a.Pairwise (· < ·)->b.Pairwise (· < ·)->(∀ x,x∈a↔x∈b)->a=b
 | [],[],_,_,_=>rfl
 | [],y::m,_,_,h=>by have:=(h y).2 (by simp);simp at this
 | x::l,[],_,_,h=>by have:=(h x).1 (by simp);simp at this
 | x::l,y::m,hl,hm,h=>by
   rw [bN] at hl hm;have xL:x=y:=by
    apply b5;intro hne;have h1:x∈m:=by
     rcases aG.1 ((h x).1 (by simp)) with e | e
     . exact absurd e hne
     . exact e
    have h2:y∈l:=by
     rcases aG.1 ((h y).2 (by simp)) with e | e
     . exact absurd e.symm hne
     . exact e
    have:=hl.1 y h2
    have:=hm.1 x h1
    omega
   subst xL;congr 1;refine nC hl.2 hm.2 λz=>?_
   constructor
   . intro hz;rcases aG.1 ((h z).1 (by simp [hz])) with e | e
     . subst e;have:=hl.1 z hz;omega
     . exact e
   . intro hz;rcases aG.1 ((h z).2 (by simp [hz])) with e | e
     . subst e;have:=hm.1 z hz;omega
     . exact e
theorem kY {α:Type}{l:List α}{x:α}{i:Nat}:(x,i)∈l.zipIdx↔∃ h:i<l.length,l[i]=x:=by
 rw [iC];simp only;rw [aJ]
section
variable (N:Nat)(E:List Nat)
end
def grow (E:List Nat)(s u:Nat):Nat:=if C3Y E (s ||| 1 <<< u) then s else s ||| 1 <<< u
end Go.Hg
namespace Go.Hg
abbrev PrV:=List (Int×Int)
def nbB (es:List (List Int))(a b:Int):Bool:=decide (a≠b)&&es.contains [min a b,max a b]
def A6j (es:List (List Int))(a:Int):Bool:=es.contains [a]
def A4L (p:PrV)(a b:Int):Bool:=p.contains (a,b)
def A2B (p:PrV)(l:List Int)(x:Int):Bool:=!(l.any λy=>A4L p y x)
def A2a (v:List Int)(es:List (List Int)):List Int:=v.filter λx=>!A6j es x
def A2l (es:List (List Int))(rest:List Int)(x:Int):List Int:=rest.filter λy=>decide (y≠x) && !nbB es y x
theorem oD (es:List (List Int))(a b:Int):nbB es a b=nbB es b a:=by
 unfold nbB;rw [Int.min_comm,Int.max_comm];by_cases h:a=b<;>simp [h,eq_comm]
theorem q8 {p:PrV}{l:List Int}{x:Int}:A2B p l x=true↔∀ y∈l,A4L p y x=false:=by
 unfold A2B;simp
theorem ib {es:List (List Int)}{rest:List Int}{x y:Int}:y∈A2l es rest x↔y∈rest∧y≠x∧nbB es y x=false:=by
 unfold A2l;simp
theorem na {es:List (List Int)}{rest:List Int}{x:Int}(h:x∈rest):(A2l es rest x).length<rest.length:=by
 unfold A2l;refine Nat.lt_of_le_of_ne (dt _ _) λe=>?_
 have:=List.length_filter_eq_length_iff.1 e x h
 simp at this
inductive Run (es:List (List Int)) (p:PrV):List Int->List Int->Prop
 | nil:Run es p [] []
 | cons {rest ks:List Int} {x:Int}:x∈rest->A2B p rest x=true->Run es p (A2l es rest x) ks->Run es p rest (x::ks)
section
variable {es:List (List Int)}{p:PrV}
theorem Run.sub:∀ {ks rest:List Int},Run es p rest ks->∀ k∈ks,k∈rest
 | [],_,_,k,hk=>by cases hk
 | y::ks,rest,h,k,hk=>by
   cases h with
   | cons hy hb h =>
     rcases aG.1 hk with rfl | hk
     . exact hy
     . exact (ib.1 (Run.sub h k hk)).1
theorem Run.ind:∀ {ks rest:List Int},Run es p rest ks->∀ a∈ks,∀ b∈ks,nbB es a b=false
 | [],_,_,k,hk=>by cases hk
 | y::ks,rest,h,a,ha=>by
   intro b js;cases h with
   | cons hy hb h =>
     rcases aG.1 ha with ea | Eg
     . rcases aG.1 js with eb | ot
       . subst ea;subst eb;simp [nbB]
       . subst ea;rw [oD];exact (ib.1 (Run.sub h b ot)).2.2
     . rcases aG.1 js with eb | ot
       . subst eb;exact (ib.1 (Run.sub h a Eg)).2.2
       . exact Run.ind h a Eg b ot
theorem Run.Xj:∀ {ks rest:List Int},Run es p rest ks->∀ y∈rest,y∉ks->∃ k∈ks,nbB es y k=true
 | [],rest,h,y,hy=>by cases h;cases hy
 | x::ks,rest,h,y,hy=>by
   intro hn;cases h with
   | cons hx hb h =>
     have h1:y≠x:=λe=>hn (e ▸ dS)
     cases hc:nbB es y x with
     | true=>exact ⟨x,dS,hc⟩
     | false =>
       obtain ⟨k,hk,e⟩:=Run.Xj h y (ib.2 ⟨hy,h1,hc⟩) (λhh=>hn (bC _ hh))
       exact ⟨k,bC _ hk,e⟩
def pickL (p:PrV)(r rest:List Int):Option Int:=rest.find? λx=>r.contains x&&A2B p rest x
def A4c (es:List (List Int))(p:PrV)(r:List Int):Nat->List Int->List Int×Bool
 | 0,rest=>([],rest.isEmpty)
 | n+1,rest=>match pickL p r rest with
   | some x=>let q:=A4c es p r n (A2l es rest x);(x::q.1,q.2)
   | none=>([],rest.isEmpty)
theorem pQ {r rest:List Int}{x:Int}(h:pickL p r rest=some x):x∈rest∧x∈r∧A2B p rest x=true:=by
 have h1:=List.mem_of_find?_eq_some h;have h2:=List.find?_some h;simp only [aj,bj] at h2;exact ⟨h1,h2.1,h2.2⟩
theorem C7v {r rest:List Int}(h:pickL p r rest=none):∀ x∈rest,x∈r->A2B p rest x=false:=by
 intro x hx hr
 have:=List.find?_eq_none.1 h x hx
 simp only [aj,bj,not_and,Bool.not_eq_true] at this;exact this hr
theorem av4 {r:List Int}(ha:∀ rest:List Int,rest ≠ []->∃ x∈rest,A2B p rest x=true):∀ (n:Nat) (rest:List Int),rest.length<=n->(∀ x∈rest,x∈r)->(A4c es p r n rest).2=true
 | 0,rest,hn,h=>by
   simp only [A4c,fU];exact List.length_eq_zero_iff.1 (by omega)
 | n+1,rest,hn,h=>by
   simp only [A4c];cases hp:pickL p r rest with
   | none =>
     simp only [fU];by_cases e:rest=[]
     . exact e
     . obtain ⟨x,hx,hb⟩:=ha rest e;rw [C7v hp x hx (h x hx)] at hb;cases hb
   | some x =>
     simp only;obtain ⟨h1,h2,h3⟩:=pQ hp;exact av4 ha n _ (by have:=na (es:=es) h1;omega) (λy hy=>h y (ib.1 hy).1)
def Acy (p:PrV):Prop:=∃ f:Int->Nat,∀ q∈p,f q.1<f q.2
theorem BS (h:Acy p):∀ rest:List Int,rest ≠ []->∃ x∈rest,A2B p rest x=true:=by
 obtain ⟨f,hf⟩:=h;intro rest hne
 have:∀ l:List Int,l ≠ []->∃ x∈l,∀ y∈l,f x<=f y:=by
  intro l
  induction l with
  | nil=>intro h;exact absurd rfl h
  | cons a l ih =>
    intro _;by_cases e:l=[]
    . subst e;exact ⟨a,dS,λy hy=>by simp at hy;subst hy;exact ay _⟩
    . obtain ⟨x,hx,hm⟩:=ih e;by_cases hc:f a<=f x
      . refine ⟨a,dS,λy hy=>?_⟩
        rcases aG.1 hy with rfl | hy
        . exact ay _
        . exact dF hc (hm y hy)
      . refine ⟨x,bC _ hx,λy hy=>?_⟩
        rcases aG.1 hy with rfl | hy
        . omega
        . exact hm y hy
 obtain ⟨x,hx,hm⟩:=this rest hne;refine ⟨x,hx,q8.2 λy hy=>?_⟩
 cases hb:A4L p y x with
 | false=>rfl
 | true =>
   have h1:=hf _ (bj.1 hb);have h2:=hm y hy;simp only at h1;omega
end
structure Gr (v:List Int)(es:List (List Int)):Prop where
 l9:Nk v es
 asc:∀ e∈es,Go.Hg.asc e=true
 two:∀ e∈es,e.length<=2
structure Rep (v:List Int)(es:List (List Int))(l:List Int):Prop where
 asc:asc l=true
 sub:∀ x∈l,x∈v
 own:∀ x∈l,A6j es x=false
 ind:∀ a∈l,∀ b∈l,nbB es a b=false
 Xj:∀ x∈v,x∉l->A6j es x=false->∃ y∈l,nbB es x y=true
section
variable {v:List Int}{es:List (List Int)}
theorem Gr.cases (G:Gr v es){e:List Int}(he:e∈es):(∃ a,e=[a]∧A6j es a=true)∨∃ a b,e=[a,b]∧a<b∧nbB es a b=true:=by
 have h1:=G.l9.ne e he;have h2:=G.two e he;have h3:=G.asc e he
 match e,h1,h2,h3 with
 | [],h,_,_=>exact absurd rfl h
 | [a],_,_,_=>exact .inl ⟨a,rfl,bj.2 he⟩
 | [a,b],_,_,h =>
   have uO:a<b:=by simpa [Go.Hg.asc] using h
   exact .inr ⟨a,b,rfl,uO,by
    unfold nbB;rw [n3 (by omega),nj (by omega)]
    simp only [aj,decide_eq_true_eq];exact ⟨by omega,bj.2 he⟩⟩
 | _::_::_::_,_,h,_=>exact absurd h (by simp)
theorem Gr.free (G:Gr v es){l:List Int}:free es l=true↔(∀ x∈l,A6j es x=false)∧∀ a∈l,∀ b∈l,nbB es a b=false:=by
 unfold Go.Hg.free;constructor
 . intro h;have hn:∀ e∈es,¬ (∀ y∈e,y∈l):=by
    intro e he hw
    have:(es.any λe=>within e l)=true:=fV.2 ⟨e,he,D87.2 hw⟩
    rw [this] at h;cases h
   refine ⟨λx hx=>?_,λa ha b hb=>?_⟩
   . cases hc:A6j es x with
     | false=>rfl
     | true=>exact absurd (λy hy=>by simp at hy;subst hy;exact hx) (hn _ (bj.1 hc))
   . cases hc:nbB es a b with
     | false=>rfl
     | true =>
       unfold nbB at hc;simp only [aj] at hc;refine absurd (λy hy=>?_) (hn _ (bj.1 hc.2))
       simp only [aG,List.not_mem_nil,or_false] at hy;rcases hy with rfl | rfl
       . rcases vg a b with h | h
         . rw [n3 h];exact ha
         . rw [Int.min_eq_right h];exact hb
       . rcases vg a b with h | h
         . rw [nj h];exact hb
         . rw [Int.max_eq_left h];exact ha
 . rintro ⟨h1,h2⟩;cases hc:(es.any λe=>within e l) with
   | false=>rfl
   | true =>
     obtain ⟨e,he,hw⟩:=fV.1 hc;have hw:=D87.1 hw;rcases G.cases he with ⟨a,rfl,ho⟩ | ⟨a,b,rfl,uO,hn⟩
     . rw [h1 a (hw a (by simp))] at ho;cases ho
     . rw [h2 a (hw a (by simp)) b (hw b (by simp))] at hn;cases hn
def C7w (p:PrV)(r s:List Int):Prop:=(∀ x∈r,x∉s->∃ y∈s,y∉r∧A4L p y x=true)∧∃ y∈s,y∉r
def C7x (p:PrV)(r s:List Int):Prop:=∃ y∈s,y∉r∧∀ x∈r,x∉s->A4L p y x=true
end
end Go.Hg
namespace Go.Mid
theorem HH {k:IntKind}(hk:k.signed=false){n:Nat}(h:n<2 ^ k.bits):k.wrap (n:Int)=(n:Int):=by
 cases k<;>first | exact absurd hk (by decide) | (simp only [ie,gu,fe] at h ⊢;simp;omega)
theorem JI (w m:Nat):b8 w (m:Int)=BitVec.ofNat w m:=by simp
theorem Nn {k:IntKind}(hk:k.signed=false){m n:Nat}(hm:m<2 ^ k.bits)(hn:n<2 ^ k.bits):pL k (m:Int) (n:Int)=((m &&& n:Nat):Int):=by
 unfold pL;rw [JI,JI,ru,iu,iu,eQ hm,eQ hn];exact HH hk (eU Nat.and_le_left hm)
theorem HI {k:IntKind}(hk:k.signed=false){m n:Nat}(hm:m<2 ^ k.bits)(hn:n<2 ^ k.bits):uS k (m:Int) (n:Int)=((m ||| n:Nat):Int):=by
 unfold uS;rw [JI,JI,BitVec.toNat_or,iu,iu,eQ hm,eQ hn];exact HH hk (Nat.or_lt_two_pow hm hn)
theorem Xk {w m n:Nat}(hm:m<2 ^ w):Go.Hg.less m n<2 ^ w:=Nat.lt_pow_two_of_testBit _ λi hi=>by
 rw [Go.Hg.qs,fM (br hm (ez (by decide) hi))];rfl
theorem C5T {k:IntKind}(hk:k.signed=false){m n:Nat}(hm:m<2 ^ k.bits)(hn:n<2 ^ k.bits):CN k (m:Int) (n:Int)=((Go.Hg.less m n:Nat):Int):=by
 have h:(b8 k.bits (m:Int) &&& ~~~ b8 k.bits (n:Int)).toNat=Go.Hg.less m n:=by
  rw [JI,JI];apply jc;intro i;rw [ru,gp,Go.Hg.qs,iu,eQ hm];by_cases hi:i<k.bits
  . congr 1;rw [← BitVec.getLsbD,BitVec.getLsbD_not];simp only [hi,decide_true,dm,BitVec.getLsbD_ofNat]
  . rw [fM (br hm (ez (by decide) (by omega)))]
    rfl
 unfold CN;rw [h];exact HH hk (Xk hm)
theorem D4S {k:IntKind}{m i:Nat}(hi:i<=k.bits):jK k (m:Int) (i:Int)=((m >>> i:Nat):Int):=by
 unfold jK;have e:min ((i:Int).toNat) k.bits=i:=by rw [ar];omega
 rw [e,Nat.shiftRight_eq_div_pow]
 have:((2:Int) ^ i)=((2 ^ i:Nat):Int):=by simp
 rw [this];exact Int.ofNat_fdiv m (2 ^ i) |>.symm
theorem D4T {k:IntKind}(hk:k.signed=false){m i:Nat}(hi:i<=k.bits)(h:m <<< i<2 ^ k.bits):qZ k (m:Int) (i:Int)=((m <<< i:Nat):Int):=by
 unfold qZ;have e:min ((i:Int).toNat) k.bits=i:=by rw [ar];omega
 rw [e]
 have:(m:Int)*2 ^ i=((m <<< i:Nat):Int):=by rw [Nat.shiftLeft_eq];simp
 rw [this];exact HH hk h
theorem xq {i w:Nat}(h:i<w):1 <<< i<2 ^ w:=by rw [mQ];exact Nat.pow_lt_pow_right (by decide) h
theorem D4U {k:IntKind}(hk:k.signed=false){m i:Nat}(hi:i<=k.bits)(h2:1<k.bits)(hm:m<2 ^ k.bits):pL k (jK k (m:Int) (i:Int)) 1=if m.testBit i then 1 else 0:=by
 rw [D4S hi];have h1:m >>> i<2 ^ k.bits:=eU (Nat.shiftRight_le m i) hm
 have:=Nn (k:=k) hk (m:=m >>> i) (n:=1) h1 (Nat.one_lt_two_pow (by omega))
 have h2:pL k ((m >>> i:Nat):Int) 1=(((m >>> i) &&& 1:Nat):Int):=this;rw [h2,C5S,Nat.testBit_shiftRight,dG];cases m.testBit i<;>rfl
end Go.Mid
namespace Go.Mid
open Go.Hg (asc within free A5O A09)
theorem Av {n:Nat}(h:1<=n)(h':n<=9223372036854775807):af.wrap ((n:Int)-1)=((n-1:Nat):Int):=by rw [wrap_i64 (by omega) (by omega)];omega
theorem C5U {l:List Int}:asc l=true↔∀ j (h:j+1<l.length),l[j]<l[j+1]:=by
 constructor
 . intro h j hj;exact Go.Hg.jF h (Nat.lt_succ_self j) hj
 . intro h
   induction l with
   | nil=>rfl
   | cons a r ih =>
     cases r with
     | nil=>rfl
     | cons b r =>
       simp only [asc,aj,decide_eq_true_eq];refine ⟨h 0 (by simp),ih λj hj=>?_⟩
       have:=h (j+1) (by simpa using hj)
       simpa only [fL] using this
theorem C35 {f:List Int×Int->Option (List Int×Int ⊕ Bool ⊕ PUnit)}(l:List Int)
 (hs:∀ i (h:i+1<l.length),f (l,((i+1:Nat):Int))=if decide (l[i+1]<=l[i]) then some (.inr (.inl false)) else some (.inl (l,((i+2:Nat):Int))))
 (he:∀ i:Nat,l.length<=i->f (l,(i:Int))=some (.inr (.inr ()))) :
 ((A0d f (l,(1:Int))).bind λu=>Sum.elim (λv=>some v) (λ_=>some true) u)=some (asc l):=by
 have key:=Ma (f:=f) l.tail (λi=>(l,((i+1:Nat):Int))) (λi x=>decide (x<=l.getD i 0)) (λ_=>.inl false) (.inr ()) (λi hi=>by
  have hi':i+1<l.length:=by rw [kT] at hi;omega
  have e1:l.tail[i]=l[i+1]:=by rw [mR]
  have e2:l.getD i 0=l[i]:=by rw [bh,ah (by omega)];rfl
  rw [hs i hi',e1,e2]) (he _ (by rw [kT];omega))
 have key:A0d f (l,(1:Int))=_:=key;rw [key];cases hf:tm (λi x=>decide (x<=l.getD i 0)) l.tail 0 with
 | none =>
   rw [V5] at hf
   have:asc l=true:=C5U.2 λj hj=>by
    have h1:=hf j (by rw [kT];omega)
    rw [mR,bS,bh,ah (by omega)] at h1
    simpa using h1
   rw [this];rfl
 | some k =>
   obtain ⟨_,h2,⟨h3,h4⟩,_⟩:=V6 hf
   have:asc l=false:=by
    cases hc:asc l with
    | false=>rfl
    | true =>
      have hk:k+1<l.length:=by rw [kT] at h2;omega
      have h5:=C5U.1 hc k hk;simp only [gv,mR,bh,ah (show k<l.length by omega),bI,decide_eq_true_eq] at h4
      omega
   rw [this];rfl
theorem auK {l:List Int}(hl:l.length<=1000000):Jg l=some (asc l):=by
 unfold Jg;refine C35 l (λi h=>?_) (λi h=>?_)
 . have h':((i+1:Nat):Int)<(l.length:Int):=by omega
   simp only [Wu,h',decide_true,cond_true,aq,ar,ah h,ai,Av (show 1<=i+1 by omega) (by omega),
    dT,ah (show i<l.length by omega),iQ (show i+1<9223372036854775807 by omega)]
   by_cases c:l[i+1]<=l[i]
   . simp only [c,decide_true,cond_true,if_true]
   . simp only [c,decide_false,cond_false,aI,if_false]
 . have h':¬ ((i:Int)<(l.length:Int)):=by omega
   simp only [Wu,h',decide_false,cond_false]
theorem D02 {n:Nat}(h:n<9223372036854775808):af.wrap (jK .u64 (aK.wrap (af.wrap (n:Int))) 1)=((n / 2:Nat):Int):=by
 have e1:af.wrap (n:Int)=n:=Qn (by omega)
 have e2:aK.wrap (n:Int)=n:=by simp only [ie,gu,fe];simp;omega
 have e3:jK .u64 (n:Int) 1=(n:Int).fdiv 2:=rfl;rw [e1,e2,e3,Int.fdiv_eq_ediv_of_nonneg _ (by omega),show ((n:Int) / 2)=((n / 2:Nat):Int) by omega,Qn (by omega)]
theorem D6C (x y:Int):Qu (x,y)=some (decide (x<y)):=by
 simp [Qu,HB]
theorem D03 {i j:Nat}(h:i+j<9223372036854775808):af.wrap (jK .u64 (aK.wrap (af.wrap ((i:Int)+(j:Int)))) 1)=(((i+j) / 2:Nat):Int):=by
 rw [← D02 h];rfl
structure Place (l:List Int)(y:Int)(i:Nat):Prop where
 le:i<=l.length
 lo:∀ k (h:k<l.length),k<i->l[k]<y
 hi:∀ k (h:k<l.length),i<=k->y<=l[k]
theorem avx {l:List Int}(ha:asc l=true)(hl:l.length<=1000000)(y:Int):∃ i:Nat,A0d Mo (l,y,(l.length:Int),0,(l.length:Int))=some (l,y,(l.length:Int),(i:Int))∧Place l y i:=by
 obtain ⟨b,hb,i,rfl,hp⟩:=C8K (f:=Mo)
  (λa=>∃ i j:Nat,a=(l,y,(l.length:Int),(i:Int),(j:Int))∧i<=j∧j<=l.length∧(∀ k (h:k<l.length),k<i->l[k]<y)∧(∀ k (h:k<l.length),j<=k->y<=l[k]))
  (λb=>∃ i:Nat,b=(l,y,(l.length:Int),(i:Int))∧Place l y i) (λa=>(a.2.2.2.2-a.2.2.2.1).toNat) (by
    rintro a ⟨i,j,rfl,gM,hj,h1,h2⟩;by_cases c:i<j
    . left;have c':(i:Int)<(j:Int):=by omega
      have hm:(i+j) / 2<l.length:=by omega
      simp only [Mo,c',decide_true,cond_true,D03 (show i+j<9223372036854775808 by omega),aq,ar,ah hm,ai,D6C]
      by_cases d:l[(i+j) / 2]<y
      . simp only [d,decide_true,cond_true,iQ (show (i+j) / 2<9223372036854775807 by omega)]
        refine ⟨_,rfl,⟨(i+j) / 2+1,j,rfl,by omega,hj,λk hk Dp=>?_,h2⟩,by show ((j:Int)-(((i+j) / 2+1:Nat):Int)).toNat<((j:Int)-(i:Int)).toNat;omega⟩
        rcases mg (Nat.le_of_lt_succ Dp) with h | h
        . exact qH (Go.Hg.jF ha h hm) d
        . subst h;exact d
      . simp only [d,decide_false,cond_false];refine ⟨_,rfl,⟨i,(i+j) / 2,rfl,by omega,by omega,h1,λk hk Dp=>?_⟩,by show ((((i+j) / 2:Nat):Int)-(i:Int)).toNat<((j:Int)-(i:Int)).toNat;omega⟩
        rcases mg Dp with h | h
        . exact Int.le_of_lt (Int.lt_of_le_of_lt (yn.1 d) (Go.Hg.jF ha h hk))
        . subst h;exact yn.1 d
    . right;have c':¬ ((i:Int)<(j:Int)):=by omega
      obtain rfl:i=j:=by omega
      simp only [Mo,c',decide_false,cond_false];exact ⟨_,rfl,i,rfl,hj,h1,h2⟩) (l,y,(l.length:Int),0,(l.length:Int)) ⟨0,l.length,rfl,by omega,ay _,λk _ hk=>by omega,λk h hk=>by omega⟩
 exact ⟨i,hb,hp⟩
theorem Place.found {l:List Int}{y:Int}{i:Nat}(ha:asc l=true)(hp:Place l y i):l.contains y=(match l[i]? with | some x=>x==y | none=>false):=by
 cases hc:l[i]? with
 | none =>
   have hi:l.length<=i:=mC.1 hc
   have:¬ y∈l:=λhm=>by
    obtain ⟨k,hk,rfl⟩:=eA.1 hm
    have:=hp.lo k hk (by omega);omega
   simp [this]
 | some x =>
   obtain ⟨hi,rfl⟩:=aJ.1 hc;apply c6.2;rw [bj,beq_iff_eq];constructor
   . intro hm;obtain ⟨k,hk,rfl⟩:=eA.1 hm;have h1:¬ k<i:=λh=>by have:=hp.lo k hk h;omega
     by_cases h2:k=i
     . subst h2;rfl
     . have h3:=hp.hi i hi (ay _);have h4:=Go.Hg.jF ha (show i<k by omega) hk
       omega
   . intro e;rw [← e];exact aM hi
theorem avC {l:List Int}(ha:asc l=true)(hl:l.length<=1000000)(y:Int):∃ i:Nat,Jh (l,y)=some ((i:Int),l.contains y)∧Place l y i:=by
 obtain ⟨i,h1,hp⟩:=avx ha hl y;refine ⟨i,?_,hp⟩;rw [hp.found ha];unfold Jh;simp only;rw [h1];simp only [ai];by_cases c:i<l.length
 . have c':(i:Int)<(l.length:Int):=by omega
   simp only [c',decide_true,cond_true,aq,ar,ah c,ai];by_cases d:l[i]=y
   . simp [d]
   . have d':(l[i]==y)=false:=by simpa using d
     simp only [d',cond_false,Qv,ai,bne_self_eq_false]
 . have c':¬ (i:Int)<(l.length:Int):=by omega
   simp only [c',decide_false,cond_false,mC.2 (Nat.not_lt.1 c)]
theorem auL {l part:List Int}(ha:asc l=true)(hl:l.length<=1000000)(hp:part.length<=1000000):HC (l,part)=some (within part l):=by
 have key:=wo (f:=Qw) part (λi=>(l,part,(part.length:Int),(i:Int))) (λy=>!l.contains y) (.inl false) (.inr ()) (λi hi=>by
  have hi':(i:Int)<(part.length:Int):=by omega
  obtain ⟨j,h1,_⟩:=avC ha hl part[i];simp only [Qw,hi',decide_true,cond_true,aq,ar,ah hi,ai,h1,iQ (show i<9223372036854775807 by omega)]
  cases l.contains part[i]<;>rfl) (by
  simp only [Qw,ba,decide_false,cond_false])
 simp only [b7] at key;unfold HC;simp only;rw [key];unfold within;have e:(part.all λx=>l.contains x)=!(part.any λy=>!l.contains y):=by rw [j0];simp
 rw [e];cases part.any λy=>!l.contains y<;>rfl
end Go.Mid
namespace Go.Mid
open Go.Hg (asc within free A5O A09 before bef A4q)
theorem Xn {α:Type}(l:List α)(p:α->Bool):(l.all p)=!(l.any λx=>!p x):=by rw [j0];simp
theorem au_ {l:List Int}(hl:l.length<=1000000):JC l=some (asc l):=by
 unfold JC;refine C35 l (λi h=>?_) (λi h=>?_)
 . have h':((i+1:Nat):Int)<(l.length:Int):=by omega
   simp only [WJ,h',decide_true,cond_true,aq,ar,ah h,ai,Av (show 1<=i+1 by omega) (by omega),
    dT,ah (show i<l.length by omega),iQ (show i+1<9223372036854775807 by omega)]
   by_cases c:l[i+1]<=l[i]
   . simp only [c,decide_true,cond_true,if_true]
   . simp only [c,decide_false,cond_false,aI,if_false]
 . have h':¬ ((i:Int)<(l.length:Int)):=by omega
   simp only [WJ,h',decide_false,cond_false]
theorem avJ {l:List Int}(hl:l.length<=1000000)(y:Int):Jj (l,y)=some (l.contains y):=by
 have key:=wo (f:=QB) l (λi=>(l,y,(i:Int))) (λx=>x==y) (.inl true) (.inr ()) (λi hi=>by
  have hi':(i:Int)<(l.length:Int):=by omega
  simp only [QB,hi',decide_true,cond_true,aq,ar,ah hi,ai,iQ (show i<9223372036854775807 by omega)]
  cases l[i]==y<;>rfl) (by
  simp only [QB,ba,decide_false,cond_false])
 simp only [b7] at key;unfold Jj;simp only;rw [key];have e:(l.any λx=>x==y)=l.contains y:=by rw [mU];congr 1;funext x;exact Bool.beq_comm
 rw [e];cases l.contains y<;>rfl
theorem avK {l:List Int}(hl:l.length<=1000000)(y:Int):Mt (l,y)=some (l.contains y):=by
 unfold Mt;simp only [avJ hl,ai]
theorem auX {a b:List Int}(ha:a.length<=1000000)(hb:b.length<=1000000):Fy (a,b)=some (within a b):=by
 have key:=wo (f:=QC) a (λi=>(a,b,(i:Int))) (λx=>!b.contains x) (.inl false) (.inr ()) (λi hi=>by
  have hi':(i:Int)<(a.length:Int):=by omega
  simp only [QC,hi',decide_true,cond_true,aq,ar,ah hi,ai,avK hb,iQ (show i<9223372036854775807 by omega)]
  cases b.contains a[i]<;>rfl) (by
  simp only [QC,ba,decide_false,cond_false])
 simp only [b7] at key;unfold Fy;simp only;rw [key];unfold within;rw [Xn];cases a.any λy=>!b.contains y<;>rfl
theorem avj {a b:List Int}(ha:a.length<=1000000):Jl (a,b)=some (before a b):=by
 have main:∀ (k i:Nat),a.length-i=k->i<=a.length->A0d Jk (a,b,(i:Int))=some (match bef (a.drop i) (b.drop i) with | some t=>.inl t | none=>.inr (a,b)):=by
  intro k
  induction k with
  | zero =>
    intro i hk hi;obtain rfl:i=a.length:=by omega
    refine qc ?_;simp only [Jk,ba,decide_false,cond_false,eS,bef]
  | succ k ih =>
    intro i hk hi;have h1:i<a.length:=by omega
    have vR:(i:Int)<(a.length:Int):=by omega
    rw [bY h1];by_cases h2:i<b.length
    . have sA:(i:Int)<(b.length:Int):=by omega
      rw [bY h2];simp only [bef];have st:Jk (a,b,(i:Int))=if a[i]=b[i] then some (.inl (a,b,((i+1:Nat):Int))) else some (.inr (.inl (decide (a[i]<b[i])))):=by
       simp only [Jk,vR,sA,decide_true,cond_true,aq,ar,ah h1,ah h2,ai,iQ (show i<9223372036854775807 by omega)]
       by_cases c:a[i]=b[i]
       . simp [c]
       . have c':(a[i] != b[i])=true:=by simpa using c
         simp only [c',cond_true,c,if_false]
      by_cases c:a[i]=b[i]
      . rw [if_pos c] at st;rw [vw st,ih (i+1) (by omega) (by omega),if_pos c]
      . rw [if_neg c] at st;rw [qc st,if_neg c]
    . have sA:¬ (i:Int)<(b.length:Int):=by omega
      have e:b.drop i=[]:=nP (by omega)
      rw [e];simp only [bef];refine qc ?_;simp only [Jk,vR,sA,decide_true,decide_false,cond_true,cond_false]
 have key:=main a.length 0 (by omega) (dg _)
 simp only [b7,fh] at key;unfold Jl before;simp only;rw [key];cases bef a b with
 | some t=>rfl
 | none=>simp
section
variable {v:List Int}{es:List (List Int)}(nv:v.length<=20)(ne:es.length<=1000000)(el:∀ e∈es,e.length<=1000000)
end
end Go.Mid
namespace Go.Mid
open Go.Hg (asc within free A5O A09 before PrV nbB A6j A4L A2B A2a A2l Run)
section
variable {A B α β:Type}{f:A->Option (A ⊕ B)}
theorem Xp (l:List α)(FE:α->List β)(st:Nat->List β->A)(fin:List β->B)
 (h1:∀ i (h:i<l.length),f (st i ((l.take i).flatMap FE))=some (.inl (st (i+1) ((l.take i).flatMap FE++FE l[i]))))
 (h2:f (st l.length (l.flatMap FE))=some (.inr (fin (l.flatMap FE)))):A0d f (st 0 [])=some (fin (l.flatMap FE)):=by
 have key:=tQ (f:=f) l.length (λi=>st i ((l.take i).flatMap FE)) (fin (l.flatMap FE)) (λi hi=>by
  rw [h1 i hi,vz hi,List.flatMap_append];simp) (by rw [pN];exact h2)
 exact key
theorem Rj (p:α->Bool)(l:List α):(l.flatMap λx=>if p x then [x] else [])=l.filter p:=by
 induction l with
 | nil=>rfl
 | cons x r ih =>
   rw [List.flatMap_cons,ih,jl];cases p x<;>rfl
theorem Xq (p:α->Bool)(l:List α)(i:Nat):((l.take i).flatMap λx=>if p x then [x] else []).length<=i:=by
 rw [Rj];exact dF (dt _ _) (by rw [aW];omega)
end
theorem C1T {p:PrV}(hp:p.length<=1000000)(a b:Int):Q0 (p,a,b)=some (A4L p a b):=by
 have key:=wo (f:=QZ) p (λi=>(p,a,b,(i:Int))) (λx=>x.1==a&&x.2==b) (.inl true) (.inr ()) (λi hi=>by
  have hi':(i:Int)<(p.length:Int):=by omega
  simp only [QZ,hi',decide_true,cond_true,aq,ar,ah hi,ai,iQ (show i<9223372036854775807 by omega)]
  cases p[i].1==a<;>cases p[i].2==b<;>rfl) (by
  simp only [QZ,ba,decide_false,cond_false])
 simp only [b7] at key;unfold Q0;simp only;rw [key];have e:(p.any λx=>x.1==a&&x.2==b)=A4L p a b:=by
  unfold A4L;rw [mU];congr 1;funext x;apply c6.2;simp only [aj,beq_iff_eq];exact ⟨λh=>by rw [← h.1,← h.2],λh=>by rw [← h];exact ⟨rfl,rfl⟩⟩
 rw [e];cases A4L p a b<;>rfl
theorem Xr {p:PrV}{l:List Int}(hp:p.length<=1000000)(hl:l.length<=1000000)(v:Int):JB (p,l,v)=some (A2B p l v):=by
 have key:=wo (f:=Q1) l (λi=>(p,l,v,(i:Int))) (λy=>A4L p y v) (.inl false) (.inr ()) (λi hi=>by
  have hi':(i:Int)<(l.length:Int):=by omega
  simp only [Q1,hi',decide_true,cond_true,aq,ar,ah hi,ai,C1T hp,iQ (show i<9223372036854775807 by omega)]
  cases A4L p l[i] v<;>rfl) (by
  simp only [Q1,ba,decide_false,cond_false])
 simp only [b7] at key;unfold JB;simp only;rw [key];unfold A2B;cases l.any λy=>A4L p y v<;>rfl
theorem C9d:∀ {a b:List Int},a.length=b.length->((a.zip b).any λx=>x.1 != x.2)=!decide (a=b)
 | [],[],_=>rfl
 | [],_::_,h=>by simp at h
 | _::_,[],h=>by simp at h
 | x::a,y::b,h=>by
   have:=C9d (a:=a) (b:=b) (by simpa using h)
   simp only [List.zip_cons_cons,gK,this];by_cases c:x=y
   . simp [c]
   . simp [c]
theorem C7z {a b:List Int}(ha:a.length<=1000000):JA (a,b)=some (decide (a=b)):=by
 unfold JA;simp only;by_cases hn:a.length=b.length
 . have rV:((a.length:Int) != (b.length:Int))=false:=by simp [hn]
   rw [rV,cond_false];have key:=wo (f:=M0) (a.zip b) (λi=>(a,b,(i:Int))) (λx=>x.1 != x.2) (.inl false) (.inr ()) (λi hi=>by
    rw [sd] at hi;have Eg:i<a.length:=by omega
    have ot:i<b.length:=by omega
    have hi':(i:Int)<(a.length:Int):=by omega
    simp only [M0,hi',decide_true,cond_true,aq,ar,ah Eg,ah ot,ai,iQ (show i<9223372036854775807 by omega),List.getElem_zip]
    cases a[i] != b[i]<;>rfl) (by
    have:¬ (((a.zip b).length:Int)<(a.length:Int)):=by rw [sd];omega
    simp only [M0,this,decide_false,cond_false])
   have key:A0d M0 (a,b,0)=_:=key;rw [key];have e:=C9d hn;rw [e];cases decide (a=b)<;>rfl
 . have rV:((a.length:Int) != (b.length:Int))=true:=by
    rw [bne_iff_ne];omega
   rw [rV,cond_true]
   have:¬ a=b:=λe=>hn (by rw [e])
   simp [this]
theorem B60 {v:List Int}{es:List (List Int)}{l:List Int}(ne:es.length<=1000000)(el:∀ e∈es,e.length<=1000000):M1 ((v,es),l)=some (es.contains l):=by
 have key:=wo (f:=QX) es (λi=>((l,(i:Int)),v,es)) (λe=>decide (e=l)) (.inl true) (.inr ()) (λi hi=>by
  have hi':(i:Int)<(es.length:Int):=by omega
  simp only [QX,hi',decide_true,cond_true,aq,ar,ah hi,ai,C7z (el _ (aM hi)),iQ (show i<9223372036854775807 by omega)]
  cases decide (es[i]=l)<;>rfl) (by
  simp only [QX,ba,decide_false,cond_false])
 simp only [b7] at key;unfold M1;simp only;rw [key];have e:(es.any λe=>decide (e=l))=es.contains l:=by
  apply c6.2;rw [bj,fV];exact ⟨λ⟨x,h1,h2⟩=>by rw [← of_decide_eq_true h2];exact h1,λh=>⟨l,h,decide_eq_true rfl⟩⟩
 rw [e];cases es.contains l<;>rfl
section
variable {v:List Int}{es:List (List Int)}(ne:es.length<=1000000)(el:∀ e∈es,e.length<=1000000)
include ne el
theorem C1D (a b:Int):M4 ((v,es),a,b)=some (nbB es a b):=by
 unfold M4 nbB;have e1:(if b<a then b else a)=min a b:=by rw [Int.min_def];split<;>split<;>omega
 have e2:(if b>a then b else a)=max a b:=by rw [Int.max_def];split<;>split<;>omega
 simp only [e1,e2,B60 ne el,ai];by_cases c:a=b
 . simp [c]
 . have c':(a != b)=true:=by simpa using c
   simp [c',c]
end
section
variable {v:List Int}{es:List (List Int)}{p:PrV}{r:List Int}(ne:es.length<=1000000)(el:∀ e∈es,e.length<=1000000)(hp:p.length<=1000000)(hr:r.length<=1000000)
include ne el hp hr
end
section
variable {v:List Int}{es:List (List Int)}{p:PrV}(ne:es.length<=1000000)(el:∀ e∈es,e.length<=1000000)(hp:p.length<=1000000)(ha:Go.Hg.Acy p)
include ne el hp ha
end
end Go.Mid
namespace Go.Mid
open Go.Hg (asc within free A5O A09 before bef edgeOk A3W A4z)
theorem D4V (x y:Int):Qx (x,y)=some (if x<y then -1 else if x>y then 1 else 0):=by
 unfold Qx HB;simp only [ai,bne_self_eq_false,cond_false];by_cases h1:x<y
 . simp [h1]
 . by_cases h2:x>y
   . simp [h1,h2]
   . simp [h1,h2]
theorem avL {a b:List Int}(ha:a.length<=1000000):∃ c:Int,Qy (a,b)=some c∧decide (c ≥ 0)=!before a b:=by
 have main:∀ (k i:Nat),a.length-i=k->i<=a.length->(∃ c:Int,A0d Au (a,b,a,(a.length:Int),(i:Int))=some (.inl c)∧decide (c ≥ 0)=!(match bef (a.drop i) (b.drop i) with | some t=>t | none=>decide (a.length<b.length))) ∨
  (A0d Au (a,b,a,(a.length:Int),(i:Int))=some (.inr (a,b))∧bef (a.drop i) (b.drop i)=none):=by
  intro k
  induction k with
  | zero =>
    intro i hk hi;obtain rfl:i=a.length:=by omega
    right;refine ⟨qc ?_,by rw [eS];rfl⟩
    simp only [Au,ba,decide_false,cond_false]
  | succ k ih =>
    intro i hk hi;have h1:i<a.length:=by omega
    have vR:(i:Int)<(a.length:Int):=by omega
    rw [bY h1];by_cases h2:i<b.length
    . have sA:¬ (i:Int) ≥ (b.length:Int):=by omega
      rw [bY h2];simp only [bef];by_cases c:a[i]=b[i]
      . have st:Au (a,b,a,(a.length:Int),(i:Int))=some (.inl (a,b,a,(a.length:Int),((i+1:Nat):Int))):=by
         simp only [Au,vR,sA,decide_true,decide_false,cond_true,cond_false,aq,ar,ah h1,ah h2,ai,iQ (show i<9223372036854775807 by omega),D4V]
         simp [c]
        rw [vw st,if_pos c];exact ih (i+1) (by omega) (by omega)
      . left;have st:Au (a,b,a,(a.length:Int),(i:Int))=some (.inr (.inl (if a[i]<b[i] then -1 else 1))):=by
         simp only [Au,vR,sA,decide_true,decide_false,cond_true,cond_false,aq,ar,ah h1,ah h2,ai,D4V];by_cases d:a[i]<b[i]
         . simp [d]
         . have d2:a[i]>b[i]:=by omega
           simp [d,d2]
        refine ⟨_,qc st,?_⟩;rw [if_neg c];by_cases d:a[i]<b[i]<;>simp [d]
    . left;have sA:(i:Int) ≥ (b.length:Int):=by omega
      have e:b.drop i=[]:=nP (by omega)
      have st:Au (a,b,a,(a.length:Int),(i:Int))=some (.inr (.inl 1)):=by
       simp only [Au,vR,sA,decide_true,cond_true,aq,ar,ah h1,ai]
      refine ⟨1,qc st,?_⟩;rw [e];simp only [bef]
      have:¬ a.length<b.length:=by omega
      simp [this]
 unfold Qy before;simp only;rcases main a.length 0 (by omega) (dg _) with ⟨c,h1,h2⟩ | ⟨h1,h2⟩
 . have h1:A0d Au (a,b,a,(a.length:Int),0)=_:=h1;rw [h1];exact ⟨c,rfl,h2⟩
 . have h1:A0d Au (a,b,a,(a.length:Int),0)=_:=h1;rw [h1];simp only [fh] at h2;rw [h2];by_cases d:a.length<b.length
   . refine ⟨-1,by simp [d],by simp [d]⟩
   . refine ⟨0,by simp [d],by simp [d]⟩
theorem B9o {α:Type}(p:Nat->α->Bool):∀ (l:List α) (i:Nat),(tm p l i).isSome=(l.zipIdx i).any λx=>p x.2 x.1
 | [],_=>rfl
 | x::r,i=>by
   simp only [tm,ji,gK];by_cases h:p i x=true
   . simp [h]
   . simp only [h,if_false,aI,gL];exact B9o p r (i+1)
theorem Nq {A B α:Type}{f:A->Option (A ⊕ B)}(l:List α)(st:Nat->A)(p:Nat->α->Bool)(b e:B)
 (h1:∀ i (h:i<l.length),f (st i)=if p i l[i] then some (.inr b) else some (.inl (st (i+1)))) (h2:f (st l.length)=some (.inr e)) :
 A0d f (st 0)=some (if (l.zipIdx.any λx=>p x.2 x.1) then b else e):=by
 rw [Ma l st p (λ_=>b) e h1 h2,← B9o p l 0]
 cases tm p l 0<;>rfl
section
variable {v:List Int}{es:List (List Int)}(nv:v.length<=1000000)(el:∀ e∈es,e.length<=1000000)
include nv el
theorem avh:Ms (v,es)=some (A4z v es):=by
 unfold Ms A4z;simp only [auK nv,ai];cases ha:asc v with
 | false=>rfl
 | true =>
   simp only [bO,cond_false,dm];by_cases hn:es.length<=20000
   . have rV:¬ (es.length:Int)>20000:=by omega
     simp only [hn,rV,decide_true,decide_false,cond_false,dm];have k0:=Nq (f:=Mp) es (λi=>((es,(es.length:Int),(i:Int)),v,es)) (λi e=>!edgeOk v es i e) (.inl false) (.inr (v,es)) (λi hi=>by
      have hi':(i:Int)<(es.length:Int):=by omega
      have hle:=el _ (aM hi);simp only [Mp,hi',decide_true,cond_true,aq,ar,ah hi,ai,auK hle,auL ha nv hle,iQ (show i<9223372036854775807 by omega)]
      unfold edgeOk;by_cases h0:es[i]=[]
      . simp [h0]
      . have Db:((es[i].length:Int)==0)=false:=by
         rw [beq_eq_false_iff_ne]
         have:=gQ.2 h0
         omega
        have HJ:es[i].isEmpty=false:=by cases hc:es[i] with | nil=>exact absurd hc h0 | cons _ _=>rfl
        rw [Db,cond_false,HJ];cases asc es[i] with
        | false=>rfl
        | true =>
          cases within es[i] v with
          | false=>rfl
          | true =>
            simp only [bO,cond_false,auI,dm];by_cases hz:i=0
            . subst hz;simp
            . have hp:(i:Int)>0:=by omega
              have Co:(i==0)=false:=by simpa using hz
              obtain ⟨c,h1,h2⟩:=avL (a:=es[i-1]) (b:=es[i]) (el _ (aM _));simp only [hp,decide_true,cond_true,Av (show 1<=i by omega) (by omega),aq,ar,ah (show i-1<es.length by omega),ai,h1,h2,Co,gL,
               bh,bI]
              cases before es[i-1] es[i]<;>simp) (by
      simp only [Mp,ba,decide_false,cond_false])
     have k0:A0d Mp ((es,(es.length:Int),0),v,es)=_:=k0;rw [k0];cases hb:es.zipIdx.any λx=>!edgeOk v es x.2 x.1 with
     | true=>rfl
     | false =>
       have kN:∀ i (h:i<es.length),edgeOk v es i es[i]=true:=by
        intro i hi
        have:=List.any_eq_false.1 hb (es[i],i) (Go.Hg.kY.2 ⟨hi,rfl⟩)
        simpa using this
       have q0:∀ i (h:i<es.length),asc es[i]=true:=by
        intro i hi
        have:=kN i hi
        unfold edgeOk at this;simp only [aj] at this;exact this.1.1.2
       have k2:∀ i (h:i<es.length),A0d Mq (((i:Int),es[i],es,(es.length:Int),(i:Int),es,(es.length:Int),0),v,es)=some (if A3W es i es[i] then .inl false else .inr ((es,(es.length:Int),(i:Int)),v,es)):=by
        intro i hi;have k:=Nq (f:=Mq) es (λk=>(((i:Int),es[i],es,(es.length:Int),(i:Int),es,(es.length:Int),(k:Int)),v,es)) (λk y=>k != i&&within y es[i]) (.inl false) (.inr ((es,(es.length:Int),(i:Int)),v,es)) (λk hk=>by
         have nq:(k:Int)<(es.length:Int):=by omega
         simp only [Mq,nq,decide_true,cond_true,aq,ar,ah hk,ai,auL (q0 i hi) (el _ (aM hi)) (el _ (aM hk)),iQ (show k<9223372036854775807 by omega)]
         by_cases c:k=i
         . subst c;simp
         . have c':((i:Int) != (k:Int))=true:=by rw [bne_iff_ne];omega
           have c2:(k != i)=true:=by simpa using c
           rw [c',c2,cond_true];cases within es[k] es[i]<;>rfl) (by
         simp only [Mq,ba,decide_false,cond_false])
        exact k
       have k1:=Nq (f:=Mr) es (λi=>((es,(es.length:Int),(i:Int)),v,es)) (λi e=>A3W es i e) (.inl false) (.inr ()) (λi hi=>by
        have hi':(i:Int)<(es.length:Int):=by omega
        simp only [Mr,hi',decide_true,cond_true,aq,ar,ah hi,ai,k2 i hi,iQ (show i<9223372036854775807 by omega)]
        cases A3W es i es[i] with
        | true=>rfl
        | false=>simp [iQ (show i<9223372036854775807 by omega)]) (by
        simp only [Mr,ba,decide_false,cond_false])
       have k1:A0d Mr ((es,(es.length:Int),0),v,es)=_:=k1;simp only [if_false,aI,ai,Sum.elim_inr];rw [k1];cases es.zipIdx.any λx=>A3W es x.2 x.1<;>rfl
   . have rV:(es.length:Int)>20000:=by omega
     simp [hn,rV]
theorem avy:Q3 (v,es)=some (A4z v es):=by
 unfold Q3 A4z;simp only [au_ nv,ai];cases ha:asc v with
 | false=>rfl
 | true =>
   simp only [bO,cond_false,dm];by_cases hn:es.length<=20000
   . have rV:¬ (es.length:Int)>20000:=by omega
     simp only [hn,rV,decide_true,decide_false,cond_false,dm];have k1:∀ i (h:i<es.length),A0d JD (((i:Int),0),v,es)=some (if A3W es i es[i] then .inl false else .inr ((i:Int),v,es)):=by
      intro i hi;have k:=Nq (f:=JD) es (λk=>(((i:Int),(k:Int)),v,es)) (λk y=>k != i&&within y es[i]) (.inl false) (.inr ((i:Int),v,es)) (λk hk=>by
       have nq:(k:Int)<(es.length:Int):=by omega
       simp only [JD,nq,decide_true,cond_true,aq,ar,ah hk,ah hi,ai,auX (el _ (aM hk)) (el _ (aM hi)),iQ (show k<9223372036854775807 by omega)]
       by_cases c:k=i
       . subst c;simp
       . have c':((k:Int) != (i:Int))=true:=by rw [bne_iff_ne];omega
         have c2:(k != i)=true:=by simpa using c
         rw [c',c2,cond_true];cases within es[k] es[i]<;>rfl) (by
       simp only [JD,ba,decide_false,cond_false])
      exact k
     have k0:=Nq (f:=M6) es (λi=>((i:Int),v,es)) (λi e=>!edgeOk v es i e || A3W es i e) (.inl false) (.inr ()) (λi hi=>by
      have hi':(i:Int)<(es.length:Int):=by omega
      have hle:=el _ (aM hi);simp only [M6,hi',decide_true,cond_true,aq,ar,ah hi,ai,au_ hle,auX hle nv,k1 i hi,iQ (show i<9223372036854775807 by omega)]
      unfold edgeOk;by_cases h0:es[i]=[]
      . simp [h0]
      . have Db:((es[i].length:Int)==0)=false:=by
         rw [beq_eq_false_iff_ne]
         have:=gQ.2 h0
         omega
        have HJ:es[i].isEmpty=false:=by cases hc:es[i] with | nil=>exact absurd hc h0 | cons _ _=>rfl
        rw [Db,cond_false,HJ];cases asc es[i] with
        | false=>rfl
        | true =>
          cases within es[i] v with
          | false=>rfl
          | true =>
            simp only [bO,cond_false,auI,dm];by_cases hz:i=0
            . subst hz;cases A3W es 0 es[0]<;>simp [iQ (show 0<9223372036854775807 by omega)]
            . have hp:(i:Int)>0:=by omega
              have Co:(i==0)=false:=by simpa using hz
              simp only [hp,decide_true,cond_true,Av (show 1<=i by omega) (by omega),aq,ar,ah (show i-1<es.length by omega),ai,avj (el _ (aM (show i-1<es.length by omega))),Co,gL,
               bh,bI]
              cases before es[i-1] es[i] with
              | false=>rfl
              | true=>cases A3W es i es[i]<;>simp [iQ (show i<9223372036854775807 by omega)]) (by
      simp only [M6,ba,decide_false,cond_false])
     have k0:A0d M6 (0,v,es)=_:=k0;rw [k0];have e:(es.zipIdx.any λx=>!edgeOk v es x.2 x.1 || A3W es x.2 x.1)=((es.zipIdx.any λx=>!edgeOk v es x.2 x.1) || (es.zipIdx.any λx=>A3W es x.2 x.1)):=by
      generalize es.zipIdx=L
      induction L with
      | nil=>rfl
      | cons x r ih =>
        simp only [gK,ih];cases edgeOk v es x.2 x.1<;>cases A3W es x.2 x.1<;>simp
     rw [e];cases es.zipIdx.any λx=>!edgeOk v es x.2 x.1<;>cases es.zipIdx.any λx=>A3W es x.2 x.1<;>rfl
   . have rV:(es.length:Int)>20000:=by omega
     simp [hn,rV]
end
end Go.Mid
namespace Go.Mid
open Go.Hg (asc within A09 B3h less A2w D9p A0t D7m C2g C3X C3Y later D01 D4P B9j A4z HOk)
def jG (l:List Nat):List Int:=l.map λ(n:Nat)=>(n:Int)
@[simp] theorem CW (l:List Nat):(jG l).length=l.length:=by simp [jG]
theorem FF {l:List Nat}{i:Nat}(h:i<l.length):(jG l)[i]?=some ((l[i]:Nat):Int):=by
 unfold jG;rw [List.getElem?_map,ah h];rfl
theorem C9f (n:Nat):(((n:Nat):Int)==0)=(n==0):=by
 cases n with
 | zero=>rfl
 | succ n=>rfl
section
variable {n:Nat}{E:List Nat}(hn:n<=40)(hE:∀ e∈E,e<2 ^ n)(nE:E.length<=1000000)
include hn hE nE
end
section
variable {v:List Int}{es:List (List Int)}(H:HOk v es)(el:∀ e∈es,e.length<=1000000)
include H el
end
end Go.Mid
namespace Go.Mid
open Go.Hg (asc within A5O A09 before A4q D7m pick A7d A06 hEs A75 A4b A4S A5P PrV nbB A4L)
section
variable {ls:List (List Int)}(nl:ls.length<=1000)(el:∀ e∈ls,e.length<=100000)
end
section
variable {N:Nat}{E:List Nat}{R:List Int}{skip:Nat}
end
section
variable {N:Nat}{E:List Nat}{R:List Int}{skip:Nat}
end
end Go.Mid
namespace Go.Mid
open Go.Hg (asc Gr PrV nbB A6j A4L Acy A06 hEs)
section
variable {v R:List Int}{skip:Nat}{es:List (List Int)}(G:Gr v es)
include G
end
end Go.Mid
namespace Go.Mid
theorem nC {R:Int->Int->Prop}(HK:∀ a,¬ R a a)(Nr:∀ a b,R a b->R b a->False):∀ {l m:List Int},l.Pairwise R->m.Pairwise R->(∀ x,x∈l↔x∈m)->l=m
 | [],[],_,_,_=>rfl
 | [],b::m,_,_,h=>absurd ((h b).2 (by simp)) (by simp)
 | a::l,[],_,_,h=>absurd ((h a).1 (by simp)) (by simp)
 | a::l,b::m,hl,hm,h=>by
   have zj:=bN.1 hl;have xM:=bN.1 hm;have uO:a=b:=by
    rcases aG.1 ((h a).1 (by simp)) with e | e
    . exact e
    . rcases aG.1 ((h b).2 (by simp)) with e2 | e2
      . exact e2.symm
      . exact (Nr _ _ (zj.1 b e2) (xM.1 a e)).elim
   subst uO;congr 1;refine nC HK Nr zj.2 xM.2 λx=>?_
   constructor
   . intro hx;rcases aG.1 ((h x).1 (bC _ hx)) with e | e
     . subst e;exact (HK _ (zj.1 _ hx)).elim
     . exact e
   . intro hx;rcases aG.1 ((h x).2 (bC _ hx)) with e | e
     . subst e;exact (HK _ (xM.1 _ hx)).elim
     . exact e
theorem Rn {l:List Int}{x:Int}:x∈lK l↔x∈l:=(Me l).mem_iff
theorem C9l {l:List Int}(h:l.Nodup):(lK l).Pairwise (· < ·):=by
 have h1:=B5E l;have h2:(lK l).Nodup:=(Me l).nodup_iff.2 h;exact (h1.and h2).imp λ⟨a,b⟩=>by omega
end Go.Mid
namespace Go.Mid
def jg:List Int->List Int
 | []=>[]
 | [x]=>[x]
 | x::y::r=>if x=y then jg (y::r) else x::jg (y::r)
theorem Ro:∀ (l:List Int) (x:Int),x∈jg l↔x∈l
 | [],x=>by simp [jg]
 | [a],x=>by simp [jg]
 | a::b::r,x=>by
   unfold jg;split
   . rename_i h;rw [Ro (b::r) x,h];simp
   . rw [aG,Ro (b::r) x];simp
theorem Ns:∀ l:List Int,(jg l).length<=l.length
 | []=>by simp [jg]
 | [a]=>by simp [jg]
 | a::b::r=>by
   unfold jg
   have:=Ns (b::r)
   split<;>simp only [bf] at * <;> omega
theorem B62:∀ (l:List Int) (x:Int),l ≠ []->jg (l++[x])=if l.getLast?=some x then jg l else jg l++[x]
 | [],_,h=>absurd rfl h
 | [a],x,_=>by
   simp only [aS,List.nil_append,jg,List.getLast?_singleton,aa];by_cases h:a=x
   . simp [h]
   . simp [h]
 | a::b::r,x,_=>by
   have ih:=B62 (b::r) x (by simp)
   have e:(a::b::r).getLast?=(b::r).getLast?:=by simp
   rw [e];simp only [aS] at ih ⊢;rw [jg,ih]
   conv=>rhs;rw [jg]
   by_cases h1:a=b<;>by_cases h2:(b::r).getLast?=some x<;>simp [h1,h2]
def pS (l:List Int)(m:Nat):List Int:=jg (l.take m)++l.drop (jg (l.take m)).length
theorem C1U (l:List Int)(m:Nat):(jg (l.take m)).length<=m:=dF (Ns _) (by rw [aW];omega)
theorem C4f (l:List Int)(m:Nat):(pS l m).length=l.length:=by
 unfold pS;have h1:=Ns (l.take m);rw [aW] at h1;rw [aR,cm];omega
theorem C4g {l:List Int}{m i:Nat}(h:(jg (l.take m)).length<=i):(pS l m)[i]?=l[i]?:=by
 unfold pS;rw [bG h,List.getElem?_drop];congr 1;omega
theorem C9m {l:List Int}{m:Nat}(h0:0<m)(h:m<=l.length):(l.take m).getLast?=l[m-1]?:=by
 rw [List.getLast?_eq_getElem?,aW,cX h,List.getElem?_take_of_lt (by omega)]
theorem JJ {l:List Int}{m:Nat}(h0:0<m)(h:m<l.length):jg (l.take (m+1))=if l[m]'h=l[m-1]'(by omega) then jg (l.take m) else jg (l.take m)++[l[m]'h]:=by
 have hne:l.take m ≠ []:=by
  intro e
  have:=congrArg cz e
  rw [aW,cM] at this;omega
 rw [vz h,B62 _ _ hne,C9m h0 (by omega),ah (by omega:m-1<l.length)]
 simp only [aa];by_cases e:l[m]'h=l[m-1]'(by omega)
 . rw [if_pos e.symm,if_pos e]
 . rw [if_neg (λh=>e h.symm),if_neg e]
theorem D07 {l:List Int}{m:Nat}(h0:0<m)(h:m<l.length)(hk:(jg (l.take m)).length<=m-1)(hne:l[m]'h≠l[m-1]'(by omega)):pS l (m+1)=(pS l m).set (jg (l.take m)).length (l[m]'h):=by
 unfold pS;rw [JJ h0 h,if_neg hne];generalize jg (l.take m)=D at hk;rw [eh _ _ (ay _),gx,aR]
 have:D.length<l.length:=by omega
 rw [bY this,dR];simp
theorem B63 {l:List Int}{m k:Nat}(JG:k<m)(hk:(jg (l.take m)).length<=m-1):∀ j,m+j<=l.length->(jg (l.take (m+j))).length<=m+j-1
 | 0,_=>by simpa using hk
 | j+1,h=>by
   have ih:=B63 JG hk j (by omega)
   rw [← bV,JJ (by omega) (by omega)]
   split
   . omega
   . rw [aR];simp;omega
theorem Xw {LL:List (List Int)}{I:Nat}{l:List Int}(h:LL[I]?=some l):LL.set I l=LL:=by
 have eC:=(aJ.1 h).1;apply fy;intro i;rw [dD];by_cases e:I=i
 . subst e;rw [if_pos rfl,if_pos eC,h]
 . rw [if_neg e]
theorem C1V {LL:List (List Int)}{I N off:Nat}{l:List Int}(hI:I<LL.length)(hN:l.length=N)(hN2:N<=1000)(ho:0<off)(hoN:off<N)(hd:(jg (l.take (off+1))).length=off) :
 A0d Jt (((I,N),(off:Int),(I,off,N-off),1),LL.set I (pS l (off+1)))=some (((I,N),((jg l).length:Int)),LL.set I (pS l N)):=by
 have hall:jg (l.take N)=jg l:=by rw [a6 (by omega)]
 have:A0d Jt (((I,N),((jg (l.take (off+1+0))).length:Int),(I,off,N-off),((0+1:Nat):Int)),LL.set I (pS l (off+1+0)))=_ :=
  tQ (f:=Jt) (N-off-1) (λi=>(((I,N),((jg (l.take (off+1+i))).length:Int),(I,off,N-off),((i+1:Nat):Int)),LL.set I (pS l (off+1+i)))) (((I,N),((jg l).length:Int)),LL.set I (pS l N)) (λi hi=>by
   have hm:off+1+i<l.length:=by omega
   have hsm:=B63 (l:=l) (m:=off+1) (k:=off) (by omega) (by omega) i (by omega)
   have hk0:=C1U l (off+1+i);have hj:((i+1:Nat):Int)<((N-off:Nat):Int):=by omega
   have EJ:(0:Int)<=((i+1:Nat):Int):=by omega
   have hw:af.wrap (((i+1:Nat):Int)-1)=(i:Int):=by rw [wrap_i64 (by omega) (by omega)];omega
   have e1:(LL.set I (pS l (off+1+i)))[I]?=some (pS l (off+1+i)):=by simp [hI]
   have g1:(pS l (off+1+i))[off+(i+1)]?=some (l[off+1+i]'hm):=by
    rw [C4g (by omega),show off+(i+1)=off+1+i by omega,ah hm]
   have g2:(pS l (off+1+i))[off+i]?=some (l[off+i]'(by omega)):=by
    rw [C4g (by omega),ah (by omega)]
   have hlen:=C4f l (off+1+i);have rG:=JJ (l:=l) (m:=off+1+i) (by omega) hm
   have Nt:off+1+i-1=off+i:=by omega
   simp only [Nt] at rG;simp only [Jt,hj,decide_true,cond_true,e1,ai,EJ,ar,lB (show i+1<N-off by omega),g1,hw,aq,lB (show i<N-off by omega),g2]
   by_cases hne:l[off+1+i]'hm=l[off+i]'(by omega)
   . rw [if_pos hne] at rG;have hb:(l[off+1+i]'hm != l[off+i]'(by omega))=false:=by simp [hne]
     have ha:pS l (off+1+(i+1))=pS l (off+1+i):=by
      rw [← bV];unfold pS;rw [rG]
     rw [ha,← bV (off+1) i 1,rG];simp only [hb,cond_false,iQ (show i+1<9223372036854775807 by omega)]
   . rw [if_neg hne] at rG;have hb:(l[off+1+i]'hm != l[off+i]'(by omega))=true:=by simpa using hne
     have ha:=D07 (l:=l) (m:=off+1+i) (by omega) hm (by omega) (by simp only [Nt];exact hne)
     rw [← bV (off+1) i 1,ha,rG];have hDl:(jg (l.take (off+1+i))).length<(pS l (off+1+i)).length:=by omega
     simp only [hb,cond_true,lB (show (jg (l.take (off+1+i))).length<N by omega),ah hDl,ai,beq_self_eq_true,iy,lB hI,nK,aR,bf,cM,iQ (show (jg (l.take (off+1+i))).length<9223372036854775807 by omega),iQ (show i+1<9223372036854775807 by omega)]) (by
   have hm:off+1+(N-off-1)=N:=by omega
   have e1:(LL.set I (pS l N))[I]?=some (pS l N):=by simp [hI]
   have hj:¬ ((N-off-1+1:Nat):Int)<((N-off:Nat):Int):=by omega
   rw [hm,hall];simp only [Jt,hj,decide_false,cond_false,e1,ai])
 have h0:((jg (l.take (off+1+0))).length:Int)=(off:Int):=by rw [dG,hd]
 rw [h0] at this;exact this
theorem Xx {l:List Int}{k:Nat}(h:∀ j (h0:0<j) (hj:j<k) (hl:j<l.length),l[j]≠l[j-1]'(by omega)):∀ m,m<=k->m<=l.length->jg (l.take m)=l.take m
 | 0,_,_=>by simp [jg]
 | 1,_,hl=>by
   rw [vz (by omega:0<l.length)];simp [jg]
 | m+2,hk,hl=>by
   rw [JJ (by omega) (by omega:m+1<l.length),if_neg (h (m+1) (by omega) (by omega) (by omega)),Xx h (m+1) (by omega) (by omega),← vz (by omega)]
theorem C7E {LL:List (List Int)}{I:Nat}{l:List Int}(hL:LL[I]?=some l)(hN2:l.length<=1000) :
 ∃ l',QK ((I,l.length),LL)=some ((I,(jg l).length),LL.set I l')∧l'.take (jg l).length=jg l∧(jg l).length<=l'.length:=by
 have hI:=(aJ.1 hL).1;unfold QK;by_cases h2:(l.length:Int)<2
 . have hd:jg l=l:=by
    match l,h2 with
    | [],_=>rfl
    | [_],_=>rfl
    | _::_::_,h=>simp at h;omega
   refine ⟨l,?_,by rw [hd,pN],by rw [hd];exact ay _⟩
   simp only [h2,decide_true,cond_true,hL,ai,hd,Xw hL]
 simp only [h2,decide_false,cond_false,hL,ai];have key:∀ n k,n+k=l.length->0<k->(∀ j (h0:0<j) (hj:j<k) (hl:j<l.length),l[j]≠l[j-1]'(by omega))->
  ∃ b,A0d Ju (((I,l.length),(k:Int)),LL)=some b ∧
   ((∃ l',b=.inl ((I,(jg l).length),LL.set I l')∧l'.take (jg l).length=jg l∧(jg l).length<=l'.length)∨(b=.inr ((I,l.length),LL)∧jg l=l)):=by
  intro n
  induction n with
  | zero =>
    intro k hk h0 hp;have zq:k=l.length:=by omega
    refine ⟨.inr ((I,l.length),LL),qc ?_,.inr ⟨rfl,?_⟩⟩
    . subst zq;simp only [Ju,ba,decide_false,cond_false,hL,ai]
    . have:=Xx hp l.length (by omega) (ay _)
      rwa [pN] at this
  | succ n ih =>
    intro k hk h0 hp;have zq:k<l.length:=by omega
    have nq:(k:Int)<(l.length:Int):=by omega
    have hw:af.wrap ((k:Int)-1)=((k-1:Nat):Int):=by rw [wrap_i64 (by omega) (by omega)];omega
    by_cases he:l[k]=l[k-1]'(by omega)
    . have hd:jg (l.take k)=l.take k:=Xx hp k (ay _) (by omega)
      have hd1:(jg (l.take (k+1))).length=k:=by
       rw [JJ h0 zq,if_pos he,hd,aW];omega
      have ha:pS l (k+1)=l:=by
       unfold pS;rw [hd1,JJ h0 zq,if_pos he,hd,List.take_append_drop]
      have CT:=C1V (LL:=LL) (I:=I) (N:=l.length) (off:=k) (l:=l) hI rfl hN2 h0 zq hd1;rw [ha,Xw hL] at CT;have hle:=Ns l;have hD:pS l l.length=jg l++l.drop (jg l).length:=by unfold pS;rw [pN]
      have Xy:=C4f l l.length;refine ⟨.inl ((I,(jg l).length),LL.set I (A1x (pS l l.length) (some (jg l).length) (au (l.length-(jg l).length) 0))),qc ?_,.inl ⟨_,rfl,?_,?_⟩⟩
      . have e1:(LL.set I (pS l l.length))[I]?=some (pS l l.length):=by simp [hI]
        have e3:(A1x (pS l l.length) (some (jg l).length) (au (l.length-(jg l).length) 0)).length=(pS l l.length).length:=by
         unfold A1x;simp only [aR,aW,fZ,cm,Xy];omega
        simp only [Ju,nq,decide_true,cond_true,hL,ai,aq,ar,lB zq,ah zq,hw,lB (show k-1<l.length by omega),ah (show k-1<l.length by omega),he,beq_self_eq_true,jE (show k<=l.length by omega),CT,e1,jE hle,iy,lB hI,e3,nK]
        rw [jE (by rw [fZ,Xy];omega)]
        rfl
      . unfold A1x;simp only;rw [hD,List.append_assoc,List.take_append_of_le_length (by rw [aW];simp),List.take_take,Nat.min_self,List.take_left' rfl]
      . unfold A1x;simp only [aR,aW,fZ,cm,Xy];omega
    . have hb:(l[k]==l[k-1]'(by omega))=false:=by simpa using he
      obtain ⟨b,h1,h3⟩:=ih (k+1) (by omega) (by omega) (λj a b c=>by
       by_cases e:j=k
       . subst e;exact he
       . exact hp j a (by omega) c)
      refine ⟨b,?_,h3⟩;rw [← h1];exact vw (by
       simp only [Ju,nq,decide_true,cond_true,hL,ai,aq,ar,lB zq,ah zq,hw,lB (show k-1<l.length by omega),ah (show k-1<l.length by omega),hb,cond_false,iQ (show k<9223372036854775807 by omega)])
 obtain ⟨b,h1,h3⟩:=key (l.length-1) 1 (by omega) (by omega) (λj a b c=>by omega)
 have h1:A0d Ju (((I,l.length),(1:Int)),LL)=some b:=h1;rw [h1];rcases h3 with ⟨l',rfl,h4,h5⟩ | ⟨rfl,h4⟩
 . refine ⟨l',?_,h4,h5⟩;have e1:(LL.set I l')[I]?=some l':=by simp [hI]
   simp only [ai,Sum.elim_inl,e1]
 . refine ⟨l,?_,by rw [h4,pN],by rw [h4];exact ay _⟩
   simp only [ai,Sum.elim_inr,hL,h4,Xw hL]
end Go.Mid
namespace Go.Mid
structure NB (n:Nat)(next:List (List Int)):Prop where
 len:next.length=n
 yd:∀ l∈next,∀ w∈l,0<=w∧w<n
 Rp:∀ l∈next,l.length<=1000
 small:n<=1000
end Go.Mid
namespace Go.Mid
theorem C9n (x:List Int):uR (Ty.vec 1 (Ty.int af)) x=x:=by
 show fp (uR (Ty.int af)) x=x
 have:(uR (Ty.int af):Int->Int)=id:=by funext y;rfl
 exact (congrArg (λf=>fp f x) this).trans (wR x)
theorem B4A (l:List (List Int)):fp (uR (Ty.vec 1 (Ty.int af))) l=l:=by
 have:(uR (Ty.vec 1 (Ty.int af)):List Int->List Int)=id:=by funext y;exact C9n y
 exact (congrArg (λf=>fp f l) this).trans (wR l)
abbrev oW:=List (Int×Int)
def qv (E:oW)(v:Nat):List Int:=(E.filter λe=>e.1==(v:Int)).map (·.2)
def zM (n:Nat)(E:oW):List (List Int):=(bA n).map (qv E)
theorem Rq {n v:Nat}{E:oW}(h:v<n):(zM n E)[v]?=some (qv E v):=by simp [zM,h]
theorem Nu (n:Nat)(E:oW):(zM n E).length=n:=by simp [zM]
theorem D08 (E:oW)(e:Int×Int)(v:Nat):qv (E++[e]) v=if e.1=(v:Int) then qv E v++[e.2] else qv E v:=by
 unfold qv;rw [List.filter_append,b9];by_cases h:e.1=(v:Int)<;>simp [h]
theorem C9o {n:Nat}{E:oW}{u:Nat}{w:Int}(hu:u<n):zM n (E++[((u:Int),w)])=(zM n E).set u (qv E u++[w]):=by
 apply fy;intro v;rw [dD,Nu];by_cases hv:v<n
 . rw [Rq hv,D08];by_cases e:u=v
   . subst e;simp [hv]
   . have:¬ ((u:Int)=(v:Int)):=by omega
     simp [e,this,Rq hv]
 . rw [bJ (by rw [Nu];omega)]
   have:¬ u=v:=by omega
   rw [if_neg this,bJ (by rw [Nu];omega)]
theorem Xz (E:oW)(v:Nat):(qv E v).length<=E.length:=by
 unfold qv;rw [aB];exact dt ..
theorem C5V {E:oW}{v:Nat}{w:Int}:w∈qv E v↔((v:Int),w)∈E:=by
 unfold qv;rw [bp];constructor
 . rintro ⟨⟨a,b⟩,h1,rfl⟩;rw [cZ] at h1
   have:=h1.2
   simp at this;rw [← this];exact h1.1
 . intro h;exact ⟨((v:Int),w),cZ.2 ⟨h,by simp⟩,rfl⟩
def Ej (n:Nat)(E:oW):Prop:=∀ e∈E,0<=e.1∧e.1<n∧0<=e.2∧e.2<n
theorem D09 {n:Nat}{E:oW}(hr:Ej n E)(hE:E.length<=1000):A0d MH ((n,E,(E.length:Int),0),au n [])=some (n,zM n E):=by
 have h0:au n []=zM n (E.take 0):=by
  apply fy;intro v;by_cases hv:v<n
  . rw [Rq hv];simp [hv,qv]
  . rw [bJ (by simp;omega),bJ (by rw [Nu];omega)]
 rw [h0]
 have:=tQ (f:=MH) E.length (λi=>((n,E,(E.length:Int),(i:Int)),zM n (E.take i))) (n,zM n E) (λi hi=>by
  have hi':(i:Int)<E.length:=by omega
  have he:=hr E[i] (aM hi);obtain ⟨u,hu⟩:∃ u:Nat,(E[i]).1=(u:Int):=eB he.1;have XA:u<n:=by have:=he.2.1;rw [hu] at this;omega
  have hei:E[i]=((u:Int),(E[i]).2):=Prod.ext hu rfl;rw [vz hi,hei,C9o XA];have hl:=Xz (E.take i) u;rw [aW] at hl;have b0:cP 0 2=true:=rfl;have b1:cP 1 2=true:=rfl;simp only [MH,hi',decide_true,cond_true,aq,ar,ah hi,ai,b0,b1,hu,lB XA,Rq XA,beq_self_eq_true,jE (ay _),Nu,pN,aR,bf,cM,iQ (show i<9223372036854775807 by omega)]
  rw [jE (show ((qv (E.take i) u).length+1)*8<=140737488355328 by omega)]
  rfl) (by
  simp only [MH,ba,decide_false,cond_false,pN])
 simpa using this
def r0 (n:Nat)(E:oW):List (List Int):=(bA n).map λv=>jg (lK (qv E v))
def ye (n:Nat)(E:oW)(i:Nat):List (List Int):=(bA n).map λv=>if v<i then jg (lK (qv E v)) else qv E v
theorem XB {n v i:Nat}{E:oW}(h:v<n):(ye n E i)[v]?=some (if v<i then jg (lK (qv E v)) else qv E v):=by simp [ye,h]
theorem Nv (n i:Nat)(E:oW):(ye n E i).length=n:=by simp [ye]
theorem D1a {n i:Nat}{E:oW}(hi:i<n):ye n E (i+1)=(ye n E i).set i (jg (lK (qv E i))):=by
 apply fy;intro v;rw [dD,Nv];by_cases hv:v<n
 . rw [XB hv];by_cases e:i=v
   . subst e;simp [hv]
   . rw [if_neg e,XB hv];by_cases h1:v<i
     . rw [if_pos h1,if_pos (by omega)]
     . rw [if_neg h1,if_neg (by omega)]
 . rw [bJ (by rw [Nv];omega)]
   have:¬ i=v:=by omega
   rw [if_neg this,bJ (by rw [Nv];omega)]
theorem D2Z {LL:List (List Int)}{I:Nat}{l:List Int}(hL:LL[I]?=some l)(hl:l.length<=1000):QJ ((I,l.length),LL)=some (LL.set I (lK l)):=by
 unfold QJ;have h1:A1x l none (lK l)=lK l:=by
  unfold A1x;simp only;rw [Hv,eS,bD]
 simp only [hL,ai,pN,h1,Hv,jE (ay _),cond_true,beq_self_eq_true];rw [lB (by omega)]
 rfl
theorem D1b {n:Nat}{E:oW}(hn:n<=1000)(hE:E.length<=1000):A0d MI ((n,(n:Int),0),zM n E)=some (n,r0 n E):=by
 have h0:zM n E=ye n E 0:=by simp [zM,ye]
 have h1:r0 n E=ye n E n:=by
  unfold r0 ye;apply eJ;intro v hv;rw [if_pos (cu.1 hv)]
 rw [h0,h1]
 have:=tQ (f:=MI) n (λi=>((n,(n:Int),(i:Int)),ye n E i)) (n,ye n E n) (λi hi=>by
  have hi':(i:Int)<n:=by omega
  have hl:=Xz E i;have g0:(ye n E i)[i]?=some (qv E i):=by rw [XB hi,if_neg (Nat.lt_irrefl i)]
  have hs:=D2Z g0 (by omega)
  have xj:(lK (qv E i)).length=(qv E i).length:=Hv _;have g1:((ye n E i).set i (lK (qv E i)))[i]?=some (lK (qv E i)):=by simp [Nv,hi]
  obtain ⟨l',c1,c2,c3⟩:=C7E g1 (by omega)
  have g2:((ye n E i).set i l')[i]?=some l':=by simp [Nv,hi]
  have g3:(jg (lK (qv E i))).length=(aP (jg (lK (qv E i))).length l').length:=by rw [c2]
  have bq:iI i i=true:=by simp
  simp only [MI,hi',decide_true,cond_true,aq,ar,lB hi,g0,ai,hs,g1,c1,g2,bq,jE c3,c2,beq_self_eq_true,nK,D1a hi,iQ (show i<9223372036854775807 by omega)]) (by
  simp only [MI,ba,decide_false,cond_false])
 simpa using this
theorem XC (n:Nat)(E:oW):(r0 n E).length=n:=by simp [r0]
theorem C1W {n:Nat}{E:oW}(hn:n<=1000)(hr:Ej n E)(hE:E.length<=1000):Jv ((n:Int),E)=some (r0 n E):=by
 unfold Jv;simp only [aq,decide_true,cond_true,ar,Int.le_refl];rw [jE (show n*24<=140737488355328 by omega)]
 simp only [cond_true,D09 hr hE,ai,D1b hn hE];rw [jE (show n<=(r0 n E).length by rw [XC];exact ay _)]
 have e:aP n (r0 n E)=r0 n E:=a6 (by rw [XC];exact ay _)
 refine congrArg some ?_;refine Eq.trans ?_ (B4A (r0 n E));exact congrArg (λl:List (List Int)=>fp (uR (Ty.vec 1 (Ty.int af))) l) e
theorem C1I {n v:Nat}{E:oW}(h:v<(r0 n E).length):(r0 n E)[v]=jg (lK (qv E v)):=by simp [r0]
theorem C9p {n v:Nat}{E:oW}{w:Int}(h:v<(r0 n E).length):w∈(r0 n E)[v]↔((v:Int),w)∈E:=by
 rw [C1I h,Ro,Rn,C5V]
theorem D1c {n:Nat}{E:oW}(hn:n<=1000)(hr:Ej n E)(hE:E.length<=1000):NB n (r0 n E) where
 len:=XC n E
 yd:=by
  intro l hl w hw;obtain ⟨v,hv,rfl⟩:=pd hl
  have:=hr _ ((C9p hv).1 hw)
  exact this.2.2
 Rp:=by
  intro l hl;obtain ⟨v,hv,rfl⟩:=pd hl;rw [C1I hv];have h1:=Ns (lK (qv E v));rw [Hv] at h1;have h2:=Xz E v;omega
 small:=hn
end Go.Mid
namespace Go.Mid
def HL (n:Int)(e:Int×Int):Bool:=decide (e.1<0) || decide (e.1 ≥ n) || decide (e.2<0) || decide (e.2 ≥ n)
def JK (n:Int)(l:List (Int×Int)):Int:=if n>1000 then 3 else if (l.length:Int)>20000 then 3 else if n<0 then 1 else if l.any (HL n) then 1 else 0
theorem D5Q:cP 0 2=true:=rfl
theorem D5R:cP 1 2=true:=rfl
theorem XD {n:Int}{e:Int×Int}:HL n e=true↔e.1<0∨e.1 ≥ n∨e.2<0∨e.2 ≥ n:=by
 simp [HL,or_assoc]
theorem C0t (n:Int)(l:List (Int×Int)):MG (n,l)=some (JK n l):=by
 unfold MG JK;simp only [gt_iff_lt];by_cases h1:1000<n
 . simp [h1]
 by_cases h2:(20000:Int)<l.length
 . simp [h1,h2]
 by_cases h3:n<0
 . simp [h1,h2,h3]
 simp only [h1,h2,h3,decide_false,cond_false,if_false]
 have:=wo (f:=QI) l (λi=>(n,l,(l.length:Int),(i:Int))) (HL n) (.inl 1) (.inr ()) (λi hi=>by
  have hi':(i:Int)<l.length:=by omega
  simp only [QI,hi',decide_true,cond_true,aq,ar,ah hi,ai,D5Q,D5R,iQ (show i<9223372036854775807 by omega)]
  generalize l[i]=e;by_cases hb:HL n e=true
  . rw [if_pos hb];rw [XD] at hb;by_cases c1:(if e.2<e.1 then e.2 else e.1)<0
    . simp only [c1,decide_true,cond_true]
    . have c2:(if e.2>e.1 then e.2 else e.1) ≥ n:=by
       split at c1<;>split<;>omega
      simp only [c1,c2,decide_true,decide_false,cond_true,cond_false]
  . rw [if_neg hb];rw [XD] at hb;have c1:¬ (if e.2<e.1 then e.2 else e.1)<0:=by split<;>omega
    have c2:¬ (if e.2>e.1 then e.2 else e.1) ≥ n:=by split<;>omega
    simp only [c1,c2,decide_false,cond_false]) (by
  simp only [QI,ba,decide_false,cond_false])
 simp only [b7] at this;rw [this];by_cases h4:l.any (HL n)=true
 . simp [h4]
 . simp only [h4];rfl
end Go.Mid
namespace Go.Mid
def BU (n:Nat)(g:Nat->Bool):List Bool:=(bA n).map g
theorem Rr (n:Nat)(g:Nat->Bool):(BU n g).length=n:=by simp [BU]
theorem Rs {n j:Nat}{g:Nat->Bool}(h:j<n):(BU n g)[j]?=some (g j):=by simp [BU,h]
theorem XE {n:Nat}{g h:Nat->Bool}(e:∀ j,j<n->g j=h j):BU n g=BU n h :=
 eJ λj hj=>e j (cu.1 hj)
theorem C4h {n j:Nat}{g:Nat->Bool}(h:j<n)(x:Bool):(BU n g).set j x=BU n (λb=>if b=j then x else g b):=by
 apply fy;intro v;rw [dD,Rr];by_cases hv:v<n
 . rw [Rs hv];by_cases e:j=v
   . subst e;rw [Rs hv];simp [h]
   . have:¬ v=j:=λh=>e h.symm
     simp [e,this,Rs hv]
 . rw [bJ (by rw [Rr];omega),bJ (by rw [Rr];omega)]
   have:¬ j=v:=by omega
   rw [if_neg this]
theorem D1d (n:Nat):au n false=BU n (λ_=>false):=by
 simp [BU,List.map_const']
end Go.Mid
namespace Go.Mid
end Go.Mid
namespace Go.Mid
theorem XF {α:Type}{p q:α->Bool}:∀ {l:List α},(∀ x∈l,p x=true->q x=true)->(∃ x∈l,p x=false∧q x=true)->l.countP p<l.countP q
 | [],_,h=>by obtain ⟨x,hx,_⟩:=h;cases hx
 | a::l,hm,h=>by
   have hle:l.countP p<=l.countP q:=List.countP_mono_left λx hx=>hm x (bC _ hx)
   have ha:=hm a (by simp)
   rw [rz,rz];obtain ⟨x,hx,h1,h2⟩:=h;rcases aG.1 hx with e | e
   . subst e;simp only [h1,h2,if_true];simp;omega
   . have:=XF (λx hx=>hm x (bC _ hx)) ⟨x,e,h1,h2⟩
     by_cases sg:p a=true
     . simp only [sg,ha sg,if_true];omega
     . rw [if_neg sg];omega
theorem Nw {α:Type} [DecidableEq α]:∀ {l m:List α},l.Nodup->(∀ x∈l,x∈m)->l.length<=m.length
 | [],_,_,_=>dg _
 | a::l,m,h,hs=>by
   have h':=bZ.1 h;have JL:=hs a (by simp)
   have:=Nw (l:=l) (m:=m.erase a) h'.2 λx hx=>by
    have hne:x≠a:=λe=>h'.1 (e ▸ hx)
    exact (List.mem_erase_of_ne hne).2 (hs x (bC _ hx))
   rw [List.length_erase_of_mem JL] at this
   have:=List.length_pos_of_mem JL
   simp only [bf];omega
end Go.Mid
namespace Go.Mid
def uX (n:Nat)(o:List Nat):List Bool:=BU n (λv=>o.contains v)
def jA (o:List Nat):List Int:=o.map λk:Nat=>(k:Int)
theorem CZ (o:List Nat):(jA o).length=o.length:=by simp [jA]
theorem C9q (o:List Nat)(v:Nat):jA (o++[v])=jA o++[(v:Int)]:=by simp [jA]
theorem C9r (n:Nat)(o:List Nat):(uX n o).length=n:=Rr ..
theorem C1J {n v:Nat}{o:List Nat}(h:v<n):(uX n o).set v true=uX n (o++[v]):=by
 unfold uX;rw [C4h h];refine XE λj _=>?_
 by_cases e:j=v
 . subst e;simp
 . rw [if_neg e,c6];simp [e]
end Go.Mid
namespace Go.Mid
def BV (n:Nat)(g:Nat->Int):List Int:=(bA n).map g
theorem XG (n:Nat)(g:Nat->Int):(BV n g).length=n:=by simp [BV]
theorem Rt {n j:Nat}{g:Nat->Int}(h:j<n):(BV n g)[j]?=some (g j):=by simp [BV,h]
theorem D1e {n:Nat}{g h:Nat->Int}(e:∀ j,j<n->g j=h j):BV n g=BV n h :=
 eJ λj hj=>e j (cu.1 hj)
theorem D1f {n j:Nat}{g:Nat->Int}(h:j<n)(x:Int):(BV n g).set j x=BV n (λb=>if b=j then x else g b):=by
 apply fy;intro v;rw [dD,XG];by_cases hv:v<n
 . rw [Rt hv];by_cases e:j=v
   . subst e;rw [Rt hv];simp [h]
   . have:¬ v=j:=λh=>e h.symm
     simp [e,this,Rt hv]
 . rw [bJ (by rw [XG];omega),bJ (by rw [XG];omega)]
   have:¬ j=v:=by omega
   rw [if_neg this]
end Go.Mid
namespace Go.Mid
def tR (E:oW)(u:Nat):List Int:=jg (lK (qv E u))
theorem C5W {E:oW}{u:Nat}{w:Int}:w∈tR E u↔((u:Int),w)∈E:=by
 unfold tR;rw [Ro,Rn,C5V]
theorem XH {n u:Nat}{E:oW}(h:u<n):(r0 n E)[u]?=some (tR E u):=by simp [r0,h,tR]
end Go.Mid
namespace Go.Mid
end Go.Mid
namespace Go.Mid
theorem XI {o:List Nat}{i:Nat}(h:i<o.length):(jA o)[i]?=some (o[i]:Int):=by simp [jA,h]
end Go.Mid
namespace Go.Mid
end Go.Mid
namespace Go.Mid
def D6D (E:oW)(u v:Nat):Bool:=E.any λe=>e.1==(u:Int)&&e.2==(v:Int)
def Nx (p:List Nat):Nat:=p.getLast?.getD 0
theorem B9r (p:List Nat)(v:Nat):Nx (p++[v])=v:=by simp [Nx]
def kZ (M:List (List Nat)):List (List Int):=M.map jA
theorem Ru (M:List (List Nat)):(kZ M).length=M.length:=by simp [kZ]
def JM (n:Nat)(S:Nat->Bool):Nat:=(bA n).countP S
structure LV (n:Nat)(S:Nat->Bool)(L:List (List Nat)):Prop where
 ne:∀ p∈L,p ≠ []
 yd:∀ p∈L,Nx p<n
 seen:∀ p∈L,S (Nx p)=true
 len:∀ p∈L,p.length<=JM n S
 Rp:L.length<=JM n S
theorem D20 {n:Nat}{S S':Nat->Bool}(h:∀ v,S v=true->S' v=true){v:Nat}(hv:v<n)(h1:S v=false)(h2:S' v=true):JM n S<JM n S' :=
 XF (λx _ hx=>h x hx) ⟨v,cu.2 hv,h1,h2⟩
theorem LV.next {n:Nat}{E:oW}{S S':Nat->Bool}{L N:List (List Nat)}(h:LV n S L)(h2:∀ v,S v=true->S' v=true)
 (h4:∀ q∈N,∃ p∈L,∃ v,v<n∧q=p++[v]∧D6D E (Nx p) v=true∧S v=false∧S' v=true) (h5:JM n S'=JM n S+N.length):LV n S' N where
 ne:=λq hq=>by
  obtain ⟨p,_,v,_,rfl,_⟩:=h4 q hq;simp
 yd:=λq hq=>by
  obtain ⟨p,_,v,hv,rfl,_⟩:=h4 q hq;rw [B9r];exact hv
 seen:=λq hq=>by
  obtain ⟨p,_,v,hv,rfl,_,_,e⟩:=h4 q hq;rw [B9r];exact e
 len:=λq hq=>by
  obtain ⟨p,hp,v,hv,rfl,_,e1,e2⟩:=h4 q hq
  have:=h.len p hp
  have:=D20 h2 hv e1 e2
  simp;omega
 Rp:=by omega
end Go.Mid
namespace Go.Mid
end Go.Mid
namespace Go.Mid
inductive Rc (Ed:Nat->Nat->Prop) (a:Nat):Nat->Prop
 | refl:Rc Ed a a
 | tail {b c:Nat}:Rc Ed a b->Ed b c->Rc Ed a c
section
variable {Ed:Nat->Nat->Prop}
theorem Rc.trans {a b c:Nat}(h:Rc Ed a b):Rc Ed b c->Rc Ed a c:=λh2=>by
 induction h2 with
 | refl=>exact h
 | tail _ e ih=>exact ih.tail e
theorem Rc.one {a b:Nat}(h:Ed a b):Rc Ed a b:=Rc.refl.tail h
theorem Rc.closed {P:Nat->Prop}(hP:∀ a b,P a->Ed a b->P b){a b:Nat}(h:Rc Ed a b)(ha:P a):P b:=by
 induction h with
 | refl=>exact ha
 | tail _ e ih=>exact hP _ _ ih e
structure kP (Ed:Nat->Nat->Prop)(n:Nat)(G:List Nat)(ix:Nat->Nat)(oE:List Nat)(cnt:Nat)(out:List (List Nat)):Prop where
 cc:(bA n).countP (λv=>ix v != 0)=cnt
 FH:∀ v,ix v<=cnt
 yd:∀ v,ix v≠0->v<n
 inj:∀ u v,ix u≠0->ix u=ix v->u=v
 HM:oE.Pairwise (λa b=>ix a<ix b)
 qw:∀ v∈oE,ix v≠0
 JN:∀ g∈G,g∈oE
 Ny:∀ u w,ix u≠0->u∉oE->Ed u w->ix w≠0∧w∉oE
 blk:∀ u∈oE,u∉G->∀ w,Ed u w->ix w≠0
 i7:∀ u∈oE,∃ g∈G,ix g<=ix u∧Rc Ed u g
 i8:∀ g∈G,∀ u∈oE,ix g<=ix u->Rc Ed g u
 Nz:∀ v,ix v≠0->v∉oE->∃ C∈out,v∈C
 yf:∀ C∈out,C ≠ []∧C.Nodup∧∀ u∈C,(ix u≠0∧u∉oE)∧∀ w,(w∈C↔Rc Ed u w∧Rc Ed w u)
 JO:out.Pairwise (λC D=>∀ x∈C,x∉D)
def y6 {α:Type}(f:Nat->α)(v:Nat)(x:α):Nat->α:=λb=>if b=v then x else f b
theorem A1C {α:Type}(f:Nat->α)(v:Nat)(x:α):y6 f v x v=x:=by simp [y6]
theorem yg {α:Type}{f:Nat->α}{v b:Nat}{x:α}(h:b≠v):y6 f v x b=f b:=by simp [y6,h]
theorem B64 {ix:Nat->Nat}{v c:Nat}(h0:ix v=0)(hc:c≠0):∀ m,(bA m).countP (λu=>y6 ix v c u != 0)=(bA m).countP (λu=>ix u != 0)+if v<m then 1 else 0
 | 0=>by simp
 | m+1=>by
   rw [List.range_succ,p9,p9,B64 h0 hc m];by_cases e:m=v
   . subst e;have h1:¬ m<m:=by omega
     have h2:m<m+1:=by omega
     simp [A1C,h0,hc]
   . have h3:v<m+1↔v<m:=by omega
     simp only [List.countP_singleton,yg e,h3];omega
theorem kP.nil (n:Nat):kP Ed n [] (λ_=>0) [] 0 [] where
 cc:=by simp
 FH:=by simp
 yd:=by simp
 inj:=by simp
 HM:=by simp
 qw:=by simp
 JN:=by simp
 Ny:=by simp
 blk:=by simp
 i7:=by simp
 i8:=by simp
 Nz:=by simp
 yf:=by simp
 JO:=by simp
theorem kP.XJ {n:Nat}{G:List Nat}{ix:Nat->Nat}{oE:List Nat}{cnt:Nat}{out:List (List Nat)}(h:kP Ed n G ix oE cnt out):oE.Nodup :=
 h.HM.imp λ{a b} uO e=>by subst e;omega
theorem kP.push {n:Nat}{G:List Nat}{ix:Nat->Nat}{oE:List Nat}{cnt:Nat}{out:List (List Nat)}(h:kP Ed n G ix oE cnt out){v:Nat}(hv:v<n)(h0:ix v=0)(hG:∀ g∈G,Rc Ed g v) :
 kP Ed n (v::G) (y6 ix v (cnt+1)) (oE++[v]) (cnt+1) out:=by
 have fN:v∉oE:=λhm=>h.qw v hm h0
 have hne:∀ u,ix u≠0->u≠v:=λu hu e=>hu (e ▸ h0)
 have zN:∀ u,ix u≠0->y6 ix v (cnt+1) u=ix u:=λu hu=>yg (hne u hu)
 have FI:∀ u∈oE,y6 ix v (cnt+1) u=ix u:=λu hu=>zN u (h.qw u hu)
 have HN:∀ u,y6 ix v (cnt+1) u≠0↔u=v∨ix u≠0:=λu=>by
  by_cases e:u=v
  . subst e;simp [A1C]
  . simp [yg e,e]
 refine ⟨?_,?_,?_,?_,?_,?_,?_,?_,?_,?_,?_,?_,?_,h.JO⟩
 . rw [B64 h0 (by omega),h.cc,if_pos hv]
 . intro u;by_cases e:u=v
   . subst e;rw [A1C];exact ay _
   . rw [yg e];have:=h.FH u;omega
 . intro u hu;rcases (HN u).1 hu with e | e
   . subst e;exact hv
   . exact h.yd u e
 . intro u w hu he;by_cases e1:u=v<;>by_cases e2:w=v
   . rw [e1,e2]
   . subst e1;rw [A1C,yg e2] at he
     have:=h.FH w;omega
   . subst e2;rw [A1C,yg e1] at he
     have:=h.FH u;omega
   . rw [yg e1] at hu;rw [yg e1,yg e2] at he;exact h.inj u w hu he
 . rw [cF];refine ⟨h.HM.imp_of_mem λ{a b} ha hb uO=>by rw [FI a ha,FI b hb];exact uO,by simp,λa ha b hb=>?_⟩
   rw [aX] at hb;subst hb;rw [FI a ha,A1C]
   have:=h.FH a;omega
 . intro u hu;rw [HN];rcases az.1 hu with h1 | h1
   . exact .inr (h.qw u h1)
   . exact .inl (aX.1 h1)
 . intro g hg;rcases aG.1 hg with e | e
   . subst e;simp
   . exact cV _ (h.JN g e)
 . intro u w hu hs he;rcases (HN u).1 hu with e | e
   . subst e;exact (hs (by simp)).elim
   . obtain ⟨a,b⟩:=h.Ny u w e (λhm=>hs (cV _ hm)) he
     refine ⟨(HN w).2 (.inr a),λhm=>?_⟩
     rcases az.1 hm with h1 | h1
     . exact b h1
     . rw [aX] at h1;exact hne w a h1
 . intro u hu hg w he;rcases az.1 hu with h1 | h1
   . exact (HN w).2 (.inr (h.blk u h1 (λhm=>hg (bC _ hm)) w he))
   . rw [aX] at h1;subst h1;exact (hg (by simp)).elim
 . intro u hu;rcases az.1 hu with h1 | h1
   . obtain ⟨g,hg,a,b⟩:=h.i7 u h1;exact ⟨g,bC _ hg,by rw [FI g (h.JN g hg),FI u h1];exact a,b⟩
   . rw [aX] at h1;subst h1;exact ⟨u,by simp,ay _,.refl⟩
 . intro g hg u hu hle;rcases az.1 hu with h1 | h1
   . rcases aG.1 hg with e | e
     . subst e;rw [A1C,FI u h1] at hle
       have:=h.FH u;omega
     . rw [FI g (h.JN g e),FI u h1] at hle;exact h.i8 g e u h1 hle
   . rw [aX] at h1;subst h1;rcases aG.1 hg with e | e
     . subst e;exact .refl
     . exact hG g e
 . intro u hu hs;rcases (HN u).1 hu with e | e
   . subst e;exact (hs (by simp)).elim
   . exact h.Nz u e λhm=>hs (cV _ hm)
 . intro C hC;obtain ⟨a,b,c⟩:=h.yf C hC;refine ⟨a,b,λu hu=>?_⟩
   obtain ⟨⟨c1,c2⟩,c3⟩:=c u hu;refine ⟨⟨(HN u).2 (.inr c1),λhm=>?_⟩,c3⟩
   rcases az.1 hm with h1 | h1
   . exact c2 h1
   . rw [aX] at h1;exact hne u c1 h1
theorem kP.stay {n:Nat}{G:List Nat}{ix:Nat->Nat}{oE:List Nat}{cnt:Nat}{out:List (List Nat)}{v:Nat}(h:kP Ed n (v::G) ix oE cnt out)(hall:∀ w,Ed v w->ix w≠0)
 {w:Nat} (hw:w∈oE) (eC:ix w<ix v) (XK:Rc Ed v w):kP Ed n G ix oE cnt out:=by
 refine ⟨h.cc,h.FH,h.yd,h.inj,h.HM,h.qw,λg hg=>h.JN g (bC _ hg),h.Ny,λu hu hg x he=>?_,λu hu=>?_,λg hg=>h.i8 g (bC _ hg),h.Nz,h.yf,h.JO⟩
 . by_cases e:u=v
   . subst e;exact hall x he
   . exact h.blk u hu (λhm=>by
      rcases aG.1 hm with h1 | h1
      . exact e h1
      . exact hg h1) x he
 . have key:∃ g∈G,ix g<=ix w∧Rc Ed w g:=by
    obtain ⟨g,hg,a,b⟩:=h.i7 w hw;rcases aG.1 hg with e | e
    . subst e;omega
    . exact ⟨g,e,a,b⟩
   obtain ⟨g,hg,a,b⟩:=h.i7 u hu;rcases aG.1 hg with e | e
   . subst e;obtain ⟨k,hk,c,d⟩:=key;exact ⟨k,hk,by omega,b.trans (XK.trans d)⟩
   . exact ⟨g,e,a,b⟩
theorem kP.pop {n:Nat}{G:List Nat}{ix:Nat->Nat}{S0 T:List Nat}{cnt:Nat}{out:List (List Nat)}{v:Nat}(h:kP Ed n (v::G) ix (S0++v::T) cnt out)(hall:∀ w,Ed v w->ix w≠0)
 (NA:∀ g∈G,g∈S0) (XL:∀ u∈v::T,∀ w∈S0,¬ Ed u w):kP Ed n G ix S0 cnt (out++[v::T]):=by
 have hp:=cF.1 h.HM;have JP:∀ u,u∈S0->u∈S0++v::T:=λu hu=>cV _ hu
 have hT:∀ u,u∈v::T->u∈S0++v::T:=λu hu=>kK _ hu
 have lE:∀ u∈v::T,u∉S0:=λu hu hs=>by
  have:=hp.2.2 u hs u hu;omega
 have XM:∀ u∈v::T,ix v<=ix u:=λu hu=>by
  rcases aG.1 hu with e | e
  . subst e;exact ay _
  . exact fH ((bN.1 hp.2.1).1 u e)
 have zN:∀ u∈v::T,∀ w,Ed u w->ix w≠0:=λu hu w he=>by
  by_cases e:u=v
  . subst e;exact hall w he
  . refine h.blk u (hT u hu) (λhm=>?_) w he
    rcases aG.1 hm with h1 | h1
    . exact e h1
    . exact lE u hu (NA u h1)
 have HO:∀ u w,(ix u≠0∧u∉S0)->Ed u w->(ix w≠0∧w∉S0):=by
  rintro u w ⟨h1,h2⟩ he;by_cases hu:u∈v::T
  . exact ⟨zN u hu w he,λhs=>XL u hu w hs he⟩
  . obtain ⟨a,b⟩:=h.Ny u w h1 (λhm=>by
     rcases az.1 hm with h3 | h3
     . exact h2 h3
     . exact hu h3) he
    exact ⟨a,λhs=>b (JP w hs)⟩
 have NC:∀ u w,(ix u≠0∧u∉S0++v::T)->Ed u w->(ix w≠0∧w∉S0++v::T):=λu w h1 he=>h.Ny u w h1.1 h1.2 he
 have lD:∀ u∈v::T,ix u≠0∧u∉S0:=λu hu=>⟨h.qw u (hT u hu),lE u hu⟩
 have hto:∀ u∈v::T,Rc Ed u v:=λu hu=>by
  obtain ⟨g,hg,a,b⟩:=h.i7 u (hT u hu);rcases aG.1 hg with e | e
  . subst e;exact b
  . exact ((b.closed HO (lD u hu)).2 (NA g e)).elim
 have GA:∀ u∈v::T,Rc Ed v u:=λu hu=>h.i8 v (by simp) u (hT u hu) (XM u hu)
 refine ⟨h.cc,h.FH,h.yd,h.inj,hp.1,λu hu=>h.qw u (JP u hu),NA,λu w h1 h2 he=>HO u w ⟨h1,h2⟩ he,λu hu hg x he=>?_,λu hu=>?_,λg hg u hu=>h.i8 g (bC _ hg) u (JP u hu),λu hu hs=>?_,λC hC=>?_,?_⟩
 . refine h.blk u (JP u hu) (λhm=>?_) x he
   rcases aG.1 hm with h1 | h1
   . subst h1;exact lE u (by simp) hu
   . exact hg h1
 . obtain ⟨g,hg,a,b⟩:=h.i7 u (JP u hu);rcases aG.1 hg with e | e
   . subst e
     have:=hp.2.2 u hu g (by simp)
     omega
   . exact ⟨g,e,a,b⟩
 . by_cases hm:u∈v::T
   . exact ⟨v::T,by simp,hm⟩
   . obtain ⟨C,hC,h1⟩:=h.Nz u hu λhh=>by
      rcases az.1 hh with h3 | h3
      . exact hs h3
      . exact hm h3
     exact ⟨C,cV _ hC,h1⟩
 . rcases az.1 hC with h1 | h1
   . obtain ⟨a,b,c⟩:=h.yf C h1;exact ⟨a,b,λu hu=>⟨⟨(c u hu).1.1,λhs=>(c u hu).1.2 (JP u hs)⟩,(c u hu).2⟩⟩
   . rw [aX] at h1;subst h1;have hnd:=h.XJ;rw [aT] at hnd;refine ⟨by simp,hnd.2.1,λu hu=>⟨lD u hu,λw=>⟨λhw=>⟨(hto u hu).trans (GA w hw),(hto w hw).trans (GA u hu)⟩,λ⟨h1,h2⟩=>?_⟩⟩⟩
     obtain ⟨a,b⟩:=h1.closed HO (lD u hu);refine b5 λnu=>?_
     have:=h2.closed NC ⟨a,λhm=>by
      rcases az.1 hm with h3 | h3
      . exact b h3
      . exact nu h3⟩
     exact this.2 (hT u hu)
 . rw [cF];refine ⟨h.JO,by simp,λC hC D hD x hx hxD=>?_⟩
   rw [aX] at hD;subst hD;exact ((h.yf C hC).2.2 x hx).1.2 (hT x hxD)
theorem kP.fin {n:Nat}{ix:Nat->Nat}{oE:List Nat}{cnt:Nat}{out:List (List Nat)}(h:kP Ed n [] ix oE cnt out):oE=[]:=by
 cases oE with
 | nil=>rfl
 | cons a l =>
   obtain ⟨g,hg,_⟩:=h.i7 a (by simp)
   cases hg
structure y7 (Ed:Nat->Nat->Prop)(n:Nat)(G:List Nat)(v:Nat)(ix lo:Nat->Nat)(S0:List Nat)(cnt:Nat)(out:List (List Nat))(hZ j5:Nat->Nat)(T:List Nat)(ju:Nat)(jv:List (List Nat)):Prop where
 inv:kP Ed n G hZ (S0++T) ju jv
 bm:∀ u,ix u≠0->hZ u=ix u∧j5 u=lo u
 XN:hZ v≠0
 new:∀ u,ix u=0->hZ u≠0->cnt<hZ u
 BW:j5 v<=hZ v
 zO:cnt<=ju
 tT:out <+: jv
 eds:∀ u∈T,∀ w∈S0,Ed u w->j5 v<=hZ w
 low:(T=[]∧j5 v=hZ v)∨(j5 v<hZ v∧∃ w∈S0,hZ w=j5 v∧Rc Ed v w)
structure jX (Ed:Nat->Nat->Prop)(n:Nat)(G:List Nat)(v:Nat)(ix lo:Nat->Nat)(S0:List Nat)(cnt:Nat)(out:List (List Nat))(D:List Nat)(hZ j5:Nat->Nat)(T:List Nat)(ju:Nat)(jv:List (List Nat)):Prop where
 inv:kP Ed n (v::G) hZ (S0++v::T) ju jv
 bm:∀ u,ix u≠0->hZ u=ix u∧j5 u=lo u
 C0:hZ v=cnt+1
 new:∀ u,ix u=0->hZ u≠0->cnt<hZ u
 zO:cnt+1<=ju
 tT:out <+: jv
 BW:j5 v<=hZ v
 uY:∀ x∈D,hZ x≠0
 wA:∀ x∈D,x∈S0->j5 v<=hZ x
 wC:∀ u∈T,∀ w∈S0,Ed u w->j5 v<=hZ w
 low:∃ w∈S0++v::T,hZ w=j5 v∧Rc Ed v w
theorem jX.start {n:Nat}{G:List Nat}{v:Nat}{ix lo:Nat->Nat}{S0:List Nat}{cnt:Nat}{out:List (List Nat)}(h:kP Ed n G ix S0 cnt out)(hv:v<n)(h0:ix v=0)(hG:∀ g∈G,Rc Ed g v) :
 jX Ed n G v ix lo S0 cnt out [] (y6 ix v (cnt+1)) (y6 lo v (cnt+1)) [] (cnt+1) out where
 inv:=h.push hv h0 hG
 bm:=λu hu=>by
  have:u≠v:=λe=>hu (e ▸ h0)
  rw [yg this,yg this];exact ⟨rfl,rfl⟩
 C0:=A1C ..
 new:=λu h1 h2=>by
  by_cases e:u=v
  . subst e;rw [A1C];omega
  . rw [yg e] at h2;exact (h2 h1).elim
 zO:=ay _
 tT:=List.prefix_refl _
 BW:=by rw [A1C,A1C];exact ay _
 uY:=by simp
 wA:=by simp
 wC:=by simp
 low:=⟨v,by simp,by rw [A1C,A1C],.refl⟩
section
variable {n:Nat}{G:List Nat}{v:Nat}{ix lo:Nat->Nat}{S0:List Nat}{cnt:Nat}{out:List (List Nat)}{D:List Nat}{hZ j5:Nat->Nat}{T:List Nat}{ju:Nat}{jv:List (List Nat)}
theorem jX.sv (h:jX Ed n G v ix lo S0 cnt out D hZ j5 T ju jv):∀ u∈v::T,hZ v<=hZ u:=λu hu=>by
 have hp:=cF.1 h.inv.HM;rcases aG.1 hu with e | e
 . subst e;exact ay _
 . exact fH ((bN.1 hp.2.1).1 u e)
theorem jX.on (h:jX Ed n G v ix lo S0 cnt out D hZ j5 T ju jv){x:Nat}(hx:Ed v x)(hs:x∈S0++v::T)(hne:∀ u,ix u≠0->u≠v) :
 jX Ed n G v ix lo S0 cnt out (D++[x]) hZ (y6 j5 v (min (j5 v) (hZ x))) T ju jv where
 inv:=h.inv
 bm:=λu hu=>⟨(h.bm u hu).1,by rw [yg (hne u hu)];exact (h.bm u hu).2⟩
 C0:=h.C0
 new:=h.new
 zO:=h.zO
 tT:=h.tT
 BW:=by rw [A1C];have:=h.BW;omega
 uY:=λy hy=>by
  rcases az.1 hy with h1 | h1
  . exact h.uY y h1
  . rw [aX] at h1;subst h1;exact h.inv.qw y hs
 wA:=λy hy h2=>by
  rw [A1C];rcases az.1 hy with h1 | h1
  . have:=h.wA y h1 h2;omega
  . rw [aX] at h1;subst h1;omega
 wC:=λu hu w hw he=>by
  rw [A1C]
  have:=h.wC u hu w hw he;omega
 low:=by
  rw [A1C];by_cases hc:j5 v<=hZ x
  . rw [cX hc];exact h.low
  . rw [jk (by omega)];exact ⟨x,hs,rfl,.one hx⟩
theorem jX.off (h:jX Ed n G v ix lo S0 cnt out D hZ j5 T ju jv){x:Nat}(hv:hZ x≠0)(hs:x∉S0++v::T) :
 jX Ed n G v ix lo S0 cnt out (D++[x]) hZ j5 T ju jv where
 inv:=h.inv
 bm:=h.bm
 C0:=h.C0
 new:=h.new
 zO:=h.zO
 tT:=h.tT
 BW:=h.BW
 uY:=λy hy=>by
  rcases az.1 hy with h1 | h1
  . exact h.uY y h1
  . rw [aX] at h1;subst h1;exact hv
 wA:=λy hy h2=>by
  rcases az.1 hy with h1 | h1
  . exact h.wA y h1 h2
  . rw [aX] at h1;subst h1;exact (hs (cV _ h2)).elim
 wC:=h.wC
 low:=h.low
theorem jX.call (h:jX Ed n G v ix lo S0 cnt out D hZ j5 T ju jv){x:Nat}(hx:Ed v x)(h0:hZ x=0)(hne:∀ u,ix u≠0->u≠v)
 {uZ tq:Nat->Nat} {T2:List Nat} {qx:Nat} {nc:List (List Nat)} (h2:y7 Ed n (v::G) x hZ j5 (S0++v::T) ju jv uZ tq T2 qx nc) :
 jX Ed n G v ix lo S0 cnt out (D++[x]) uZ (y6 tq v (min (tq v) (tq x))) (T++T2) qx nc:=by
 have yK:hZ v≠0:=by rw [h.C0];omega
 have HP:=h2.bm v yK;have hkS:∀ u∈S0,uZ u=hZ u:=λu hu=>(h2.bm u (h.inv.qw u (cV _ hu))).1
 have zN:∀ u,ix u≠0->hZ u≠0:=λu hu=>by rw [(h.bm u hu).1];exact hu
 have sL:S0++v::(T++T2)=(S0++v::T)++T2:=by simp
 refine ⟨by rw [sL];exact h2.inv,λu hu=>?_,by rw [HP.1];exact h.C0,λu h3 h4=>?_,by have:=h2.zO;have:=h.zO;omega,h.tT.trans h2.tT,?_,λy hy=>?_,λy hy hs=>?_,λu hu w hw he=>?_,?_⟩
 . rw [yg (hne u hu),(h2.bm u (zN u hu)).1,(h2.bm u (zN u hu)).2];exact h.bm u hu
 . by_cases e:hZ u=0
   . have:=h2.new u e h4;have:=h.zO;omega
   . rw [(h2.bm u e).1];exact h.new u h3 e
 . rw [A1C,HP.1,HP.2]
   have:=h.BW;omega
 . rcases az.1 hy with h1 | h1
   . rw [(h2.bm y (h.uY y h1)).1];exact h.uY y h1
   . rw [aX] at h1;subst h1;exact h2.XN
 . rw [A1C];rcases az.1 hy with h1 | h1
   . rw [HP.2,hkS y hs]
     have:=h.wA y h1 hs;omega
   . rw [aX] at h1;subst h1;exact (h.inv.qw y (cV _ hs) h0).elim
 . rw [A1C];rcases az.1 hu with h1 | h1
   . rw [HP.2,hkS w hw]
     have:=h.wC u h1 w hw he;omega
   . have:=h2.eds u h1 w (cV _ hw) he;omega
 . rw [A1C];by_cases hc:tq v<=tq x
   . rw [cX hc];obtain ⟨w,a,b,c⟩:=h.low;exact ⟨w,by rw [sL];exact cV _ a,by rw [(h2.bm w (h.inv.qw w a)).1,HP.2];exact b,c⟩
   . rw [jk (by omega)]
     rcases h2.low with ⟨h3,h4⟩ | ⟨h3,w,a,b,c⟩
     . have h5:=h2.new x h0 h2.XN;have h6:=h.BW;have h7:=h.zO;rw [HP.2,h4] at hc;have h8:=h.C0;omega
     . exact ⟨w,by rw [sL];exact cV _ a,b,(Rc.one hx).trans c⟩
theorem jX.stay (h:jX Ed n G v ix lo S0 cnt out D hZ j5 T ju jv)(hD:∀ w,Ed v w->w∈D)(eC:j5 v<hZ v) :
 y7 Ed n G v ix lo S0 cnt out hZ j5 (v::T) ju jv:=by
 obtain ⟨w,a,b,c⟩:=h.low;have hw:w∈S0:=by
  rcases az.1 a with h1 | h1
  . exact h1
  . have:=h.sv w h1;omega
 refine ⟨h.inv.stay (λx hx=>h.uY x (hD x hx)) a (by omega) c,h.bm,by rw [h.C0];omega,h.new,h.BW,by have:=h.zO;omega,h.tT,λu hu x hx he=>?_,.inr ⟨eC,w,hw,b,c⟩⟩
 rcases aG.1 hu with e | e
 . subst e;exact h.wA x (hD x he) hx
 . exact h.wC u e x hx he
theorem jX.pop (h:jX Ed n G v ix lo S0 cnt out D hZ j5 T ju jv)(hD:∀ w,Ed v w->w∈D)(heq:j5 v=hZ v)(NA:∀ g∈G,g∈S0) :
 y7 Ed n G v ix lo S0 cnt out hZ j5 [] ju (jv++[v::T]):=by
 have eC:∀ w∈S0,hZ w<hZ v:=λw hw=>(cF.1 h.inv.HM).2.2 w hw v (by simp)
 refine ⟨?_,h.bm,by rw [h.C0];omega,h.new,h.BW,by have:=h.zO;omega,h.tT.trans (List.prefix_append _ _),by simp,.inl ⟨rfl,heq⟩⟩
 rw [bD];refine h.inv.pop (λx hx=>h.uY x (hD x hx)) NA λu hu w hw he=>?_
 have h1:=eC w hw;rcases aG.1 hu with e | e
 . subst e
   have:=h.wA w (hD w he) hw;omega
 . have:=h.wC u e w hw he;omega
end
end
end Go.Mid
namespace Go.Mid
def BX (E:oW):Nat->Nat->Prop:=λu w=>((u:Int),(w:Int))∈E
def tt (n:Nat)(f:Nat->Nat):List Int:=BV n λv=>((f v:Nat):Int)
theorem A5j {n j:Nat}{f:Nat->Nat}(h:j<n):(tt n f)[j]?=some ((f j:Nat):Int):=Rt h
theorem Rv {n v c:Nat}{f:Nat->Nat}(h:v<n):(tt n f).set v (c:Int)=tt n (y6 f v c):=by
 unfold tt;rw [D1f h];refine D1e λj _=>?_
 by_cases e:j=v
 . subst e;simp [A1C]
 . simp [e,yg e]
abbrev TSt:=List (List Int)×(List Int×Nat)×(List Int×Nat)×(List Bool×Nat)×(List Int×Nat)×Int×List (List Int)×Nat
def tU (n:Nat)(E:oW)(ix lo:Nat->Nat)(oE:List Nat)(cnt:Nat)(out:List (List Nat)):TSt :=
 (r0 n E,(tt n ix,n),(tt n lo,n),(uX n oE,n),(jA oE,oE.length),(cnt:Int),kZ out,out.length)
theorem C5X (a b:Nat):(if (b:Int)<(a:Int) then (b:Int) else (a:Int))=((min a b:Nat):Int):=by
 split<;>omega
theorem ND {n v:Nat}{o:List Nat}(h:v<n):(uX n o)[v]?=some (o.contains v):=Rs h
theorem B4B {o:List Nat}{v:Nat}(h:v∈o):o.contains v=true:=bj.2 h
theorem B3l {o:List Nat}{v:Nat}(h:v∉o):o.contains v=false:=by
 cases hc:o.contains v
 . rfl
 . exact (h (bj.1 hc)).elim
theorem C4i {n:Nat}{ix:Nat->Nat}{v:Nat}(hv:v<n)(h0:ix v=0):(bA n).countP (λu=>ix u != 0)<n:=by
 have h1:(bA n).countP (λu=>ix u != 0)<(bA n).countP (λ_=>true) :=
  XF (λ_ _ _=>rfl) ⟨v,cu.2 hv,by simp [h0],rfl⟩
 simpa using h1
theorem C7F {S0 T:List Nat}{v:Nat}(h:v∉S0)(hl:(S0++v::T).length<=1000000):MJ (jA (S0++v::T),(v:Int))=some (S0.length:Int):=by
 unfold MJ;have hL:(jA (S0++v::T)).length=(S0++v::T).length:=CZ _;have hlen:S0.length<(S0++v::T).length:=by simp
 have:=tQ (f:=QL) S0.length (λi=>(jA (S0++v::T),(v:Int),((S0++v::T).length:Int),(i:Int))) (.inl (S0.length:Int)) (λi hi=>by
  have rX:i<(S0++v::T).length:=by omega
  have hi':(i:Int)<((S0++v::T).length:Int):=by omega
  have hg:(jA (S0++v::T))[i]?=some ((S0[i]:Nat):Int):=by
   rw [XI rX,List.getElem_append_left hi]
  have hne:(((v:Nat):Int)==((S0[i]:Nat):Int))=false:=by
   rw [beq_eq_false_iff_ne];intro e
   have:v=S0[i]:=by omega
   exact h (this ▸ aM hi)
  simp only [QL,hi',decide_true,cond_true,aq,ar,hg,ai,hne,cond_false,iQ (show i<9223372036854775807 by omega)]) (by
  have hi':(S0.length:Int)<((S0++v::T).length:Int):=by omega
  have hg:(jA (S0++v::T))[S0.length]?=some (v:Int):=by
   rw [XI hlen,List.getElem_append_right (ay _)];simp
  simp only [QL,hi',decide_true,cond_true,aq,ar,hg,ai,beq_self_eq_true])
 simp only [b7] at this;simp only [hL,this,ai,Sum.elim_inl]
theorem D21 {n:Nat}{E:oW}{ix lo:Nat->Nat}{S0 L st:List Nat}{cnt:Nat}{out:List (List Nat)}(hL:∀ x∈L,x<n)(hnd:(S0++L).Nodup)(hl:L.length<=1000000) :
 A0d MK ((L.length,L.length,(L.length:Int),0),jA L,r0 n E,(tt n ix,n),(tt n lo,n),(uX n (S0++L),n),(jA st,st.length),(cnt:Int),kZ out,out.length) =
  some (L.length,jA L,tU n E ix lo st cnt out |>.1,(tt n ix,n),(tt n lo,n),(uX n S0,n),(jA st,st.length),(cnt:Int),kZ out,out.length):=by
 have:=tQ (f:=MK) L.length (λi=>((L.length,L.length,(L.length:Int),(i:Int)),jA L,r0 n E,(tt n ix,n),(tt n lo,n),(uX n (S0++L.drop i),n),(jA st,st.length),(cnt:Int),kZ out,out.length))
  (L.length,jA L,r0 n E,(tt n ix,n),(tt n lo,n),(uX n S0,n),(jA st,st.length),(cnt:Int),kZ out,out.length) (λi hi=>by
  have hi':(i:Int)<(L.length:Int):=by omega
  have hn:L[i]<n:=hL _ (aM hi);have hg:(uX n (S0++L.drop i))[L[i]]?=some true:=by
   rw [ND hn,B4B];rw [bY hi];exact kK _ dS
  have sB:(uX n (S0++L.drop i)).set L[i] false=uX n (S0++L.drop (i+1)):=by
   unfold uX;rw [C4h hn];refine XE λj _=>?_
   have Ek:(S0++L.drop i).Nodup:=hnd.sublist (List.Sublist.append_left (List.drop_sublist i L) S0);rw [bY hi] at Ek ⊢;by_cases e:j=L[i]
   . subst e;rw [if_pos rfl,B3l];rw [aT] at Ek;intro hm;rcases az.1 hm with h1 | h1
     . exact Ek.2.2 _ h1 _ dS rfl
     . exact (bZ.1 Ek.2.1).1 h1
   . rw [if_neg e,c6,bj,bj,az,az,aG];simp only [e,false_or]
  simp only [MK,hi',decide_true,cond_true,aq,ar,lB hi,XI hi,ai,lB hn,hg,sB,iQ (show i<9223372036854775807 by omega)]) (by
  simp only [MK,ba,decide_false,cond_false,eS,bD])
 simpa [tU] using this
section
variable {n:Nat}{E:oW}
def C9s (n:Nat)(E:oW)(m:Nat):Prop:=∀ (v:Nat) (ix lo:Nat->Nat) (S0:List Nat) (cnt:Nat) (out:List (List Nat)) (G:List Nat),n-cnt<=m->kP (BX E) n G ix S0 cnt out->v<n->ix v=0->(∀ g∈G,Rc (BX E) g v)->
 ∃ hZ j5 T ju jv,(∀ k,m<k->FA k ((v:Int),tU n E ix lo S0 cnt out)=some (tU n E hZ j5 (S0++T) ju jv))∧y7 (BX E) n G v ix lo S0 cnt out hZ j5 T ju jv
theorem Rw (hn:n<=1000)(hr:Ej n E)(hE:E.length<=1000){m:Nat}(IH:C9s n E m){v:Nat}(hv:v<n){ix lo:Nat->Nat}(h0:ix v=0){S0:List Nat}{cnt:Nat}{out:List (List Nat)}{G:List Nat}(hG:∀ g∈G,Rc (BX E) g v)(hm:n-(cnt+1)<=m) :
 ∀ (R:List Int) (i:Nat) (hZ j5:Nat->Nat) (T:List Nat) (ju:Nat) (jv:List (List Nat)),(tR E v).drop i=R->i<=(tR E v).length->jX (BX E) n G v ix lo S0 cnt out (((tR E v).take i).map lV) hZ j5 T ju jv->
  ∃ uZ tq T2 qx nc,(∀ k,m<k->A0d (Jw (FA k)) (((v:Int),tR E v,((tR E v).length:Int),(i:Int)),tU n E hZ j5 (S0++v::T) ju jv)=some ((v:Int),tU n E uZ tq (S0++v::T2) qx nc)) ∧
   jX (BX E) n G v ix lo S0 cnt out ((tR E v).map lV) uZ tq T2 qx nc
 | [],i,hZ,j5,T,ju,jv,hd,hi,h=>by
   have hie:i=(tR E v).length:=by
    have:=congrArg cz hd
    rw [cm] at this;simp at this;omega
   subst hie;rw [dM] at h;refine ⟨hZ,j5,T,ju,jv,λk _=>qc ?_,h⟩
   simp only [Jw,tU,ba,decide_false,cond_false]
 | x::R,i,hZ,j5,T,ju,jv,hd,hi,h=>by
   have rX:i<(tR E v).length:=by
    have:=congrArg cz hd
    rw [cm] at this;simp at this;omega
   have hx:(tR E v)[i]=x∧(tR E v).drop (i+1)=R:=by
    rw [bY rX] at hd;exact List.cons.inj hd
   have hN:=D1c hn hr hE;have pE:tR E v∈r0 n E:=List.mem_of_getElem? (XH hv);have hf:=hN.Rp _ pE;obtain ⟨w,hw⟩:∃ w:Nat,(tR E v)[i]=(w:Int):=eB (hN.yd _ pE _ (aM rX)).1;have Em:w<n:=by have:=(hN.yd _ pE _ (aM rX)).2;rw [hw] at this;omega
   have Rx:BX E v w:=C5W.1 (hw ▸ aM rX);have BZ:((tR E v).take (i+1)).map lV=((tR E v).take i).map lV++[w]:=by
    rw [vz rX,b9,hw];rfl
   have hne:∀ u,ix u≠0->u≠v:=λu hu e=>hu (e ▸ h0)
   have hi':(i:Int)<((tR E v).length:Int):=by omega
   by_cases c0:hZ w=0
   . obtain ⟨uZ,tq,T2,qx,nc,e1,hp⟩:=IH w hZ j5 (S0++v::T) ju jv (v::G) (by have:=h.zO;omega) h.inv Em c0 (λg hg=>by
      rcases aG.1 hg with e | e
      . subst e;exact .one Rx
      . exact (hG g e).trans (.one Rx))
     have h2:=h.call Rx c0 hne hp;rw [← BZ] at h2;obtain ⟨NF,NG,T3,B0,B1,e3,h3⟩:=Rw hn hr hE IH hv h0 hG hm R (i+1) _ _ _ _ _ hx.2 rX h2;refine ⟨NF,NG,T3,B0,B1,λk hk=>?_,h3⟩
     rw [← e3 k hk];refine vw ?_;have e1:=e1 k hk;have hz:(((hZ w:Nat):Int)==0)=true:=by rw [c0];rfl
     have sL:S0++v::(T++T2)=(S0++v::T)++T2:=by simp
     rw [sL];simp only [tU] at e1 ⊢;simp only [Jw,hi',decide_true,cond_true,aq,ar,ah rX,hw,ai,lB Em,lB hv,A5j Em,A5j hv,hz,e1,C5X,Rv hv,iQ (show i<9223372036854775807 by omega)]
   . have hz:(((hZ w:Nat):Int)==0)=false:=by rw [beq_eq_false_iff_ne];omega
     by_cases c1:w∈S0++v::T
     . have h2:=h.on Rx c1 hne;rw [← BZ] at h2;obtain ⟨NF,NG,T3,B0,B1,e3,h3⟩:=Rw hn hr hE IH hv h0 hG hm R (i+1) _ _ _ _ _ hx.2 rX h2;refine ⟨NF,NG,T3,B0,B1,λk hk=>?_,h3⟩
       rw [← e3 k hk];refine vw ?_;simp only [tU];simp only [Jw,hi',decide_true,cond_true,aq,ar,ah rX,hw,ai,lB Em,lB hv,A5j Em,A5j hv,hz,cond_false,ND Em,B4B c1,C5X,Rv hv,iQ (show i<9223372036854775807 by omega)]
     . have h2:=h.off c0 c1;rw [← BZ] at h2;obtain ⟨NF,NG,T3,B0,B1,e3,h3⟩:=Rw hn hr hE IH hv h0 hG hm R (i+1) _ _ _ _ _ hx.2 rX h2;refine ⟨NF,NG,T3,B0,B1,λk hk=>?_,h3⟩
       rw [← e3 k hk];refine vw ?_;simp only [tU];simp only [Jw,hi',decide_true,cond_true,aq,ar,ah rX,hw,ai,lB Em,lB hv,A5j Em,hz,cond_false,ND Em,B3l c1,iQ (show i<9223372036854775807 by omega)]
theorem kP.len {Ed:Nat->Nat->Prop}{G:List Nat}{ix:Nat->Nat}{oE:List Nat}{cnt:Nat}{out:List (List Nat)}(h:kP Ed n G ix oE cnt out):oE.length<=n:=by
 have:=Nw h.XJ (m:=bA n) λx hx=>cu.2 (h.yd x (h.qw x hx))
 simpa using this
theorem B65:∀ {out:List (List Nat)},(∀ C∈out,C ≠ [])->out.Pairwise (λC D=>∀ x∈C,x∉D)->(out.map λC=>C.headD 0).Nodup
 | [],_,_=>by simp
 | C::r,h1,h2=>by
   have sA:=bN.1 h2;rw [aF,bZ];refine ⟨λhm=>?_,B65 (λD hD=>h1 D (bC _ hD)) sA.2⟩
   obtain ⟨D,hD,e⟩:=bp.1 hm;have hC:C.headD 0∈C:=by
    cases C with
    | nil=>exact (h1 [] (by simp) rfl).elim
    | cons a l=>simp
   have hD2:D.headD 0∈D:=by
    cases D with
    | nil=>exact (h1 [] (bC _ hD) rfl).elim
    | cons a l=>simp
   rw [e] at hD2;exact sA.1 D hD _ hC hD2
theorem kP.B2 {Ed:Nat->Nat->Prop}{G:List Nat}{ix:Nat->Nat}{oE:List Nat}{cnt:Nat}{out:List (List Nat)}(h:kP Ed n G ix oE cnt out):out.length<=n:=by
 have h1:=B65 (λC hC=>(h.yf C hC).1) h.JO
 have:=Nw h1 (m:=bA n) λx hx=>by
  obtain ⟨C,hC,rfl⟩:=bp.1 hx;have hm:C.headD 0∈C:=by
   cases C with
   | nil=>exact ((h.yf [] hC).1 rfl).elim
   | cons a l=>simp
  exact cu.2 (h.yd _ ((h.yf C hC).2.2 _ hm).1.1)
 simpa using this
theorem D22 (hn:n<=1000)(hr:Ej n E)(hE:E.length<=1000):∀ m,C9s n E m:=by
 intro m
 induction m with
 | zero =>
   intro v ix lo S0 cnt out G hm h hv h0 hG
   have:=C4i hv h0
   rw [h.cc] at this;omega
 | succ m IH =>
   intro v ix lo S0 cnt out G hm h hv h0 hG;have hcn:=C4i hv h0;rw [h.cc] at hcn;have hst:=jX.start (lo:=lo) h hv h0 hG;obtain ⟨uZ,tq,T2,qx,nc,e1,hL⟩:=Rw hn hr hE IH hv h0 hG (by omega) (tR E v) 0 _ _ _ _ _ rfl (dg _) hst
   have hD:∀ w,BX E v w->w∈(tR E v).map lV:=λw hw=>bp.2 ⟨(w:Int),C5W.2 hw,ar w⟩
   have xj:=h.len;have arj:=hL.inv.len;have Kk:=hL.inv.B2;have OI:aP S0.length (jA S0)=jA S0:=a6 (by rw [CZ];exact ay _)
   have hwr:af.wrap ((cnt:Int)+1)=((cnt+1:Nat):Int):=iQ (by omega)
   have hsn:jA S0++[(v:Int)]=jA (S0++[v]):=(C9q _ _).symm;have ark:S0.length+1=(S0++[v]).length:=by simp
   by_cases hc:tq v=uZ v
   . have hp:=hL.pop hD hc h.JN;refine ⟨uZ,tq,[],qx,nc++[v::T2],λk hk=>?_,hp⟩
     obtain ⟨k',rfl⟩:∃ k',k=k'+1:=⟨k-1,by omega⟩
     have e1:=e1 k' (by omega)
     have hb:(((tq v:Nat):Int) != ((uZ v:Nat):Int))=false:=by rw [hc];simp
     have hvS:v∉S0:=λhs=>h.qw v hs h0
     have Ct:=C7F (T:=T2) hvS (by omega)
     have tk1:aP (S0++v::T2).length (jA (S0++v::T2))=jA (S0++v::T2):=a6 (by rw [CZ];exact ay _)
     have dr:List.drop S0.length (jA (S0++v::T2))=jA (v::T2):=by
      unfold jA;rw [← List.map_drop,List.drop_left]
     have tk2:aP S0.length (jA (S0++v::T2))=jA S0:=by
      unfold jA;rw [← List.map_take,List.take_left]
     have Dr:(S0++v::T2).length-S0.length=(v::T2).length:=by simp
     have tk3:aP (v::T2).length (jA (v::T2))=jA (v::T2):=a6 (by rw [CZ];exact ay _)
     have hlT:(v::T2).length<=1000:=by
      have:(S0++v::T2).length=S0.length+(v::T2).length:=by simp
      omega
     have nX:Ee 8 (jA (v::T2))=some ((v::T2).length,jA (v::T2)):=by
      unfold Ee;rw [CZ,jE (show (v::T2).length*8<=140737488355328 by omega)]
      rfl
     have Aw:=D21 (n:=n) (E:=E) (ix:=uZ) (lo:=tq) (S0:=S0) (L:=v::T2) (st:=S0) (cnt:=qx) (out:=nc) (λx hx=>hL.inv.yd x (hL.inv.qw x (kK _ hx))) hL.inv.XJ (by omega)
     simp only [tU] at e1 Aw ⊢;have tk4:aP nc.length (kZ nc)=kZ nc:=a6 (by rw [Ru];exact ay _)
     have qN:kZ nc++[jA (v::T2)]=kZ (nc++[v::T2]):=by simp [kZ]
     have q1:iI 0 0=true:=rfl;have q2:iI 1 1=true:=rfl;show ML (FA k') _=_;have bb:Nat.ble (S0.length+(v::T2).length) (S0++v::T2).length=true:=jE (by simp)
     simp only [ML,aq,decide_true,cond_true,ar,lB hv,A5j hv,ai,beq_self_eq_true,CZ,jE (ay _),OI,aR,bf,cM,ND hv,XH hv,hwr,Rv hv,C1J hv,hsn];simp only [aR,bf,cM,b7,bS] at e1 Ct bb Dr nX Aw tk1 tk3 hlT;rw [jE (show (S0.length+1)*8<=140737488355328 by omega)]
     simp only [cond_true,bS,jE (ay _),e1,ai,aq,decide_true,ar,lB hv,A5j hv,hb,cond_false,tk1,Ct,jE (Nat.le_add_right _ _),Dr,bb,dr,tk3,nX,tk2,Aw,CZ,bf,q1,q2,beq_self_eq_true,Ru,tk4,qN,bD];rw [jE (show (nc.length+1)*24<=140737488355328 by omega),jE (show S0.length+(T2.length+1)<=(S0++v::T2).length by simp)]
     rfl
   . have eC:tq v<uZ v:=by have:=hL.BW;omega
     have hp:=hL.stay hD eC;refine ⟨uZ,tq,v::T2,qx,nc,λk hk=>?_,hp⟩
     obtain ⟨k',rfl⟩:∃ k',k=k'+1:=⟨k-1,by omega⟩
     have e1:=e1 k' (by omega)
     have hb:(((tq v:Nat):Int) != ((uZ v:Nat):Int))=true:=by simp;omega
     simp only [tU] at e1 ⊢;show ML (FA k') _=_;simp only [ML,aq,decide_true,cond_true,ar,lB hv,A5j hv,ai,beq_self_eq_true,CZ,jE (ay _),OI,aR,bf,cM,ND hv,XH hv,hwr,Rv hv,C1J hv,hsn];simp only [aR,bf,cM,b7,bS] at e1;rw [jE (show (S0.length+1)*8<=140737488355328 by omega)]
     simp only [cond_true,bS,jE (ay _),e1,ai,aq,decide_true,ar,lB hv,A5j hv,hb]
end
end Go.Mid
namespace Go.Mid
theorem Ry {M:List (List Nat)}{j:Nat}:(kZ M)[j]?=(M[j]?).map jA:=by simp [kZ]
theorem C50 {M:List (List Nat)}{j:Nat}{x:List Nat}:(kZ M).set j (jA x)=kZ (M.set j x):=by simp [kZ,List.map_set]
section
variable (q1:List (List Int))(rI:List Int)(rJ:Nat)(rK:List Int)(rL:Nat)(rM:List Bool)(rN:Nat)(rO:List Int)(rP:Nat)(q6:Int)(m:Nat)
end
end Go.Mid
namespace Go.Mid
def q9 (C:List Nat):List Nat:=(lK (jA C)).map lV
theorem Rz (C:List Nat):jA (q9 C)=lK (jA C):=by
 unfold jA q9;rw [List.map_map]
 have:∀ l:List Int,(∀ x∈l,0<=x)->l.map ((λk:Nat=>(k:Int)) ∘ lV)=l:=by
  intro l h
  induction l with
  | nil=>rfl
  | cons a l ih =>
    rw [aF,ih λx hx=>h x (bC _ hx)]
    have:=h a (by simp)
    simp only [Function.comp];congr 1;omega
 refine this _ λx hx=>?_
 have hx:=Rn.1 hx;obtain ⟨k,_,rfl⟩:=bp.1 hx;omega
theorem C4m {C:List Nat}{v:Nat}:(v:Int)∈jA C↔v∈C:=by
 unfold jA;rw [bp];constructor
 . rintro ⟨k,hk,e⟩
   have:k=v:=by omega
   exact this ▸ hk
 . intro h;exact ⟨v,h,rfl⟩
theorem JQ {C:List Nat}{v:Nat}:v∈q9 C↔v∈C:=by
 rw [← C4m,Rz,Rn,C4m]
theorem C7G {C:List Nat}(h:C.Nodup):(jA C).Nodup:=by
 unfold jA;unfold List.Nodup at h ⊢;rw [eG];exact h.imp λh e=>h (by omega)
theorem D24 {C:List Nat}(h:C.Nodup):(q9 C).Pairwise (· < ·):=by
 have h1:=C9l (C7G h);rw [← Rz] at h1;unfold jA at h1;rw [eG] at h1;exact h1.imp λh=>by omega
theorem RA {C:List Nat}(h:C ≠ []):q9 C ≠ []:=by
 cases C with
 | nil=>exact (h rfl).elim
 | cons a l =>
   have:a∈q9 (a::l):=JQ.2 (by simp)
   intro e;rw [e] at this;cases this
section
variable (q1:List (List Int))(rI:List Int)(rJ:Nat)(rK:List Int)(rL:Nat)(rM:List Bool)(rN:Nat)(rO:List Int)(rP:Nat)(q6:Int)
theorem C7H (M:List (List Nat))(hne:∀ C∈M,C.length<=1000)(hl:M.length<=1000) :
 A0d MP ((M.length,M.length,(M.length:Int),0),q1,(rI,rJ),(rK,rL),(rM,rN),(rO,rP),q6,kZ M,M.length)=some (M.length,q1,(rI,rJ),(rK,rL),(rM,rN),(rO,rP),q6,kZ (M.map q9),M.length):=by
 let T:Nat->List (List Nat):=λi=>(M.take i).map q9++M.drop i
 have hT0:T 0=M:=by simp [T]
 have hTn:T M.length=M.map q9:=by simp [T]
 have:=tQ (f:=MP) M.length (λi=>((M.length,M.length,(M.length:Int),(i:Int)),q1,(rI,rJ),(rK,rL),(rM,rN),(rO,rP),q6,kZ (T i),M.length)) (M.length,q1,(rI,rJ),(rK,rL),(rM,rN),(rO,rP),q6,kZ (T M.length),M.length) (λi hi=>by
  have hi':(i:Int)<(M.length:Int):=by omega
  have hTi:((M.take i).map q9).length=i:=by rw [aB,aW];omega
  have hg:(kZ (T i))[i]?=some (jA M[i]):=by
   rw [Ry];simp only [T];rw [bG (by omega),hTi,gx,bY hi]
   rfl
  have sB:(T i).set i (q9 M[i])=T (i+1):=by
   simp only [T];rw [eh _ _ (by omega),hTi,gx,bY hi,dR,vz hi,b9]
   simp
  have hlen:=hne _ (aM hi);have tk:aP (jA M[i]).length (jA M[i])=jA M[i]:=pN _;have ov:A1x (jA M[i]) none (lK (jA M[i]))=jA (q9 M[i]):=by
   unfold A1x;simp only;rw [Hv,eS,bD,Rz]
  have hle:((jA M[i]).length==(jA (q9 M[i])).length)=true:=by rw [Rz,Hv];simp
  have hS:QM ((i,(jA M[i]).length),q1,(rI,rJ),(rK,rL),(rM,rN),(rO,rP),q6,kZ (T i),M.length)=some (q1,(rI,rJ),(rK,rL),(rM,rN),(rO,rP),q6,kZ (T (i+1)),M.length):=by
   simp only [QM,hg,ai,jE (ay _),cond_true,tk,ov,hle,C50,sB];rw [lB (by rw [CZ];omega)]
   rfl
  simp only [MP,hi',decide_true,cond_true,aq,ar,lB hi,hg,ai,hS,iQ (show i<9223372036854775807 by omega)]) (by
  simp only [MP,ba,decide_false,cond_false])
 rw [hT0,hTn] at this;exact this
end
theorem XP {n:Nat}{E:oW}(hn:n<=1000)(hr:Ej n E)(hE:E.length<=1000):∀ (k i:Nat) (ix lo:Nat->Nat) (cnt:Nat) (out:List (List Nat)),i+k=n->kP (BX E) n [] ix [] cnt out->(∀ v,v<i->ix v≠0)->
 ∃ hZ j5 ju jv,A0d Jx (((n:Int),(i:Int)),tU n E ix lo [] cnt out)=some (tU n E hZ j5 [] ju jv)∧kP (BX E) n [] hZ [] ju jv∧∀ v,v<n->hZ v≠0
 | 0,i,ix,lo,cnt,out,hk,h,hv=>by
   have:i=n:=by omega
   subst this;refine ⟨ix,lo,cnt,out,qc ?_,h,hv⟩;simp only [Jx,tU,ba,decide_false,cond_false]
 | k+1,i,ix,lo,cnt,out,hk,h,hv=>by
   have hi:i<n:=by omega
   have hi':(i:Int)<(n:Int):=by omega
   by_cases c:ix i=0
   . obtain ⟨hZ,j5,T,ju,jv,e1,hp⟩:=D22 hn hr hE (n-cnt) i ix lo [] cnt out [] (ay _) h hi c (by simp)
     have hT:T=[]:=by
      have:=hp.inv.fin
      simpa using this
     subst hT;have e2:=C5G (n-cnt+1) (λm hm=>e1 m (by omega))
     have e2:WA ((i:Int),tU n E ix lo [] cnt out)=some (tU n E hZ j5 [] ju jv):=e2;obtain ⟨uZ,tq,qx,nc,e3,h3,h4⟩:=XP hn hr hE k (i+1) hZ j5 ju jv (by omega) hp.inv λv xF=>by
      rcases mV.1 xF with e | e
      . rw [(hp.bm v (hv v e)).1];exact hv v e
      . subst e;exact hp.XN
     refine ⟨uZ,tq,qx,nc,?_,h3,h4⟩;rw [← e3];refine vw ?_;have hz:(((ix i:Nat):Int)==0)=true:=by rw [c];rfl
     simp only [tU] at e2 ⊢;simp only [Jx,hi',decide_true,cond_true,aq,ar,lB hi,A5j hi,ai,hz,e2,iQ (show i<9223372036854775807 by omega)]
   . obtain ⟨uZ,tq,qx,nc,e3,h3,h4⟩:=XP hn hr hE k (i+1) ix lo cnt out (by omega) h λv xF=>by
      rcases mV.1 xF with e | e
      . exact hv v e
      . subst e;exact c
     refine ⟨uZ,tq,qx,nc,?_,h3,h4⟩;rw [← e3];refine vw ?_;have hz:(((ix i:Nat):Int)==0)=false:=by rw [beq_eq_false_iff_ne];omega
     simp only [tU];simp only [Jx,hi',decide_true,cond_true,aq,ar,lB hi,A5j hi,ai,hz,cond_false,iQ (show i<9223372036854775807 by omega)]
end Go.Mid
namespace Go.Mid
end Go.Mid
