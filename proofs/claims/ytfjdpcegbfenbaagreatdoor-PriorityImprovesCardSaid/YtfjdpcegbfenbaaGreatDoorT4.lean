/- Tools for plain laws: loops step by step, sums, bounds. -/
import Derived.Test.YtfjdpcegbfenbaaGreatDoorN2
import Derived.Test.YtfjdpcegbfenbaaGreatDoorT2
set_option linter.unusedSimpArgs false
set_option linter.unusedVariables false
open BitVec renaming ofInt → b8, toNat_and → ru, toNat_ofNat → iu
open Bool renaming false_eq_true → aI, false_or → gL, and_eq_true → aj, eq_iff_iff → c6, true_and → dm, not_eq_true' → ed, not_eq_true → fW, not_true → bO, not_false → ej
open Classical renaming byContradiction → b5
open Go.IntKind renaming wrap → ie, bits → gu, signed → fe, i64 → af, u64 → aK, u32 → cG
open Int renaming lt_trans → qH, min_eq_left → n3, max_eq_right → nj, le_total → vg, toNat_natCast → ar, natCast_nonneg → aq, not_lt → yn, lt_irrefl → ba, natCast_zero → b7, ofNat_tmod → sU, le_refl → lu
open List renaming take_length → dM, range → bA, range' → mJ, filter_cons → jl, filter_congr → mM, range_eq_range' → lr, getElem_cons_succ → fL, any_cons → gK, range_succ → jO, length_map → aB, length_filter_le → dt, pairwise_cons → bN, mem_cons → aG, nil_append → a7, getElem?_append_right → bG, append_assoc → bg, set_append_right → eh, pairwise_append → cF, mem_append → az, foldl_cons → jM, getElem?_eq_getElem → ah, any_eq_true → fV, contains_iff_mem → bj, getElem?_eq_some_iff → aJ, any_eq_false → gA, mem_map → bp, mem_filter → cZ, mem_zipIdx_iff_getElem? → iC, zipIdx_cons → ji, pairwise_iff_getElem → dE, all_eq_true → bB, pairwise_map → eG, take_sublist → qI, mem_cons_self → dS, mem_cons_of_mem → bC, length_tail → kT, getElem_tail → mR, getD_eq_getElem?_getD → bh, getElem?_eq_none_iff → mC, mem_iff_getElem → eA, getElem_mem → aM, not_any_eq_all_not → j0, mem_singleton → aX, length_singleton → dN, getElem?_cons_zero → bQ, take_of_length_le → a6, contains_eq_any_beq → mU, take_nil → gH, drop_length → eS, drop_eq_getElem_cons → bY, drop_eq_nil_of_le → nP, drop_zero → fh, mem_or_eq_of_mem_set → bx, zipIdx_append → p8, filter_append → s8, map_append → b9, length_take → aW, mem_of_getElem? → bH, flatMap_append → pc, length_append → aR, all_append → ef, length_zip → sd, length_pos_iff → gQ, foldl_append → iK, mem_range → cu
open Nat renaming ble_eq_true_of_le → gf, and_one_is_mod → jU, testBit_zero → rl, testBit_succ → rm, eq_of_testBit_eq → jc, zero_testBit → eT, pow_succ → lQ, add_zero → dG, mul_add → wQ, mul_one → gz, mul_assoc → ue, testBit_two_pow_mul_add → lR, testBit_two_pow_sub_one → iJ, testBit_and → gp, le_refl → ay, zero_le → dg, one_shiftLeft → mQ, testBit_lt_two_pow → fM, lt_of_lt_of_le → br, pow_le_pow_right → ez, lt_pow_two_of_testBit → mA, le_trans → dF, sub_zero → gv, testBit_or → fj, mod_eq_of_lt → eQ, lt_of_le_of_lt → eU, or_lt_two_pow → fA, pow_lt_pow_right → oM, testBit_shiftRight → nO, lt_succ_self → kS, zero_add → bS, add_sub_cancel → dT, lt_or_eq_of_le → mg, le_of_eq → e7, min_eq_left → cX, le_of_lt → fH, min_eq_right → jk
open Option renaming getD_some → bI, bind_some → ai
namespace Go.Mid
section
variable {A B:Type}{f:A->Option (A ⊕ B)}
theorem tQ (n:Nat)(T:Nat->A)(b:B)(h1:∀i,i<n->f (T i)=some (.inl (T (i+1))))(h2:f (T n)=some (.inr b)):dk f (T 0)=some b:=by
 have:∀k i,i+k=n->dk f (T i)=some b:=by
  intro k
  induction k with
  | zero=>intro i hi;obtain rfl:i=n:=by omega
          exact qc h2
  |succ k ih=>intro i hi;rw[vw (h1 i (by omega))];exact ih (i+1) (by omega)
 exact this n 0 (by omega)
end
theorem jE {a b:Nat}(h:a<=b):a.ble b=true:=gf h
theorem lB {a b:Nat}(h:a<b):a.blt b=true:=gf h
theorem pN {α:Type}(l:List α):l.take l.length=l:=dM
theorem vz {α:Type}{l:List α}{i:Nat}(h:i<l.length):l.take (i+1)=l.take i++[l[i]]:=List.take_succ_eq_append_getElem h
section
variable {α β:Type}
end
end Go.Mid
namespace Go.Mid
theorem C5S (m:Nat):(m &&& 1)=if m.testBit 0 then 1 else 0:=by
 rw[jU,rl]
 have:=Nat.mod_two_eq_zero_or_one m
 rcases this with h | h<;>simp[h]
def rZ (m:Nat):List Nat:=(bA 32).filter λi=>m.testBit i
theorem W7:∀{m:Nat},m≠0->∃k,m.testBit k=true∧∀j,j<k->m.testBit j=false:=by
 intro m
 induction m using Nat.strongRecOn with
 |_ m ih =>
   intro h;by_cases h0:m.testBit 0=true
   . exact⟨0,h0,λj hj=>by omega⟩
   . have h2:m / 2≠0:=by
      intro e;rw[rl] at h0
      have:m%2≠1:=by simpa using h0
      omega
     obtain⟨k,hk,hl⟩:=ih (m / 2) (by omega) h2
     refine⟨k+1,by rw[rm];exact hk,λj hj=>?_⟩
     cases j with
     |zero=>simpa using h0
     |succ j=>rw[rm];exact hl j (by omega)
theorem D0Z {m k:Nat}(hk:m.testBit k=true)(hl:∀j,j<k->m.testBit j=false):∃q,m=2 ^ k*(2*q+1):=by
 refine⟨m / 2 ^ (k+1),?_⟩;have h1:m%2 ^ k=0:=by
  apply jc;intro i;rw[Nat.testBit_mod_two_pow,eT];by_cases h:i<k
  . rw[hl i h];simp
  . simp[h]
 have h2:m / 2 ^ k%2=1:=by
  rw[Nat.testBit_eq_decide_div_mod_eq] at hk;simpa using hk
 have h3:m / 2 ^ (k+1)=m / 2 ^ k / 2:=by rw[lQ,Nat.div_div_eq_div_mul]
 rw[h3];have h4:=Nat.div_add_mod m (2 ^ k);rw[h1,dG] at h4;have h5:2*(m / 2 ^ k / 2)+1=m / 2 ^ k:=by omega
 rw[h5];exact h4.symm
theorem C3W {m k j:Nat}(hk:m.testBit k=true)(hl:∀j,j<k->m.testBit j=false):(m-1).testBit j=if j<k then true else if j=k then false else m.testBit j:=by
 obtain⟨q,rfl⟩:=D0Z hk hl;have hp:0<2 ^ k:=Nat.two_pow_pos k;have e1:2 ^ k*(2*q+1)-1=2 ^ (k+1)*q+(2 ^ k-1):=by
  rw[lQ,wQ,gz,←ue];omega
 have e2:2 ^ k*(2*q+1)=2 ^ (k+1)*q+2 ^ k:=by
  rw[lQ,wQ,gz,←ue]
 rw[e1,e2];have W8:2 ^ k-1<2 ^ (k+1):=by rw[lQ];omega
 have KX:2 ^ k<2 ^ (k+1):=by rw[lQ];omega
 rw[lR _ W8,lR _ KX];by_cases h1:j<k
 . simp[h1,Nat.lt_succ_of_lt h1,iJ]
 . by_cases h2:j=k
   . subst h2;simp[iJ]
   . have:¬ j<k+1:=by omega
     simp[h1,h2,this]
theorem D00 {m k:Nat}(hk:m.testBit k=true)(hl:∀j,j<k->m.testBit j=false)(i:Nat):(m &&& (m-1)).testBit i=(m.testBit i&&decide (i≠k)):=by
 rw[gp,C3W hk hl];by_cases h1:i<k
 . simp[h1,hl i h1]
 . by_cases h2:i=k
   . subst h2;simp
   . simp[h1,h2]
theorem B5Q {p:Nat->Bool}{k:Nat}:∀ (n s:Nat),s<=k->k<s+n->(∀ j,s<=j->j<k->p j=false)->p k=true->
 (mJ s n).filter p=k::(mJ s n).filter (λi=>p i&&decide (i≠k))
 |0,s,h1,h2,_,_=>by omega
 |n+1,s,h1,h2,hl,hk=>by
   rw[List.range'_succ];by_cases h:s=k
   . subst h;simp only [jl,hk,if_true,ne_eq,not_true_eq_false,decide_false,Bool.and_false,aI,if_false];congr 1;apply mM;intro x hx
     have:=List.mem_range'_1.1 hx
     have:x≠s:=by omega
     simp[this]
   . have hs:p s=false:=hl s (ay _) (by omega)
     simp only[jl,hs,Bool.false_and,aI,if_false];exact B5Q n (s+1) (by omega) (by omega) (λj a b=>hl j (by omega) b) hk
theorem C4R {m k:Nat}(h:k<32)(hk:m.testBit k=true)(hl:∀j,j<k->m.testBit j=false):rZ m=k::rZ (m &&& (m-1)):=by
 unfold rZ;rw[lr];rw[B5Q 32 0 (dg _) (by omega) (λj _ b=>hl j b) hk]
 congr 2;funext i;exact(D00 hk hl i).symm
end Go.Mid
namespace Go.Hg
def B3h (e s:Nat):Bool:=(e &&& s)==e
def less (a b:Nat):Nat:=a ^^^ (a &&& b)
theorem qs (a b i:Nat):(less a b).testBit i=(a.testBit i && !b.testBit i):=by
 unfold less;rw[Nat.testBit_xor,gp];cases a.testBit i<;>cases b.testBit i<;>rfl
theorem lN (v i:Nat):(1 <<< v).testBit i=decide (i=v):=by
 rw[mQ,Nat.testBit_two_pow];exact decide_eq_decide.2 eq_comm
theorem pO {s n i:Nat}(h:s<2 ^ n)(hi:n<=i):s.testBit i=false :=
 fM (br h (ez (by omega) hi))
theorem xZ {s n:Nat}(h:∀i,n<=i->s.testBit i=false):s<2 ^ n:=mA s h
def leaves:Nat->Nat->Nat->List Nat
 |0,_,s=>[s]
 |k+1,v,s=>leaves k (v+1) (s ||| 1 <<< v)++leaves k (v+1) s
def C3X (E:List Nat)(u m:Nat):Bool:=E.any λe=>e.testBit u&&B3h (less e (1 <<< u)) m
def C3Y (E:List Nat)(s:Nat):Bool:=E.any λe=>B3h e s
def later (k v:Nat):Nat:=(2 ^ k-1) <<< v
def D01 (E:List Nat)(k v sm out:Nat):Bool:=(bA v).any λu=>out.testBit u && !C3X E u (sm ||| later k v)
def C2g (E:List Nat):Nat->Nat->Nat->Nat->List Nat
 |0,v,sm,out=>if D01 E 0 v sm out then[] else[sm]
 |k+1,v,sm,out=>if D01 E (k+1) v sm out then[] else
   (if C3Y E (sm ||| 1 <<< v) then[] else C2g E k (v+1) (sm ||| 1 <<< v) out)++C2g E k (v+1) sm (out ||| 1 <<< v)
section
variable {β:Type}
def idx (p:β->Bool):List β->Nat->Option Nat
 | [],_=>none
 |x::r,i=>if p x then some i else idx p r (i+1)
theorem W9 {p:β->Bool}:∀ {l:List β} {i k:Nat},idx p l i=some k->i<=k∧k<i+l.length∧(∃ h:k-i<l.length,p (l[k-i]'h)=true)∧∀ j (h:j<l.length),i+j<k->p l[j]=false
 | [],i,k,h=>by cases h
 |x::r,i,k,h=>by
   simp only[idx] at h;by_cases hp:p x=true
   . simp only[hp,if_true,Option.some.injEq] at h;subst h;refine⟨ay _,by simp,⟨by simp,by simpa using hp⟩,λj _ hj=>by omega⟩
   . simp only [hp,if_false,aI] at h;obtain ⟨h1,h2,⟨h3,h4⟩,h5⟩:=W9 h;have e:k-i=(k-(i+1))+1:=by omega
     refine⟨by omega,by simp;omega,⟨by simp;omega,?_⟩,?_⟩
     . simp only[e,fL];exact h4
     . intro j hj hjk;cases j with
       |zero=>simpa using hp
       |succ j=>simp only[fL];exact h5 j (by simpa using hj) (by omega)
theorem Xa (p:β->Bool):∀ (l:List β) (i:Nat),(idx p l i).isSome=l.any p
 | [],_=>rfl
 |x::r,i=>by
   simp only[idx,gK];by_cases hp:p x=true
   . simp[hp]
   . simp only[hp,if_false,aI,gL];exact Xa p r (i+1)
end
def A0A (a b:List Int):Bool:=a.all λx=>b.contains x
def asc:List Int->Bool
 |a::b::r=>decide (a<b)&&asc (b::r)
 |_=>true
def bef:List Int->List Int->Option Bool
 |a::r,b::q=>if a=b then bef r q else some (decide (a<b))
 |_,_=>none
def before (a b:List Int):Bool:=match bef a b with | some t=>t | none=>decide (a.length<b.length)
def free (es:List (List Int))(l:List Int):Bool:=!es.any λe=>A0A e l
def pick (v:List Int)(s:Nat):List Int:=((v.take 8).zipIdx.filter λx=>s.testBit x.2).map (·.1)
def A5O (v:List Int)(es:List (List Int))(l:List Int):Bool:=asc l&&A0A l v&&free es l
def A09 (v:List Int)(es:List (List Int))(l:List Int):Bool:=A5O v es l&&v.all λx=>l.contains x || !free es (l++[x])
def A4q:Nat->List (List Int)->List (List Int)
 |0,out=>out
 | k+1,out=>match out[k+1]?,out[k]? with
   |some x,some y=>if before x y then A4q k ((out.set (k+1) y).set k x) else out
   |_,_=>out
theorem oB:∀ (k:Nat) (out:List (List Int)),(A4q k out).length=out.length
 |0,_=>rfl
 |k+1,out=>by
   unfold A4q;split
   . split
     . rw[oB];simp
     . rfl
   . rfl
def A75 (ls:List (List Int))(i:Nat)(x:List Int):Bool:=(ls.zipIdx).all λy=>!(A0A y.1 x&&(decide (y.1.length<x.length) || decide (y.2<i)))
def A4b (ls:List (List Int))(i:Nat)(x:List Int)(out:List (List Int)):List (List Int):=if A75 ls i x then A4q out.length (out++[x]) else out
def A4S (ls:List (List Int)):List (List Int)->Nat->List (List Int)->List (List Int)
 | [],_,out=>out
 |x::r,i,out=>A4S ls r (i+1) (A4b ls i x out)
def A5P (ls:List (List Int)):List (List Int):=A4S ls ls 0 []
theorem B7I (ls:List (List Int))(i:Nat)(x:List Int)(out:List (List Int)):(A4b ls i x out).length<=out.length+1:=by
 unfold A4b;split
 . rw[oB];simp
 . omega
def idsP (v:List Int)(s:Nat):List Int:=(v.zipIdx.filter λx=>s.testBit x.2).map (·.1)
def A0t (v:List Int)(y:Int):Nat:=(idx (· == y) v 0).getD 0
theorem iV {v:List Int}{y:Int}(h:y∈v):A0t v y<v.length:=by
 have h2:=Xa (· == y) v 0;have h3:v.any (· == y)=true:=by simp[h]
 rw[h3] at h2;unfold A0t;cases hk:idx (· == y) v 0 with
 |none=>rw[hk] at h2;cases h2
 |some k=>have:=W9 hk;simp;omega
def bitsFrom (v:List Int)(b:Nat)(e:List Int):Nat:=e.foldl (λb y=>b ||| 1 <<< A0t v y) b
def A2w (v:List Int)(e:List Int):Nat:=bitsFrom v 0 e
theorem jF:∀ {l:List Int} {i j:Nat},asc l=true->(h:i<j)->(hj:j<l.length)->l[i]<l[j]
 | [],_,_,_,_,hj=>by simp at hj
 | [x],_,_,_,_,hj=>by simp at hj;omega
 |x::y::r,i,j,ha,h,hj=>by
   simp only[asc,aj,decide_eq_true_eq] at ha;cases i with
   |zero =>
     cases j with
     |zero=>omega
     |succ j =>
       simp only[List.getElem_cons_zero,fL];cases j with
       |zero=>exact ha.1
       |succ j=>exact qH ha.1 (jF (l:=y::r) (i:=0) ha.2 (by omega) (by simpa using hj))
   |succ i =>
     cases j with
     |zero=>omega
     |succ j=>simpa using jF (l:=y::r) ha.2 (by omega) (by simpa using hj)
def A5Q (v:List Int)(es:List (List Int))(i:Nat)(e:List Int):Bool:=!e.isEmpty&&asc e&&A0A e v&&(i==0 || before (es.getD (i-1) []) e)
def A3W (es:List (List Int))(i:Nat)(e:List Int):Bool:=es.zipIdx.any λy=>y.2 != i&&A0A y.1 e
def A4z (v:List Int)(es:List (List Int)):Bool:=asc v&&decide (es.length<=20000)&&(!(es.zipIdx.any λx=>!A5Q v es x.2 x.1) && !(es.zipIdx.any λx=>A3W es x.2 x.1))
structure HOk (v:List Int)(es:List (List Int)):Prop where
 nv:v.length<=40
 ne:es.length<=20000
 el:∀e∈es,e.length<9223372036854775808
 sm:∀e∈es,∀y∈e,y∈v
def D4P (v:List Int)(es:List (List Int)):List Nat:=C2g (es.map (A2w v)) v.length 0 0 0
def B9j (v:List Int)(es:List (List Int)):List (List Int):=(D4P v es).map (idsP v)
def D2X (v:List Int)(es:List (List Int))(out:List (List Int))(b:Nat):List (List Int) :=
 if A09 v es (idsP v b) then A4q out.length (out++[idsP v b]) else out
def D4Q (v:List Int)(es:List (List Int)):List (List Int):=(bA (2 ^ v.length)).foldl (D2X v es) []
def A06 (n:Nat):List Int:=(bA n).map λ(i:Nat)=>2+3*(i:Int)
theorem yc (n:Nat):A06 (n+1)=A06 n++[2+3*(n:Int)]:=by simp[A06,jO]
@[simp] theorem lO (n:Nat):(A06 n).length=n:=by simp[A06]
def A7d (V:List Int)(E:List Nat):List (List Int):=((E.take 12).map (pick V)).filter λe=>!e.isEmpty
theorem wq (V:List Int)(s:Nat):(pick V s).length<=V.length:=by
 unfold pick;rw[aB];refine dF (dt _ _) ?_;simp;omega
def hEs (N:Nat)(E:List Nat):List (List Int):=A5P (A7d (A06 (N%9)) E)
def sn:List Int->List Int->Bool
 | [],[]=>false
 | [],_::_=>true
 |_::_,[]=>false
 |x::a,y::b=>if x=y then sn a b else decide (x<y)
theorem Xb:∀ a b:List Int,before a b=sn a b
 | [],[]=>rfl
 | [],_::_=>by simp[before,bef,sn]
 |_::_,[]=>by simp[before,bef,sn]
 |x::a,y::b=>by
   have ih:=Xb a b;simp only[before,bef,sn] at ih ⊢;by_cases h:x=y
   . simp only[h,if_true];rw[←ih];cases bef a b<;>simp
   . simp[h]
theorem JF:∀ a:List Int,sn a a=false
 | []=>rfl
 |x::a=>by simp[sn,JF a]
theorem Xc:∀ {a b c:List Int},sn a b=true->sn b c=true->sn a c=true
 | [],[],_,h,_=>by simp[sn] at h
 | [],_::_,[],_,h=>by simp[sn] at h
 | [],_::_,_::_,_,_=>rfl
 |_::_,[],_,h,_=>by simp[sn] at h
 |_::_,_::_,[],_,h=>by simp[sn] at h
 |x::a,y::b,z::c,h,g=>by
   simp only[sn] at h g ⊢;by_cases h1:x=y
   . subst h1;by_cases h2:x=z
     . subst h2;simp only[if_true] at h g ⊢;exact Xc h g
     . simp only[h2,if_false,if_true] at h g ⊢;exact g
   . by_cases h2:y=z
     . subst h2;simp only[h1,if_false,if_true] at h g ⊢;exact h
     . simp only [h1,h2,if_false,decide_eq_true_eq] at h g;have h3:¬ x=z:=by omega
       simp only[h3,if_false,decide_eq_true_eq];omega
theorem C3Z:∀ {a b:List Int},sn a b=false->a≠b->sn b a=true
 | [],[],_,h=>absurd rfl h
 | [],_::_,h,_=>by simp[sn] at h
 |_::_,[],_,_=>rfl
 |x::a,y::b,h,hne=>by
   simp only[sn] at h ⊢;by_cases h1:x=y
   . subst h1;simp only[if_true] at h ⊢;exact C3Z h λe=>hne (by rw[e])
   . have h2:¬ y=x:=λe=>h1 e.symm
     simp only[h1,if_false,decide_eq_false_iff_not] at h;simp only[h2,if_false,decide_eq_true_eq];omega
abbrev kf (l:List (List Int)):Prop:=l.Pairwise λa b=>sn a b=true
theorem kf.ext:∀ {l m:List (List Int)},kf l->kf m->(∀ x,x∈l↔x∈m)->l=m
 | [],[],_,_,_=>rfl
 | [],y::m,_,_,h=>by have:=(h y).2 (by simp);simp at this
 |x::l,[],_,_,h=>by have:=(h x).1 (by simp);simp at this
 |x::l,y::m,hl,hm,h=>by
   rw[kf,bN] at hl hm;have xL:x=y:=by
    apply b5;intro hne;have h1:x∈m:=by
     have:=(h x).1 (by simp)
     rcases aG.1 this with e | e
     . exact absurd e hne
     . exact e
    have h2:y∈l:=by
     have:=(h y).2 (by simp)
     rcases aG.1 this with e | e
     . exact absurd e.symm hne
     . exact e
    have:=Xc (hl.1 y h2) (hm.1 x h1)
    rw[JF] at this;cases this
   subst xL;congr 1;refine kf.ext hl.2 hm.2 λz=>?_
   constructor
   . intro hz
     have:=(h z).1 (by simp[hz])
     rcases aG.1 this with e | e
     . subst e;have:=hl.1 z hz;rw[JF] at this;cases this
     . exact e
   . intro hz
     have:=(h z).2 (by simp[hz])
     rcases aG.1 this with e | e
     . subst e;have:=hm.1 z hz;rw[JF] at this;cases this
     . exact e
theorem B6Y:∀ (k:Nat) (P Q:List (List Int)) (x:List Int),P.length=k->kf (P++Q)->(∀ q∈Q,sn x q=true)->x∉P->
 kf (A4q k (P++x::Q))∧(A4q k (P++x::Q)).Perm (P++x::Q)
 |0,P,Q,x,hk,hs,hq,_=>by
   have:P=[]:=List.eq_nil_of_length_eq_zero hk
   subst this;simp only[a7,A4q] at hs ⊢;exact⟨bN.2 ⟨hq,hs⟩,List.Perm.refl _⟩
 |k+1,P,Q,x,hk,hs,hq,hx=>by
   obtain⟨P',p,rfl⟩:∃P' p,P=P'++[p]:=by
    rcases List.eq_nil_or_concat P with h | ⟨P',p,h⟩
    . subst h;simp at hk
    . exact⟨P',p,by simpa using h⟩
   have nq:P'.length=k:=by simpa using hk
   have e1:(P'++[p]++x::Q)[k+1]?=some x:=by
    rw[bG (by simp;omega)];simp[nq]
   have e2:(P'++[p]++x::Q)[k]?=some p:=by
    rw[bg,bG (by omega)];simp[nq]
   have e3:((P'++[p]++x::Q).set (k+1) p).set k x=P'++x::p::Q:=by
    subst nq;rw[bg,eh _ _ (by omega),eh _ _ (by omega)]
    simp
   unfold A4q;rw[e1,e2];simp only;rw[Xb];by_cases hb:sn x p=true
   . rw [if_pos hb,e3];have F8:kf (P'++p::Q):=by simpa using hs
     obtain⟨h1,h2⟩:=B6Y k P' (p::Q) x nq F8 (λq hqm=>by
      rcases aG.1 hqm with e | e
      . subst e;exact hb
      . exact hq q e) (λh=>hx (by simp[h]))
     refine⟨h1,h2.trans ?_⟩;rw[bg];exact(List.Perm.swap p x Q).append_left P'
   . rw [if_neg hb];have hb:sn x p=false:=by simpa using hb
     have hne:x≠p:=λe=>hx (by simp[e])
     have hpx:=C3Z hb hne;refine⟨?_,List.Perm.refl _⟩;rw[kf,cF] at hs;obtain⟨h1,h2,h3⟩:=hs;rw[kf,cF];refine⟨h1,bN.2 ⟨hq,h2⟩,λa ha b hbm=>?_⟩
     have Sz:sn a x=true:=by
      rcases az.1 ha with h | h
      . rw[cF] at h1;exact Xc (h1.2.2 a h p (by simp)) hpx
      . simp at h;subst h;exact hpx
     rcases aG.1 hbm with e | e
     . subst e;exact Sz
     . exact h3 a ha b e
theorem C7s (l:List (List Int)):∀(out:List (List Int)),kf out->(out++l).Nodup->kf (l.foldl (λout x=>A4q out.length (out++[x])) out)∧∀y,y∈l.foldl (λout x=>A4q out.length (out++[x])) out↔y∈out∨y∈l:=by
 induction l with
 |nil=>intro out hs _;exact⟨hs,λy=>by simp⟩
 |cons x l ih =>
   intro out hs hn;have hx:x∉out:=by
    intro h;rw[List.nodup_append] at hn;exact hn.2.2 x h x (by simp) rfl
   obtain⟨h1,h2⟩:=B6Y out.length out [] x rfl (by simpa using hs) (by simp) hx
   have CB:(A4q out.length (out++[x])++l).Nodup:=by
    have:(A4q out.length (out++[x])++l).Perm (out++x::l):=by
     refine(h2.append_right l).trans ?_;simp
    exact this.nodup_iff.2 hn
   obtain⟨h3,h4⟩:=ih (A4q out.length (out++[x])) h1 CB;simp only[jM];refine⟨h3,λy=>?_⟩
   rw[h4 y,h2.mem_iff];simp[or_assoc]
theorem gn {v:List Int}{y:Int}(h:y∈v):v[A0t v y]?=some y:=by
 have h2:=Xa (· == y) v 0;have h3:v.any (· == y)=true:=by simp[h]
 rw[h3] at h2;unfold A0t;cases hk:idx (· == y) v 0 with
 |none=>rw[hk] at h2;cases h2
 |some k =>
   obtain⟨_,_,⟨h4,h5⟩,_⟩:=W9 hk;simp only[gv] at h4 h5;simp only[bI];rw[ah h4];simpa using h5
theorem kX {v:List Int}(ha:asc v=true){i j:Nat}(hi:i<v.length)(hj:j<v.length)(h:v[i]=v[j]):i=j:=by
 rcases Nat.lt_trichotomy i j with eC | he | Nj
 . have:=jF ha eC hj;omega
 . exact he
 . have:=jF ha Nj hi;omega
theorem Xd (v:List Int)(i:Nat):∀ (e:List Int) (b:Nat),(bitsFrom v b e).testBit i=(b.testBit i || e.any λy=>A0t v y==i)
 | [],b=>by simp[bitsFrom]
 |y::e,b=>by
   have:=Xd v i e (b ||| 1 <<< A0t v y)
   simp only[bitsFrom,jM] at this ⊢;rw[this,fj,lN,gK]
   have:decide (i=A0t v y)=(A0t v y==i):=by
    apply c6.2;simp;exact eq_comm
   rw[this,Bool.or_assoc]
theorem sK {v e:List Int}(ha:asc v=true)(he:∀y∈e,y∈v)(i:Nat)(hi:i<v.length):(A2w v e).testBit i=e.contains v[i]:=by
 unfold A2w;rw[Xd,eT,gL];apply c6.2;rw[fV,bj];constructor
 . rintro ⟨y,hy,hp⟩;simp only [beq_iff_eq] at hp
   have:=gn (he y hy)
   rw[hp,ah hi] at this;rw[Option.some.inj this];exact hy
 . intro hm;refine ⟨v[i],hm,?_⟩
   have:=gn (he _ hm)
   obtain⟨h1,h2⟩:=aJ.1 this;simp only[beq_iff_eq];exact kX ha h1 hi h2
theorem wu {v e:List Int}(he:∀y∈e,y∈v)(i:Nat)(hi:v.length<=i):(A2w v e).testBit i=false:=by
 unfold A2w;rw[Xd,eT,gL,gA];intro y hy
 have:=iV (he y hy)
 simp;omega
theorem l8 {v:List Int}{s:Nat}{y:Int}:y∈idsP v s↔∃i,∃h:i<v.length,v[i]=y∧s.testBit i=true:=by
 unfold idsP;simp only[bp,cZ,Prod.exists,exists_and_right,exists_eq_right];constructor
 . rintro⟨i,h1,h2⟩;rw[iC] at h1;simp only at h1;obtain⟨h3,h4⟩:=aJ.1 h1;exact⟨i,⟨h3,h4⟩,h2⟩
 . rintro⟨i,⟨h,h1⟩,h2⟩;exact⟨i,by rw[iC];simp[h,h1],h2⟩
theorem wv {v:List Int}(ha:asc v=true){s i:Nat}(hi:i<v.length):(idsP v s).contains v[i]=s.testBit i:=by
 apply c6.2;rw[bj,l8];constructor
 . rintro⟨j,hj,h1,h2⟩;rw[←kX ha hj hi h1];exact h2
 . intro h;exact⟨i,hi,rfl,h⟩
def HG:List Int->Nat->Nat->List Int
 | [],_,_=>[]
 |x::r,o,s=>if s.testBit o then x::HG r (o+1) s else HG r (o+1) s
theorem Xe (s:Nat):∀ (v:List Int) (o:Nat),((v.zipIdx o).filter λx=>s.testBit x.2).map (·.1)=HG v o s
 | [],_=>rfl
 |x::r,o=>by
   simp only[ji,HG];cases h:s.testBit o with
   |true=>simp[h,Xe s r (o+1)]
   |false=>simp[h,Xe s r (o+1)]
theorem D4R (v:List Int)(s:Nat):idsP v s=HG v 0 s:=Xe s v 0
theorem Xf (s:Nat):∀ (v:List Int) (o:Nat),(HG v o s).Sublist v
 | [],_=>List.Sublist.refl _
 |x::r,o=>by
   simp only[HG];split
   . exact(Xf s r (o+1)).cons_cons x
   . exact(Xf s r (o+1)).cons x
theorem gr {l:List Int}:asc l=true↔l.Pairwise (· < ·):=by
 constructor
 . intro h;rw[dE];intro i j hi hj gM;exact jF h gM hj
 . intro h;rw [dE] at h
   have:∀i (h:i+1<l.length),l[i]<l[i+1]:=λi hi=>h i (i+1) (by omega) hi (by omega)
   clear h
   induction l with
   |nil=>rfl
   |cons x l ih =>
     cases l with
     |nil=>rfl
     |cons y l =>
       simp only[asc,aj,decide_eq_true_eq];exact⟨this 0 (by simp),ih λi hi=>this (i+1) (by simpa using hi)⟩
theorem oC {v:List Int}(ha:asc v=true)(s:Nat):asc (idsP v s)=true:=by
 rw[D4R,gr];exact(gr.1 ha).sublist (Xf s v 0)
theorem within_iff {a b:List Int}:A0A a b=true↔∀y∈a,y∈b:=by
 unfold A0A;rw[bB];simp
structure Nk (v:List Int)(es:List (List Int)):Prop where
 av:asc v=true
 sm:∀e∈es,∀y∈e,y∈v
 ne:∀e∈es,e ≠ []
section
variable {v:List Int}{es:List (List Int)}(G:Nk v es)
include G
end
set_option linter.unusedSectionVars false
def first (s t:Nat):Prop:=∃i,s.testBit i=true∧t.testBit i=false∧∀j,j<i->s.testBit j=t.testBit j
section
variable {v:List Int}{es:List (List Int)}(G:Nk v es)
include G
end
def CV (ls:List (List Int)):List (List Int):=(ls.zipIdx.filter λx=>A75 ls x.2 x.1).map (·.1)
theorem C7t (ls:List (List Int)):A5P ls=(CV ls).foldl (λout x=>A4q out.length (out++[x])) []:=by
 unfold A5P CV
 suffices ∀(r:List (List Int)) (i:Nat) (a:List (List Int)),A4S ls r i a=(((r.zipIdx i).filter λx=>A75 ls x.2 x.1).map (·.1)).foldl (λout x=>A4q out.length (out++[x])) a from this ls 0 []
 intro r
 induction r with
 |nil=>intro i a;rfl
 |cons x r ih =>
   intro i a;simp only[A4S,ji,ih,A4b];cases hk:A75 ls i x with
   |true=>rw[List.filter_cons_of_pos (by simpa using hk)];rfl
   |false=>rw[List.filter_cons_of_neg (by simp[hk])];rfl
theorem nC:∀ {a b:List Int},a.Pairwise (· < ·)->b.Pairwise (· < ·)->(∀ x,x∈a↔x∈b)->a=b
 | [],[],_,_,_=>rfl
 | [],y::m,_,_,h=>by have:=(h y).2 (by simp);simp at this
 |x::l,[],_,_,h=>by have:=(h x).1 (by simp);simp at this
 |x::l,y::m,hl,hm,h=>by
   rw[bN] at hl hm;have xL:x=y:=by
    apply b5;intro hne;have h1:x∈m:=by
     rcases aG.1 ((h x).1 (by simp)) with e | e
     . exact absurd e hne
     . exact e
    have h2:y∈l:=by
     rcases aG.1 ((h y).2 (by simp)) with e | e
     . exact absurd e.symm hne
     . exact e
    have:=hl.1 y h2
    have:=hm.1 x h1
    omega
   subst xL;congr 1;refine nC hl.2 hm.2 λz=>?_
   constructor
   . intro hz;rcases aG.1 ((h z).1 (by simp [hz])) with e | e
     . subst e;have:=hl.1 z hz;omega
     . exact e
   . intro hz;rcases aG.1 ((h z).2 (by simp [hz])) with e | e
     . subst e;have:=hm.1 z hz;omega
     . exact e
theorem mI:∀ {b a:List Int},a.Pairwise (· < ·)->b.Pairwise (· < ·)->(∀ x∈a,x∈b)->a.Sublist b
 | [],[],_,_,_=>List.Sublist.refl _
 | [],x::a,_,_,h=>by have:=h x (by simp);simp at this
 |y::b,[],_,_,_=>List.nil_sublist _
 |y::b,x::a,ha,hb,h=>by
   have ha':=ha;rw[bN] at ha hb;by_cases xL:x=y
   . subst xL;refine (mI ha.2 hb.2 λz hz=>?_).cons_cons x
     rcases aG.1 (h z (by simp[hz])) with e | e
     . subst e;have:=ha.1 z hz;omega
     . exact e
   . have hx:x∈b:=by
      rcases aG.1 (h x (by simp)) with e | e
      . exact absurd e xL
      . exact e
     have hyx:=hb.1 x hx;refine(mI ha' hb.2 λz hz=>?_).cons y
     rcases aG.1 (h z hz) with e | e
     . subst e;rcases aG.1 hz with e | e
       . omega
       . have:=ha.1 z e;omega
     . exact e
theorem C89 {a b:List Int}(ha:asc a=true)(hb:asc b=true)(h:A0A a b=true)(hl:b.length<=a.length):a=b:=by
 rw[gr] at ha hb;rw[within_iff] at h;exact(mI ha hb h).eq_of_length_le hl
theorem kY {α:Type}{l:List α}{x:α}{i:Nat}:(x,i)∈l.zipIdx↔∃h:i<l.length,l[i]=x:=by
 rw[iC];simp only;rw[aJ]
theorem C30 {ls:List (List Int)}{i:Nat}{x:List Int}(h:A75 ls i x=true){k:Nat}(hk:k<ls.length):A0A ls[k] x=true->x.length<=ls[k].length∧i<=k:=by
 intro hw;unfold A75 at h;rw[bB] at h
 have:=h (ls[k],k) (kY.2 ⟨hk,rfl⟩)
 simp only[hw,dm,ed,Bool.or_eq_false_iff,decide_eq_false_iff_not] at this;omega
theorem C1A {ls:List (List Int)}(q0:∀e∈ls,asc e=true){i j:Nat}(hi:i<ls.length)(hj:j<ls.length)(ki:A75 ls i ls[i]=true)(kj:A75 ls j ls[j]=true)(hw:A0A ls[j] ls[i]=true):i=j:=by
 have h1:=C30 ki hj hw;have he:=C89 (q0 _ (by simp)) (q0 _ (by simp)) hw h1.1
 have h2:=C30 kj hi (by rw[he];exact within_iff.2 λ_ h=>h)
 omega
theorem Xg {ls:List (List Int)}(q0:∀e∈ls,asc e=true):(CV ls).Pairwise λa b=>A0A a b=false∧A0A b a=false:=by
 unfold CV;rw[eG];refine List.Pairwise.imp_of_mem (R:=λa b=>a.2≠b.2) ?_ (List.Pairwise.filter _ ?_)
 . rintro ⟨a,i⟩ ⟨b,j⟩ ha hb hne;rw [cZ] at ha hb;obtain ⟨hi,rfl⟩:=kY.1 ha.1;obtain ⟨hj,rfl⟩:=kY.1 hb.1;simp only at ha hb hne ⊢;constructor
   . cases hw:A0A ls[i] ls[j] with
     |false=>rfl
     |true=>exact absurd (C1A q0 hj hi hb.2 ha.2 hw).symm hne
   . cases hw:A0A ls[j] ls[i] with
     |false=>rfl
     |true=>exact absurd (C1A q0 hi hj ha.2 hb.2 hw) hne
 . rw[dE];intro i j hi hj gM;simp;omega
theorem C4S (a:List Int):A0A a a=true:=within_iff.2 λ_ h=>h
theorem Xh {ls:List (List Int)}(q0:∀e∈ls,asc e=true):kf (A5P ls)∧∀y,y∈A5P ls↔y∈CV ls:=by
 rw[C7t];have hn:(CV ls).Nodup:=(Xg q0).imp λh e=>by
  subst e;rw[C4S] at h;cases h.1
 obtain⟨h1,h2⟩:=C7s (CV ls) [] (by simp) (by simpa using hn)
 exact⟨h1,λy=>by rw[h2 y];simp⟩
theorem C9a {ls:List (List Int)}{y:List Int}(h:y∈CV ls):y∈ls:=by
 unfold CV at h;rw[bp] at h;obtain⟨⟨x,i⟩,h1,rfl⟩:=h;rw[cZ] at h1;obtain⟨hi,rfl⟩:=kY.1 h1.1;simp
theorem C7u {ls:List (List Int)}(q0:∀e∈ls,asc e=true){a b:List Int}(ha:a∈A5P ls)(hb:b∈A5P ls)(hw:A0A a b=true):a=b:=by
 rw[(Xh q0).2] at ha hb;apply b5;intro hne;rcases List.Pairwise.forall_of_forall_of_flip (R:=λa b=>a≠b->A0A a b=false) (l:=CV ls) (by intro x _ h;exact absurd rfl h) ((Xg q0).imp λh _=>h.1) ((Xg q0).imp λh _=>h.2) ha hb with h
 rw[h hne] at hw;cases hw
theorem C31 (ls:List (List Int)):(A5P ls).length<=ls.length:=by
 unfold A5P
 suffices ∀(r:List (List Int)) (i:Nat) (a:List (List Int)),(A4S ls r i a).length<=a.length+r.length by simpa using this ls 0 []
 intro r
 induction r with
 |nil=>intro i a;simp[A4S]
 |cons x r ih =>
   intro i a;simp only[A4S,List.length_cons]
   have:=ih (i+1) (A4b ls i x a)
   have:=B7I ls i x a
   omega
theorem C9b {v:List Int}{es:List (List Int)}(G:Nk v es)(he:∀e∈es,asc e=true)(hl:es.length<=20000)(hs:kf es)(Nl:∀a∈es,∀b∈es,A0A a b=true->a=b):A4z v es=true:=by
 unfold A4z;rw[G.av,dm];simp only[hl,decide_true,dm,aj,ed];constructor
 . rw [gA];rintro ⟨e,i⟩ hm;obtain ⟨hi,rfl⟩:=kY.1 hm;simp only [ed,Bool.not_eq_false];unfold A5Q;have h1:es[i].isEmpty=false:=by
    have:=G.ne es[i] (by simp)
    simpa using this
   have h2:A0A es[i] v=true:=within_iff.2 (G.sm _ (by simp))
   rw[h1,he _ (by simp),h2]
   cases i with
   |zero=>rfl
   |succ i =>
     have e:es.getD (i+1-1) []=es[i]:=by simp[List.getD,show i<es.length by omega]
     rw[e,Xb,dE.1 hs i (i+1) (by omega) hi (by omega)]
     rfl
 . rw [gA];rintro ⟨e,i⟩ hm;obtain ⟨hi,rfl⟩:=kY.1 hm;simp only [fW];unfold A3W;rw [gA];rintro ⟨y,k⟩ JG;obtain ⟨hk,rfl⟩:=kY.1 JG;simp only [aj,bne_iff_ne,ne_eq,not_and];intro hne hw
   have:=Nl _ (by simp) _ (by simp) hw
   rcases Nat.lt_or_gt_of_ne hne with h | h
   . have h2:=dE.1 hs k i hk hi h;rw[this,JF] at h2;cases h2
   . have h2:=dE.1 hs i k hi hk h;rw[this,JF] at h2;cases h2
theorem C1B (n:Nat):asc (A06 n)=true:=by
 rw[gr];unfold A06;rw[eG];exact List.pairwise_lt_range.imp λh=>by omega
theorem C32 (V:List Int)(s:Nat):(pick V s).Sublist V:=by
 unfold pick;have h1:(((V.take 8).zipIdx.filter λx=>s.testBit x.2).map (·.1)).Sublist ((V.take 8).zipIdx.map (·.1)):=List.filter_sublist.map _
 rw[List.zipIdx_map_fst] at h1;exact h1.trans (qI 8 V)
theorem oV {V:List Int}{E:List Nat}{e:List Int}(h:e∈A7d V E):e ≠ []∧∃s,e=pick V s:=by
 unfold A7d at h;rw[cZ,bp] at h;obtain⟨⟨s,_,rfl⟩,h2⟩:=h;exact⟨by simpa using h2,s,rfl⟩
section
variable (N:Nat)(E:List Nat)
theorem m9:∀e∈A7d (A06 (N%9)) E,asc e=true:=by
 intro e he;obtain⟨_,s,rfl⟩:=oV he;exact gr.2 ((gr.1 (C1B _)).sublist (C32 _ _))
theorem qt {e:List Int}(h:e∈hEs N E):e∈A7d (A06 (N%9)) E:=by
 unfold hEs at h;rw[(Xh (m9 N E)).2] at h;exact C9a h
theorem FD:Nk (A06 (N%9)) (hEs N E) where
 av:=C1B _
 sm:=λe he y hy=>by
  obtain⟨_,s,rfl⟩:=oV (qt N E he);exact(C32 _ _).subset hy
 ne:=λe he=>(oV (qt N E he)).1
theorem qu:(A7d (A06 (N%9)) E).length<=12:=by
 unfold A7d;refine dF (dt _ _) ?_;simp;omega
theorem pP:(hEs N E).length<=12:=dF (C31 _) (qu N E)
theorem zK:A4z (A06 (N%9)) (hEs N E)=true:=by
 refine C9b (FD N E) (λe he=>m9 N E e (qt N E he)) (by have:=pP N E;omega) (Xh (m9 N E)).1 ?_
 intro a ha b hb hw;exact C7u (m9 N E) ha hb hw
end
def grow (E:List Nat)(s u:Nat):Nat:=if C3Y E (s ||| 1 <<< u) then s else s ||| 1 <<< u
end Go.Hg
namespace Go.Hg
abbrev PrV:=List (Int×Int)
def nbB (es:List (List Int))(a b:Int):Bool:=decide (a≠b)&&es.contains [min a b,max a b]
def A6j (es:List (List Int))(a:Int):Bool:=es.contains [a]
def A4L (p:PrV)(a b:Int):Bool:=p.contains (a,b)
def A2B (p:PrV)(l:List Int)(x:Int):Bool:=!(l.any λy=>A4L p y x)
def A2a (v:List Int)(es:List (List Int)):List Int:=v.filter λx=>!A6j es x
def A2l (es:List (List Int))(rest:List Int)(x:Int):List Int:=rest.filter λy=>decide (y≠x) && !nbB es y x
theorem oD (es:List (List Int))(a b:Int):nbB es a b=nbB es b a:=by
 unfold nbB;rw[Int.min_comm,Int.max_comm];by_cases h:a=b<;>simp[h,eq_comm]
theorem q8 {p:PrV}{l:List Int}{x:Int}:A2B p l x=true↔∀y∈l,A4L p y x=false:=by
 unfold A2B;simp
theorem E0r {es:List (List Int)}{rest:List Int}{x y:Int}:y∈A2l es rest x↔y∈rest∧y≠x∧nbB es y x=false:=by
 unfold A2l;simp
inductive Run (es:List (List Int)) (p:PrV):List Int->List Int->Prop
 |nil:Run es p [] []
 |cons {rest ks:List Int} {x:Int}:x∈rest->A2B p rest x=true->Run es p (A2l es rest x) ks->Run es p rest (x::ks)
section
variable {es:List (List Int)}{p:PrV}
theorem Run.sub:∀ {ks rest:List Int},Run es p rest ks->∀ k∈ks,k∈rest
 | [],_,_,k,hk=>by cases hk
 |y::ks,rest,h,k,hk=>by
   cases h with
   |cons hy hb h =>
     rcases aG.1 hk with rfl | hk
     . exact hy
     . exact(E0r.1 (Run.sub h k hk)).1
theorem Run.ind:∀ {ks rest:List Int},Run es p rest ks->∀ a∈ks,∀ b∈ks,nbB es a b=false
 | [],_,_,k,hk=>by cases hk
 |y::ks,rest,h,a,ha=>by
   intro b js;cases h with
   |cons hy hb h =>
     rcases aG.1 ha with ea | Eg
     . rcases aG.1 js with eb | ot
       . subst ea;subst eb;simp[nbB]
       . subst ea;rw[oD];exact(E0r.1 (Run.sub h b ot)).2.2
     . rcases aG.1 js with eb | ot
       . subst eb;exact(E0r.1 (Run.sub h a Eg)).2.2
       . exact Run.ind h a Eg b ot
theorem Run.Xj:∀ {ks rest:List Int},Run es p rest ks->∀ y∈rest,y∉ks->∃ k∈ks,nbB es y k=true
 | [],rest,h,y,hy=>by cases h;cases hy
 |x::ks,rest,h,y,hy=>by
   intro hn;cases h with
   |cons hx hb h =>
     have h1:y≠x:=λe=>hn (e ▸ dS)
     cases hc:nbB es y x with
     |true=>exact⟨x,dS,hc⟩
     |false =>
       obtain⟨k,hk,e⟩:=Run.Xj h y (E0r.2 ⟨hy,h1,hc⟩) (λhh=>hn (bC _ hh))
       exact⟨k,bC _ hk,e⟩
def pickL (p:PrV)(r rest:List Int):Option Int:=rest.find? λx=>r.contains x&&A2B p rest x
def A4c (es:List (List Int))(p:PrV)(r:List Int):Nat->List Int->List Int×Bool
 |0,rest=>([],rest.isEmpty)
 | n+1,rest=>match pickL p r rest with
   |some x=>let q:=A4c es p r n (A2l es rest x);(x::q.1,q.2)
   |none=>([],rest.isEmpty)
def Acy (p:PrV):Prop:=∃f:Int->Nat,∀q∈p,f q.1<f q.2
theorem BS (h:Acy p):∀rest:List Int,rest ≠ []->∃x∈rest,A2B p rest x=true:=by
 obtain⟨f,hf⟩:=h;intro rest hne
 have:∀l:List Int,l ≠ []->∃x∈l,∀y∈l,f x<=f y:=by
  intro l
  induction l with
  |nil=>intro h;exact absurd rfl h
  |cons a l ih =>
    intro _;by_cases e:l=[]
    . subst e;exact⟨a,dS,λy hy=>by simp at hy;subst hy;exact ay _⟩
    . obtain ⟨x,hx,hm⟩:=ih e;by_cases hc:f a<=f x
      . refine ⟨a,dS,λy hy=>?_⟩
        rcases aG.1 hy with rfl | hy
        . exact ay _
        . exact dF hc (hm y hy)
      . refine ⟨x,bC _ hx,λy hy=>?_⟩
        rcases aG.1 hy with rfl | hy
        . omega
        . exact hm y hy
 obtain⟨x,hx,hm⟩:=this rest hne;refine⟨x,hx,q8.2 λy hy=>?_⟩
 cases hb:A4L p y x with
 |false=>rfl
 |true =>
   have h1:=hf _ (bj.1 hb);have h2:=hm y hy;simp only at h1;omega
end
structure Gr (v:List Int)(es:List (List Int)):Prop where
 l9:Nk v es
 asc:∀e∈es,Go.Hg.asc e=true
 two:∀e∈es,e.length<=2
structure Rep (v:List Int)(es:List (List Int))(l:List Int):Prop where
 asc:asc l=true
 sub:∀x∈l,x∈v
 own:∀x∈l,A6j es x=false
 ind:∀a∈l,∀b∈l,nbB es a b=false
 Xj:∀x∈v,x∉l->A6j es x=false->∃y∈l,nbB es x y=true
section
variable {v:List Int}{es:List (List Int)}
theorem Gr.cases (G:Gr v es){e:List Int}(he:e∈es):(∃a,e=[a]∧A6j es a=true)∨∃a b,e=[a,b]∧a<b∧nbB es a b=true:=by
 have h1:=G.l9.ne e he;have h2:=G.two e he;have h3:=G.asc e he
 match e,h1,h2,h3 with
 | [],h,_,_=>exact absurd rfl h
 | [a],_,_,_=>exact .inl ⟨a,rfl,bj.2 he⟩
 | [a,b],_,_,h =>
   have uO:a<b:=by simpa [Go.Hg.asc] using h
   exact .inr ⟨a,b,rfl,uO,by
    unfold nbB;rw[n3 (by omega),nj (by omega)]
    simp only[aj,decide_eq_true_eq];exact⟨by omega,bj.2 he⟩⟩
 |_::_::_::_,_,h,_=>exact absurd h (by simp)
theorem Gr.free (G:Gr v es){l:List Int}:free es l=true↔(∀x∈l,A6j es x=false)∧∀a∈l,∀b∈l,nbB es a b=false:=by
 unfold Go.Hg.free;constructor
 . intro h;have hn:∀ e∈es,¬ (∀ y∈e,y∈l):=by
    intro e he hw
    have:(es.any λe=>A0A e l)=true:=fV.2 ⟨e,he,within_iff.2 hw⟩
    rw[this] at h;cases h
   refine⟨λx hx=>?_,λa ha b hb=>?_⟩
   . cases hc:A6j es x with
     |false=>rfl
     |true=>exact absurd (λy hy=>by simp at hy;subst hy;exact hx) (hn _ (bj.1 hc))
   . cases hc:nbB es a b with
     |false=>rfl
     |true =>
       unfold nbB at hc;simp only[aj] at hc;refine absurd (λy hy=>?_) (hn _ (bj.1 hc.2))
       simp only[aG,List.not_mem_nil,or_false] at hy;rcases hy with rfl | rfl
       . rcases vg a b with h | h
         . rw[n3 h];exact ha
         . rw[Int.min_eq_right h];exact hb
       . rcases vg a b with h | h
         . rw[nj h];exact hb
         . rw[Int.max_eq_left h];exact ha
 . rintro ⟨h1,h2⟩;cases hc:(es.any λe=>A0A e l) with
   |false=>rfl
   |true =>
     obtain⟨e,he,hw⟩:=fV.1 hc;have hw:=within_iff.1 hw;rcases G.cases he with⟨a,rfl,ho⟩ | ⟨a,b,rfl,uO,hn⟩
     . rw[h1 a (hw a (by simp))] at ho;cases ho
     . rw[h2 a (hw a (by simp)) b (hw b (by simp))] at hn;cases hn
theorem rH (G:Gr v es){l:List Int}:A09 v es l=true↔Rep v es l:=by
 unfold A09 A5O;simp only[aj,bB,Bool.or_eq_true,ed,bj];constructor
 . rintro ⟨⟨⟨h1,h2⟩,h3⟩,h4⟩;obtain ⟨f1,f2⟩:=G.free.1 h3;refine ⟨h1,within_iff.1 h2,f1,f2,λx hx hn ho=>?_⟩
   rcases h4 x hx with h | h
   . exact absurd h hn
   . refine b5 λhc=>?_
     have zm:∀y∈l,nbB es x y=false:=λy hy=>by
      cases e:nbB es x y with
      |false=>rfl
      |true=>exact absurd ⟨y,hy,e⟩ hc
     have:free es (l++[x])=true:=by
      refine G.free.2 ⟨λz hz=>?_,λa ha b hb=>?_⟩
      . rcases az.1 hz with hz | hz
        . exact f1 z hz
        . simp at hz;subst hz;exact ho
      . rcases az.1 ha with Eg | Eg
        . rcases az.1 hb with ot | ot
          . exact f2 a Eg b ot
          . have eb:b=x:=by simpa using ot
            rw[eb,oD];exact zm a Eg
        . have ea:a=x:=by simpa using Eg
          rcases az.1 hb with ot | ot
          . rw[ea];exact zm b ot
          . have eb:b=x:=by simpa using ot
            rw[ea,eb];simp[nbB]
     rw[this] at h;cases h
 . intro R;refine ⟨⟨⟨R.asc,within_iff.2 R.sub⟩,G.free.2 ⟨R.own,R.ind⟩⟩,λx hx=>?_⟩
   by_cases hm:x∈l
   . exact .inl hm
   . refine .inr ?_;cases hf:free es (l++[x]) with
     |false=>rfl
     |true =>
       obtain⟨f1,f2⟩:=G.free.1 hf;obtain⟨y,hy,e⟩:=R.Xj x hx hm (f1 x (by simp))
       rw[f2 x (by simp) y (by simp[hy])] at e;cases e
theorem ayg {r s:List Int}(hr:Rep v es r)(hs:Rep v es s)(h:∀y∈s,y∈r):s=r:=by
 refine nC (gr.1 hs.asc) (gr.1 hr.asc) λx=>⟨h x,λhx=>?_⟩
 refine b5 λhn=>?_
 obtain⟨y,hy,e⟩:=hs.Xj x (hr.sub x hx) hn (hr.own x hx);rw[hr.ind x hx y (h y hy)] at e;cases e
def ImpP (p:PrV)(r s:List Int):Prop:=(∀x∈r,x∉s->∃y∈s,y∉r∧A4L p y x=true)∧∃y∈s,y∉r
def ParP (p:PrV)(r s:List Int):Prop:=∃y∈s,y∉r∧∀x∈r,x∉s->A4L p y x=true
theorem ave {p:PrV}{r s:List Int}(h:ParP p r s):ImpP p r s:=by
 obtain⟨y,h1,h2,h3⟩:=h;exact⟨λx hx hn=>⟨y,h1,h2,h3 x hx hn⟩,y,h1,h2⟩
end
end Go.Hg
namespace Go.Mid
theorem HH {k:IntKind}(hk:k.signed=false){n:Nat}(h:n<2 ^ k.bits):k.wrap (n:Int)=(n:Int):=by
 cases k<;>first | exact absurd hk (by decide) | (simp only[ie,gu,fe] at h ⊢;simp;omega)
theorem JI (w m:Nat):b8 w (m:Int)=BitVec.ofNat w m:=by simp
theorem Nn {k:IntKind}(hk:k.signed=false){m n:Nat}(hm:m<2 ^ k.bits)(hn:n<2 ^ k.bits):pL k (m:Int) (n:Int)=((m &&& n:Nat):Int):=by
 unfold pL;rw[JI,JI,ru,iu,iu,eQ hm,eQ hn];exact HH hk (eU Nat.and_le_left hm)
theorem HI {k:IntKind}(hk:k.signed=false){m n:Nat}(hm:m<2 ^ k.bits)(hn:n<2 ^ k.bits):uS k (m:Int) (n:Int)=((m ||| n:Nat):Int):=by
 unfold uS;rw[JI,JI,BitVec.toNat_or,iu,iu,eQ hm,eQ hn];exact HH hk (fA hm hn)
theorem Xk {w m n:Nat}(hm:m<2 ^ w):Go.Hg.less m n<2 ^ w:=mA _ λi hi=>by
 rw[Go.Hg.qs,fM (br hm (ez (by decide) hi))];rfl
theorem C5T {k:IntKind}(hk:k.signed=false){m n:Nat}(hm:m<2 ^ k.bits)(hn:n<2 ^ k.bits):CN k (m:Int) (n:Int)=((Go.Hg.less m n:Nat):Int):=by
 have h:(b8 k.bits (m:Int) &&& ~~~ b8 k.bits (n:Int)).toNat=Go.Hg.less m n:=by
  rw[JI,JI];apply jc;intro i;rw[ru,gp,Go.Hg.qs,iu,eQ hm];by_cases hi:i<k.bits
  . congr 1;rw[←BitVec.getLsbD,BitVec.getLsbD_not];simp only[hi,decide_true,dm,BitVec.getLsbD_ofNat]
  . rw [fM (br hm (ez (by decide) (by omega)))]
    rfl
 unfold CN;rw[h];exact HH hk (Xk hm)
theorem D4S {k:IntKind}{m i:Nat}(hi:i<=k.bits):jK k (m:Int) (i:Int)=((m >>> i:Nat):Int):=by
 unfold jK;have e:min ((i:Int).toNat) k.bits=i:=by rw[ar];omega
 rw[e,Nat.shiftRight_eq_div_pow]
 have:((2:Int) ^ i)=((2 ^ i:Nat):Int):=by simp
 rw[this];exact Int.ofNat_fdiv m (2 ^ i) |>.symm
theorem D4T {k:IntKind}(hk:k.signed=false){m i:Nat}(hi:i<=k.bits)(h:m <<< i<2 ^ k.bits):qZ k (m:Int) (i:Int)=((m <<< i:Nat):Int):=by
 unfold qZ;have e:min ((i:Int).toNat) k.bits=i:=by rw[ar];omega
 rw[e]
 have:(m:Int)*2 ^ i=((m <<< i:Nat):Int):=by rw[Nat.shiftLeft_eq];simp
 rw[this];exact HH hk h
theorem xq {i w:Nat}(h:i<w):1 <<< i<2 ^ w:=by rw[mQ];exact oM (by decide) h
theorem D4U {k:IntKind}(hk:k.signed=false){m i:Nat}(hi:i<=k.bits)(h2:1<k.bits)(hm:m<2 ^ k.bits):pL k (jK k (m:Int) (i:Int)) 1=if m.testBit i then 1 else 0:=by
 rw[D4S hi];have h1:m >>> i<2 ^ k.bits:=eU (Nat.shiftRight_le m i) hm
 have:=Nn (k:=k) hk (m:=m >>> i) (n:=1) h1 (Nat.one_lt_two_pow (by omega))
 have h2:pL k ((m >>> i:Nat):Int) 1=(((m >>> i) &&& 1:Nat):Int):=this;rw[h2,C5S,nO,dG];cases m.testBit i<;>rfl
end Go.Mid
namespace Go.Mid
open Go.Hg (asc A0A free A5O A09)
theorem Av {n:Nat}(h:1<=n)(h':n<=9223372036854775807):af.wrap ((n:Int)-1)=((n-1:Nat):Int):=by rw[wrap_i64 (by omega) (by omega)];omega
theorem C5U {l:List Int}:asc l=true↔∀j (h:j+1<l.length),l[j]<l[j+1]:=by
 constructor
 . intro h j hj;exact Go.Hg.jF h (kS j) hj
 . intro h
   induction l with
   |nil=>rfl
   |cons a r ih =>
     cases r with
     |nil=>rfl
     |cons b r =>
       simp only[asc,aj,decide_eq_true_eq];refine⟨h 0 (by simp),ih λj hj=>?_⟩
       have:=h (j+1) (by simpa using hj)
       simpa only[fL] using this
theorem C35 {f:List Int×Int->Option (List Int×Int ⊕ Bool ⊕ PUnit)}(l:List Int)
 (hs:∀i (h:i+1<l.length),f (l,((i+1:Nat):Int))=if decide (l[i+1]<=l[i]) then some (.inr (.inl false)) else some (.inl (l,((i+2:Nat):Int))))
 (he:∀i:Nat,l.length<=i->f (l,(i:Int))=some (.inr (.inr ()))) :
 ((dk f (l,(1:Int))).bind λu=>Sum.elim (λv=>some v) (λ_=>some true) u)=some (asc l):=by
 have key:=Ma (f:=f) l.tail (λi=>(l,((i+1:Nat):Int))) (λi x=>decide (x<=l.getD i 0)) (λ_=>.inl false) (.inr ()) (λi hi=>by
  have eg:i+1<l.length:=by rw[kT] at hi;omega
  have e1:l.tail[i]=l[i+1]:=by rw[mR]
  have e2:l.getD i 0=l[i]:=by rw[bh,ah (by omega)];rfl
  rw[hs i eg,e1,e2]) (he _ (by rw[kT];omega))
 have key:dk f (l,(1:Int))=_:=key;rw[key];cases hf:tm (λi x=>decide (x<=l.getD i 0)) l.tail 0 with
 |none =>
   rw[V5] at hf
   have:asc l=true:=C5U.2 λj hj=>by
    have h1:=hf j (by rw[kT];omega)
    rw[mR,bS,bh,ah (by omega)] at h1
    simpa using h1
   rw[this];rfl
 |some k =>
   obtain⟨_,h2,⟨h3,h4⟩,_⟩:=V6 hf
   have:asc l=false:=by
    cases hc:asc l with
    |false=>rfl
    |true =>
      have hk:k+1<l.length:=by rw[kT] at h2;omega
      have h5:=C5U.1 hc k hk;simp only[gv,mR,bh,ah (show k<l.length by omega),bI,decide_eq_true_eq] at h4
      omega
   rw[this];rfl
theorem Xl {l:List Int}(hl:l.length<=1000000):Jg l=some (asc l):=by
 unfold Jg;refine C35 l (λi h=>?_) (λi h=>?_)
 . have h':((i+1:Nat):Int)<(l.length:Int):=by omega
   simp only [Wu,h',decide_true,cond_true,aq,ar,ah h,ai,Av (show 1<=i+1 by omega) (by omega),
    dT,ah (show i<l.length by omega),iQ (show i+1<9223372036854775807 by omega)]
   by_cases c:l[i+1]<=l[i]
   . simp only[c,decide_true,cond_true,if_true]
   . simp only[c,decide_false,cond_false,aI,if_false]
 . have h':¬ ((i:Int)<(l.length:Int)):=by omega
   simp only[Wu,h',decide_false,cond_false]
theorem D02 {n:Nat}(h:n<9223372036854775808):af.wrap (jK .u64 (aK.wrap (af.wrap (n:Int))) 1)=((n / 2:Nat):Int):=by
 have e1:af.wrap (n:Int)=n:=Qn (by omega)
 have e2:aK.wrap (n:Int)=n:=by simp only[ie,gu,fe];simp;omega
 have e3:jK .u64 (n:Int) 1=(n:Int).fdiv 2:=rfl;rw[e1,e2,e3,Int.fdiv_eq_ediv_of_nonneg _ (by omega),show ((n:Int) / 2)=((n / 2:Nat):Int) by omega,Qn (by omega)]
theorem D6C (x y:Int):Qu (x,y)=some (decide (x<y)):=by
 simp[Qu,HB]
theorem D03 {i j:Nat}(h:i+j<9223372036854775808):af.wrap (jK .u64 (aK.wrap (af.wrap ((i:Int)+(j:Int)))) 1)=(((i+j) / 2:Nat):Int):=by
 rw[←D02 h];rfl
structure Place (l:List Int)(y:Int)(i:Nat):Prop where
 le:i<=l.length
 lo:∀k (h:k<l.length),k<i->l[k]<y
 hi:∀k (h:k<l.length),i<=k->y<=l[k]
theorem C4U {l:List Int}(ha:asc l=true)(hl:l.length<=1000000)(y:Int):∃i:Nat,dk Mo (l,y,(l.length:Int),0,(l.length:Int))=some (l,y,(l.length:Int),(i:Int))∧Place l y i:=by
 obtain ⟨b,hb,i,rfl,hp⟩:=C8K (f:=Mo)
  (λa=>∃i j:Nat,a=(l,y,(l.length:Int),(i:Int),(j:Int))∧i<=j∧j<=l.length∧(∀k (h:k<l.length),k<i->l[k]<y)∧(∀k (h:k<l.length),j<=k->y<=l[k]))
  (λb=>∃i:Nat,b=(l,y,(l.length:Int),(i:Int))∧Place l y i) (λa=>(a.2.2.2.2-a.2.2.2.1).toNat) (by
    rintro a ⟨i,j,rfl,gM,hj,h1,h2⟩;by_cases c:i<j
    . left;have c':(i:Int)<(j:Int):=by omega
      have hm:(i+j) / 2<l.length:=by omega
      simp only[Mo,c',decide_true,cond_true,D03 (show i+j<9223372036854775808 by omega),aq,ar,ah hm,ai,D6C]
      by_cases d:l[(i+j) / 2]<y
      . simp only [d,decide_true,cond_true,iQ (show (i+j) / 2<9223372036854775807 by omega)]
        refine⟨_,rfl,⟨(i+j) / 2+1,j,rfl,by omega,hj,λk hk Dp=>?_,h2⟩,by show ((j:Int)-(((i+j) / 2+1:Nat):Int)).toNat<((j:Int)-(i:Int)).toNat;omega⟩
        rcases mg (Nat.le_of_lt_succ Dp) with h | h
        . exact qH (Go.Hg.jF ha h hm) d
        . subst h;exact d
      . simp only [d,decide_false,cond_false];refine ⟨_,rfl,⟨i,(i+j) / 2,rfl,by omega,by omega,h1,λk hk Dp=>?_⟩,by show ((((i+j) / 2:Nat):Int)-(i:Int)).toNat<((j:Int)-(i:Int)).toNat;omega⟩
        rcases mg Dp with h | h
        . exact Int.le_of_lt (Int.lt_of_le_of_lt (yn.1 d) (Go.Hg.jF ha h hk))
        . subst h;exact yn.1 d
    . right;have c':¬ ((i:Int)<(j:Int)):=by omega
      obtain rfl:i=j:=by omega
      simp only[Mo,c',decide_false,cond_false];exact⟨_,rfl,i,rfl,hj,h1,h2⟩) (l,y,(l.length:Int),0,(l.length:Int)) ⟨0,l.length,rfl,by omega,ay _,λk _ hk=>by omega,λk h hk=>by omega⟩
 exact⟨i,hb,hp⟩
theorem Place.found {l:List Int}{y:Int}{i:Nat}(ha:asc l=true)(hp:Place l y i):l.contains y=(match l[i]? with | some x=>x==y | none=>false):=by
 cases hc:l[i]? with
 |none =>
   have hi:l.length<=i:=mC.1 hc
   have:¬y∈l:=λhm=>by
    obtain⟨k,hk,rfl⟩:=eA.1 hm
    have:=hp.lo k hk (by omega);omega
   simp[this]
 |some x =>
   obtain⟨hi,rfl⟩:=aJ.1 hc;apply c6.2;rw[bj,beq_iff_eq];constructor
   . intro hm;obtain ⟨k,hk,rfl⟩:=eA.1 hm;have h1:¬ k<i:=λh=>by have:=hp.lo k hk h;omega
     by_cases h2:k=i
     . subst h2;rfl
     . have h3:=hp.hi i hi (ay _);have h4:=Go.Hg.jF ha (show i<k by omega) hk
       omega
   . intro e;rw[←e];exact aM hi
theorem Xm {l:List Int}(ha:asc l=true)(hl:l.length<=1000000)(y:Int):∃i:Nat,Jh (l,y)=some ((i:Int),l.contains y)∧Place l y i:=by
 obtain⟨i,h1,hp⟩:=C4U ha hl y;refine⟨i,?_,hp⟩;rw[hp.found ha];unfold Jh;simp only;rw[h1];simp only[ai];by_cases c:i<l.length
 . have c':(i:Int)<(l.length:Int):=by omega
   simp only[c',decide_true,cond_true,aq,ar,ah c,ai];by_cases d:l[i]=y
   . simp[d]
   . have d':(l[i]==y)=false:=by simpa using d
     simp only[d',cond_false,Qv,ai,bne_self_eq_false]
 . have c':¬ (i:Int)<(l.length:Int):=by omega
   simp only[c',decide_false,cond_false,mC.2 (Nat.not_lt.1 c)]
theorem Rh {l part:List Int}(ha:asc l=true)(hl:l.length<=1000000)(hp:part.length<=1000000):HC (l,part)=some (A0A part l):=by
 have key:=wo (f:=Qw) part (λi=>(l,part,(part.length:Int),(i:Int))) (λy=>!l.contains y) (.inl false) (.inr ()) (λi hi=>by
  have eg:(i:Int)<(part.length:Int):=by omega
  obtain⟨j,h1,_⟩:=Xm ha hl part[i];simp only[Qw,eg,decide_true,cond_true,aq,ar,ah hi,ai,h1,iQ (show i<9223372036854775807 by omega)]
  cases l.contains part[i]<;>rfl) (by
  simp only[Qw,ba,decide_false,cond_false])
 simp only[b7] at key;unfold HC;simp only;rw[key];unfold A0A;have e:(part.all λx=>l.contains x)=!(part.any λy=>!l.contains y):=by rw[j0];simp
 rw[e];cases part.any λy=>!l.contains y<;>rfl
theorem A7K {v:List Int}{es:List (List Int)}{l:List Int}(hv:asc v=true)(nv:v.length<=1000000)(ne:es.length<=1000000)(el:∀ e∈es,e.length<=1000000)(hl:l.length<=1000000) :
 MW ((v,es),l)=some (A5O v es l):=by
 unfold MW A5O;simp only[Xl hl,ai];cases ha:asc l with
 |false=>rfl
 |true =>
   simp only[bO,cond_false,Rh hv nv hl,ai,dm];cases A0A l v with
   |false=>rfl
   |true =>
     simp only[bO,cond_false,dm];have key:=Ma (f:=QT) es (λi=>(es,l,(es.length:Int),(i:Int))) (λ_ e=>A0A e l) (λi=>.inl (i:Int)) (.inr ()) (λi hi=>by
      have eg:(i:Int)<(es.length:Int):=by omega
      simp only [QT,WG,eg,decide_true,cond_true,aq,ar,ah hi,ai,
       Rh ha hl (el _ (aM hi)),iQ (show i<9223372036854775807 by omega)]
      cases A0A es[i] l<;>rfl) (by
      simp only[QT,ba,decide_false,cond_false])
     simp only[b7] at key;unfold WI WH;simp only;rw[key];unfold free;have ha:=Qm (λe=>A0A e l) es 0
     cases hf:tm (λ_ e=>A0A e l) es 0 with
     |none=>rw[hf] at ha;rw[←ha];rfl
     |some k =>
       rw[hf] at ha;rw[←ha];simp
theorem C7y {l:List Int}{y:Int}{i:Nat}(ha:asc l=true)(hp:Place l y i)(hn:y∉l):asc (l.take i++y::l.drop i)=true:=by
 rw[Go.Hg.gr];have hpw:=Go.Hg.gr.1 ha;have h1:∀x∈l.take i,x<y:=by
  intro x hx;obtain⟨k,hk,rfl⟩:=List.mem_take_iff_getElem.1 hx;exact hp.lo k (by omega) (by omega)
 have h2:∀x∈l.drop i,y<x:=by
  intro x hx;obtain⟨k,hk,rfl⟩:=List.mem_drop_iff_getElem.1 hx;have h3:=hp.hi (k+i) (by omega) (by omega)
  have h4:l[k+i]≠y:=λe=>hn (e ▸ aM _)
  have e5:l[i+k]=l[k+i]:=by congr 1;omega
  omega
 rw[cF];refine⟨hpw.sublist (qI _ _),?_,?_⟩
 . rw[bN];exact⟨h2,hpw.sublist (List.drop_sublist _ _)⟩
 . intro a ha b hb;rcases aG.1 hb with rfl | hb
   . exact h1 a ha
   . exact qH (h1 a ha) (h2 b hb)
theorem B9k {l:List Int}{y:Int}{i:Nat}(x:Int):x∈l.take i++y::l.drop i↔x∈l++[y]:=by
 rw[az,aG,az,aX]
 conv=>rhs;rw[←List.take_append_drop i l,az]
 exact⟨λh=>h.elim (λh=>.inl (.inl h)) (λh=>h.elim .inr (λh=>.inl (.inr h))),λh=>h.elim (λh=>h.elim .inl (λh=>.inr (.inr h))) (λh=>.inr (.inl h))⟩
theorem D04 {es:List (List Int)}{l m:List Int}(h:∀x,x∈l↔x∈m):free es l=free es m:=by
 unfold free;congr 2;funext e;apply c6.2;rw[Go.Hg.within_iff,Go.Hg.within_iff];exact⟨λg y hy=>(h y).1 (g y hy),λg y hy=>(h y).2 (g y hy)⟩
theorem A9j {v:List Int}{es:List (List Int)}{l:List Int}(hv:asc v=true)(nv:v.length<=100000)(ne:es.length<=1000000)(el:∀ e∈es,e.length<=1000000)(hl:l.length<=100000) :
 MX ((v,es),l)=some (A09 v es l):=by
 unfold MX A09;simp only[A7K hv (show v.length<=1000000 by omega) ne el (show l.length<=1000000 by omega),ai]
 cases hi:A5O v es l with
 |false=>rfl
 |true =>
   simp only[bO,cond_false,dm];unfold A5O at hi;simp only[aj] at hi;obtain⟨⟨ha,hw⟩,hf⟩:=hi;have key:=wo (f:=QV) v (λi=>((l,v,(v.length:Int),(i:Int)),v,es)) (λx=>!(l.contains x || !free es (l++[x]))) (.inl false) (.inr ()) (λi hi=>by
    have eg:(i:Int)<(v.length:Int):=by omega
    obtain⟨j,h1,hp⟩:=Xm ha (show l.length<=1000000 by omega) v[i]
    simp only[QV,eg,decide_true,cond_true,aq,ar,ah hi,ai,h1,iQ (show i<9223372036854775807 by omega)]
    cases hc:l.contains v[i] with
    |true=>simp
    |false =>
      have hn:v[i]∉l:=by intro hm;rw[bj.2 hm] at hc;cases hc
      have nX:Ee 8 l=some (l.length,l):=by
       unfold Ee;rw[jE (show l.length*8<=140737488355328 by omega),cond_true]
      have n8:QU ((l.length,(j:Int),1),l,[v[i]])=some (l.length+1,l.take j++v[i]::l.drop j,[v[i]]):=by
       unfold QU;have q1:Nat.beq 1 1=true:=rfl;have q2:Nat.beq l.length l.length=true:=Nat.beq_refl _;simp only[dN,q1,cond_true,bQ,ai,q2,aq,decide_true,ar,jE hp.le,lB (show l.length<1000000000000 by omega)]
      have hlen:(l.take j++v[i]::l.drop j).length=l.length+1:=by
       have:=hp.le
       simp;omega
      have Bp:=A7K (l:=l.take j++v[i]::l.drop j) hv (show v.length<=1000000 by omega) ne el (by omega)
      have hb:A5O v es (l.take j++v[i]::l.drop j)=free es (l++[v[i]]):=by
       unfold A5O;rw[C7y ha hp hn,D04 (λx=>B9k x)]
       have:A0A (l.take j++v[i]::l.drop j) v=true:=by
        rw[Go.Hg.within_iff];intro y hy;rcases az.1 ((B9k y).1 hy) with h | h
        . exact Go.Hg.within_iff.1 hw y h
        . simp only[aX] at h;subst h;exact aM hi
       rw[this];rfl
      simp only[ej,cond_true,nX,ai,a7,n8,hlen,jE (ay _),a6 (e7 hlen),Bp,hb];cases free es (l++[v[i]])<;>simp) (by
    simp only[QV,ba,decide_false,cond_false])
   simp only[b7] at key;rw[key];have e:(v.all λx=>l.contains x || !free es (l++[x]))=!(v.any λx=>!(l.contains x || !free es (l++[x]))):=by rw[j0];simp
   rw[e];cases v.any λx=>!(l.contains x || !free es (l++[x]))<;>rfl
end Go.Mid
namespace Go.Mid
open Go.Hg (asc A0A free A5O A09 before bef A4q)
theorem Xn {α:Type}(l:List α)(p:α->Bool):(l.all p)=!(l.any λx=>!p x):=by rw[j0];simp
theorem Xo {l:List Int}(hl:l.length<=1000000):JC l=some (asc l):=by
 unfold JC;refine C35 l (λi h=>?_) (λi h=>?_)
 . have h':((i+1:Nat):Int)<(l.length:Int):=by omega
   simp only [WJ,h',decide_true,cond_true,aq,ar,ah h,ai,Av (show 1<=i+1 by omega) (by omega),
    dT,ah (show i<l.length by omega),iQ (show i+1<9223372036854775807 by omega)]
   by_cases c:l[i+1]<=l[i]
   . simp only[c,decide_true,cond_true,if_true]
   . simp only[c,decide_false,cond_false,aI,if_false]
 . have h':¬ ((i:Int)<(l.length:Int)):=by omega
   simp only[WJ,h',decide_false,cond_false]
theorem B9l {l:List Int}(hl:l.length<=1000000)(y:Int):Jj (l,y)=some (l.contains y):=by
 have key:=wo (f:=QB) l (λi=>(l,y,(i:Int))) (λx=>x==y) (.inl true) (.inr ()) (λi hi=>by
  have eg:(i:Int)<(l.length:Int):=by omega
  simp only[QB,eg,decide_true,cond_true,aq,ar,ah hi,ai,iQ (show i<9223372036854775807 by omega)]
  cases l[i]==y<;>rfl) (by
  simp only[QB,ba,decide_false,cond_false])
 simp only[b7] at key;unfold Jj;simp only;rw[key];have e:(l.any λx=>x==y)=l.contains y:=by rw[mU];congr 1;funext x;exact Bool.beq_comm
 rw[e];cases l.contains y<;>rfl
theorem B9m {l:List Int}(hl:l.length<=1000000)(y:Int):Mt (l,y)=some (l.contains y):=by
 unfold Mt;simp only[B9l hl,ai]
theorem A6P {a b:List Int}(ha:a.length<=1000000)(hb:b.length<=1000000):Fy (a,b)=some (A0A a b):=by
 have key:=wo (f:=QC) a (λi=>(a,b,(i:Int))) (λx=>!b.contains x) (.inl false) (.inr ()) (λi hi=>by
  have eg:(i:Int)<(a.length:Int):=by omega
  simp only[QC,eg,decide_true,cond_true,aq,ar,ah hi,ai,B9m hb,iQ (show i<9223372036854775807 by omega)]
  cases b.contains a[i]<;>rfl) (by
  simp only[QC,ba,decide_false,cond_false])
 simp only[b7] at key;unfold Fy;simp only;rw[key];unfold A0A;rw[Xn];cases a.any λy=>!b.contains y<;>rfl
theorem B6Z {v:List Int}{es:List (List Int)}{l:List Int}(ne:es.length<=1000000)(el:∀e∈es,e.length<=1000000)(hl:l.length<=1000000):Nd ((v,es),l)=some (free es l):=by
 have key:=wo (f:=Q5) es (λi=>((l,(i:Int)),v,es)) (λe=>A0A e l) (.inl false) (.inr ()) (λi hi=>by
  have eg:(i:Int)<(es.length:Int):=by omega
  simp only[Q5,eg,decide_true,cond_true,aq,ar,ah hi,ai,A6P (el _ (aM hi)) hl,iQ (show i<9223372036854775807 by omega)]
  cases A0A es[i] l<;>rfl) (by
  simp only[Q5,ba,decide_false,cond_false])
 simp only[b7] at key;unfold Nd;simp only;rw[key];unfold free;cases es.any λe=>A0A e l<;>rfl
theorem B5S {v:List Int}{es:List (List Int)}{l:List Int}(nv:v.length<=1000000)(ne:es.length<=1000000)(el:∀ e∈es,e.length<=1000000)(hl:l.length<=1000000) :
 Q6 ((v,es),l)=some (A5O v es l):=by
 unfold Q6 A5O;simp only[Xo hl,ai,A6P hl nv,B6Z ne el hl];cases asc l<;>cases A0A l v<;>rfl
theorem C0o {v:List Int}{es:List (List Int)}{l:List Int}(nv:v.length<=100000)(ne:es.length<=1000000)(el:∀ e∈es,e.length<=1000000)(hl:l.length<=100000) :
 Nf ((v,es),l)=some (A09 v es l):=by
 unfold Nf A09;simp only[B5S (show v.length<=1000000 by omega) ne el (show l.length<=1000000 by omega),ai]
 cases hi:A5O v es l with
 |false=>rfl
 |true =>
   simp only[bO,cond_false,dm];have key:=wo (f:=Q7) v (λi=>((l,(i:Int)),v,es)) (λx=>!(l.contains x || !free es (l++[x]))) (.inl false) (.inr ()) (λi hi=>by
    have eg:(i:Int)<(v.length:Int):=by omega
    have hlen:(l++[v[i]]).length=l.length+1:=by simp
    simp only [Q7,eg,decide_true,cond_true,aq,ar,ah hi,ai,B9m (show l.length<=1000000 by omega),iQ (show i<9223372036854775807 by omega),
     bS,gH,a7,jE (ay _),jE (show l.length*8<=140737488355328 by omega),jE (show (l.length+1)*8<=140737488355328 by omega),dM,hlen,
     a6 (e7 hlen),B6Z ne el (show (l++[v[i]]).length<=1000000 by omega)]
    cases l.contains v[i]<;>cases free es (l++[v[i]])<;>rfl) (by
    simp only[Q7,ba,decide_false,cond_false])
   simp only[b7] at key;rw[key,Xn];cases v.any λx=>!(l.contains x || !free es (l++[x]))<;>rfl
theorem B4z {a b:List Int}(ha:a.length<=1000000):Jl (a,b)=some (before a b):=by
 have main:∀(k i:Nat),a.length-i=k->i<=a.length->dk Jk (a,b,(i:Int))=some (match bef (a.drop i) (b.drop i) with | some t=>.inl t | none=>.inr (a,b)):=by
  intro k
  induction k with
  |zero =>
    intro i hk hi;obtain rfl:i=a.length:=by omega
    refine qc ?_;simp only[Jk,ba,decide_false,cond_false,eS,bef]
  |succ k ih =>
    intro i hk hi;have h1:i<a.length:=by omega
    have vR:(i:Int)<(a.length:Int):=by omega
    rw[bY h1];by_cases h2:i<b.length
    . have sA:(i:Int)<(b.length:Int):=by omega
      rw[bY h2];simp only[bef];have st:Jk (a,b,(i:Int))=if a[i]=b[i] then some (.inl (a,b,((i+1:Nat):Int))) else some (.inr (.inl (decide (a[i]<b[i])))):=by
       simp only[Jk,vR,sA,decide_true,cond_true,aq,ar,ah h1,ah h2,ai,iQ (show i<9223372036854775807 by omega)]
       by_cases c:a[i]=b[i]
       . simp[c]
       . have c':(a[i] != b[i])=true:=by simpa using c
         simp only[c',cond_true,c,if_false]
      by_cases c:a[i]=b[i]
      . rw[if_pos c] at st;rw[vw st,ih (i+1) (by omega) (by omega),if_pos c]
      . rw[if_neg c] at st;rw[qc st,if_neg c]
    . have sA:¬ (i:Int)<(b.length:Int):=by omega
      have e:b.drop i=[]:=nP (by omega)
      rw[e];simp only[bef];refine qc ?_;simp only[Jk,vR,sA,decide_true,decide_false,cond_true,cond_false]
 have key:=main a.length 0 (by omega) (dg _)
 simp only[b7,fh] at key;unfold Jl before;simp only;rw[key];cases bef a b with
 |some t=>rfl
 |none=>simp
theorem B9n {A B:Type}{f:A->Option (A ⊕ B)}(st:Nat->List (List Int)->A)(fin:List (List Int)->B)(n:Nat)
 (hf:∀k out,out.length=n->(∀x∈out,x.length<=1000000)->∀(h:k+1<out.length),f (st (k+1) out)=if before out[k+1] out[k] then some (.inl (st k ((out.set (k+1) out[k]).set k out[k+1]))) else some (.inr (fin out)))
 (h0:∀out,f (st 0 out)=some (.inr (fin out))):∀(k:Nat) (out:List (List Int)),k<out.length->out.length=n->(∀x∈out,x.length<=1000000)->dk f (st k out)=some (fin (A4q k out))
 |0,out,_,_,_=>qc (h0 out)
 |k+1,out,hk,hn,hb=>by
   have e1:out[k+1]?=some out[k+1]:=ah hk;have e2:out[k]?=some out[k]:=ah (by omega)
   have Ri:=hf k out hn hb hk;unfold A4q;simp only[e1,e2];by_cases c:before out[k+1] out[k]=true
   . rw [if_pos c] at Ri;rw [if_pos c,vw Ri];refine B9n st fin n hf h0 k _ (by simp;omega) (by simpa using hn) ?_
     intro x hx;rcases bx hx with h | h
     . rcases bx h with h | h
       . exact hb x h
       . rw[h];exact hb _ (aM _)
     . rw[h];exact hb _ (aM _)
   . rw[if_neg c] at Ri;rw[if_neg c,qc Ri]
theorem C9c {v:List Int}{i:Nat}(hi:i<v.length)(b:Nat):Go.Hg.idsP (v.take (i+1)) b=Go.Hg.idsP (v.take i) b++if b.testBit i then[v[i]] else[]:=by
 unfold Go.Hg.idsP;rw[vz hi,p8,s8,b9];congr 1;simp only[List.zipIdx_singleton,aW,bS,cX (fH hi)];cases hb:b.testBit i<;>simp[hb]
theorem D05 (v:List Int)(b:Nat):(Go.Hg.idsP v b).length<=v.length:=by
 unfold Go.Hg.idsP;rw[aB];refine dF (dt _ _) ?_;simp
theorem C36 (k:Nat)(out:List (List Int)):(A4q k out).length=out.length:=Go.Hg.oB k out
theorem C37:∀ (k:Nat) (out:List (List Int)) (x:List Int),x∈A4q k out->x∈out
 |0,out,x,h=>h
 |k+1,out,x,h=>by
   unfold A4q at h;split at h
   . rename_i y z h1 h2;split at h
     . have:=C37 k _ x h
       rcases bx this with h | h
       . rcases bx h with h | h
         . exact h
         . rw[h];exact bH h2
       . rw[h];exact bH h1
     . exact h
   . exact h
section
variable {v:List Int}{es:List (List Int)}(nv:v.length<=20)(ne:es.length<=1000000)(el:∀e∈es,e.length<=1000000)
end
end Go.Mid
namespace Go.Mid
open Go.Hg (asc A0A free A5O A09 before PrV nbB A6j A4L A2B A2a A2l Run)
section
variable {A B α β:Type}{f:A->Option (A ⊕ B)}
theorem Xp (l:List α)(FE:α->List β)(st:Nat->List β->A)(fin:List β->B)
 (h1:∀i (h:i<l.length),f (st i ((l.take i).flatMap FE))=some (.inl (st (i+1) ((l.take i).flatMap FE++FE l[i]))))
 (h2:f (st l.length (l.flatMap FE))=some (.inr (fin (l.flatMap FE)))):dk f (st 0 [])=some (fin (l.flatMap FE)):=by
 have key:=tQ (f:=f) l.length (λi=>st i ((l.take i).flatMap FE)) (fin (l.flatMap FE)) (λi hi=>by
  rw[h1 i hi,vz hi,pc];simp) (by rw[pN];exact h2)
 exact key
theorem Rj (p:α->Bool)(l:List α):(l.flatMap λx=>if p x then[x] else[])=l.filter p:=by
 induction l with
 |nil=>rfl
 |cons x r ih =>
   rw[List.flatMap_cons,ih,jl];cases p x<;>rfl
theorem Xq (p:α->Bool)(l:List α)(i:Nat):((l.take i).flatMap λx=>if p x then[x] else[]).length<=i:=by
 rw[Rj];exact dF (dt _ _) (by rw[aW];omega)
end
theorem D9I {a b:List Int}(ha:a.length<=1000000)(hb:b.length<=1000000):B1o (a,b)=some (a.filter λx=>!b.contains x):=by
 have key:=Xp (f:=B4D) a (λx=>if !b.contains x then[x] else[]) (λi acc=>((a,b,acc.length,(i:Int)),acc)) (λacc=>(acc.length,acc)) (λi hi=>by
  have eg:(i:Int)<(a.length:Int):=by omega
  have hl:=Xq (λx=>!b.contains x) a i
  simp only[B4D,eg,decide_true,cond_true,aq,ar,ah hi,ai,B9l hb,iQ (show i<9223372036854775807 by omega),jE (ay _)]
  cases b.contains a[i] with
  |true=>simp
  |false =>
    simp only[ej,cond_true,if_true,pN,aR,dN];rw[jE (by omega),cond_true]) (by
  simp only[B4D,ba,decide_false,cond_false])
 rw[Rj] at key;have key:dk B4D ((a,b,0,0),[])=_:=key;unfold B1o;simp only;rw[key];simp only[ai,jE (ay _),cond_true,pN]
theorem C1T {p:PrV}(hp:p.length<=1000000)(a b:Int):Q0 (p,a,b)=some (A4L p a b):=by
 have key:=wo (f:=QZ) p (λi=>(p,a,b,(i:Int))) (λx=>x.1==a&&x.2==b) (.inl true) (.inr ()) (λi hi=>by
  have eg:(i:Int)<(p.length:Int):=by omega
  simp only[QZ,eg,decide_true,cond_true,aq,ar,ah hi,ai,iQ (show i<9223372036854775807 by omega)]
  cases p[i].1==a<;>cases p[i].2==b<;>rfl) (by
  simp only[QZ,ba,decide_false,cond_false])
 simp only[b7] at key;unfold Q0;simp only;rw[key];have e:(p.any λx=>x.1==a&&x.2==b)=A4L p a b:=by
  unfold A4L;rw[mU];congr 1;funext x;apply c6.2;simp only[aj,beq_iff_eq];exact⟨λh=>by rw[←h.1,←h.2],λh=>by rw[←h];exact⟨rfl,rfl⟩⟩
 rw[e];cases A4L p a b<;>rfl
theorem Xr {p:PrV}{l:List Int}(hp:p.length<=1000000)(hl:l.length<=1000000)(v:Int):JB (p,l,v)=some (A2B p l v):=by
 have key:=wo (f:=Q1) l (λi=>(p,l,v,(i:Int))) (λy=>A4L p y v) (.inl false) (.inr ()) (λi hi=>by
  have eg:(i:Int)<(l.length:Int):=by omega
  simp only[Q1,eg,decide_true,cond_true,aq,ar,ah hi,ai,C1T hp,iQ (show i<9223372036854775807 by omega)]
  cases A4L p l[i] v<;>rfl) (by
  simp only[Q1,ba,decide_false,cond_false])
 simp only[b7] at key;unfold JB;simp only;rw[key];unfold A2B;cases l.any λy=>A4L p y v<;>rfl
def D7x (a b:List Int):List Int:=a.filter λx=>!b.contains x
theorem D7g {a b:List Int}{x:Int}:x∈D7x a b↔x∈a∧x∉b:=by
 unfold D7x;simp
theorem D9M (a b:List Int):(D7x a b).length<=a.length:=dt _ _
def D8J (p:PrV)(r s:List Int):Bool:=!((D7x r s).any λx=>A2B p (D7x s r) x)&&decide (0<(D7x s r).length)
def D7u (p:PrV)(r s:List Int):Bool:=(D7x s r).any λy=>(D7x r s).all λx=>A4L p y x
theorem D8i {p:PrV}{r s:List Int}:D8J p r s=true↔Go.Hg.ImpP p r s:=by
 unfold D8J Go.Hg.ImpP;rw[j0,aj];refine and_congr ?_ ?_
 . simp only [bB,ed,← fW];constructor
   . intro h x hx hn;have h1:=h x (D7g.2 ⟨hx,hn⟩);refine b5 λhc=>h1 (Go.Hg.q8.2 λy hy=>?_)
     cases e:A4L p y x with
     |false=>rfl
     |true=>exact absurd ⟨y,(D7g.1 hy).1,(D7g.1 hy).2,e⟩ hc
   . intro h x hx hb;obtain⟨y,h1,h2,h3⟩:=h x (D7g.1 hx).1 (D7g.1 hx).2;rw[Go.Hg.q8.1 hb y (D7g.2 ⟨h1,h2⟩)] at h3;cases h3
 . rw[decide_eq_true_eq,List.length_pos_iff_exists_mem];exact⟨λ⟨y,hy⟩=>⟨y,(D7g.1 hy).1,(D7g.1 hy).2⟩,λ⟨y,h1,h2⟩=>⟨y,D7g.2 ⟨h1,h2⟩⟩⟩
theorem D7N {p:PrV}{r s:List Int}:D7u p r s=true↔Go.Hg.ParP p r s:=by
 unfold D7u Go.Hg.ParP;rw[fV];constructor
 . rintro⟨y,hy,h⟩;rw[bB] at h;exact⟨y,(D7g.1 hy).1,(D7g.1 hy).2,λx hx hn=>h x (D7g.2 ⟨hx,hn⟩)⟩
 . rintro⟨y,h1,h2,h3⟩;exact⟨y,D7g.2 ⟨h1,h2⟩,bB.2 λx hx=>h3 x (D7g.1 hx).1 (D7g.1 hx).2⟩
theorem D9N {p:PrV}{r s:List Int}(hp:p.length<=1000000)(hr:r.length<=1000000)(hs:s.length<=1000000):B4E (p,r,s)=some (D8J p r s):=by
 have h1:=D9M r s;have h2:=D9M s r;have key:=wo (f:=B2x) (D7x r s) (λi=>(p,D7x r s,D7x s r,(i:Int))) (λx=>A2B p (D7x s r) x) (.inl false) (.inr (D7x s r)) (λi hi=>by
  have eg:(i:Int)<((D7x r s).length:Int):=by omega
  simp only[B2x,eg,decide_true,cond_true,aq,ar,ah hi,ai,Xr hp (show (D7x s r).length<=1000000 by omega),iQ (show i<9223372036854775807 by omega)]
  cases A2B p (D7x s r) (D7x r s)[i]<;>rfl) (by
  simp only[B2x,ba,decide_false,cond_false])
 simp only[b7] at key;unfold B4E;simp only[D9I hr hs,D9I hs hr,ai];show (dk B2x (p,D7x r s,D7x s r,0)).bind _=_;rw[key];unfold D8J;cases (D7x r s).any λx=>A2B p (D7x s r) x
 . simp
 . simp
theorem E0s {p:PrV}{r s:List Int}(hp:p.length<=1000000)(hr:r.length<=1000000)(hs:s.length<=1000000):E0o (p,r,s)=some (D7u p r s):=by
 have h1:=D9M r s;have h2:=D9M s r;have inner:∀i (h:i<(D7x s r).length),dk eL (p,D7x r s,D7x s r,(i:Int),true,0)=some (p,D7x r s,D7x s r,(i:Int),(D7x r s).all λx=>A4L p (D7x s r)[i] x):=by
  intro i hi;have key:=tQ (f:=eL) (D7x r s).length (λk=>(p,D7x r s,D7x s r,(i:Int),((D7x r s).take k).all (λx=>A4L p (D7x s r)[i] x),(k:Int))) (p,D7x r s,D7x s r,(i:Int),(D7x r s).all λx=>A4L p (D7x s r)[i] x) (λk hk=>by
   have nq:(k:Int)<((D7x r s).length:Int):=by omega
   simp only[eL,nq,decide_true,cond_true,aq,ar,ah hk,ah hi,ai,C1T hp,iQ (show k<9223372036854775807 by omega),vz hk,ef]
   cases ((D7x r s).take k).all λx=>A4L p (D7x s r)[i] x<;>simp) (by
   simp only[eL,ba,decide_false,cond_false,pN])
  exact key
 have key:=wo (f:=eR) (D7x s r) (λi=>(p,D7x r s,D7x s r,(i:Int))) (λy=>(D7x r s).all λx=>A4L p y x) (.inl true) (.inr ()) (λi hi=>by
  have eg:(i:Int)<((D7x s r).length:Int):=by omega
  simp only[eR,eg,decide_true,cond_true,inner i hi,ai,iQ (show i<9223372036854775807 by omega)]
  cases (D7x r s).all λx=>A4L p (D7x s r)[i] x<;>rfl) (by
  simp only[eR,ba,decide_false,cond_false])
 simp only[b7] at key;unfold E0o;simp only[D9I hr hs,D9I hs hr,ai];show (dk eR (p,D7x r s,D7x s r,0)).bind _=_;rw[key];unfold D7u;cases (D7x s r).any λy=>(D7x r s).all λx=>A4L p y x<;>rfl
theorem C9d:∀ {a b:List Int},a.length=b.length->((a.zip b).any λx=>x.1 != x.2)=!decide (a=b)
 | [],[],_=>rfl
 | [],_::_,h=>by simp at h
 |_::_,[],h=>by simp at h
 |x::a,y::b,h=>by
   have:=C9d (a:=a) (b:=b) (by simpa using h)
   simp only[List.zip_cons_cons,gK,this];by_cases c:x=y
   . simp[c]
   . simp[c]
theorem C7z {a b:List Int}(ha:a.length<=1000000):JA (a,b)=some (decide (a=b)):=by
 unfold JA;simp only;by_cases hn:a.length=b.length
 . have rV:((a.length:Int) != (b.length:Int))=false:=by simp [hn]
   rw[rV,cond_false];have key:=wo (f:=M0) (a.zip b) (λi=>(a,b,(i:Int))) (λx=>x.1 != x.2) (.inl false) (.inr ()) (λi hi=>by
    rw[sd] at hi;have Eg:i<a.length:=by omega
    have ot:i<b.length:=by omega
    have eg:(i:Int)<(a.length:Int):=by omega
    simp only[M0,eg,decide_true,cond_true,aq,ar,ah Eg,ah ot,ai,iQ (show i<9223372036854775807 by omega),List.getElem_zip]
    cases a[i] != b[i]<;>rfl) (by
    have:¬(((a.zip b).length:Int)<(a.length:Int)):=by rw[sd];omega
    simp only[M0,this,decide_false,cond_false])
   have key:dk M0 (a,b,0)=_:=key;rw[key];have e:=C9d hn;rw[e];cases decide (a=b)<;>rfl
 . have rV:((a.length:Int) != (b.length:Int))=true:=by
    rw[bne_iff_ne];omega
   rw[rV,cond_true]
   have:¬a=b:=λe=>hn (by rw[e])
   simp[this]
theorem B60 {v:List Int}{es:List (List Int)}{l:List Int}(ne:es.length<=1000000)(el:∀e∈es,e.length<=1000000):M1 ((v,es),l)=some (es.contains l):=by
 have key:=wo (f:=QX) es (λi=>((l,(i:Int)),v,es)) (λe=>decide (e=l)) (.inl true) (.inr ()) (λi hi=>by
  have eg:(i:Int)<(es.length:Int):=by omega
  simp only[QX,eg,decide_true,cond_true,aq,ar,ah hi,ai,C7z (el _ (aM hi)),iQ (show i<9223372036854775807 by omega)]
  cases decide (es[i]=l)<;>rfl) (by
  simp only[QX,ba,decide_false,cond_false])
 simp only[b7] at key;unfold M1;simp only;rw[key];have e:(es.any λe=>decide (e=l))=es.contains l:=by
  apply c6.2;rw[bj,fV];exact⟨λ⟨x,h1,h2⟩=>by rw[←of_decide_eq_true h2];exact h1,λh=>⟨l,h,decide_eq_true rfl⟩⟩
 rw[e];cases es.contains l<;>rfl
section
variable {v:List Int}{es:List (List Int)}(ne:es.length<=1000000)(el:∀e∈es,e.length<=1000000)
include ne el
theorem C1D (a b:Int):M4 ((v,es),a,b)=some (nbB es a b):=by
 unfold M4 nbB;have e1:(if b<a then b else a)=min a b:=by rw[Int.min_def];split<;>split<;>omega
 have e2:(if b>a then b else a)=max a b:=by rw[Int.max_def];split<;>split<;>omega
 simp only[e1,e2,B60 ne el,ai];by_cases c:a=b
 . simp[c]
 . have c':(a != b)=true:=by simpa using c
   simp[c',c]
end
section
variable {v:List Int}{es:List (List Int)}{p:PrV}{r:List Int}(ne:es.length<=1000000)(el:∀e∈es,e.length<=1000000)(hp:p.length<=1000000)(hr:r.length<=1000000)
include ne el hp hr
end
section
variable {v:List Int}{es:List (List Int)}{p:PrV}(ne:es.length<=1000000)(el:∀e∈es,e.length<=1000000)(hp:p.length<=1000000)(ha:Go.Hg.Acy p)
include ne el hp ha
end
end Go.Mid
namespace Go.Mid
open Go.Hg (asc A0A free A5O A09 before bef A5Q A3W A4z)
theorem D4V (x y:Int):Qx (x,y)=some (if x<y then -1 else if x>y then 1 else 0):=by
 unfold Qx HB;simp only[ai,bne_self_eq_false,cond_false];by_cases h1:x<y
 . simp[h1]
 . by_cases h2:x>y
   . simp[h1,h2]
   . simp[h1,h2]
theorem C7B {a b:List Int}(ha:a.length<=1000000):∃c:Int,Qy (a,b)=some c∧decide (c ≥ 0)=!before a b:=by
 have main:∀ (k i:Nat),a.length-i=k->i<=a.length->(∃ c:Int,dk Au (a,b,a,(a.length:Int),(i:Int))=some (.inl c)∧decide (c ≥ 0)=!(match bef (a.drop i) (b.drop i) with | some t=>t | none=>decide (a.length<b.length))) ∨
  (dk Au (a,b,a,(a.length:Int),(i:Int))=some (.inr (a,b))∧bef (a.drop i) (b.drop i)=none):=by
  intro k
  induction k with
  |zero =>
    intro i hk hi;obtain rfl:i=a.length:=by omega
    right;refine⟨qc ?_,by rw[eS];rfl⟩
    simp only[Au,ba,decide_false,cond_false]
  |succ k ih =>
    intro i hk hi;have h1:i<a.length:=by omega
    have vR:(i:Int)<(a.length:Int):=by omega
    rw[bY h1];by_cases h2:i<b.length
    . have sA:¬ (i:Int) ≥ (b.length:Int):=by omega
      rw[bY h2];simp only[bef];by_cases c:a[i]=b[i]
      . have st:Au (a,b,a,(a.length:Int),(i:Int))=some (.inl (a,b,a,(a.length:Int),((i+1:Nat):Int))):=by
         simp only[Au,vR,sA,decide_true,decide_false,cond_true,cond_false,aq,ar,ah h1,ah h2,ai,iQ (show i<9223372036854775807 by omega),D4V]
         simp[c]
        rw[vw st,if_pos c];exact ih (i+1) (by omega) (by omega)
      . left;have st:Au (a,b,a,(a.length:Int),(i:Int))=some (.inr (.inl (if a[i]<b[i] then -1 else 1))):=by
         simp only[Au,vR,sA,decide_true,decide_false,cond_true,cond_false,aq,ar,ah h1,ah h2,ai,D4V];by_cases d:a[i]<b[i]
         . simp[d]
         . have d2:a[i]>b[i]:=by omega
           simp[d,d2]
        refine⟨_,qc st,?_⟩;rw[if_neg c];by_cases d:a[i]<b[i]<;>simp[d]
    . left;have sA:(i:Int) ≥ (b.length:Int):=by omega
      have e:b.drop i=[]:=nP (by omega)
      have st:Au (a,b,a,(a.length:Int),(i:Int))=some (.inr (.inl 1)):=by
       simp only[Au,vR,sA,decide_true,cond_true,aq,ar,ah h1,ai]
      refine⟨1,qc st,?_⟩;rw[e];simp only[bef]
      have:¬a.length<b.length:=by omega
      simp[this]
 unfold Qy before;simp only;rcases main a.length 0 (by omega) (dg _) with⟨c,h1,h2⟩ | ⟨h1,h2⟩
 . have h1:dk Au (a,b,a,(a.length:Int),0)=_:=h1;rw[h1];exact⟨c,rfl,h2⟩
 . have h1:dk Au (a,b,a,(a.length:Int),0)=_:=h1;rw [h1];simp only [fh] at h2;rw [h2];by_cases d:a.length<b.length
   . refine⟨-1,by simp[d],by simp[d]⟩
   . refine⟨0,by simp[d],by simp[d]⟩
theorem B9o {α:Type}(p:Nat->α->Bool):∀ (l:List α) (i:Nat),(tm p l i).isSome=(l.zipIdx i).any λx=>p x.2 x.1
 | [],_=>rfl
 |x::r,i=>by
   simp only[tm,ji,gK];by_cases h:p i x=true
   . simp[h]
   . simp only[h,if_false,aI,gL];exact B9o p r (i+1)
theorem Nq {A B α:Type}{f:A->Option (A ⊕ B)}(l:List α)(st:Nat->A)(p:Nat->α->Bool)(b e:B)
 (h1:∀i (h:i<l.length),f (st i)=if p i l[i] then some (.inr b) else some (.inl (st (i+1)))) (h2:f (st l.length)=some (.inr e)) :
 dk f (st 0)=some (if(l.zipIdx.any λx=>p x.2 x.1) then b else e):=by
 rw[Ma l st p (λ_=>b) e h1 h2,←B9o p l 0]
 cases tm p l 0<;>rfl
section
variable {v:List Int}{es:List (List Int)}(nv:v.length<=1000000)(el:∀e∈es,e.length<=1000000)
include nv el
theorem B6w:Ms (v,es)=some (A4z v es):=by
 unfold Ms A4z;simp only[Xl nv,ai];cases ha:asc v with
 |false=>rfl
 |true =>
   simp only[bO,cond_false,dm];by_cases hn:es.length<=20000
   . have rV:¬ (es.length:Int)>20000:=by omega
     simp only[hn,rV,decide_true,decide_false,cond_false,dm];have k0:=Nq (f:=Mp) es (λi=>((es,(es.length:Int),(i:Int)),v,es)) (λi e=>!A5Q v es i e) (.inl false) (.inr (v,es)) (λi hi=>by
      have eg:(i:Int)<(es.length:Int):=by omega
      have hle:=el _ (aM hi);simp only[Mp,eg,decide_true,cond_true,aq,ar,ah hi,ai,Xl hle,Rh ha nv hle,iQ (show i<9223372036854775807 by omega)]
      unfold A5Q;by_cases h0:es[i]=[]
      . simp[h0]
      . have Db:((es[i].length:Int)==0)=false:=by
         rw[beq_eq_false_iff_ne]
         have:=gQ.2 h0
         omega
        have HJ:es[i].isEmpty=false:=by cases hc:es[i] with | nil=>exact absurd hc h0 | cons _ _=>rfl
        rw[Db,cond_false,HJ];cases asc es[i] with
        |false=>rfl
        |true =>
          cases A0A es[i] v with
          |false=>rfl
          |true =>
            simp only[bO,cond_false,ej,dm];by_cases hz:i=0
            . subst hz;simp
            . have hp:(i:Int)>0:=by omega
              have Co:(i==0)=false:=by simpa using hz
              obtain ⟨c,h1,h2⟩:=C7B (a:=es[i-1]) (b:=es[i]) (el _ (aM _));simp only [hp,decide_true,cond_true,Av (show 1<=i by omega) (by omega),aq,ar,ah (show i-1<es.length by omega),ai,h1,h2,Co,gL,
               bh,bI]
              cases before es[i-1] es[i]<;>simp) (by
      simp only[Mp,ba,decide_false,cond_false])
     have k0:dk Mp ((es,(es.length:Int),0),v,es)=_:=k0;rw[k0];cases hb:es.zipIdx.any λx=>!A5Q v es x.2 x.1 with
     |true=>rfl
     |false =>
       have kN:∀i (h:i<es.length),A5Q v es i es[i]=true:=by
        intro i hi
        have:=gA.1 hb (es[i],i) (Go.Hg.kY.2 ⟨hi,rfl⟩)
        simpa using this
       have q0:∀i (h:i<es.length),asc es[i]=true:=by
        intro i hi
        have:=kN i hi
        unfold A5Q at this;simp only[aj] at this;exact this.1.1.2
       have k2:∀i (h:i<es.length),dk Mq (((i:Int),es[i],es,(es.length:Int),(i:Int),es,(es.length:Int),0),v,es)=some (if A3W es i es[i] then .inl false else .inr ((es,(es.length:Int),(i:Int)),v,es)):=by
        intro i hi;have k:=Nq (f:=Mq) es (λk=>(((i:Int),es[i],es,(es.length:Int),(i:Int),es,(es.length:Int),(k:Int)),v,es)) (λk y=>k != i&&A0A y es[i]) (.inl false) (.inr ((es,(es.length:Int),(i:Int)),v,es)) (λk hk=>by
         have nq:(k:Int)<(es.length:Int):=by omega
         simp only[Mq,nq,decide_true,cond_true,aq,ar,ah hk,ai,Rh (q0 i hi) (el _ (aM hi)) (el _ (aM hk)),iQ (show k<9223372036854775807 by omega)]
         by_cases c:k=i
         . subst c;simp
         . have c':((i:Int) != (k:Int))=true:=by rw [bne_iff_ne];omega
           have c2:(k != i)=true:=by simpa using c
           rw[c',c2,cond_true];cases A0A es[k] es[i]<;>rfl) (by
         simp only[Mq,ba,decide_false,cond_false])
        exact k
       have k1:=Nq (f:=Mr) es (λi=>((es,(es.length:Int),(i:Int)),v,es)) (λi e=>A3W es i e) (.inl false) (.inr ()) (λi hi=>by
        have eg:(i:Int)<(es.length:Int):=by omega
        simp only[Mr,eg,decide_true,cond_true,aq,ar,ah hi,ai,k2 i hi,iQ (show i<9223372036854775807 by omega)]
        cases A3W es i es[i] with
        |true=>rfl
        |false=>simp[iQ (show i<9223372036854775807 by omega)]) (by
        simp only[Mr,ba,decide_false,cond_false])
       have k1:dk Mr ((es,(es.length:Int),0),v,es)=_:=k1;simp only[if_false,aI,ai,Sum.elim_inr];rw[k1];cases es.zipIdx.any λx=>A3W es x.2 x.1<;>rfl
   . have rV:(es.length:Int)>20000:=by omega
     simp[hn,rV]
theorem C0p:Q3 (v,es)=some (A4z v es):=by
 unfold Q3 A4z;simp only[Xo nv,ai];cases ha:asc v with
 |false=>rfl
 |true =>
   simp only[bO,cond_false,dm];by_cases hn:es.length<=20000
   . have rV:¬ (es.length:Int)>20000:=by omega
     simp only[hn,rV,decide_true,decide_false,cond_false,dm];have k1:∀i (h:i<es.length),dk JD (((i:Int),0),v,es)=some (if A3W es i es[i] then .inl false else .inr ((i:Int),v,es)):=by
      intro i hi;have k:=Nq (f:=JD) es (λk=>(((i:Int),(k:Int)),v,es)) (λk y=>k != i&&A0A y es[i]) (.inl false) (.inr ((i:Int),v,es)) (λk hk=>by
       have nq:(k:Int)<(es.length:Int):=by omega
       simp only[JD,nq,decide_true,cond_true,aq,ar,ah hk,ah hi,ai,A6P (el _ (aM hk)) (el _ (aM hi)),iQ (show k<9223372036854775807 by omega)]
       by_cases c:k=i
       . subst c;simp
       . have c':((k:Int) != (i:Int))=true:=by rw [bne_iff_ne];omega
         have c2:(k != i)=true:=by simpa using c
         rw[c',c2,cond_true];cases A0A es[k] es[i]<;>rfl) (by
       simp only[JD,ba,decide_false,cond_false])
      exact k
     have k0:=Nq (f:=M6) es (λi=>((i:Int),v,es)) (λi e=>!A5Q v es i e || A3W es i e) (.inl false) (.inr ()) (λi hi=>by
      have eg:(i:Int)<(es.length:Int):=by omega
      have hle:=el _ (aM hi);simp only[M6,eg,decide_true,cond_true,aq,ar,ah hi,ai,Xo hle,A6P hle nv,k1 i hi,iQ (show i<9223372036854775807 by omega)]
      unfold A5Q;by_cases h0:es[i]=[]
      . simp[h0]
      . have Db:((es[i].length:Int)==0)=false:=by
         rw[beq_eq_false_iff_ne]
         have:=gQ.2 h0
         omega
        have HJ:es[i].isEmpty=false:=by cases hc:es[i] with | nil=>exact absurd hc h0 | cons _ _=>rfl
        rw[Db,cond_false,HJ];cases asc es[i] with
        |false=>rfl
        |true =>
          cases A0A es[i] v with
          |false=>rfl
          |true =>
            simp only[bO,cond_false,ej,dm];by_cases hz:i=0
            . subst hz;cases A3W es 0 es[0]<;>simp[iQ (show 0<9223372036854775807 by omega)]
            . have hp:(i:Int)>0:=by omega
              have Co:(i==0)=false:=by simpa using hz
              simp only [hp,decide_true,cond_true,Av (show 1<=i by omega) (by omega),aq,ar,ah (show i-1<es.length by omega),ai,B4z (el _ (aM (show i-1<es.length by omega))),Co,gL,
               bh,bI]
              cases before es[i-1] es[i] with
              |false=>rfl
              |true=>cases A3W es i es[i]<;>simp[iQ (show i<9223372036854775807 by omega)]) (by
      simp only[M6,ba,decide_false,cond_false])
     have k0:dk M6 (0,v,es)=_:=k0;rw[k0];have e:(es.zipIdx.any λx=>!A5Q v es x.2 x.1 || A3W es x.2 x.1)=((es.zipIdx.any λx=>!A5Q v es x.2 x.1) || (es.zipIdx.any λx=>A3W es x.2 x.1)):=by
      generalize es.zipIdx=L
      induction L with
      |nil=>rfl
      |cons x r ih =>
        simp only[gK,ih];cases A5Q v es x.2 x.1<;>cases A3W es x.2 x.1<;>simp
     rw[e];cases es.zipIdx.any λx=>!A5Q v es x.2 x.1<;>cases es.zipIdx.any λx=>A3W es x.2 x.1<;>rfl
   . have rV:(es.length:Int)>20000:=by omega
     simp[hn,rV]
end
end Go.Mid
namespace Go.Mid
open Go.Hg (asc A0A A09 B3h less A2w bitsFrom A0t idsP C2g C3X C3Y later D01 D4P B9j A4z HOk)
def jG (l:List Nat):List Int:=l.map λ(n:Nat)=>(n:Int)
@[simp] theorem CW (l:List Nat):(jG l).length=l.length:=by simp[jG]
theorem FF {l:List Nat}{i:Nat}(h:i<l.length):(jG l)[i]?=some ((l[i]:Nat):Int):=by
 unfold jG;rw[List.getElem?_map,ah h];rfl
theorem D06 (a b:List Nat):jG (a++b)=jG a++jG b:=by simp[jG]
theorem C4a {v e:List Int}(he:∀y∈e,y∈v):A2w v e<2 ^ v.length:=Go.Hg.xZ λi hi=>Go.Hg.wu he i hi
theorem C9f (n:Nat):(((n:Nat):Int)==0)=(n==0):=by
 cases n with
 |zero=>rfl
 |succ n=>rfl
section
variable {n:Nat}{E:List Nat}(hn:n<=40)(hE:∀e∈E,e<2 ^ n)(nE:E.length<=1000000)
include hn hE nE
end
section
variable {v:List Int}{es:List (List Int)}(H:HOk v es)(el:∀e∈es,e.length<=1000000)
include H el
end
end Go.Mid
namespace Go.Mid
open Go.Hg (asc A0A A5O A09 before A4q idsP pick A7d A06 hEs A75 A4b A4S A5P PrV nbB A4L)
theorem C9g {s:Nat}(h:s<4294967296):cG.wrap (s:Int)=(s:Int):=HH (k:=.u32) rfl h
theorem C7C {s i:Nat}(hs:s<4294967296)(hi:i<32):Qz ((s:Int),(i:Int))=some (s.testBit i):=by
 unfold Qz;have h1:((i:Int) ≥ 0):=by omega
 have h2:((i:Int)<32):=by omega
 simp only[h1,h2,decide_true,cond_true,aq,D4U (k:=.u32) rfl (show i<=32 by omega) (by decide) (show s<2 ^ cG.bits from hs)]
 cases s.testBit i<;>rfl
theorem C4V {v:List Int}{es:List (List Int)}(nv:v.length<=20){s:Nat}(hs:s<4294967296):QA ((v,es),(s:Int))=some (pick v s):=by
 have zL:pick v s=idsP (v.take 8) s:=rfl;have Xs:idsP (v.take (min v.length 8)) s=idsP (v.take 8) s:=by
  by_cases h:v.length<=8
  . rw[cX h,dM,a6 h]
  . rw[jk (by omega)]
 have key:=tQ (f:=Ji) (min v.length 8) (λi=>(((s:Int),(idsP (v.take i) s).length,(i:Int)),(v,es),idsP (v.take i) s)) ((idsP (v.take 8) s).length,idsP (v.take 8) s) (λi hi=>by
  have AX:i<v.length:=by omega
  have eg:(i:Int)<(v.length:Int):=by omega
  have hi8:(i:Int)<8:=by omega
  have hl:=D05 (v.take i) s;rw [aW] at hl;simp only [Ji,eg,hi8,decide_true,cond_true,aq,ar,C9g hs,C7C hs (show i<32 by omega),ah AX,ai,iQ (show i<9223372036854775807 by omega),C9c AX,
   jE (ay _),jE (show ((idsP (v.take i) s).length+1)*8<=140737488355328 by omega),pN]
  cases s.testBit i<;>simp) (by
  rw[Xs];by_cases h:v.length<=8
  . have h':¬ ((min v.length 8:Nat):Int)<(v.length:Int):=by omega
    simp only[Ji,h',decide_false,cond_false]
  . have h1:((min v.length 8:Nat):Int)<(v.length:Int):=by omega
    have h2:¬((min v.length 8:Nat):Int)<8:=by omega
    simp only[Ji,h1,h2,decide_true,decide_false,cond_true,cond_false])
 have key:dk Ji (((s:Int),0,0),(v,es),[])=_:=key;unfold QA;simp only;rw[key,zL];simp only[ai,jE (ay _),cond_true,pN]
theorem Xt {α:Type}{l:List α}{i:Nat}(h:i<l.length):(l.take (i+1)).zipIdx=(l.take i).zipIdx++[(l[i],i)]:=by
 rw[vz h,p8];simp[cX (fH h)]
theorem B3i (ls:List (List Int)):∀ (l:List (List Int)) (i:Nat) (out:List (List Int)),A4S ls l i out=(l.zipIdx i).foldl (λout x=>A4b ls x.2 x.1 out) out
 | [],_,_=>rfl
 |x::r,i,out=>by
   simp only[A4S,ji,jM,B3i ls r]
section
variable {ls:List (List Int)}(nl:ls.length<=1000)(el:∀e∈ls,e.length<=100000)
def o6 (ls:List (List Int))(i:Nat):List (List Int):=(ls.take i).zipIdx.foldl (λout x=>A4b ls x.2 x.1 out) []
theorem C1F {i:Nat}(h:i<ls.length):o6 ls (i+1)=A4b ls i ls[i] (o6 ls i):=by
 unfold o6;rw[Xt h,iK];rfl
include el in
theorem C4b:∀ i,i<=ls.length->(o6 ls i).length<=i∧∀ x∈o6 ls i,x.length<=100000
 |0,_=>⟨ay _,λx hx=>by simp[o6] at hx⟩
 |i+1,h=>by
   obtain⟨h1,h2⟩:=C4b i (by omega)
   rw[C1F (by omega)]
   unfold A4b;split
   . refine ⟨by rw [C36];simp;omega,λx hx=>?_⟩
     rcases az.1 (C37 _ _ x hx) with h | h
     . exact h2 x h
     . simp only[aX] at h;subst h;exact el _ (aM _)
   . exact⟨by omega,h2⟩
include nl el in
theorem C4c:Mw ls=some (A5P ls):=by
 have l1:∀(i n:Nat) (out:List (List Int)) (h:i<ls.length),dk Mu ((ls,n,(i:Int),true,0),out)=some ((ls,n,(i:Int),A75 ls i ls[i]),out):=by
  intro i n out hi;have key:=tQ (f:=Mu) ls.length (λk=>((ls,n,(i:Int),(ls.take k).zipIdx.all (λy=>!(A0A y.1 ls[i]&&(decide (y.1.length<ls[i].length) || decide (y.2<i)))),(k:Int)),out)) ((ls,n,(i:Int),A75 ls i ls[i]),out) (λk hk=>by
   have nq:(k:Int)<(ls.length:Int):=by omega
   have e1:=el _ (aM hk);have e2:=el _ (aM hi);simp only [Mu,nq,decide_true,cond_true,aq,ar,ah hk,ah hi,ai,A6P (show ls[k].length<=1000000 by omega) (show ls[i].length<=1000000 by omega),iQ (show k<9223372036854775807 by omega),Xt hk,ef,
    List.all_cons,List.all_nil,Bool.and_true]
   cases A0A ls[k] ls[i] with
   |false=>simp
   |true =>
     by_cases c1:ls[k].length<ls[i].length
     . have Rk:((ls[k].length:Int)<(ls[i].length:Int)):=by omega
       simp[c1,Rk]
     . have Rk:¬ ((ls[k].length:Int)<(ls[i].length:Int)):=by omega
       by_cases c2:k<i
       . have Ei:((k:Int)<(i:Int)):=by omega
         simp[c1,Rk,c2,Ei]
       . have Ei:¬ ((k:Int)<(i:Int)):=by omega
         simp[c1,Rk,c2,Ei]) (by
   simp only[Mu,ba,decide_false,cond_false,pN];rfl)
  exact key
 have key:=tQ (f:=Mv) ls.length (λi=>((ls,(o6 ls i).length,(i:Int)),o6 ls i)) ((o6 ls ls.length).length,o6 ls ls.length) (λi hi=>by
  have eg:(i:Int)<(ls.length:Int):=by omega
  obtain⟨h1,h2⟩:=C4b el i (fH hi);have e2:=el _ (aM hi);simp only[Mv,eg,decide_true,cond_true,l1 i _ _ hi,ai,C1F hi];unfold A4b;cases A75 ls i ls[i] with
  |false=>simp[iQ (show i<9223372036854775807 by omega)]
  |true =>
    have Aw:(o6 ls i++[ls[i]]).length=(o6 ls i).length+1:=by simp
    have hw:af.wrap ((((o6 ls i).length+1:Nat):Int)-1)=((o6 ls i).length:Int):=by
     rw[Av (by omega) (by omega)];rfl
    have sk:dk QD ((ls,(o6 ls i).length+1,(i:Int),((o6 ls i).length:Int)),o6 ls i++[ls[i]])=some ((ls,(o6 ls i).length+1,(i:Int)),A4q (o6 ls i).length (o6 ls i++[ls[i]])):=by
     refine B9n (λk o=>((ls,(o6 ls i).length+1,(i:Int),(k:Int)),o)) (λo=>((ls,(o6 ls i).length+1,(i:Int)),o)) ((o6 ls i).length+1) (λk out hn hx h=>?_) (λout=>?_) (o6 ls i).length (o6 ls i++[ls[i]]) (by rw[Aw];omega) Aw (λx hx=>?_)
     . have Ic:((k+1:Nat):Int)>0:=by omega
       have e1:k+1<(o6 ls i).length+1:=by omega
       have e2:k<(o6 ls i).length+1:=by omega
       have e3:k<out.length:=by omega
       simp only [QD,Ic,decide_true,cond_true,aq,ar,lB e1,lB e2,ah h,ah e3,ai,Av (show 1<=k+1 by omega) (by omega),dT,
        B4z (hx _ (aM h))]
       have e4:(out.set (k+1) out[k])[k]?=some out[k]:=by rw[List.getElem?_set_ne (by omega),ah e3]
       rw[e4];cases before out[k+1] out[k]<;>simp
     . simp[QD]
     . rcases az.1 hx with h | h
       . have:=h2 x h;omega
       . simp only[aX] at h;subst h;omega
    have xj:(A4q (o6 ls i).length (o6 ls i++[ls[i]])).length=(o6 ls i).length+1:=by rw[C36,Aw]
    simp only [bO,cond_false,aq,decide_true,cond_true,if_true,ar,ah hi,ai,bS,gH,a7,dM,jE (ay _),jE (show ls[i].length*8<=140737488355328 by omega),
     jE (show ((o6 ls i).length+1)*24<=140737488355328 by omega),pN,hw,sk,iQ (show i<9223372036854775807 by omega),xj]) (by
  simp only[Mv,ba,decide_false,cond_false])
 have key:dk Mv ((ls,0,0),[])=_:=key;unfold Mw;rw[key];have e:o6 ls ls.length=A5P ls:=by
  unfold o6 A5P;rw[B3i,pN]
 simp only[ai,jE (ay _),cond_true,pN,e]
end
theorem D5K (N:Nat):af.wrap ((N:Int).tmod 9)=((N%9:Nat):Int):=by
 have e:(N:Int).tmod 9=((N%9:Nat):Int):=(sU N 9).symm;rw[e];exact Qn (by omega)
theorem D4W (N:Nat)(E:List Int)(n:Nat)(hn:n<=9):dk Mx (((n:Int),0),((N:Int),E),(([],0),[],0),([],0),[],0)=some (((N:Int),E),(([],0),[],0),(A06 n,n),[],0):=by
 have key:=tQ (f:=Mx) n (λi=>(((n:Int),(i:Int)),((N:Int),E),(([],0),[],0),(A06 i,i),[],0)) (((N:Int),E),(([],0),[],0),(A06 n,n),[],0) (λi hi=>by
  have eg:(i:Int)<(n:Int):=by omega
  have hl:(A06 i).length=i:=Go.Hg.lO i;have e1:af.wrap (2+af.wrap (3*(i:Int)))=2+3*(i:Int):=by
   rw[wrap_i64 (x:=3*(i:Int)) (by omega) (by omega),wrap_i64 (by omega) (by omega)]
  have Wn:(A06 i++[2+3*(i:Int)]).length=i+1:=by simp
  simp only[Mx,eg,decide_true,cond_true,beq_self_eq_true,hl,jE (ay _),jE (show (i+1)*8<=140737488355328 by omega),e1,a6 (e7 hl),Wn,iQ (show i<9223372036854775807 by omega),Go.Hg.yc]) (by
  simp only[Mx,ba,decide_false,cond_false])
 exact key
def CX (V:List Int)(E:List Nat)(i:Nat):List (List Int):=((E.take i).map (pick V)).filter λe=>!e.isEmpty
theorem C4d (V:List Int){E:List Nat}{i:Nat}(h:i<E.length):CX V E (i+1)=CX V E i++if(pick V E[i]).isEmpty then[] else[pick V E[i]]:=by
 unfold CX;rw[vz h,b9,s8];congr 1;simp only[List.map_cons,List.map_nil,jl,List.filter_nil];cases (pick V E[i]).isEmpty<;>rfl
theorem C4W (V:List Int)(E:List Nat)(i:Nat):(CX V E i).length<=i:=by
 unfold CX;refine dF (dt _ _) ?_;rw[aB,aW];omega
theorem C7D {N:Nat}{E:List Nat}(hE:∀e∈E,e<256):QE ((N:Int),jG E)=some ((A06 (N%9),hEs N E),decide (E.length<=12)):=by
 have hn:N%9<=9:=by omega
 have Dt:(A06 (N%9)).length=N%9:=Go.Hg.lO _;have key:=tQ (f:=Jm) (min E.length 12) (λi=>(((CX (A06 (N%9)) E i).length,(i:Int)),((N:Int),jG E),(([],0),[],0),((A06 (N%9),N%9),[],0),CX (A06 (N%9)) E i))
  ((A7d (A06 (N%9)) E).length,((N:Int),jG E),(([],0),[],0),((A06 (N%9),N%9),[],0),A7d (A06 (N%9)) E) (λi hi=>by
  have AX:i<E.length:=by omega
  have eg:(i:Int)<((jG E).length:Int):=by rw[CW];omega
  have Xu:(i:Int)<12:=by omega
  have hl:=C4W (A06 (N%9)) E i;have hb:=hE _ (aM AX);simp only [Jm,eg,Xu,decide_true,cond_true,aq,ar,FF AX,ai,Dt,jE (ay _),List.length_nil,gH,a6 (e7 Dt),C4V (show (A06 (N%9)).length<=20 by omega) (show E[i]<4294967296 by omega),
   jE (show ((CX (A06 (N%9)) E i).length+1)*24<=140737488355328 by omega),pN,iQ (show i<9223372036854775807 by omega),C4d (A06 (N%9)) AX]
  cases hp:pick (A06 (N%9)) E[i] with
  |nil=>simp
  |cons a r =>
    have:(((a::r).length:Int)>0):=by simp
    simp only[this,decide_true,cond_true,List.isEmpty_cons,aI,if_false,aR,dN]) (by
  have e:CX (A06 (N%9)) E (min E.length 12)=A7d (A06 (N%9)) E:=by
   unfold CX A7d;congr 2;by_cases h:E.length<=12
   . rw[cX h,dM,a6 h]
   . rw[jk (by omega)]
  rw[e];by_cases h:E.length<=12
  . have h':¬ ((min E.length 12:Nat):Int)<((jG E).length:Int):=by rw [CW];omega
    simp only[Jm,h',decide_false,cond_false]
  . have h1:((min E.length 12:Nat):Int)<((jG E).length:Int):=by rw [CW];omega
    have h2:¬((min E.length 12:Nat):Int)<12:=by omega
    simp only[Jm,h1,h2,decide_true,decide_false,cond_true,cond_false])
 have key:dk Jm ((0,0),((N:Int),jG E),(([],0),[],0),((A06 (N%9),N%9),[],0),[])=_:=key;have hed:Mw (A7d (A06 (N%9)) E)=some (hEs N E):=by
  refine C4c (by have:=Go.Hg.qu N E;omega) λe he=>?_
  obtain⟨_,s,rfl⟩:=Go.Hg.oV he
  have:=Go.Hg.wq (A06 (N%9)) s
  omega
 unfold QE;simp only[D5K,D4W N (jG E) (N%9) hn,ai,key,jE (ay _),cond_true,pN,hed,Dt,a6 (e7 Dt)];by_cases h:E.length<=12
 . have h':((jG E).length:Int)<=12:=by rw [CW];omega
   simp[h];omega
 . have h':¬ ((jG E).length:Int)<=12:=by rw [CW];omega
   simp[h];omega
def Rl (y:Nat)(s:Nat×Nat)(k:Nat):Nat×Nat:=if y.testBit k&&decide (s.1<2) then(s.1+1,s.2 ||| 1 <<< k) else s
def tn (y k:Nat):Nat×Nat:=(bA k).foldl (Rl y) (0,0)
def pR (y:Nat):Nat:=(tn y 8).2
theorem B9p (y k:Nat):tn y (k+1)=Rl y (tn y k) k:=by
 unfold tn;rw[jO,iK];rfl
theorem Rm (y:Nat):∀ k,(tn y k).1<=2∧(tn y k).2<2 ^ k∧((bA k).filter λi=>(tn y k).2.testBit i).length=(tn y k).1
 |0=>⟨by simp[tn],by simp[tn],rfl⟩
 |k+1=>by
   obtain⟨h1,h2,h3⟩:=Rm y k;rw[B9p];unfold Rl;have hp:2 ^ k<2 ^ (k+1):=oM (by decide) (kS k)
   split
   . rename_i hc;simp only [aj,decide_eq_true_eq] at hc;refine ⟨by show (tn y k).1+1<=2;omega,fA (by omega) (xq (kS k)),?_⟩
     rw[jO,s8,aR];have e1:((bA k).filter λi=>((tn y k).2 ||| 1 <<< k).testBit i)=(bA k).filter λi=>(tn y k).2.testBit i:=by
      refine mM λi hi=>?_
      have:=cu.1 hi
      rw[fj,Go.Hg.lN];have hne:¬i=k:=by omega
      simp[hne]
     rw[e1,h3];simp[fj,Go.Hg.lN]
   . refine ⟨h1,by omega,?_⟩
     rw[jO,s8,aR,h3]
     have:(tn y k).2.testBit k=false:=fM h2
     simp[this]
theorem D2Y (y:Nat):pR y<256:=(Rm y 8).2.1
theorem C9h (V:List Int)(y:Nat):(pick V (pR y)).length<=2:=by
 obtain⟨h1,_,h3⟩:=Rm y 8
 have:(pick V (pR y)).length<=((bA 8).filter λi=>(tn y 8).2.testBit i).length:=by
  unfold pick;rw[aB];have e:((V.take 8).zipIdx.filter λx=>(pR y).testBit x.2).length=(((V.take 8).zipIdx.filter λx=>(pR y).testBit x.2).map (·.2)).length:=by rw[aB]
  rw[e];have e2:((V.take 8).zipIdx.filter λx=>(pR y).testBit x.2).map (·.2)=(bA (V.take 8).length).filter λi=>(pR y).testBit i:=by
   have:(V.take 8).zipIdx.map (·.2)=bA (V.take 8).length:=by
    rw[List.zipIdx_map_snd,lr]
   rw[←this,List.filter_map];rfl
  rw[e2];have hl:(V.take 8).length<=8:=by rw[aW];omega
  have hs:(bA (V.take 8).length).Sublist (bA 8):=List.range_sublist.2 hl;exact(hs.filter _).length_le
 omega
theorem D1C {k:IntKind}{m i:Nat}(hi:i<=k.bits):((jK k (m:Int) (i:Int)).tmod 2==1)=m.testBit i:=by
 rw[D4S hi]
 have:((m >>> i:Nat):Int).tmod 2=(((m >>> i)%2:Nat):Int):=(sU (m >>> i) 2).symm
 rw[this,←jU,C5S,nO,dG];cases m.testBit i<;>rfl
abbrev Z0:(List Int×Nat)×List (List Int)×Nat:=(([],0),[],0)
section
variable {N:Nat}{E:List Nat}{R:List Int}{skip:Nat}
theorem D5L (c:Nat){i:Nat}(hi:i<E.length)(cut:List Int):dk Mz ((c,(i:Int),0,0,0),((N:Int),jG E),(R,(skip:Int)),Z0,cut)=some ((c,(i:Int),((pR E[i]:Nat):Int)),((N:Int),jG E),(R,(skip:Int)),Z0,cut):=by
 have key:=tQ (f:=Mz) 8 (λk=>((c,(i:Int),(((tn E[i] k).1:Nat):Int),(((tn E[i] k).2:Nat):Int),(k:Int)),((N:Int),jG E),(R,(skip:Int)),Z0,cut)) ((c,(i:Int),((pR E[i]:Nat):Int)),((N:Int),jG E),(R,(skip:Int)),Z0,cut) (λk hk=>by
  have nq:(k:Int)<8:=by omega
  obtain⟨h1,h2,_⟩:=Rm E[i] k;have hp:(tn E[i] k).2<2 ^ IntKind.u8.bits:=br h2 (ez (by decide) (show k<=8 by omega))
  have e1:qZ .u8 1 (k:Int)=((1 <<< k:Nat):Int):=D4T (k:=.u8) rfl (m:=1) (show k<=8 by omega) (xq (show k<8 by omega))
  have e2:=HI (k:=.u8) rfl hp (xq (show k<8 by omega))
  simp only[Mz,nq,decide_true,cond_true,aq,ar,FF hi,ai,D1C (k:=.u8) (show k<=8 by omega),iQ (show k<9223372036854775807 by omega),B9p,Rl,e1,e2]
  cases hb:E[i].testBit k with
  |false=>simp
  |true =>
    by_cases c2:(tn E[i] k).1<2
    . have Ei:(((tn E[i] k).1:Nat):Int)<2:=by omega
      simp[c2,Ei,iQ (show (tn E[i] k).1<9223372036854775807 by omega)]
    . have Ei:¬ (((tn E[i] k).1:Nat):Int)<2:=by omega
      simp[c2,Ei]) (by
  simp[Mz,pR])
 exact key
theorem D5M (hE:E.length<=reachBytes):dk MA ((0,0),((N:Int),jG E),(R,(skip:Int)),Z0,[])=some (E.length,((N:Int),jG E),(R,(skip:Int)),Z0,jG (E.map pR)):=by
 have hr:reachBytes=140737488351232:=rfl;have key:=tQ (f:=MA) E.length (λi=>((i,(i:Int)),((N:Int),jG E),(R,(skip:Int)),Z0,jG ((E.take i).map pR))) (E.length,((N:Int),jG E),(R,(skip:Int)),Z0,jG (E.map pR)) (λi hi=>by
  have eg:(i:Int)<((jG E).length:Int):=by rw[CW];omega
  have hl:(jG ((E.take i).map pR)).length=i:=by simp;omega
  have e1:jG ((E.take (i+1)).map pR)=jG ((E.take i).map pR)++[((pR E[i]:Nat):Int)]:=by
   rw[vz hi,b9,D06];rfl
  have l1:=D5L (N:=N) (R:=R) (skip:=skip) i hi (jG ((E.take i).map pR));simp only[MA,eg,decide_true,cond_true,l1,ai,hl,jE (ay _),jE (show (i+1)*1<=140737488355328 by omega),a6 (e7 hl),iQ (show i<9223372036854775807 by omega),e1]) (by
  simp only[MA,CW,ba,decide_false,cond_false,pN])
 exact key
end
def wz (v:List Int)(R:List Int)(x:Int):Int:=match tm (λ_ y=>y==x) (v.take R.length) 0 with | some i=>R.getD i 0 | none=>0
theorem C4X {v:List Int}{es:List (List Int)}{R:List Int}(nv:v.length<=1000)(sk x:Int):My ((v,es),(R,sk),x)=some (wz v R x):=by
 have hl:(v.take R.length).length=min R.length v.length:=aW;have key:=Ma (f:=Jn) (v.take R.length) (λi=>((x,(i:Int)),(v,es),R,sk)) (λ_ y=>y==x) (λi=>.inl (R.getD i 0)) (.inr ()) (λi hi=>by
  rw[hl] at hi;have h1:i<v.length:=by omega
  have h2:i<R.length:=by omega
  have vR:(i:Int)<(v.length:Int):=by omega
  have sA:(i:Int)<(R.length:Int):=by omega
  simp only[Jn,vR,sA,decide_true,cond_true,aq,ar,ah h1,ah h2,ai,iQ (show i<9223372036854775807 by omega),List.getElem_take,bh,bI]
  cases v[i]==x<;>rfl) (by
  rw[hl];by_cases h1:R.length<v.length
  . have vR:((min R.length v.length:Nat):Int)<(v.length:Int):=by omega
    have sA:¬((min R.length v.length:Nat):Int)<(R.length:Int):=by omega
    simp only[Jn,vR,sA,decide_true,decide_false,cond_true,cond_false]
  . have vR:¬ ((min R.length v.length:Nat):Int)<(v.length:Int):=by omega
    simp only[Jn,vR,decide_false,cond_false])
 have key:dk Jn ((x,0),(v,es),R,sk)=_:=key;unfold My wz;simp only;rw[key];cases tm (λ_ y=>y==x) (v.take R.length) 0<;>rfl
def FG (v R:List Int)(skip:Nat)(e:List Int)(i:Nat):PrV:=match e with
 |a::b::_=>if skip.testBit i then[] else if wz v R a>wz v R b then[(b,a)] else[(a,b)]
 |_=>[]
def CY (v R:List Int)(skip:Nat)(es:List (List Int))(i:Nat):PrV:=(es.take i).zipIdx.flatMap λx=>FG v R skip x.1 x.2
def BT (v R:List Int)(skip:Nat)(es:List (List Int)):PrV:=CY v R skip es es.length
theorem C9i (v R:List Int)(skip:Nat)(e:List Int)(i:Nat):(FG v R skip e i).length<=1:=by
 unfold FG;split
 . split
   . simp
   . split<;>simp
 . simp
theorem C1G (v R:List Int)(skip:Nat){es:List (List Int)}{i:Nat}(h:i<es.length):CY v R skip es (i+1)=CY v R skip es i++FG v R skip es[i] i:=by
 unfold CY;rw[Xt h,pc];simp
theorem Xv (v R:List Int)(skip:Nat)(es:List (List Int)):∀ i,i<=es.length->(CY v R skip es i).length<=i
 |0,_=>by simp[CY]
 |i+1,h=>by
   rw[C1G v R skip (by omega),aR]
   have h1:=Xv v R skip es i (by omega)
   have h2:=C9i v R skip es[i] i;omega
theorem D5N {v R:List Int}{skip:Nat}{es:List (List Int)}(nv:v.length<=1000)(ne:es.length<=12)(ok:Bool) :
 dk MB ((ok,0,0),(R,(skip:Int)),Z0,(v,es),[])=some ((ok,(BT v R skip es).length),Z0,(v,es),BT v R skip es):=by
 have key:=tQ (f:=MB) es.length (λi=>((ok,(CY v R skip es i).length,(i:Int)),(R,(skip:Int)),Z0,(v,es),CY v R skip es i)) ((ok,(BT v R skip es).length),Z0,(v,es),BT v R skip es) (λi hi=>by
  have eg:(i:Int)<(es.length:Int):=by omega
  have hl:=Xv v R skip es i (by omega)
  simp only [MB,eg,decide_true,cond_true,aq,ar,ah hi,ai,D1C (k:=.u16) (show i<=16 by omega),C4X nv,jE (ay _),jE (show ((CY v R skip es i).length+1)*16<=140737488355328 by omega),pN,
   iQ (show i<9223372036854775807 by omega),C1G v R skip hi]
  unfold FG
  match hm:es[i] with
  | []=>simp
  | [a]=>simp
  |a::b::r =>
    have h2:¬(((a::b::r).length:Int)<2):=by simp;omega
    simp only[h2,decide_false,cond_false,bQ,List.getElem?_cons_succ,ai];cases skip.testBit i with
    |true=>simp
    |false =>
      by_cases c:wz v R a>wz v R b
      . simp[c]
      . simp[c]) (by
  simp only[MB,ba,decide_false,cond_false];rfl)
 exact key
theorem C9j {N:Nat}{E:List Nat}{R:List Int}{skip:Nat}(hE:E.length<=reachBytes):MD (((N:Int),jG E),R,(skip:Int)) =
 some ((A06 (N%9),hEs N (E.map pR)),BT (A06 (N%9)) R skip (hEs N (E.map pR)),decide (E.length<=12)):=by
 have hl:(jG (E.map pR)).length=E.length:=by simp
 have h8:∀e∈E.map pR,e<256:=by
  intro e he;obtain⟨y,_,rfl⟩:=bp.1 he;exact D2Y y
 unfold MD;have Dt:(A06 (N%9)).length=N%9:=Go.Hg.lO _;have hy:=C7D (N:=N) h8;rw[aB] at hy;have l0:=D5M (N:=N) (R:=R) (skip:=skip) hE;have l2:=D5N (v:=A06 (N%9)) (R:=R) (skip:=skip) (es:=hEs N (E.map pR)) (by omega) (Go.Hg.pP _ _) (decide (E.length<=12))
 simp only[l0,ai,hl,jE (ay _),cond_true,a6 (e7 hl),hy,l2,pN]
section
variable {N:Nat}{E:List Nat}{R:List Int}{skip:Nat}
theorem D4X:∀e∈hEs N (E.map pR),e.length<=2:=by
 intro e he;have h1:=Go.Hg.qt N _ he;unfold A7d at h1;obtain⟨h1,_⟩:=cZ.1 h1;obtain⟨y,hy,rfl⟩:=bp.1 h1;obtain⟨z,_,rfl⟩:=bp.1 (List.mem_of_mem_take hy);exact C9h _ z
theorem D4Y:∀e∈hEs N (E.map pR),asc e=true:=λe he=>Go.Hg.m9 N _ e (Go.Hg.qt N _ he)
theorem D5O:Go.Hg.Gr (A06 (N%9)) (hEs N (E.map pR)):=⟨Go.Hg.FD N _,D4Y,D4X⟩
end
end Go.Mid
namespace Go.Mid
open Go.Hg (asc Gr PrV nbB A6j A4L Acy A06 hEs)
theorem C4e {v R:List Int}{skip:Nat}{es:List (List Int)}{q:Int×Int}:q∈BT v R skip es↔∃i,∃h:i<es.length,q∈FG v R skip es[i] i:=by
 unfold BT CY;rw[pN,List.mem_flatMap];constructor
 . rintro⟨x,hx,hq⟩;obtain⟨e,i⟩:=x;obtain⟨hi,he⟩:=Go.Hg.kY.1 hx;subst he;exact⟨i,hi,hq⟩
 . rintro⟨i,hi,hq⟩;exact⟨(es[i],i),Go.Hg.kY.2 ⟨hi,rfl⟩,hq⟩
theorem B61 {v R:List Int}{skip i:Nat}{e:List Int}{q:Int×Int}(h:q∈FG v R skip e i):∃a b r,e=a::b::r∧((q=(b,a)∧wz v R a>wz v R b)∨(q=(a,b)∧¬wz v R a>wz v R b)):=by
 unfold FG at h;split at h
 . rename_i a b r;refine ⟨a,b,r,rfl,?_⟩;split at h
   . cases h
   . split at h
     . rename_i hc;simp only[aX] at h;exact .inl ⟨h,hc⟩
     . rename_i hc;simp only[aX] at h;exact .inr ⟨h,hc⟩
 . cases h
theorem C1H {v R:List Int}(hR:∀r∈R,0<=r)(x:Int):0<=wz v R x:=by
 unfold wz;split
 . rename_i i hi;rw [bh];cases hc:R[i]? with
   |none=>exact lu _
   |some r=>exact hR r (bH hc)
 . exact lu _
section
variable {v R:List Int}{skip:Nat}{es:List (List Int)}(G:Gr v es)
include G
theorem D5P {q:Int×Int}(h:q∈BT v R skip es):nbB es q.1 q.2=true∧q.1∈v∧q.2∈v:=by
 obtain⟨i,hi,hq⟩:=C4e.1 h;have he:=aM hi;obtain⟨a,b,r,e,h1⟩:=B61 hq;have ha:a∈v:=G.l9.sm _ he a (by rw[e];simp)
 have hb:b∈v:=G.l9.sm _ he b (by rw[e];simp)
 have hn:nbB es a b=true:=by
  rcases G.cases he with⟨x,e2,_⟩ | ⟨x,y,e2,_,hn⟩
  . rw[e] at e2;simp at e2
  . rw[e] at e2;simp only[List.cons.injEq] at e2;obtain⟨rfl,rfl,_⟩:=e2;exact hn
 rcases h1 with⟨rfl,_⟩ | ⟨rfl,_⟩
 . exact⟨by rw[Go.Hg.oD];exact hn,hb,ha⟩
 . exact⟨hn,ha,hb⟩
theorem D4Z (hR:∀r∈R,0<=r)(hv:∀x∈v,0<=x∧x<1000):Acy (BT v R skip es):=by
 refine⟨λx=>(wz v R x).toNat * 1000+x.toNat,λq h=>?_⟩
 obtain⟨i,hi,hq⟩:=C4e.1 h;have he:=aM hi;obtain⟨a,b,r,e,h1⟩:=B61 hq;have ha:=hv a (G.l9.sm _ he a (by rw[e];simp))
 have hb:=hv b (G.l9.sm _ he b (by rw[e];simp))
 have eC:a<b:=by
  rcases G.cases he with⟨x,e2,_⟩ | ⟨x,y,e2,xL,_⟩
  . rw[e] at e2;simp at e2
  . rw[e] at e2;simp only[List.cons.injEq] at e2;obtain⟨rfl,rfl,_⟩:=e2;exact xL
 have k1:=C1H (v:=v) hR a;have k2:=C1H (v:=v) hR b;rcases h1 with⟨rfl,h1⟩ | ⟨rfl,h1⟩
 . show (wz v R b).toNat * 1000+b.toNat<(wz v R a).toNat * 1000+a.toNat;omega
 . show (wz v R a).toNat * 1000+a.toNat<(wz v R b).toNat * 1000+b.toNat;omega
end
theorem D40 {v R:List Int}{skip:Nat}{es:List (List Int)}:(BT v R skip es).length<=es.length:=Xv v R skip es es.length (ay _)
theorem C9k {n:Nat}(hn:n<=9):∀x∈A06 n,0<=x∧x<1000:=by
 intro x hx;unfold A06 at hx;obtain⟨i,hi,rfl⟩:=bp.1 hx
 have:=cu.1 hi
 omega
end Go.Mid
