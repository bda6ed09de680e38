/- Tools for plain laws: loops step by step, sums, bounds. -/
import Derived.Test.YtngcamcnkfkmdaaN2
set_option linter.unusedSimpArgs false
set_option linter.unusedVariables false
open BitVec renaming ofInt → b8, toNat_and → ru, toNat_ofNat → iu
open Bool renaming and_eq_true → aj, not_eq_true' → ed, false_or → gL, not_false → ej, true_and → dm, false_eq_true → aI, eq_iff_iff → c6, or_false → AB, false_and → sS
open Classical renaming byContradiction → b5, choose_spec → tB
open Int renaming min_eq_left → n3, max_eq_right → nj, le_total → vg, toNat_natCast → ar
open List renaming mem_append → az, mem_singleton → aX, range → bA, any_eq_true → fV, filter_eq_nil_iff → kC, mem_range → cu, all_eq_true → bB, filter_nil → auV, filter_append → s8, getElem_cons_succ → fL, any_cons → gK, getElem_cons_zero → nM, pairwise_cons → bN, mem_cons → aG, getElem?_eq_getElem → ah, foldl_cons → jM, contains_iff_mem → bj, getElem?_eq_some_iff → aJ, any_eq_false → gA, mem_map → bp, mem_filter → cZ, mem_zipIdx_iff_getElem? → iC, pairwise_iff_getElem → dE, getElem_of_mem → pd, any_map → au2, pairwise_append → cF, not_mem_nil → rq, getD_eq_getElem?_getD → bh, getElem?_set → dD, filter_cons → jl, replicate → au, length_set → iy, contains_cons → fb, pairwise_lt_range → hD, getElem_mem → aM, range_succ → jO, zipIdx_map_fst → hI, filter_sublist → aDw, map_cons → aF, map_append → b9, take_of_length_le → a6, take_add_one → W1, length_take → aW, foldl_append → iK, foldl_nil → aDD, headD_cons → lH, length_cons → bf, length_nil → cM, zipIdx_append → p8, zipIdx_singleton → s9, set_set → nK
open Nat renaming ble_eq_true_of_le → gf, mod_two_eq_zero_or_one → kj, testBit_and → gp, eq_of_testBit_eq → jc, one_shiftLeft → mQ, testBit_lt_two_pow → fM, lt_of_lt_of_le → br, pow_le_pow_right → ez, lt_pow_two_of_testBit → mA, testBit_or → fj, testBit_shiftLeft → auP, add_zero → dG, le_refl → ay, sub_zero → gv, lt_trichotomy → qz, zero_testBit → eT, zero_add → bS, mod_eq_of_lt → eQ, lt_of_le_of_lt → eU, or_lt_two_pow → fA, shiftLeft_eq → auL, pow_lt_pow_right → oM, mul_left_comm → T3, add_mul → hY, strongRecOn → lI, le_zero → acy, le_total → sc, max_eq_right → n6, max_eq_left → s5, min_eq_left → cX, min_eq_right → jk, pow_succ → lQ, le_of_lt → fH, mul_zero → azH
open Option renaming getD_some → bI
open Option.some renaming injEq → aa, inj → cf
namespace Go.Mid
section
variable {A B:Type}{f:A->Option (A ⊕ B)}
theorem tQ (n:Nat)(T:Nat->A)(b:B)(h1:∀i,i<n->f (T i)=some (.inl (T (i+1))))(h2:f (T n)=some (.inr b)):dk f (T 0)=some b:=by
 have:∀k i,i+k=n->dk f (T i)=some b:=by
  intro k
  induction k with
  | zero=>intro i hi;obtain rfl:i=n:=by omega
          exact qc h2
  |succ k ih=>intro i hi;rw[vw (h1 i (by omega))];exact ih (i+1) (by omega)
 exact this n 0 (by omega)
end
theorem jE {a b:Nat}(h:a<=b):a.ble b=true:=gf h
theorem lB {a b:Nat}(h:a<b):a.blt b=true:=gf h
theorem pN {α:Type}(l:List α):l.take l.length=l:=List.take_length
theorem vz {α:Type}{l:List α}{i:Nat}(h:i<l.length):l.take (i+1)=l.take i++[l[i]]:=List.take_succ_eq_append_getElem h
section
variable {α β:Type}
end
end Go.Mid
namespace Go.Mid
theorem C5S (m:Nat):(m &&& 1)=if m.testBit 0 then 1 else 0:=by
 rw[Nat.and_one_is_mod,Nat.testBit_zero]
 have:=kj m
 rcases this with h | h<;>simp[h]
end Go.Mid
namespace Go.Hg
def B3h (e s:Nat):Bool:=(e &&& s)==e
theorem auG {e s:Nat}:B3h e s=true↔∀i,e.testBit i=true->s.testBit i=true:=by
 unfold B3h;rw[beq_iff_eq];constructor
 . intro h i hi;rw[←h,gp] at hi;simp at hi;exact hi.2
 . intro h;apply jc;intro i;rw [gp];cases he:e.testBit i with
   |false=>rfl
   |true=>rw[h i he];rfl
def less (a b:Nat):Nat:=a ^^^ (a &&& b)
theorem qs (a b i:Nat):(less a b).testBit i=(a.testBit i && !b.testBit i):=by
 unfold less;rw[Nat.testBit_xor,gp];cases a.testBit i<;>cases b.testBit i<;>rfl
theorem E0N (v i:Nat):(1 <<< v).testBit i=decide (i=v):=by
 rw[mQ,Nat.testBit_two_pow];exact decide_eq_decide.2 eq_comm
theorem E1B {s n i:Nat}(h:s<2 ^ n)(hi:n<=i):s.testBit i=false :=
 fM (br h (ez (by omega) hi))
theorem xZ {s n:Nat}(h:∀i,n<=i->s.testBit i=false):s<2 ^ n:=mA s h
def leaves:Nat->Nat->Nat->List Nat
 |0,_,s=>[s]
 |k+1,v,s=>leaves k (v+1) (s ||| 1 <<< v)++leaves k (v+1) s
theorem D7o:∀ {k v s t:Nat},t∈leaves k v s->∀ i,i<v->t.testBit i=s.testBit i
 |0,v,s,t,h,i,hi=>by simp[leaves] at h;rw[h]
 |k+1,v,s,t,h,i,hi=>by
   simp only[leaves,az] at h;rcases h with h | h
   . rw [D7o h i (by omega),fj,E0N]
     have:i≠v:=by omega
     simp[this]
   . exact D7o h i (by omega)
theorem D7A:∀ {k v s t:Nat},t∈leaves k v s->∀ i,s.testBit i=true->t.testBit i=true
 |0,v,s,t,h,i,hi=>by simp[leaves] at h;rw[h];exact hi
 |k+1,v,s,t,h,i,hi=>by
   simp only[leaves,az] at h;rcases h with h | h
   . exact D7A h i (by rw[fj,hi];rfl)
   . exact D7A h i hi
theorem D7q:∀ {k v s t:Nat},t∈leaves k v s->∀ i,v+k<=i->t.testBit i=s.testBit i
 |0,v,s,t,h,i,hi=>by simp[leaves] at h;rw[h]
 |k+1,v,s,t,h,i,hi=>by
   simp only[leaves,az] at h;rcases h with h | h
   . rw [D7q h i (by omega),fj,E0N]
     have:i≠v:=by omega
     simp[this]
   . exact D7q h i (by omega)
theorem D7C:∀ (k v s t:Nat),(∀ i,i<v->t.testBit i=s.testBit i)->(∀ i,v<=i->s.testBit i=false)->(∀ i,v+k<=i->t.testBit i=false)->t∈leaves k v s
 |0,v,s,t,h1,h2,h3=>by
   simp only[leaves,aX];apply jc;intro i;by_cases hi:i<v
   . exact h1 i hi
   . rw[h2 i (by omega),h3 i (by omega)]
 |k+1,v,s,t,h1,h2,h3=>by
   simp only[leaves,az];cases hv:t.testBit v with
   |true =>
     left;refine D7C k (v+1) _ t ?_ ?_ (λi hi=>h3 i (by omega))
     . intro i hi;rw [fj,E0N];by_cases hiv:i=v
       . subst hiv;simp[hv]
       . simp[hiv];exact h1 i (by omega)
     . intro i hi;rw [fj,E0N,h2 i (by omega)]
       have:i≠v:=by omega
       simp[this]
   |false =>
     right;refine D7C k (v+1) _ t ?_ (λi hi=>h2 i (by omega)) (λi hi=>h3 i (by omega))
     intro i hi;by_cases hiv:i=v
     . subst hiv;rw[hv,h2 i (by omega)]
     . exact h1 i (by omega)
def C3X (E:List Nat)(u m:Nat):Bool:=E.any λe=>e.testBit u&&B3h (less e (1 <<< u)) m
def C3Y (E:List Nat)(s:Nat):Bool:=E.any λe=>B3h e s
def D7t (E:List Nat)(n s:Nat):Bool:=!C3Y E s&&(bA n).all λu=>s.testBit u || C3X E u s
def E1s (k v:Nat):Nat:=(2 ^ k-1) <<< v
theorem auU (k v i:Nat):(E1s k v).testBit i=(decide (v<=i)&&decide (i<v+k)):=by
 unfold E1s;rw[auP,Nat.testBit_two_pow_sub_one];by_cases h:v<=i
 . simp[h];omega
 . simp[h]
def D01 (E:List Nat)(k v bc out:Nat):Bool:=(bA v).any λu=>out.testBit u && !C3X E u (bc ||| E1s k v)
def C2g (E:List Nat):Nat->Nat->Nat->Nat->List Nat
 |0,v,bc,out=>if D01 E 0 v bc out then[] else[bc]
 |k+1,v,bc,out=>if D01 E (k+1) v bc out then[] else
   (if C3Y E (bc ||| 1 <<< v) then[] else C2g E k (v+1) (bc ||| 1 <<< v) out)++C2g E k (v+1) bc (out ||| 1 <<< v)
theorem D7D {a b c:Nat}(h:B3h a b=true)(g:∀i,b.testBit i=true->c.testBit i=true):B3h a c=true :=
 auG.2 λi hi=>g i (auG.1 h i hi)
theorem D75 {E:List Nat}{u a b:Nat}(g:∀i,a.testBit i=true->b.testBit i=true)(h:C3X E u a=true):C3X E u b=true:=by
 unfold C3X at h ⊢;rw[fV] at h ⊢;obtain⟨e,he,h⟩:=h;simp only[aj] at h ⊢;exact⟨e,he,h.1,D7D h.2 g⟩
theorem D7H {E:List Nat}{a b:Nat}(g:∀i,a.testBit i=true->b.testBit i=true)(h:C3Y E a=true):C3Y E b=true:=by
 unfold C3Y at h ⊢;rw[fV] at h ⊢;obtain⟨e,he,h⟩:=h;exact⟨e,he,D7D h g⟩
theorem D8e {E:List Nat}{k v bc out:Nat}(ho:∀ u,u<v->out.testBit u=!bc.testBit u)(hi:∀ i,v<=i->bc.testBit i=false)(h:D01 E k v bc out=true) :
 (leaves k v bc).filter (D7t E (v+k))=[]:=by
 rw[kC];intro t ht hm;unfold D01 at h;rw[fV] at h;obtain⟨u,hu,h⟩:=h;simp only[cu] at hu;simp only[aj,ed] at h;unfold D7t at hm;simp only[aj,bB,cu] at hm;have hm:=hm.2 u (by omega)
 have htu:t.testBit u=false:=by
  rw[D7o ht u hu]
  have:=ho u hu
  rw[h.1] at this;simpa using this
 rw[htu,gL] at hm
 have:C3X E u (bc ||| E1s k v)=true:=by
  refine D75 (λi rX=>?_) hm
  rw[fj,auU];by_cases hv:i<v
  . rw[D7o ht i hv] at rX;rw[rX];rfl
  . by_cases hk:i<v+k
    . simp[hk];right;omega
    . rw[D7q ht i (by omega),hi i (by omega)] at rX;cases rX
 rw[this] at h;cases h.2
theorem D7M (E:List Nat):∀ (k v bc out:Nat),(∀ u,u<v->out.testBit u=!bc.testBit u)->(∀ i,v<=i->bc.testBit i=false)->(∀ i,v<=i->out.testBit i=false)->C3Y E bc=false->
 C2g E k v bc out=(leaves k v bc).filter (D7t E (v+k))
 |0,v,bc,out,ho,hi,_,he=>by
   unfold C2g;split
   . rename_i h;exact(D8e ho hi h).symm
   . rename_i h;simp only [leaves];rw [List.filter_cons_of_pos,auV];unfold D7t;rw [he];simp only [ej,dm,bB,cu,dG];intro u hu;cases hb:bc.testBit u with
     |true=>rfl
     |false =>
       have h2:=ho u hu;rw[hb] at h2;cases hk:C3X E u bc with
       |true=>rfl
       |false =>
         exfalso;apply h;unfold D01;rw[fV];refine⟨u,cu.2 hu,?_⟩;have e:bc ||| E1s 0 v=bc:=by simp[E1s]
         rw[e,hk,h2];rfl
 |k+1,v,bc,out,ho,hi,hz,he=>by
   unfold C2g;split
   . rename_i h;exact(D8e ho hi h).symm
   . simp only [leaves];rw [s8];have e:v+(k+1)=v+1+k:=by omega
     rw[e];have b1:∀i,v+1<=i->(bc ||| 1 <<< v).testBit i=false:=by
      intro i h;rw[fj,E0N,hi i (by omega)]
      have:i≠v:=by omega
      simp[this]
     congr 1
     . split
       . rename_i h
         symm
         rw[kC];intro t ht hm;unfold D7t at hm;simp only[aj,ed] at hm;rw[D7H (D7A ht) h] at hm;cases hm.1
       . rename_i h;refine D7M E k (v+1) _ out ?_ b1 (λi h=>hz i (by omega)) (by simpa using h)
         intro u hu;rw[fj,E0N];by_cases huv:u=v
         . subst huv;simp[hz u (ay _)]
         . simp[huv];exact ho u (by omega)
     . refine D7M E k (v+1) bc _ ?_ (λi h=>hi i (by omega)) (λi h=>by
        rw[fj,E0N,hz i (by omega)]
        have:i≠v:=by omega
        simp[this]) he
       intro u hu;rw[fj,E0N];by_cases huv:u=v
       . subst huv;simp[hi u (by omega)]
       . simp[huv];exact ho u (by omega)
section
variable {β:Type}
def idx (p:β->Bool):List β->Nat->Option Nat
 | [],_=>none
 |x::r,i=>if p x then some i else idx p r (i+1)
theorem IH {p:β->Bool}:∀ {l:List β} {i k:Nat},idx p l i=some k->i<=k∧k<i+l.length∧(∃ h:k-i<l.length,p (l[k-i]'h)=true)∧∀ j (h:j<l.length),i+j<k->p l[j]=false
 | [],i,k,h=>by cases h
 |x::r,i,k,h=>by
   simp only[idx] at h;by_cases hp:p x=true
   . simp only[hp,if_true,aa] at h;subst h;refine⟨ay _,by simp,⟨by simp,by simpa using hp⟩,λj _ hj=>by omega⟩
   . simp only [hp,if_false,aI] at h;obtain ⟨h1,h2,⟨h3,h4⟩,h5⟩:=IH h;have e:k-i=(k-(i+1))+1:=by omega
     refine⟨by omega,by simp;omega,⟨by simp;omega,?_⟩,?_⟩
     . simp only[e,fL];exact h4
     . intro j hj hjk;cases j with
       |zero=>simpa using hp
       |succ j=>simp only[fL];exact h5 j (by simpa using hj) (by omega)
theorem auM (p:β->Bool):∀ (l:List β) (i:Nat),(idx p l i).isSome=l.any p
 | [],_=>rfl
 |x::r,i=>by
   simp only[idx,gK];by_cases hp:p x=true
   . simp[hp]
   . simp only[hp,if_false,aI,gL];exact auM p r (i+1)
end
def A0A (a b:List Int):Bool:=a.all λx=>b.contains x
def asc:List Int->Bool
 |a::b::r=>decide (a<b)&&asc (b::r)
 |_=>true
def bef:List Int->List Int->Option Bool
 |a::r,b::q=>if a=b then bef r q else some (decide (a<b))
 |_,_=>none
def before (a b:List Int):Bool:=match bef a b with | some t=>t | none=>decide (a.length<b.length)
def free (es:List (List Int))(l:List Int):Bool:=!es.any λe=>A0A e l
def pick (v:List Int)(s:Nat):List Int:=((v.take 8).zipIdx.filter λx=>s.testBit x.2).map (·.1)
def A5O (v:List Int)(es:List (List Int))(l:List Int):Bool:=asc l&&A0A l v&&free es l
def A09 (v:List Int)(es:List (List Int))(l:List Int):Bool:=A5O v es l&&v.all λx=>l.contains x || !free es (l++[x])
def A4q:Nat->List (List Int)->List (List Int)
 |0,out=>out
 | k+1,out=>match out[k+1]?,out[k]? with
   |some x,some y=>if before x y then A4q k ((out.set (k+1) y).set k x) else out
   |_,_=>out
def A75 (ls:List (List Int))(i:Nat)(x:List Int):Bool:=(ls.zipIdx).all λy=>!(A0A y.1 x&&(decide (y.1.length<x.length) || decide (y.2<i)))
def A4b (ls:List (List Int))(i:Nat)(x:List Int)(out:List (List Int)):List (List Int):=if A75 ls i x then A4q out.length (out++[x]) else out
def A4S (ls:List (List Int)):List (List Int)->Nat->List (List Int)->List (List Int)
 | [],_,out=>out
 |x::r,i,out=>A4S ls r (i+1) (A4b ls i x out)
def A5P (ls:List (List Int)):List (List Int):=A4S ls ls 0 []
def idsP (v:List Int)(s:Nat):List Int:=(v.zipIdx.filter λx=>s.testBit x.2).map (·.1)
def A0t (v:List Int)(y:Int):Nat:=(idx (· == y) v 0).getD 0
theorem iV {v:List Int}{y:Int}(h:y∈v):A0t v y<v.length:=by
 have h2:=auM (· == y) v 0;have h3:v.any (· == y)=true:=by simp[h]
 rw[h3] at h2;unfold A0t;cases hk:idx (· == y) v 0 with
 |none=>rw[hk] at h2;cases h2
 |some k=>have:=IH hk;simp;omega
def E1F (v:List Int)(b:Nat)(e:List Int):Nat:=e.foldl (λb y=>b ||| 1 <<< A0t v y) b
def A2w (v:List Int)(e:List Int):Nat:=E1F v 0 e
theorem jF:∀ {l:List Int} {i j:Nat},asc l=true->(h:i<j)->(hj:j<l.length)->l[i]<l[j]
 | [],_,_,_,_,hj=>by simp at hj
 | [x],_,_,_,_,hj=>by simp at hj;omega
 |x::y::r,i,j,ha,h,hj=>by
   simp only[asc,aj,decide_eq_true_eq] at ha;cases i with
   |zero =>
     cases j with
     |zero=>omega
     |succ j =>
       simp only[nM,fL];cases j with
       |zero=>exact ha.1
       |succ j=>exact Int.lt_trans ha.1 (jF (l:=y::r) (i:=0) ha.2 (by omega) (by simpa using hj))
   |succ i =>
     cases j with
     |zero=>omega
     |succ j=>simpa using jF (l:=y::r) ha.2 (by omega) (by simpa using hj)
def A5Q (v:List Int)(es:List (List Int))(i:Nat)(e:List Int):Bool:=!e.isEmpty&&asc e&&A0A e v&&(i==0 || before (es.getD (i-1) []) e)
def A3W (es:List (List Int))(i:Nat)(e:List Int):Bool:=es.zipIdx.any λy=>y.2 != i&&A0A y.1 e
def validH (v:List Int)(es:List (List Int)):Bool:=asc v&&decide (es.length<=20000)&&(!(es.zipIdx.any λx=>!A5Q v es x.2 x.1) && !(es.zipIdx.any λx=>A3W es x.2 x.1))
structure HOk (v:List Int)(es:List (List Int)):Prop where
 nv:v.length<=40
 ne:es.length<=20000
 el:∀e∈es,e.length<9223372036854775808
 bc:∀e∈es,∀y∈e,y∈v
def D4P (v:List Int)(es:List (List Int)):List Nat:=C2g (es.map (A2w v)) v.length 0 0 0
def B9j (v:List Int)(es:List (List Int)):List (List Int):=(D4P v es).map (idsP v)
def D2X (v:List Int)(es:List (List Int))(out:List (List Int))(b:Nat):List (List Int) :=
 if A09 v es (idsP v b) then A4q out.length (out++[idsP v b]) else out
def D4Q (v:List Int)(es:List (List Int)):List (List Int):=(bA (2 ^ v.length)).foldl (D2X v es) []
def A06 (n:Nat):List Int:=(bA n).map λ(i:Nat)=>2+3*(i:Int)
@[simp] theorem E4P (n:Nat):(A06 n).length=n:=by simp[A06]
def A7d (V:List Int)(E:List Nat):List (List Int):=((E.take 12).map (pick V)).filter λe=>!e.isEmpty
def hEs (N:Nat)(E:List Nat):List (List Int):=A5P (A7d (A06 (N%9)) E)
def sn:List Int->List Int->Bool
 | [],[]=>false
 | [],_::_=>true
 |_::_,[]=>false
 |x::a,y::b=>if x=y then sn a b else decide (x<y)
theorem JF:∀ a:List Int,sn a a=false
 | []=>rfl
 |x::a=>by simp[sn,JF a]
theorem Xc:∀ {a b c:List Int},sn a b=true->sn b c=true->sn a c=true
 | [],[],_,h,_=>by simp[sn] at h
 | [],_::_,[],_,h=>by simp[sn] at h
 | [],_::_,_::_,_,_=>rfl
 |_::_,[],_,h,_=>by simp[sn] at h
 |_::_,_::_,[],_,h=>by simp[sn] at h
 |x::a,y::b,z::c,h,g=>by
   simp only[sn] at h g ⊢;by_cases h1:x=y
   . subst h1;by_cases h2:x=z
     . subst h2;simp only[if_true] at h g ⊢;exact Xc h g
     . simp only[h2,if_false,if_true] at h g ⊢;exact g
   . by_cases h2:y=z
     . subst h2;simp only[h1,if_false,if_true] at h g ⊢;exact h
     . simp only [h1,h2,if_false,decide_eq_true_eq] at h g;have h3:¬ x=z:=by omega
       simp only[h3,if_false,decide_eq_true_eq];omega
abbrev kf (l:List (List Int)):Prop:=l.Pairwise λa b=>sn a b=true
theorem kf.ext:∀ {l m:List (List Int)},kf l->kf m->(∀ x,x∈l↔x∈m)->l=m
 | [],[],_,_,_=>rfl
 | [],y::m,_,_,h=>by have:=(h y).2 (by simp);simp at this
 |x::l,[],_,_,h=>by have:=(h x).1 (by simp);simp at this
 |x::l,y::m,hl,hm,h=>by
   rw[kf,bN] at hl hm;have xL:x=y:=by
    apply b5;intro hne;have h1:x∈m:=by
     have:=(h x).1 (by simp)
     rcases aG.1 this with e | e
     . exact absurd e hne
     . exact e
    have h2:y∈l:=by
     have:=(h y).2 (by simp)
     rcases aG.1 this with e | e
     . exact absurd e.symm hne
     . exact e
    have:=Xc (hl.1 y h2) (hm.1 x h1)
    rw[JF] at this;cases this
   subst xL;congr 1;refine kf.ext hl.2 hm.2 λz=>?_
   constructor
   . intro hz
     have:=(h z).1 (by simp[hz])
     rcases aG.1 this with e | e
     . subst e;have:=hl.1 z hz;rw[JF] at this;cases this
     . exact e
   . intro hz
     have:=(h z).2 (by simp[hz])
     rcases aG.1 this with e | e
     . subst e;have:=hm.1 z hz;rw[JF] at this;cases this
     . exact e
theorem gn {v:List Int}{y:Int}(h:y∈v):v[A0t v y]?=some y:=by
 have h2:=auM (· == y) v 0;have h3:v.any (· == y)=true:=by simp[h]
 rw[h3] at h2;unfold A0t;cases hk:idx (· == y) v 0 with
 |none=>rw[hk] at h2;cases h2
 |some k =>
   obtain⟨_,_,⟨h4,h5⟩,_⟩:=IH hk;simp only[gv] at h4 h5;simp only[bI];rw[ah h4];simpa using h5
theorem E19 {v:List Int}(ha:asc v=true){i j:Nat}(hi:i<v.length)(hj:j<v.length)(h:v[i]=v[j]):i=j:=by
 rcases qz i j with eC | he | Nj
 . have:=jF ha eC hj;omega
 . exact he
 . have:=jF ha Nj hi;omega
theorem Xd (v:List Int)(i:Nat):∀ (e:List Int) (b:Nat),(E1F v b e).testBit i=(b.testBit i || e.any λy=>A0t v y==i)
 | [],b=>by simp[E1F]
 |y::e,b=>by
   have:=Xd v i e (b ||| 1 <<< A0t v y)
   simp only[E1F,jM] at this ⊢;rw[this,fj,E0N,gK]
   have:decide (i=A0t v y)=(A0t v y==i):=by
    apply c6.2;simp;exact eq_comm
   rw[this,Bool.or_assoc]
theorem E1J {v e:List Int}(ha:asc v=true)(he:∀y∈e,y∈v)(i:Nat)(hi:i<v.length):(A2w v e).testBit i=e.contains v[i]:=by
 unfold A2w;rw[Xd,eT,gL];apply c6.2;rw[fV,bj];constructor
 . rintro ⟨y,hy,hp⟩;simp only [beq_iff_eq] at hp
   have:=gn (he y hy)
   rw[hp,ah hi] at this;rw[cf this];exact hy
 . intro hm;refine ⟨v[i],hm,?_⟩
   have:=gn (he _ hm)
   obtain⟨h1,h2⟩:=aJ.1 this;simp only[beq_iff_eq];exact E19 ha h1 hi h2
theorem wu {v e:List Int}(he:∀y∈e,y∈v)(i:Nat)(hi:v.length<=i):(A2w v e).testBit i=false:=by
 unfold A2w;rw[Xd,eT,gL,gA];intro y hy
 have:=iV (he y hy)
 simp;omega
theorem E1L {v:List Int}{s:Nat}{y:Int}:y∈idsP v s↔∃i,∃h:i<v.length,v[i]=y∧s.testBit i=true:=by
 unfold idsP;simp only[bp,cZ,Prod.exists,exists_and_right,exists_eq_right];constructor
 . rintro⟨i,h1,h2⟩;rw[iC] at h1;simp only at h1;obtain⟨h3,h4⟩:=aJ.1 h1;exact⟨i,⟨h3,h4⟩,h2⟩
 . rintro⟨i,⟨h,h1⟩,h2⟩;exact⟨i,by rw[iC];simp[h,h1],h2⟩
theorem E1t {v:List Int}(ha:asc v=true){s i:Nat}(hi:i<v.length):(idsP v s).contains v[i]=s.testBit i:=by
 apply c6.2;rw[bj,E1L];constructor
 . rintro⟨j,hj,h1,h2⟩;rw[←E19 ha hj hi h1];exact h2
 . intro h;exact⟨i,hi,rfl,h⟩
def HG:List Int->Nat->Nat->List Int
 | [],_,_=>[]
 |x::r,o,s=>if s.testBit o then x::HG r (o+1) s else HG r (o+1) s
theorem Xe (s:Nat):∀ (v:List Int) (o:Nat),((v.zipIdx o).filter λx=>s.testBit x.2).map (·.1)=HG v o s
 | [],_=>rfl
 |x::r,o=>by
   simp only[List.zipIdx_cons,HG];cases h:s.testBit o with
   |true=>simp[h,Xe s r (o+1)]
   |false=>simp[h,Xe s r (o+1)]
theorem D4R (v:List Int)(s:Nat):idsP v s=HG v 0 s:=Xe s v 0
theorem Xf (s:Nat):∀ (v:List Int) (o:Nat),(HG v o s).Sublist v
 | [],_=>List.Sublist.refl _
 |x::r,o=>by
   simp only[HG];split
   . exact(Xf s r (o+1)).cons_cons x
   . exact(Xf s r (o+1)).cons x
theorem E1x {l:List Int}:asc l=true↔l.Pairwise (· < ·):=by
 constructor
 . intro h;rw[dE];intro i j hi hj gM;exact jF h gM hj
 . intro h;rw [dE] at h
   have:∀i (h:i+1<l.length),l[i]<l[i+1]:=λi hi=>h i (i+1) (by omega) hi (by omega)
   clear h
   induction l with
   |nil=>rfl
   |cons x l ih =>
     cases l with
     |nil=>rfl
     |cons y l =>
       simp only[asc,aj,decide_eq_true_eq];exact⟨this 0 (by simp),ih λi hi=>this (i+1) (by simpa using hi)⟩
theorem E1W {v:List Int}(ha:asc v=true)(s:Nat):asc (idsP v s)=true:=by
 rw[D4R,E1x];exact(E1x.1 ha).sublist (Xf s v 0)
theorem D8v (v:List Int)(s:Nat):A0A (idsP v s) v=true:=by
 unfold A0A;rw[bB];intro y hy;obtain⟨i,hi,rfl,_⟩:=E1L.1 hy;simp
theorem D9H {a b:List Int}:A0A a b=true↔∀y∈a,y∈b:=by
 unfold A0A;rw[bB];simp
theorem D7B {v e:List Int}(ha:asc v=true)(he:∀y∈e,y∈v)(s:Nat):A0A e (idsP v s)=B3h (A2w v e) s:=by
 apply c6.2;rw[D9H,auG];constructor
 . intro h i hi;by_cases hiv:i<v.length
   . rw [E1J ha he i hiv] at hi
     have:=h v[i] (by simpa using hi)
     rw[←E1t ha hiv];simpa using this
   . rw[wu he i (by omega)] at hi;cases hi
 . intro h y hy;obtain ⟨i,hi,rfl⟩:=pd (he y hy)
   have:=h i (by rw[E1J ha he i hi];simpa using hy)
   rw[←E1t ha hi] at this;simpa using this
theorem D8G {v e:List Int}(ha:asc v=true)(he:∀y∈e,y∈v)(s i:Nat)(hi:i<v.length):A0A e (idsP v s++[v[i]])=B3h (A2w v e) (s ||| 1 <<< i):=by
 rw[←D7B ha he];apply c6.2;rw[D9H,D9H];have key:∀y,y∈idsP v s++[v[i]]↔y∈idsP v (s ||| 1 <<< i):=by
  intro y;rw[az,E1L,E1L,aX];constructor
  . rintro (⟨j,hj,h1,h2⟩ | h)
    . exact⟨j,hj,h1,by rw[fj,h2];rfl⟩
    . exact⟨i,hi,h.symm,by rw[fj,E0N];simp⟩
  . rintro ⟨j,hj,h1,h2⟩;rw [fj,E0N] at h2;by_cases hji:j=i
    . subst hji;right;exact h1.symm
    . left;exact⟨j,hj,h1,by simpa [hji] using h2⟩
 exact⟨λh y hy=>(key y).1 (h y hy),λh y hy=>(key y).2 (h y hy)⟩
structure GOk (v:List Int)(es:List (List Int)):Prop where
 av:asc v=true
 bc:∀e∈es,∀y∈e,y∈v
 ne:∀e∈es,e ≠ []
section
variable {v:List Int}{es:List (List Int)}(G:GOk v es)
include G
theorem D7X (s:Nat):free es (idsP v s)=!C3Y (es.map (A2w v)) s:=by
 unfold free C3Y;rw[au2];congr 1;apply c6.2;rw[fV,fV];constructor
 . rintro⟨e,he,h⟩;refine⟨e,he,?_⟩;rw[D7B G.av (G.bc e he)] at h;exact h
 . rintro⟨e,he,h⟩;refine⟨e,he,?_⟩;rw[D7B G.av (G.bc e he)];exact h
theorem D7E (s:Nat):A09 v es (idsP v s)=D7t (es.map (A2w v)) v.length s:=by
 unfold A09 D7t A5O;rw[E1W G.av,D8v,D7X G,dm,dm];cases hE:C3Y (es.map (A2w v)) s with
 |true=>rfl
 |false =>
   simp only[ej,dm];apply c6.2;rw[bB,bB];have key:∀i (hi:i<v.length),((idsP v s).contains v[i] || !free es (idsP v s++[v[i]]))=(s.testBit i || C3X (es.map (A2w v)) i s):=by
    intro i hi;rw[E1t G.av hi];cases hb:s.testBit i with
    |true=>rfl
    |false =>
      rw[gL,gL];unfold free C3X;rw[Bool.not_not,au2];apply c6.2;rw[fV,fV];have avq:∀e∈es,A0A e (idsP v s++[v[i]])=((A2w v e).testBit i&&B3h (less (A2w v e) (1 <<< i)) s):=by
       intro e he;rw[D8G G.av (G.bc e he) s i hi];apply c6.2;rw[aj,auG,auG];constructor
       . intro h;have XX:(A2w v e).testBit i=true:=by
          cases hc:(A2w v e).testBit i with
          |true=>rfl
          |false =>
            exfalso
            have:C3Y (es.map (A2w v)) s=true:=by
             unfold C3Y;rw[fV];refine⟨A2w v e,bp.2 ⟨e,he,rfl⟩,auG.2 λj hj=>?_⟩
             have h1:=h j hj;rw[fj,E0N] at h1;by_cases hji:j=i
             . subst hji;rw[hc] at hj;cases hj
             . simpa [hji] using h1
            rw[hE] at this;cases this
         refine⟨XX,λj hj=>?_⟩
         rw[qs,E0N] at hj;simp at hj;have h1:=h j hj.1;rw[fj,E0N] at h1;simpa [hj.2] using h1
       . rintro ⟨h1,h2⟩ j hj;rw [fj,E0N];by_cases hji:j=i
         . simp[hji]
         . rw[h2 j (by rw[qs,E0N,hj];simp[hji])];rfl
      constructor
      . rintro⟨e,he,h⟩;exact⟨e,he,by rw[avq e he] at h;exact h⟩
      . rintro⟨e,he,h⟩;exact⟨e,he,by rw[avq e he];exact h⟩
   constructor
   . intro h i hi;have eg:i<v.length:=by simpa using hi
     rw[←key i eg];exact h v[i] (by simp)
   . intro h y hy;obtain⟨i,hi,rfl⟩:=pd hy;rw[key i hi];exact h i (by simpa using hi)
theorem D8P:C3Y (es.map (A2w v)) 0=false:=by
 unfold C3Y;rw[gA];intro b hb h;obtain⟨e,he,rfl⟩:=bp.1 hb;rw[auG] at h;cases e with
 |nil=>exact G.ne _ he rfl
 |cons y r =>
   obtain⟨i,hi,hy⟩:=pd (G.bc _ he y (by simp))
   have:=h i (by rw[E1J G.av (G.bc _ he) i hi,hy];simp)
   simp at this
theorem D8B:D4P v es=(leaves v.length 0 0).filter (D7t (es.map (A2w v)) v.length):=by
 unfold D4P;rw[D7M _ _ _ _ _ (by intro u hu;omega) (by simp) (by simp) (D8P G),bS]
end
set_option linter.unusedSectionVars false
def first (s t:Nat):Prop:=∃i,s.testBit i=true∧t.testBit i=false∧∀j,j<i->s.testBit j=t.testBit j
theorem D7w:∀ (k v s:Nat),(∀ i,v<=i->s.testBit i=false)->(leaves k v s).Pairwise first
 |0,v,s,_=>by simp[leaves]
 |k+1,v,s,hs=>by
   have xd:∀i,v+1<=i->(s ||| 1 <<< v).testBit i=false:=by
    intro i hi;rw[fj,E0N,hs i (by omega)]
    have:i≠v:=by omega
    simp[this]
   simp only[leaves];rw[cF];refine⟨D7w k (v+1) _ xd,D7w k (v+1) s λi hi=>hs i (by omega),λa ha b hb=>⟨v,?_,?_,?_⟩⟩
   . rw[D7o ha v (by omega),fj,E0N];simp
   . rw[D7o hb v (by omega)];exact hs v (ay _)
   . intro j hj;rw [D7o ha j (by omega),D7o hb j (by omega),fj,E0N]
     have:j≠v:=by omega
     simp[this]
section
variable {v:List Int}{es:List (List Int)}(G:GOk v es)
include G
theorem auX {s:Nat}:s∈D4P v es↔s<2 ^ v.length∧A09 v es (idsP v s)=true:=by
 rw[D8B G,cZ,←D7E G];constructor
 . rintro⟨h1,h2⟩;exact⟨xZ λi hi=>by rw[D7q h1 i (by omega),eT],h2⟩
 . rintro⟨h1,h2⟩;exact⟨D7C _ _ _ _ (by intro i hi;omega) (by simp) (λi hi=>E1B h1 (by omega)),h2⟩
end
theorem kY {α:Type}{l:List α}{x:α}{i:Nat}:(x,i)∈l.zipIdx↔∃h:i<l.length,l[i]=x:=by
 rw[iC];simp only;rw[aJ]
section
variable (N:Nat)(E:List Nat)
end
def grow (E:List Nat)(s u:Nat):Nat:=if C3Y E (s ||| 1 <<< u) then s else s ||| 1 <<< u
end Go.Hg
namespace Go.Hg
abbrev PrV:=List (Int×Int)
def nbB (es:List (List Int))(a b:Int):Bool:=decide (a≠b)&&es.contains [min a b,max a b]
def A6j (es:List (List Int))(a:Int):Bool:=es.contains [a]
def A4L (p:PrV)(a b:Int):Bool:=p.contains (a,b)
def A2B (p:PrV)(l:List Int)(x:Int):Bool:=!(l.any λy=>A4L p y x)
def A2a (v:List Int)(es:List (List Int)):List Int:=v.filter λx=>!A6j es x
def A2l (es:List (List Int))(rest:List Int)(x:Int):List Int:=rest.filter λy=>decide (y≠x) && !nbB es y x
theorem E4j (es:List (List Int))(a b:Int):nbB es a b=nbB es b a:=by
 unfold nbB;rw[Int.min_comm,Int.max_comm];by_cases h:a=b<;>simp[h,eq_comm]
theorem E0r {es:List (List Int)}{rest:List Int}{x y:Int}:y∈A2l es rest x↔y∈rest∧y≠x∧nbB es y x=false:=by
 unfold A2l;simp
inductive Run (es:List (List Int)) (p:PrV):List Int->List Int->Prop
 |nil:Run es p [] []
 |cons {rest ks:List Int} {x:Int}:x∈rest->A2B p rest x=true->Run es p (A2l es rest x) ks->Run es p rest (x::ks)
section
variable {es:List (List Int)}{p:PrV}
theorem Run.sub:∀ {ks rest:List Int},Run es p rest ks->∀ k∈ks,k∈rest
 | [],_,_,k,hk=>by cases hk
 |y::ks,rest,h,k,hk=>by
   cases h with
   |cons hy hb h =>
     rcases aG.1 hk with rfl | hk
     . exact hy
     . exact(E0r.1 (Run.sub h k hk)).1
theorem Run.ind:∀ {ks rest:List Int},Run es p rest ks->∀ a∈ks,∀ b∈ks,nbB es a b=false
 | [],_,_,k,hk=>by cases hk
 |y::ks,rest,h,a,ha=>by
   intro b gm;cases h with
   |cons hy hb h =>
     rcases aG.1 ha with ea | Eg
     . rcases aG.1 gm with eb | ot
       . subst ea;subst eb;simp[nbB]
       . subst ea;rw[E4j];exact(E0r.1 (Run.sub h b ot)).2.2
     . rcases aG.1 gm with eb | ot
       . subst eb;exact(E0r.1 (Run.sub h a Eg)).2.2
       . exact Run.ind h a Eg b ot
def pickL (p:PrV)(r rest:List Int):Option Int:=rest.find? λx=>r.contains x&&A2B p rest x
end
structure Gr (v:List Int)(es:List (List Int)):Prop where
 l9:GOk v es
 asc:∀e∈es,Go.Hg.asc e=true
 two:∀e∈es,e.length<=2
section
variable {v:List Int}{es:List (List Int)}
theorem Gr.cases (G:Gr v es){e:List Int}(he:e∈es):(∃a,e=[a]∧A6j es a=true)∨∃a b,e=[a,b]∧a<b∧nbB es a b=true:=by
 have h1:=G.l9.ne e he;have h2:=G.two e he;have h3:=G.asc e he
 match e,h1,h2,h3 with
 | [],h,_,_=>exact absurd rfl h
 | [a],_,_,_=>exact .inl ⟨a,rfl,bj.2 he⟩
 | [a,b],_,_,h =>
   have uO:a<b:=by simpa [Go.Hg.asc] using h
   exact .inr ⟨a,b,rfl,uO,by
    unfold nbB;rw[n3 (by omega),nj (by omega)]
    simp only[aj,decide_eq_true_eq];exact⟨by omega,bj.2 he⟩⟩
 |_::_::_::_,_,h,_=>exact absurd h (by simp)
theorem Gr.free (G:Gr v es){l:List Int}:free es l=true↔(∀x∈l,A6j es x=false)∧∀a∈l,∀b∈l,nbB es a b=false:=by
 unfold Go.Hg.free;constructor
 . intro h;have hn:∀ e∈es,¬ (∀ y∈e,y∈l):=by
    intro e he hw
    have:(es.any λe=>A0A e l)=true:=fV.2 ⟨e,he,D9H.2 hw⟩
    rw[this] at h;cases h
   refine⟨λx hx=>?_,λa ha b hb=>?_⟩
   . cases hc:A6j es x with
     |false=>rfl
     |true=>exact absurd (λy hy=>by simp at hy;subst hy;exact hx) (hn _ (bj.1 hc))
   . cases hc:nbB es a b with
     |false=>rfl
     |true =>
       unfold nbB at hc;simp only[aj] at hc;refine absurd (λy hy=>?_) (hn _ (bj.1 hc.2))
       simp only[aG,rq,or_false] at hy;rcases hy with rfl | rfl
       . rcases vg a b with h | h
         . rw[n3 h];exact ha
         . rw[Int.min_eq_right h];exact hb
       . rcases vg a b with h | h
         . rw[nj h];exact hb
         . rw[Int.max_eq_left h];exact ha
 . rintro ⟨h1,h2⟩;cases hc:(es.any λe=>A0A e l) with
   |false=>rfl
   |true =>
     obtain⟨e,he,hw⟩:=fV.1 hc;have hw:=D9H.1 hw;rcases G.cases he with⟨a,rfl,ho⟩ | ⟨a,b,rfl,uO,hn⟩
     . rw[h1 a (hw a (by simp))] at ho;cases ho
     . rw[h2 a (hw a (by simp)) b (hw b (by simp))] at hn;cases hn
end
end Go.Hg
namespace Go.Mid
theorem HH {k:IntKind}(hk:k.signed=false){n:Nat}(h:n<2 ^ k.bits):k.wrap (n:Int)=(n:Int):=by
 cases k<;>first | exact absurd hk (by decide) | (simp only[IntKind.wrap,IntKind.bits,IntKind.signed] at h ⊢;simp;omega)
theorem JI (w m:Nat):b8 w (m:Int)=BitVec.ofNat w m:=by simp
theorem Nn {k:IntKind}(hk:k.signed=false){m n:Nat}(hm:m<2 ^ k.bits)(hn:n<2 ^ k.bits):pL k (m:Int) (n:Int)=((m &&& n:Nat):Int):=by
 unfold pL;rw[JI,JI,ru,iu,iu,eQ hm,eQ hn];exact HH hk (eU Nat.and_le_left hm)
theorem HI {k:IntKind}(hk:k.signed=false){m n:Nat}(hm:m<2 ^ k.bits)(hn:n<2 ^ k.bits):uS k (m:Int) (n:Int)=((m ||| n:Nat):Int):=by
 unfold uS;rw[JI,JI,BitVec.toNat_or,iu,iu,eQ hm,eQ hn];exact HH hk (fA hm hn)
theorem Xk {w m n:Nat}(hm:m<2 ^ w):Go.Hg.less m n<2 ^ w:=mA _ λi hi=>by
 rw[Go.Hg.qs,fM (br hm (ez (by decide) hi))];rfl
theorem C5T {k:IntKind}(hk:k.signed=false){m n:Nat}(hm:m<2 ^ k.bits)(hn:n<2 ^ k.bits):CN k (m:Int) (n:Int)=((Go.Hg.less m n:Nat):Int):=by
 have h:(b8 k.bits (m:Int) &&& ~~~ b8 k.bits (n:Int)).toNat=Go.Hg.less m n:=by
  rw[JI,JI];apply jc;intro i;rw[ru,gp,Go.Hg.qs,iu,eQ hm];by_cases hi:i<k.bits
  . congr 1;rw[←BitVec.getLsbD,BitVec.getLsbD_not];simp only[hi,decide_true,dm,BitVec.getLsbD_ofNat]
  . rw [fM (br hm (ez (by decide) (by omega)))]
    rfl
 unfold CN;rw[h];exact HH hk (Xk hm)
theorem D4S {k:IntKind}{m i:Nat}(hi:i<=k.bits):jK k (m:Int) (i:Int)=((m >>> i:Nat):Int):=by
 unfold jK;have e:min ((i:Int).toNat) k.bits=i:=by rw[ar];omega
 rw[e,Nat.shiftRight_eq_div_pow]
 have:((2:Int) ^ i)=((2 ^ i:Nat):Int):=by simp
 rw[this];exact Int.ofNat_fdiv m (2 ^ i) |>.symm
theorem D4T {k:IntKind}(hk:k.signed=false){m i:Nat}(hi:i<=k.bits)(h:m <<< i<2 ^ k.bits):qZ k (m:Int) (i:Int)=((m <<< i:Nat):Int):=by
 unfold qZ;have e:min ((i:Int).toNat) k.bits=i:=by rw[ar];omega
 rw[e]
 have:(m:Int)*2 ^ i=((m <<< i:Nat):Int):=by rw[auL];simp
 rw[this];exact HH hk h
theorem D81 {m i:Nat}(hi:i<=63)(h:m <<< i<2 ^ 63):qZ .i64 (m:Int) (i:Int)=((m <<< i:Nat):Int):=by
 unfold qZ;have e:min ((i:Int).toNat) IntKind.i64.bits=i:=by rw[ar];show min i 64=i;omega
 rw[e]
 have:(m:Int)*2 ^ i=((m <<< i:Nat):Int):=by rw[auL];simp
 rw[this];exact Qn (by omega)
theorem xq {i w:Nat}(h:i<w):1 <<< i<2 ^ w:=by rw[mQ];exact oM (by decide) h
theorem D4U {k:IntKind}(hk:k.signed=false){m i:Nat}(hi:i<=k.bits)(h2:1<k.bits)(hm:m<2 ^ k.bits):pL k (jK k (m:Int) (i:Int)) 1=if m.testBit i then 1 else 0:=by
 rw[D4S hi];have h1:m >>> i<2 ^ k.bits:=eU (Nat.shiftRight_le m i) hm
 have:=Nn (k:=k) hk (m:=m >>> i) (n:=1) h1 (Nat.one_lt_two_pow (by omega))
 have h2:pL k ((m >>> i:Nat):Int) 1=(((m >>> i) &&& 1:Nat):Int):=this;rw[h2,C5S,Nat.testBit_shiftRight,dG];cases m.testBit i<;>rfl
end Go.Mid
namespace Go.Hg
def E0H:List (List Nat)->Nat
 | []=>1
 |l::r=>l.length*E0H r
def E0O:List (List Nat)->Nat->Nat
 | [],_=>1
 |_::r,0=>E0H r
 |l::r,k+1=>l.length*E0O r k
theorem iv:∀ (L:List (List Nat)) (k:Nat),k<L.length->E0H L=(L.getD k []).length*E0O L k
 | [],k,h=>by simp at h
 |l::r,0,h=>rfl
 |l::r,k+1,h=>by
   simp only[E0H,E0O,List.getD_cons_succ,iv r k (by simpa using h)]
   rw[T3]
theorem aDx:∀ (L:List (List Nat)) (k:Nat) (a:List Nat),k<L.length->E0H (L.set k a)=a.length*E0O L k
 | [],k,a,h=>by simp at h
 |l::r,0,a,h=>rfl
 |l::r,k+1,a,h=>by
   simp only[List.set_cons_succ,E0H,E0O,aDx r k a (by simpa using h)]
   rw[T3]
theorem E2y:∀ (L:List (List Nat)),E0H L≠0↔∀ k,k<L.length->L.getD k [] ≠ []
 | []=>by simp[E0H]
 |l::r=>by
   simp only[E0H,Nat.mul_ne_zero_iff,E2y r];constructor
   . rintro ⟨h1,h2⟩ k hk;cases k with
     |zero=>simpa using h1
     |succ k=>simpa using h2 k (by simpa using hk)
   . intro h;exact⟨by simpa using h 0 (by simp),λk hk=>by simpa using h (k+1) (by simpa using hk)⟩
theorem E2z:∀ (L:List (List Nat)),(∀ k,k<L.length->(L.getD k []).length<=1)->E0H L<=1
 | [],_=>ay _
 |l::r,h=>by
   have h1:l.length<=1:=h 0 (by simp)
   have h2:=E2z r λk hk=>by simpa using h (k+1) (by simpa using hk)
   simp only[E0H]
   calc l.length*E0H r<=1*1:=Nat.mul_le_mul h1 h2
    _=1:=rfl
theorem E1u (L:List (List Nat))(k:Nat)(a:List Nat)(i:Nat)(hk:k<L.length):(L.set k a).getD i []=if i=k then a else L.getD i []:=by
 simp only[bh,dD];by_cases h:k=i
 . subst h;simp[hk]
 . have:¬ i=k:=λe=>h e.symm
   simp[h,this]
section
variable (kk:Nat->Nat)(t:Nat->Nat->Bool)
def E0P (L:List (List Nat))(j:Nat):List Nat:=(L.getD (kk j) []).filter (t j)
def E08 (L:List (List Nat))(j:Nat):List Nat:=(L.getD (kk j) []).filter λx=>!t j x
theorem vb (L:List (List Nat))(j:Nat):(E0P kk t L j).length+(E08 kk t L j).length=(L.getD (kk j) []).length:=by
 unfold E0P E08
 induction L.getD (kk j) [] with
 |nil=>rfl
 |cons x r ih =>
   simp only[jl];cases t j x<;>simp<;>omega
def E1j:List Nat->List (List Nat)->Nat->List Nat
 | [],L,s=>au (E0H L) s
 |j::r,L,s=>E1j r (L.set (kk j) (E0P kk t L j)) (s ||| 1 <<< j)++E1j r (L.set (kk j) (E08 kk t L j)) s
def atB:List Nat->List (List Nat)->Nat->Nat->Nat
 | [],_,_,s=>s
 | j::r,L,i,s=>if i<(E0P kk t L j).length*E0O L (kk j) then atB r (L.set (kk j) (E0P kk t L j)) i (s ||| 1 <<< j)
    else atB r (L.set (kk j) (E08 kk t L j)) (i-(E0P kk t L j).length*E0O L (kk j)) s
theorem E1X:∀ (js:List Nat) (L:List (List Nat)) (s:Nat),(∀ j∈js,kk j<L.length)->(E1j kk t js L s).length=E0H L
 | [],L,s,_=>by simp[E1j]
 |j::r,L,s,h=>by
   have hk:=h j (by simp)
   rw [E1j,List.length_append,E1X r _ _ (λi hi=>by rw [iy];exact h i (by simp [hi])),E1X r _ _ (λi hi=>by rw [iy];exact h i (by simp [hi])),
    aDx _ _ _ hk,aDx _ _ _ hk,iv L _ hk,←vb kk t L j,hY]
theorem E2l:∀ (js:List Nat) (L:List (List Nat)) (i s:Nat),(∀ j∈js,kk j<L.length)->i<E0H L->(E1j kk t js L s)[i]?=some (atB kk t js L i s)
 | [],L,i,s,_,hi=>by simp[E1j,atB,hi]
 |j::r,L,i,s,h,hi=>by
   have hk:=h j (by simp)
   have h1:∀a:List Nat,∀i∈r,kk i<(L.set (kk j) a).length:=λa i hi=>by rw[iy];exact h i (by simp[hi])
   have hl:=E1X kk t r (L.set (kk j) (E0P kk t L j)) (s ||| 1 <<< j) (h1 _);rw[aDx _ _ _ hk] at hl;rw[E1j,atB];by_cases hc:i<(E0P kk t L j).length*E0O L (kk j)
   . rw [if_pos hc,List.getElem?_append_left (by omega)]
     exact E2l r _ _ _ (h1 _) (by rw[aDx _ _ _ hk];exact hc)
   . rw [if_neg hc,List.getElem?_append_right (by omega),hl]
     refine E2l r _ _ _ (h1 _) ?_;rw[aDx _ _ _ hk];rw[iv L _ hk,←vb kk t L j,hY] at hi;omega
def E1C (c:Nat->Nat):List Nat->Nat->Nat
 | [],s=>s
 |j::r,s=>E1C c r (if t j (c (kk j)) then s ||| 1 <<< j else s)
theorem E1y (c:Nat->Nat):∀ (js:List Nat) (s i:Nat),(E1C kk t c js s).testBit i=(s.testBit i || (js.contains i&&t i (c (kk i))))
 | [],s,i=>by simp[E1C]
 |j::r,s,i=>by
   rw[E1C,E1y c r];by_cases h:i=j
   . subst h;cases ht:t i (c (kk i)) with
     |true=>simp[fj,E0N]
     |false=>simp
   . have hne:(i==j)=false:=by simpa using h
     cases ht:t j (c (kk j)) with
     |true =>
       have h1:decide (i=j)=false:=by simpa using h
       simp only[if_true,fj,E0N,fb,hne,gL,h1,AB]
     |false=>simp only[aI,if_false,fb,hne,gL]
theorem E3d:∀ {l:List Nat},l ≠ []->l.headD 0∈l
 | [],h=>absurd rfl h
 |_::_,_=>by simp
theorem E1M:∀ (js:List Nat) (L:List (List Nat)) (s x:Nat),(∀ j∈js,kk j<L.length)->
 (x∈E1j kk t js L s↔∃c:Nat->Nat,(∀k,k<L.length->c k∈L.getD k [])∧x=E1C kk t c js s)
 | [],L,s,x,_=>by
   simp only[E1j,List.mem_replicate,E2y,E1C];constructor
   . rintro⟨h1,rfl⟩;exact⟨λk=>(L.getD k []).headD 0,λk hk=>E3d (h1 k hk),rfl⟩
   . rintro ⟨c,h1,rfl⟩;refine ⟨λk hk hl=>?_,rfl⟩
     have:=h1 k hk
     rw[hl] at this;cases this
 |j::r,L,s,x,h=>by
   have hk:=h j (by simp)
   have h1:∀a:List Nat,∀i∈r,kk i<(L.set (kk j) a).length:=λa i hi=>by rw[iy];exact h i (by simp[hi])
   rw[E1j,az,E1M r _ _ _ (h1 _),E1M r _ _ _ (h1 _)];simp only[iy];constructor
   . rintro (⟨c,h2,rfl⟩ | ⟨c,h2,rfl⟩)
     . have hj:=h2 (kk j) hk;rw [E1u _ _ _ _ hk,if_pos rfl] at hj;have hj:=cZ.1 hj;refine ⟨c,λk nq=>?_,by rw [E1C,if_pos hj.2]⟩
       have:=h2 k nq
       rw[E1u _ _ _ _ hk] at this;by_cases e:k=kk j
       . subst e;exact hj.1
       . rwa [if_neg e] at this
     . have hj:=h2 (kk j) hk;rw [E1u _ _ _ _ hk,if_pos rfl] at hj;have hj:=cZ.1 hj;have hf:t j (c (kk j))=false:=by simpa using hj.2
       refine⟨c,λk nq=>?_,by rw[E1C,hf];rfl⟩
       have:=h2 k nq
       rw[E1u _ _ _ _ hk] at this;by_cases e:k=kk j
       . subst e;exact hj.1
       . rwa [if_neg e] at this
   . rintro ⟨c,h2,rfl⟩;rw [E1C];cases ht:t j (c (kk j)) with
     |true =>
       refine .inl ⟨c,λk nq=>?_,rfl⟩
       rw[E1u _ _ _ _ hk];by_cases e:k=kk j
       . subst e;rw[if_pos rfl];exact cZ.2 ⟨h2 _ hk,ht⟩
       . rw[if_neg e];exact h2 k nq
     |false =>
       refine .inr ⟨c,λk nq=>?_,rfl⟩
       rw[E1u _ _ _ _ hk];by_cases e:k=kk j
       . subst e;rw[if_pos rfl];exact cZ.2 ⟨h2 _ hk,by simp[ht]⟩
       . rw[if_neg e];exact h2 k nq
def azQ (js:List Nat)(L:List (List Nat)):Prop:=∀k,k<L.length->(L.getD k []).Nodup∧∀x∈L.getD k [],∀y∈L.getD k [],(∀j∈js,kk j=k->t j x=t j y)->x=y
theorem azQ.sub {j:Nat}{r:List Nat}{L:List (List Nat)}(h:azQ kk t (j::r) L)(hk:kk j<L.length)(b:Bool):azQ kk t r (L.set (kk j) ((L.getD (kk j) []).filter λx=>t j x==b)):=by
 intro k nq;rw[iy] at nq;rw[E1u _ _ _ _ hk];by_cases e:k=kk j
 . subst e;rw [if_pos rfl];refine ⟨(h _ hk).1.filter _,λx hx y hy xL=>?_⟩
   rw[cZ] at hx hy;refine(h _ hk).2 x hx.1 y hy.1 λi hi Dp=>?_
   rcases aG.1 hi with rfl | hi
   . have h1:=hx.2;have h2:=hy.2;simp only[beq_iff_eq] at h1 h2;rw[h1,h2]
   . exact xL i hi Dp
 . rw [if_neg e];refine ⟨(h k nq).1,λx hx y hy xL=>(h k nq).2 x hx y hy λi hi Dp=>?_⟩
   rcases aG.1 hi with rfl | hi
   . exact absurd Dp.symm e
   . exact xL i hi Dp
theorem E1Y:∀ (js:List Nat) (L:List (List Nat)) (s:Nat),(∀ j∈js,kk j<L.length)->js.Pairwise (· < ·)->(∀ j∈js,s.testBit j=false)->azQ kk t js L->(E1j kk t js L s).Pairwise first
 | [],L,s,_,_,_,hd=>by
   have h1:=E2z L λk hk=>by
    obtain⟨h1,h2⟩:=hd k hk;cases hl:L.getD k [] with
    |nil=>simp
    |cons x r =>
      cases r with
      |nil=>simp
      |cons y q =>
        rw[hl] at h1 h2
        have:=h2 x (by simp) y (by simp) (by simp)
        subst this;simp at h1
   rw[E1j];generalize E0H L=m at h1
   match m,h1 with
   |0,_=>simp
   |1,_=>simp
 |j::r,L,s,h,ha,hs,hd=>by
   have hk:=h j (by simp)
   have h1:∀a:List Nat,∀i∈r,kk i<(L.set (kk j) a).length:=λa i hi=>by rw[iy];exact h i (by simp[hi])
   rw[bN] at ha;have hjr:j∉r:=λhm=>Nat.lt_irrefl _ (ha.1 j hm)
   have d1:=hd.sub kk t hk true;have d2:=hd.sub kk t hk false;have e1:((L.getD (kk j) []).filter λx=>t j x==true)=E0P kk t L j:=by unfold E0P;congr 1;funext x;simp
   have e2:((L.getD (kk j) []).filter λx=>t j x==false)=E08 kk t L j:=by unfold E08;congr 1;funext x;cases t j x<;>rfl
   rw[e1] at d1;rw[e2] at d2;rw[E1j,cF];refine⟨E1Y r _ _ (h1 _) ha.2 (λi hi=>?_) d1,E1Y r _ _ (h1 _) ha.2 (λi hi=>hs i (by simp[hi])) d2,λa ha' b gm=>?_⟩
   . have:i≠j:=λe=>hjr (e ▸ hi)
     rw[fj,E0N,hs i (by simp[hi])];simp[this]
   . obtain ⟨c,_,rfl⟩:=(E1M kk t r _ _ _ (h1 _)).1 ha';obtain ⟨c',_,rfl⟩:=(E1M kk t r _ _ _ (h1 _)).1 gm;refine ⟨j,?_,?_,λi hi=>?_⟩
     . rw[E1y,fj,E0N];simp
     . rw [E1y,hs j (by simp)]
       have:r.contains j=false:=by simpa using hjr
       rw[this];rfl
     . have hir:r.contains i=false:=by
        have:i∉r:=λhm=>by have:=ha.1 i hm;omega
        simpa using this
       rw[E1y,E1y,hir,fj,E0N]
       have:decide (i=j)=false:=by
        have:i≠j:=by omega
        simpa using this
       rw[this,AB,sS,sS]
end
theorem E2c {a b:Nat}(h:first a b):¬first b a:=by
 obtain⟨i,h1,h2,h3⟩:=h;rintro⟨j,h4,h5,h6⟩;rcases qz i j with h | h | h
 . have:=h6 i h;rw[h1,h2] at this;cases this
 . subst h;rw[h1] at h5;cases h5
 . have:=h3 j h;rw[h4,h5] at this;cases this
theorem E3e {α:Type}{R:α->α->Prop}(hR:∀ a b,R a b->¬ R b a):∀ {l m:List α},l.Pairwise R->m.Pairwise R->(∀ x,x∈l↔x∈m)->l=m
 | [],[],_,_,_=>rfl
 | [],b::m,_,_,h=>by have:=(h b).2 (by simp);cases this
 |a::l,[],_,_,h=>by have:=(h a).1 (by simp);cases this
 |a::l,b::m,hl,hm,h=>by
   rw[bN] at hl hm;have uO:a=b:=by
    rcases aG.1 ((h a).1 (by simp)) with e | e
    . exact e
    . rcases aG.1 ((h b).2 (by simp)) with e' | e'
      . exact e'.symm
      . exact absurd (hl.1 b e') (hR _ _ (hm.1 a e))
   subst uO;have nl:a∉l:=λxM=>hR _ _ (hl.1 a xM) (hl.1 a xM)
   have nm:a∉m:=λxM=>hR _ _ (hm.1 a xM) (hm.1 a xM)
   rw[E3e hR hl.2 hm.2 λx=>?_]
   constructor
   . intro hx;rcases aG.1 ((h x).1 (by simp [hx])) with e | e
     . exact absurd (e ▸ hx) nl
     . exact e
   . intro hx;rcases aG.1 ((h x).2 (by simp [hx])) with e | e
     . exact absurd (e ▸ hx) nm
     . exact e
theorem E3I (kk:Nat->Nat)(t:Nat->Nat->Bool)(n:Nat)(L:List (List Nat))(M:List Nat)(hk:∀ j,j<n->kk j<L.length)(hd:azQ kk t (bA n) L)(hM:M.Pairwise first)(eC:∀ s∈M,s<2 ^ n)
 (H:∀s,s<2 ^ n->(s∈M↔∀k,k<L.length->∃x∈L.getD k [],∀j,j<n->kk j=k->t j x=s.testBit j)):E1j kk t (bA n) L 0=M:=by
 have nq:∀j∈bA n,kk j<L.length:=λj hj=>hk j (cu.1 hj)
 refine E3e (λ_ _=>E2c) (E1Y kk t _ _ _ nq hD (by simp) hd) hM λs=>?_
 rw[E1M kk t _ _ _ _ nq];constructor
 . rintro ⟨c,h1,rfl⟩;have hb:∀ i,(E1C kk t c (bA n) 0).testBit i=(decide (i<n)&&t i (c (kk i))):=λi=>by rw [E1y];simp
   have hl:E1C kk t c (bA n) 0<2 ^ n:=xZ λi hi=>by
    rw[hb]
    have:¬i<n:=by omega
    simp[this]
   refine(H _ hl).2 λk zq=>⟨c k,h1 k zq,λj hj e=>?_⟩
   rw[hb,e];simp[hj]
 . intro hs;have hl:=eC s hs;have h1:=(H s hl).1 hs;refine ⟨λk=>if h:k<L.length then Classical.choose (h1 k h) else 0,λk zq=>?_,?_⟩
   . simp only[zq,dif_pos];exact(tB (h1 k zq)).1
   . apply jc;intro i;rw [E1y];by_cases hi:i<n
     . have Dp:=hk i hi
       have:=(tB (h1 (kk i) Dp)).2 i hi rfl
       simp only[Dp,dif_pos,eT,gL,this];simp[hi]
     . rw [E1B hl (by omega)]
       simp[hi]
end Go.Hg
namespace Go.Hg
def azx (v:List Int)(es:List (List Int))(P:Int->Prop):Prop:=(∀e∈es,¬ ∀y∈e,P y)∧∀u∈v,P u∨∃e∈es,∀y∈e,P y∨y=u
theorem azx.congr {v:List Int}{es:List (List Int)}{P Q:Int->Prop}(hi:∀e∈es,∀y∈e,y∈v)(h:∀y∈v,(P y↔Q y)):azx v es P↔azx v es Q:=by
 unfold azx;refine and_congr ?_ ?_
 . refine forall_congr' λe=>forall_congr' λhe=>not_congr (forall_congr' λy=>forall_congr' λhy=>h y (hi e he y hy))
 . refine forall_congr' λu=>forall_congr' λhu=>or_congr (h u hu) (exists_congr λe=>?_)
   constructor
   . rintro⟨he,h1⟩;exact⟨he,λy hy=>(h1 y hy).imp_left (h y (hi e he y hy)).1⟩
   . rintro⟨he,h1⟩;exact⟨he,λy hy=>(h1 y hy).imp_left (h y (hi e he y hy)).2⟩
theorem E2A {es:List (List Int)}{l:List Int}:free es l=true↔∀e∈es,¬ ∀y∈e,y∈l:=by
 unfold free;rw[ed,gA];exact forall_congr' λe=>forall_congr' λ_=>not_congr D9H
theorem E14 {v:List Int}{es:List (List Int)}{l:List Int}(ha:asc l=true)(hw:∀y∈l,y∈v):A09 v es l=true↔azx v es (· ∈ l):=by
 have h1:A5O v es l=free es l:=by
  unfold A5O;rw[ha,D9H.2 hw];simp
 unfold A09 azx;rw[h1,aj,E2A];refine and_congr_right λ_=>?_
 rw[bB];refine forall_congr' λu=>forall_congr' λ_=>?_
 rw[Bool.or_eq_true,bj];refine or_congr Iff.rfl ?_;rw[ed,←Bool.not_eq_true,E2A];constructor
 . intro h;refine b5 λhn=>h λe he kF=>hn ⟨e,he,λy hy=>?_⟩
   have:=kF y hy
   simpa using this
 . rintro⟨e,he,h⟩ kF;exact kF e he λy hy=>by simpa using h y hy
theorem E3J {v:List Int}(ha:asc v=true){i:Nat}(hi:i<v.length):A0t v v[i]=i:=by
 have h1:=gn (v:=v) (y:=v[i]) (aM hi);have h2:=iV (v:=v) (y:=v[i]) (aM hi);rw[ah h2,aa] at h1;exact E19 ha h2 hi h1
structure tI (v:List Int)(es:List (List Int))(m:Nat)(kk:Nat->Nat)(V:Nat->List Int)(ES:Nat->List (List Int)):Prop where
 kkm:∀j,j<v.length->kk j<m
 vs:∀k,k<m->∀y,y∈V k↔∃j,∃h:j<v.length,v[j]=y∧kk j=k
 va:∀k,k<m->asc (V k)=true
 sub:∀k,k<m->∀e∈ES k,e∈es∧∀y∈e,y∈V k
 all:∀e∈es,∃k,k<m∧e∈ES k
section
variable {v:List Int}{es:List (List Int)}{m:Nat}{kk:Nat->Nat}{V:Nat->List Int}{ES:Nat->List (List Int)}(G:GOk v es)(D:tI v es m kk V ES)
include G D
theorem tI.gok {k:Nat}(hk:k<m):GOk (V k) (ES k) where
 av:=D.va k hk
 bc:=λe he y hy=>(D.sub k hk e he).2 y hy
 ne:=λe he=>G.ne e (D.sub k hk e he).1
omit G in
theorem tI.one {k k':Nat}(hk:k<m)(nq:k'<m)(G:asc v=true){y:Int}(h:y∈V k)(h':y∈V k'):k=k':=by
 obtain⟨j,hj,e1,e2⟩:=(D.vs k hk y).1 h;obtain⟨j',Dy,e3,e4⟩:=(D.vs k' nq y).1 h'
 have:j=j':=E19 G hj Dy (e1.trans e3.symm)
 subst this;rw[←e2,←e4]
theorem tI.aBq (P:Int->Prop):azx v es P↔∀k,k<m->azx (V k) (ES k) P:=by
 constructor
 . rintro ⟨h1,h2⟩ k hk;refine ⟨λe he=>h1 e (D.sub k hk e he).1,λu hu=>?_⟩
   obtain⟨j,hj,e1,_⟩:=(D.vs k hk u).1 hu;rcases h2 u (e1 ▸ aM hj) with h | ⟨e,he,h⟩
   . exact .inl h
   . refine .inr ⟨e,?_,h⟩;obtain ⟨k',nq,he'⟩:=D.all e he
     have:u∈e:=by
      refine b5 λhn=>h1 e he λy hy=>?_
      rcases h y hy with h3 | h3
      . exact h3
      . exact absurd (h3 ▸ hy) hn
     have nT:=(D.sub k' nq e he').2 u this;rw[D.one hk nq G.av hu nT];exact he'
 . intro h;refine ⟨λe he=>?_,λu hu=>?_⟩
   . obtain⟨k,hk,he'⟩:=D.all e he;exact(h k hk).1 e he'
   . obtain ⟨j,hj,rfl⟩:=pd hu;have hk:=D.kkm j hj;rcases (h _ hk).2 v[j] ((D.vs _ hk _).2 ⟨j,hj,rfl,rfl⟩) with h1 | ⟨e,he,h1⟩
     . exact .inl h1
     . exact .inr ⟨e,(D.sub _ hk e he).1,h1⟩
def tst (v:List Int)(kk:Nat->Nat)(V:Nat->List Int)(j x:Nat):Bool:=x.testBit (A0t (V (kk j)) (v.getD j 0))
omit G in
theorem tI.mem_of (hv:asc v=true){k s x:Nat}(hk:k<m)(h:∀j,j<v.length->kk j=k->tst v kk V j x=s.testBit j):∀y∈V k,(y∈idsP v s↔y∈idsP (V k) x):=by
 intro y hy;obtain⟨j,hj,rfl,e⟩:=(D.vs k hk y).1 hy;have h1:v[j]∈idsP v s↔s.testBit j=true:=by rw[←bj,E1t hv hj]
 have hp:=iV hy;have hg:=gn hy;rw[ah hp,aa] at hg;have h2:v[j]∈idsP (V k) x↔x.testBit (A0t (V k) v[j])=true:=by
  rw[←bj,←hg,E1t (D.va k hk) hp,hg]
 have h3:=h j hj e;unfold tst at h3;rw[e,bh,ah hj,bI] at h3;rw[h1,h2,h3]
theorem tI.az2 {s:Nat}(hs:s<2 ^ v.length):s∈D4P v es↔∀k,k<m->∃x∈D4P (V k) (ES k),∀j,j<v.length->kk j=k->tst v kk V j x=s.testBit j:=by
 have ids:∀(u:List Int) (x:Nat),∀y∈idsP u x,y∈u:=λu x y hy=>by
  obtain⟨i,hi,rfl,_⟩:=E1L.1 hy;exact aM hi
 rw[auX G,E14 (E1W G.av s) (ids v s),D.aBq G];constructor
 . rintro ⟨_,h⟩ k hk;have hG:=D.gok G hk;have dK:∀ y∈(V k).filter (λy=>(idsP v s).contains y),y∈V k:=λy hy=>(cZ.1 hy).1
   have hb:∀i (hi:i<(V k).length),(A2w (V k) ((V k).filter λy=>(idsP v s).contains y)).testBit i=(idsP v s).contains (V k)[i]:=by
    intro i hi;rw[E1J (D.va k hk) dK i hi];apply c6.2;rw[bj,cZ];exact⟨λh=>h.2,λh=>⟨aM hi,h⟩⟩
   have ht:∀j,j<v.length->kk j=k->tst v kk V j (A2w (V k) ((V k).filter λy=>(idsP v s).contains y))=s.testBit j:=by
    intro j hj e;unfold tst;rw[e,bh,ah hj,bI];have hy:v[j]∈V k:=(D.vs k hk _).2 ⟨j,hj,rfl,e⟩;have hp:=iV hy;have hg:=gn hy;rw[ah hp,aa] at hg;rw[hb _ hp,hg,E1t G.av hj]
   refine⟨_,(auX hG).2 ⟨xZ λi hi=>wu dK i hi,?_⟩,ht⟩
   rw[E14 (E1W (D.va k hk) _) (ids _ _)];exact(azx.congr hG.bc (D.mem_of G.av hk ht)).1 (h k hk)
 . intro h;refine ⟨hs,λk hk=>?_⟩
   obtain⟨x,hx,ht⟩:=h k hk;have hG:=D.gok G hk;have h1:=((auX hG).1 hx).2;rw[E14 (E1W (D.va k hk) _) (ids _ _)] at h1;exact(azx.congr hG.bc (D.mem_of G.av hk ht)).2 h1
theorem E2Q:(D4P v es).Pairwise first:=by
 have:=D
 rw[D8B G];exact(D7w v.length 0 0 (by simp)).filter _
def partL (m:Nat)(V:Nat->List Int)(ES:Nat->List (List Int)):List (List Nat):=(bA m).map λk=>D4P (V k) (ES k)
omit G D in
theorem E15 {k:Nat}(hk:k<m):(partL m V ES).getD k []=D4P (V k) (ES k):=by
 simp[partL,bh,hk]
theorem tI.aBs:azQ kk (tst v kk V) (bA v.length) (partL m V ES):=by
 intro k hk;have hk:k<m:=by simpa [partL] using hk
 rw[E15 hk];have hG:=D.gok G hk;have hf:(D4P (V k) (ES k)).Pairwise first:=by
  rw[D8B hG];exact(D7w _ 0 0 (by simp)).filter _
 refine⟨hf.imp λ{a b} h e=>by subst e;exact E2c h h,λx hx y hy xL=>?_⟩
 have h1:=((auX hG).1 hx).1;have h2:=((auX hG).1 hy).1;apply jc;intro i;by_cases hi:i<(V k).length
 . obtain ⟨j,hj,e1,e2⟩:=(D.vs k hk _).1 (aM hi)
   have:=xL j (by simpa using hj) e2
   unfold tst at this;rw[e2,bh,ah hj,bI,e1,E3J (D.va k hk) hi] at this;exact this
 . rw[E1B h1 (by omega),E1B h2 (by omega)]
theorem tI.enum:E1j kk (tst v kk V) (bA v.length) (partL m V ES) 0=D4P v es:=by
 refine E3I kk _ v.length _ _ (λj hj=>by simpa [partL] using D.kkm j hj) (D.aBs G) (E2Q G D) (λs hs=>((auX G).1 hs).1) λs hs=>?_
 rw[D.az2 G hs];constructor
 . intro h k hk;have hk:k<m:=by simpa [partL] using hk
   rw[E15 hk];exact h k hk
 . intro h k hk
   have:=h k (by simpa [partL] using hk)
   rwa [E15 hk] at this
theorem tI.count:E0H (partL m V ES)=(D4P v es).length:=by
 rw[←D.enum G,E1X];intro j hj;simpa [partL] using D.kkm j (by simpa using hj)
theorem tI.at_ {i:Nat}(hi:i<(D4P v es).length):(D4P v es)[i]?=some (atB kk (tst v kk V) (bA v.length) (partL m V ES) i 0):=by
 have hk:∀j∈bA v.length,kk j<(partL m V ES).length:=λj hj=>by simpa [partL] using D.kkm j (by simpa using hj)
 have:=E2l kk (tst v kk V) (bA v.length) (partL m V ES) i 0 hk (by rw[D.count G];exact hi)
 rwa [D.enum G] at this
end
end Go.Hg
namespace Go.Hg
def rtF:Nat->(Nat->Nat)->Nat->Nat
 |0,_,i=>i
 |n+1,f,i=>if f i=i then i else rtF n f (f i)
def rt (f:Nat->Nat)(i:Nat):Nat:=rtF i f i
section
variable {f:Nat->Nat}(D:∀i,f i<=i)
include D
theorem E3r:∀(i n m:Nat),i<=n->i<=m->rtF n f i=rtF m f i:=by
 intro i
 induction i using lI with
 |ind i ih =>
   intro n m hn hm;cases n with
   |zero =>
     have:i=0:=by omega
     subst this;have h0:f 0=0:=acy.1 (D 0);cases m with
     |zero=>rfl
     |succ m=>simp[rtF,h0]
   |succ n =>
     cases m with
     |zero =>
       have:i=0:=by omega
       subst this;have h0:f 0=0:=acy.1 (D 0);simp[rtF,h0]
     |succ m =>
       simp only[rtF];by_cases h:f i=i
       . rw[if_pos h,if_pos h]
       . rw [if_neg h,if_neg h]
         have:=D i
         exact ih (f i) (by omega) n m (by omega) (by omega)
theorem ov (i:Nat):rt f i=if f i=i then i else rt f (f i):=by
 have h0:=D i;cases i with
 |zero =>
   have:f 0=0:=by omega
   simp[rt,rtF,this]
 |succ i =>
   unfold rt;rw[rtF];by_cases h:f (i+1)=i+1
   . rw[if_pos h,if_pos h]
   . rw[if_neg h,if_neg h];exact E3r D _ _ _ (by omega) (ay _)
theorem azt (i:Nat):rt f i<=i:=by
 induction i using lI with
 |ind i ih =>
   rw[ov D]
   have:=D i
   by_cases h:f i=i
   . rw[if_pos h];exact ay _
   . rw[if_neg h];have:=ih (f i) (by omega);omega
theorem aDB (i:Nat):f (rt f i)=rt f i:=by
 induction i using lI with
 |ind i ih =>
   rw[ov D]
   have:=D i
   by_cases h:f i=i
   . rw[if_pos h];exact h
   . rw[if_neg h];exact ih (f i) (by omega)
omit D in
theorem azB {i:Nat}(h:f i=i):rt f i=i:=by
 cases i with
 |zero=>rfl
 |succ i=>simp[rt,rtF,h]
end
def un (f:Nat->Nat)(a b:Nat):Nat->Nat:=λi=>if i=max a b then min a b else f i
theorem E3D {f:Nat->Nat}(D:∀i,f i<=i)(a b:Nat):∀i,un f a b i<=i:=by
 intro i;unfold un;split
 . omega
 . exact D i
theorem E2t {f:Nat->Nat}(D:∀i,f i<=i){a b:Nat}(ha:f a=a)(hb:f b=b)(i:Nat):rt (un f a b) i=if rt f i=max a b then min a b else rt f i:=by
 have D':=E3D D a b;have hM:f (max a b)=max a b:=by
  rcases sc a b with h | h
  . rw[n6 h];exact hb
  . rw[s5 h];exact ha
 have hm:f (min a b)=min a b:=by
  rcases sc a b with h | h
  . rw[cX h];exact ha
  . rw[jk h];exact hb
 induction i using lI with
 |ind i ih =>
   by_cases hi:i=max a b
   . have e1:rt f i=max a b:=by rw [hi];exact azB hM
     rw[e1,if_pos rfl];by_cases uO:min a b=max a b
     . rw [ov D']
       have:un f a b i=i:=by unfold un;rw[if_pos hi];omega
       rw[if_pos this];omega
     . rw [ov D'];have h1:un f a b i=min a b:=by unfold un;rw [if_pos hi]
       rw[h1,if_neg (by omega)]
       refine azB ?_;unfold un;rw[if_neg uO];exact hm
   . have h1:un f a b i=f i:=by unfold un;rw [if_neg hi]
     rw[ov D',h1];have h2:=ov D i;by_cases h:f i=i
     . rw[if_pos h] at h2 ⊢;rw[h2,if_neg hi]
     . rw [if_neg h] at h2 ⊢
       have:=D i
       rw[h2];exact ih (f i) (by omega)
theorem E3K {f:Nat->Nat}(D:∀i,f i<=i){a b:Nat}(ha:f a=a)(hb:f b=b){i j:Nat}(h:rt f i=rt f j):rt (un f a b) i=rt (un f a b) j:=by
 rw[E2t D ha hb,E2t D ha hb,h]
section
variable (p:Int->Nat)(h0:Int)
def unT (p:Int->Nat)(h0:Int)(l:List Int)(f:Nat->Nat):Nat->Nat:=l.foldl (λf y=>un f (rt f (p h0)) (rt f (p y))) f
theorem azu:∀ (l:List Int) (f:Nat->Nat),(∀ i,f i<=i)->(∀ i,unT p h0 l f i<=i)∧(∀ i j,rt f i=rt f j->rt (unT p h0 l f) i=rt (unT p h0 l f) j)∧∀ y∈l,rt (unT p h0 l f) (p y)=rt (unT p h0 l f) (p h0)
 | [],f,D=>⟨D,λ_ _ h=>h,λy hy=>by cases hy⟩
 |y::r,f,D=>by
   have D':=E3D D (rt f (p h0)) (rt f (p y));have ra:=aDB D (p h0);have rb:=aDB D (p y);obtain⟨h1,h2,h3⟩:=azu r (un f (rt f (p h0)) (rt f (p y))) D';have e:unT p h0 (y::r) f=unT p h0 r (un f (rt f (p h0)) (rt f (p y))):=rfl;rw[e];refine⟨h1,λi j h=>h2 i j (E3K D ra rb h),λz hz=>?_⟩
   rcases aG.1 hz with rfl | hz
   . refine h2 _ _ ?_;rw [E2t D ra rb,E2t D ra rb];rcases sc (rt f (p h0)) (rt f (p z)) with h | h
     . rw [n6 h,cX h,if_pos rfl];by_cases e:rt f (p h0)=rt f (p z)
       . rw[if_pos e]
       . rw[if_neg e]
     . rw [s5 h,jk h,if_pos rfl];by_cases e:rt f (p z)=rt f (p h0)
       . rw[if_pos e]
       . rw[if_neg e]
   . exact h3 z hz
def unS (p:Int->Nat)(es:List (List Int))(f:Nat->Nat):Nat->Nat:=es.foldl (λf e=>unT p (e.headD 0) e.tail f) f
theorem LL:∀ (es:List (List Int)) (f:Nat->Nat),(∀ i,f i<=i)->(∀ i,unS p es f i<=i)∧(∀ i j,rt f i=rt f j->rt (unS p es f) i=rt (unS p es f) j)∧∀ e∈es,∀ y∈e,rt (unS p es f) (p y)=rt (unS p es f) (p (e.headD 0))
 | [],f,D=>⟨D,λ_ _ h=>h,λy hy=>by cases hy⟩
 |e::r,f,D=>by
   obtain⟨g1,g2,g3⟩:=azu p (e.headD 0) e.tail f D;obtain⟨h1,h2,h3⟩:=LL r (unT p (e.headD 0) e.tail f) g1;have e':unS p (e::r) f=unS p r (unT p (e.headD 0) e.tail f):=rfl;rw[e'];refine⟨h1,λi j h=>h2 i j (g2 i j h),λd hd y hy=>?_⟩
   rcases aG.1 hd with rfl | hd
   . refine h2 _ _ ?_;cases d with
     |nil=>cases hy
     |cons x q =>
       rcases aG.1 hy with rfl | hy
       . rfl
       . exact g3 y hy
   . exact h3 d hd y hy
end
def E0M (f:Nat->Nat)(r:Nat):Nat:=(bA r).countP λi=>f i==i
theorem vc (f:Nat->Nat)(r:Nat):E0M f (r+1)=E0M f r+if f r=r then 1 else 0:=by
 unfold E0M;rw[jO,List.countP_append];congr 1;simp[List.countP_cons]
theorem E3f (f:Nat->Nat):∀{a b:Nat},a<=b->E0M f a<=E0M f b:=by
 intro a b h
 induction h with
 |refl=>exact ay _
 |step _ ih=>rw[vc];omega
theorem LV {f:Nat->Nat}{r n:Nat}(hr:f r=r)(h:r<n):E0M f r<E0M f n:=by
 have h1:=E3f f (show r+1<=n from h);rw[vc,if_pos hr] at h1;omega
section
variable (v:List Int)(es:List (List Int))
def E0J:Nat->Nat:=unS (A0t v) es id
def E0E (j:Nat):Nat:=E0M (E0J v es) (rt (E0J v es) j)
def E0I:Nat:=E0M (E0J v es) v.length
def E4k (k:Nat):List Int:=(v.zipIdx.filter λx=>E0E v es x.2==k).map (·.1)
def E4l (k:Nat):List (List Int):=es.filter λe=>E0E v es (A0t v (e.headD 0))==k
theorem zl:∀i,E0J v es i<=i:=(LL (A0t v) es id λ_=>ay _).1
variable {v es}(G:GOk v es)
include G
theorem iE:tI v es (E0I v es) (E0E v es) (E4k v es) (E4l v es) where
 kkm:=λj hj=>by
  have D:=zl v es
  have:=azt D j
  exact LV (aDB D j) (by omega)
 vs:=λk _ y=>by
  unfold E4k;rw[bp];constructor
  . rintro⟨⟨z,i⟩,hz,rfl⟩;rw[cZ] at hz;obtain⟨hi,e⟩:=kY.1 hz.1;exact⟨i,hi,e,by simpa using hz.2⟩
  . rintro⟨j,hj,rfl,e⟩;exact⟨(v[j],j),cZ.2 ⟨kY.2 ⟨hj,rfl⟩,by simp[e]⟩,rfl⟩
 va:=λk _=>by
  rw[E1x];have h1:=E1x.1 G.av;have h2:(E4k v es k).Sublist v:=by
   unfold E4k;have h3:(v.zipIdx.map (·.1)).Pairwise (· < ·):=by rw[hI];exact h1
   have h4:((v.zipIdx.filter λx=>E0E v es x.2==k).map (·.1)).Sublist (v.zipIdx.map (·.1)):=(aDw).map _
   rwa [hI] at h4
  exact h1.sublist h2
 sub:=λk _ e he=>by
  unfold E4l at he;rw[cZ] at he;refine⟨he.1,λy hy=>?_⟩
  have hy':=G.bc e he.1 y hy;unfold E4k;rw[bp];have hp:=iV hy';have hg:=gn hy';rw[ah hp,aa] at hg;refine⟨(v[A0t v y],A0t v y),cZ.2 ⟨kY.2 ⟨hp,rfl⟩,?_⟩,hg⟩
  have:=(LL (A0t v) es id λ_=>ay _).2.2 e he.1 y hy
  have h2:=he.2;simp only[E0E,beq_iff_eq] at h2 ⊢;rw[show rt (E0J v es) (A0t v y)=rt (E0J v es) (A0t v (e.headD 0)) from this];exact h2
 all:=λe he=>by
  have D:=zl v es;have hh:e.headD 0∈v:=by
   cases e with
   |nil=>exact absurd rfl (G.ne _ he)
   |cons x r=>exact G.bc _ he x (by simp)
  have hp:=iV hh
  have:=azt D (A0t v (e.headD 0))
  exact⟨E0E v es (A0t v (e.headD 0)),LV (aDB D _) (by omega),cZ.2 ⟨he,by simp⟩⟩
end
end Go.Hg
namespace Go.Hg
open Go.Mid
section
variable (f:Nat->Nat)
def E1p (k:Nat):List (Int×Int):=((bA k).filter λi=>f i==i).map λr=>((r:Nat):Int).casesOn (λa=>(((a:Nat):Int),((E0M f a:Nat):Int))) λ_=>(0,0)
theorem E1K (k:Nat):E1p f k=((bA k).filter λi=>f i==i).map λ(r:Nat)=>((r:Int),(E0M f r:Int)):=rfl
variable {e:Int->Int->Bool}(he:∀x y,e x y=(x==y))
include he
theorem E2B {z:Int}{r:Nat}:∀ {l:List Nat},r∈l->E0C e (r:Int) z (l.map λ(r:Nat)=>((r:Int),(E0M f r:Int)))=(E0M f r:Int)
 | [],h=>by cases h
 |a::l,h=>by
   simp only[aF,E0C,he];by_cases hra:r=a
   . subst hra;simp
   . have h1:((r:Int)==(a:Int))=false:=by
      rw[beq_eq_false_iff_ne];omega
     rw[h1];rcases aG.1 h with rfl | h
     . exact absurd rfl hra
     . simpa using E2B h
theorem E2C {r:Nat}:∀ {l:List Nat},E1H e (r:Int) (l.map λ(r:Nat)=>((r:Int),(E0M f r:Int)))=l.contains r
 | []=>rfl
 |a::l=>by
   simp only[aF,E1H,he,fb];rw[E2C (l:=l)];by_cases hra:r=a
   . subst hra;simp
   . have h1:((r:Int)==(a:Int))=false:=by
      rw[beq_eq_false_iff_ne];omega
     have h2:(r==a)=false:=by
      rw[beq_eq_false_iff_ne];exact hra
     rw[h1,h2];simp
theorem E2D {r:Nat}{y:Int}:∀ {l:List Nat},r∉l->E0D e (r:Int) y (l.map λ(r:Nat)=>((r:Int),(E0M f r:Int)))=(l.map λ(r:Nat)=>((r:Int),(E0M f r:Int)))++[((r:Int),y)]
 | [],_=>rfl
 |a::l,h=>by
   simp only[aG,not_or] at h;simp only[aF,E0D,he,List.cons_append];have h1:((r:Int)==(a:Int))=false:=by
    rw[beq_eq_false_iff_ne];omega
   rw[h1,E2D h.2];simp
theorem azR {z:Int}{r k:Nat}(hr:f r=r)(h:r<k):E0C e (r:Int) z (E1p f k)=(E0M f r:Int):=by
 rw[E1K];exact E2B f he (cZ.2 ⟨cu.2 h,by simp[hr]⟩)
theorem azS {r k:Nat}(hr:f r=r):E1H e (r:Int) (E1p f k)=decide (r<k):=by
 rw[E1K,E2C f he];rw[c6];simp[cZ,hr]
theorem azT {k:Nat}(hr:f k=k):E0D e (k:Int) (E0M f k:Int) (E1p f k)=E1p f (k+1):=by
 rw[E1K,E1K,E2D f he (by simp[cZ]),jO,s8,b9]
 simp[hr]
omit he in
theorem az3 {k:Nat}(hr:f k≠k):E1p f (k+1)=E1p f k:=by
 rw[E1K,E1K,jO,s8,b9];simp[hr]
end
def cq {α:Type}(F:Nat->α)(c:Nat)(x:α):Nat->α:=λi=>if i=c then x else F i
def E0L (m:Nat)(V:Nat->List Int)(E:Nat->List (List Int)):List (List Int×List (List Int)):=(bA m).map λc=>(V c,E c)
theorem c0 (m:Nat)(V E):(E0L m V E).length=m:=by simp[E0L]
theorem kh {m:Nat}{V E}{c:Nat}(h:c<m):(E0L m V E)[c]?=some (V c,E c):=by
 simp[E0L,h]
theorem E2E {m:Nat}{V E}{c:Nat}{x:List Int}{y:List (List Int)}:(E0L m V E).set c (x,y)=E0L m (cq V c x) (cq E c y):=by
 apply List.ext_getElem?;intro i;simp only[E0L,dD,List.getElem?_map,List.length_map,List.length_range,cq];by_cases hi:i<m
 . rw [List.getElem?_range hi];by_cases hc:c=i
   . subst hc;simp[hi]
   . rw[if_neg hc];simp[Ne.symm hc]
 . rw [List.getElem?_eq_none (by simp;omega)]
   by_cases hc:c=i
   . subst hc;simp[hi]
   . rw[if_neg hc];rfl
theorem azU {m:Nat}{V E}(hv:V m=[])(he:E m=[]):E0L m V E++[([],[])]=E0L (m+1) V E:=by
 simp[E0L,jO,hv,he]
theorem azz {m:Nat}{V E}{c:Nat}{x:List Int}:(E0L m V E).set c (x,E c)=E0L m (cq V c x) E:=by
 rw[E2E];congr 1;funext i;unfold cq;by_cases h:i=c
 . rw[if_pos h,h]
 . rw[if_neg h]
theorem azV {m:Nat}{V E}{c:Nat}{y:List (List Int)}:(E0L m V E).set c (V c,y)=E0L m V (cq E c y):=by
 rw[E2E];congr 1;funext i;unfold cq;by_cases h:i=c
 . rw[if_pos h,h]
 . rw[if_neg h]
section
variable (v:List Int)(es:List (List Int))
def E0T (k c:Nat):List Int:=((v.zipIdx.take k).filter λx=>E0E v es x.2==c).map (·.1)
def E1g (k c:Nat):List (List Int):=(es.take k).filter λe=>E0E v es (A0t v (e.headD 0))==c
theorem azW:E0T v es v.length=E4k v es:=by
 funext c;unfold E0T E4k;rw[a6 (by simp)]
theorem azX:E1g v es es.length=E4l v es:=by
 funext c;unfold E1g E4l;rw[a6 (ay _)]
theorem azL:E1g v es 0=λ_=>[]:=by
 funext c;simp[E1g]
theorem azv {k:Nat}(hk:k<v.length):E0T v es (k+1)=cq (E0T v es k) (E0E v es k) (E0T v es k (E0E v es k)++[v[k]]):=by
 funext c;unfold E0T cq;have hz:k<v.zipIdx.length:=by simpa using hk
 rw[W1,ah hz,s8,b9];by_cases h:c=E0E v es k
 . subst h;simp
 . have:(E0E v es k==c)=false:=by rw [beq_eq_false_iff_ne];exact λe=>h e.symm
   simp[this,h]
theorem azM {k:Nat}(hk:k<es.length):E1g v es (k+1)=cq (E1g v es k) (E0E v es (A0t v (es[k].headD 0))) (E1g v es k (E0E v es (A0t v (es[k].headD 0)))++[es[k]]):=by
 funext c;unfold E1g cq;rw[W1,ah hk,s8];by_cases h:c=E0E v es (A0t v (es[k].headD 0))
 . subst h;simp
 . have:(E0E v es (A0t v (es[k].headD 0))==c)=false:=by rw [beq_eq_false_iff_ne];exact λe=>h e.symm
   rw[if_neg h];simp only[Option.toList_some,jl,this,auV,aI,if_false,List.append_nil]
theorem azA {k:Nat}:E0T v es k (E0M (E0J v es) k)=[]:=by
 unfold E0T;rw[List.map_eq_nil_iff,kC];intro x hx;rw[beq_iff_eq];obtain⟨i,hi,rfl⟩:=pd hx;rw[aW] at hi;simp only[List.getElem_take,List.getElem_zipIdx,bS];have h1:=azt (zl v es) i;have h2:=LV (aDB (zl v es) i) (show rt (E0J v es) i<k by omega)
 unfold E0E;omega
end
end Go.Hg
namespace Go.Hg
section
variable (kk:Nat->Nat)(t:Nat->Nat->Bool)
def E1a (x:List (List Nat)×Nat×Nat)(j:Nat):List (List Nat)×Nat×Nat :=
 if x.2.1<(E0P kk t x.1 j).length*E0O x.1 (kk j) then(x.1.set (kk j) (E0P kk t x.1 j),x.2.1,x.2.2 ||| 1 <<< j)
 else(x.1.set (kk j) (E08 kk t x.1 j),x.2.1-(E0P kk t x.1 j).length*E0O x.1 (kk j),x.2.2)
theorem E2m:∀ (js:List Nat) (L:List (List Nat)) (i s:Nat),atB kk t js L i s=(js.foldl (E1a kk t) (L,i,s)).2.2
 | [],_,_,_=>rfl
 |j::r,L,i,s=>by
   rw[jM,atB];by_cases h:i<(E0P kk t L j).length*E0O L (kk j)
   . have e:E1a kk t (L,i,s) j=(L.set (kk j) (E0P kk t L j),i,s ||| 1 <<< j):=by unfold E1a;rw [if_pos h]
     rw[if_pos h,e,E2m r]
   . have e:E1a kk t (L,i,s) j=(L.set (kk j) (E08 kk t L j),i-(E0P kk t L j).length*E0O L (kk j),s):=by unfold E1a;rw [if_neg h]
     rw[if_neg h,e,E2m r]
def atS (L:List (List Nat))(i:Nat)(j:Nat):List (List Nat)×Nat×Nat:=(bA j).foldl (E1a kk t) (L,i,0)
theorem E3s (L i):atS kk t L i 0=(L,i,0):=rfl
theorem azw (L i j):atS kk t L i (j+1)=E1a kk t (atS kk t L i j) j:=by
 unfold atS;rw[jO,iK];rfl
theorem aAa (L i n):atB kk t (bA n) L i 0=(atS kk t L i n).2.2:=E2m kk t _ _ _ _
structure AtI (n:Nat)(L0:List (List Nat))(x:List (List Nat)×Nat×Nat):Prop where
 len:x.1.length=L0.length
 lt:x.2.1<E0H x.1
 le:E0H x.1<=E0H L0
 sub:∀k,(x.1.getD k []).Sublist (L0.getD k [])
theorem E3t {n:Nat}{L0:List (List Nat)}{x:List (List Nat)×Nat×Nat}(h:AtI n L0 x){j:Nat}(hk:kk j<L0.length):AtI n L0 (E1a kk t x j):=by
 have nq:kk j<x.1.length:=by rw[h.len];exact hk
 have h1:=iv x.1 (kk j) nq;have hws:=vb kk t x.1 j;have hw:=aDx x.1 (kk j) (E0P kk t x.1 j) nq;have hs:=aDx x.1 (kk j) (E08 kk t x.1 j) nq;have TU:E0H x.1=(E0P kk t x.1 j).length*E0O x.1 (kk j)+(E08 kk t x.1 j).length*E0O x.1 (kk j):=by rw[h1,←hws,hY]
 have eC:=h.lt;have hle:=h.le;have sub:∀(a:List Nat),a.Sublist (x.1.getD (kk j) [])->∀k,((x.1.set (kk j) a).getD k []).Sublist (L0.getD k []):=by
  intro a ha k;rw[E1u _ _ _ _ nq];by_cases e:k=kk j
  . rw[if_pos e,e];exact ha.trans (h.sub _)
  . rw[if_neg e];exact h.sub k
 unfold E1a;by_cases c:x.2.1<(E0P kk t x.1 j).length*E0O x.1 (kk j)
 . rw[if_pos c];exact⟨by rw[iy];exact h.len,by show x.2.1<E0H (x.1.set (kk j) (E0P kk t x.1 j));rw[hw];exact c,by show E0H (x.1.set (kk j) (E0P kk t x.1 j))<=_;omega,sub _ aDw⟩
 . rw[if_neg c];exact⟨by rw[iy];exact h.len,by show x.2.1-_<E0H (x.1.set (kk j) (E08 kk t x.1 j));rw[hs];omega,by show E0H (x.1.set (kk j) (E08 kk t x.1 j))<=_;omega,sub _ aDw⟩
theorem aAg {n:Nat}{L0:List (List Nat)}{i:Nat}(hi:i<E0H L0)(hk:∀ j,j<n->kk j<L0.length):∀ j,j<=n->AtI n L0 (atS kk t L0 i j)
 |0,_=>⟨rfl,hi,ay _,λ_=>List.Sublist.refl _⟩
 |j+1,h=>by
   rw[azw];exact E3t kk t (aAg hi hk j (by omega)) (hk j (by omega))
theorem azI {n:Nat}{L0:List (List Nat)}{i:Nat}:∀ j,(atS kk t L0 i j).2.2<2 ^ j
 |0=>by simp[E3s]
 |j+1=>by
   have h:=azI (n:=n) (L0:=L0) (i:=i) j;rw[azw];have h2:(2:Nat) ^ j<=2 ^ (j+1):=ez (by decide) (by omega)
   unfold E1a;split
   . refine fA (by show _<_;omega) ?_
     rw[mQ];exact oM (by decide) (by omega)
   . exact br h h2
end
theorem azN {v:List Int}{a b:Nat}(h:∀i,i<v.length->a.testBit i=b.testBit i):idsP v a=idsP v b:=by
 unfold idsP;congr 1;refine List.filter_congr λx hx=>?_
 obtain⟨z,i⟩:=x;exact h i (kY.1 hx).1
end Go.Hg
namespace Go.Hg
def vP (n:Nat):List Int:=(bA (2*n)).map λ(i:Nat)=>(i:Int)+1
def eP (n:Nat):List (List Int):=(bA n).map λ(i:Nat)=>[2*(i:Int)+1,2*(i:Int)+2]
theorem aDQ:∀n,n<22->validH (vP n) (eP n)=true:=by decide +kernel
theorem E4o (n:Nat):(vP n).length=2*n:=by simp[vP]
theorem E4r (n:Nat):(eP n).length=n:=by simp[eP]
theorem E4u {n i:Nat}(h:i<(vP n).length):(vP n)[i]=(i:Int)+1:=by simp[vP]
theorem E4Q {n i:Nat}(h:i<(eP n).length):(eP n)[i]=[2*(i:Int)+1,2*(i:Int)+2]:=by simp[eP]
theorem E4D (n:Nat):asc (vP n)=true:=by
 rw[E1x];unfold vP;rw[List.pairwise_map];exact hD.imp λh=>by omega
theorem E4x {n i:Nat}(h:i<2*n):A0t (vP n) ((i:Int)+1)=i:=by
 have h':i<(vP n).length:=by rw[E4o];exact h
 have:=E3J (E4D n) h'
 rwa [E4u h'] at this
theorem E4R {n:Nat}{y:Int}:y∈vP n↔∃i,i<2*n∧y=(i:Int)+1:=by
 unfold vP;rw[bp];constructor
 . rintro⟨i,hi,rfl⟩;exact⟨i,cu.1 hi,rfl⟩
 . rintro⟨i,hi,rfl⟩;exact⟨i,cu.2 hi,rfl⟩
theorem E4y {n:Nat}{e:List Int}:e∈eP n↔∃i:Nat,i<n∧e=[2*(i:Int)+1,2*(i:Int)+2]:=by
 unfold eP;rw[bp];constructor
 . rintro⟨i,hi,rfl⟩;exact⟨i,cu.1 hi,rfl⟩
 . rintro⟨i,hi,rfl⟩;exact⟨i,cu.2 hi,rfl⟩
theorem GP (n:Nat):GOk (vP n) (eP n) where
 av:=E4D n
 bc:=λe he y hy=>by
  obtain⟨i,hi,rfl⟩:=E4y.1 he;rw[E4R];simp only[aG,rq,or_false] at hy;rcases hy with rfl | rfl
  . exact⟨2*i,by omega,by omega⟩
  . exact⟨2*i+1,by omega,by omega⟩
 ne:=λe he=>by
  obtain⟨i,_,rfl⟩:=E4y.1 he;simp
theorem aDW {n:Nat}{e:List Int}(he:e∈eP n):e.length=2:=by
 obtain⟨i,_,rfl⟩:=E4y.1 he;rfl
theorem HP {n:Nat}(h:n<=20):HOk (vP n) (eP n) where
 nv:=by rw[E4o];omega
 ne:=by rw[E4r];omega
 el:=λe he=>by rw[aDW he];omega
 bc:=(GP n).bc
def E4q (j i:Nat):Nat:=if i<2*j then i-i%2 else i
theorem E4K (j:Nat):∀i,E4q j i<=i:=λi=>by unfold E4q;split<;>omega
theorem E4H {n:Nat}:∀ j,j<=n->unS (A0t (vP n)) ((eP n).take j) id=E4q j
 |0,_=>by
   funext i;simp[unS,E4q]
 |j+1,h=>by
   have hj:j<(eP n).length:=by rw[E4r];omega
   have e:(eP n).take (j+1)=(eP n).take j++[(eP n)[j]]:=by rw[W1,ah hj];rfl
   have ih:=E4H j (show j<=n by omega)
   unfold unS at ih ⊢;rw[e,iK,ih,E4Q];have p1:A0t (vP n) (2*(j:Int)+1)=2*j:=by
    have:=E4x (n:=n) (i:=2*j) (by omega)
    simpa using this
   have p2:A0t (vP n) (2*(j:Int)+2)=2*j+1:=by
    have:=E4x (n:=n) (i:=2*j+1) (by omega)
    rw[←this];congr 1
   have r1:rt (E4q j) (2*j)=2*j:=azB (by unfold E4q;rw[if_neg (by omega)])
   have r2:rt (E4q j) (2*j+1)=2*j+1:=azB (by unfold E4q;rw[if_neg (by omega)])
   simp only[jM,aDD,lH,List.tail_cons,unT,p1,p2,r1,r2];funext i;unfold un E4q;by_cases h1:i=2*j+1
   . rw[if_pos (by omega),if_pos (by omega)];omega
   . rw [if_neg (by omega)]
     by_cases h2:i<2*j
     . rw[if_pos h2,if_pos (by omega)]
     . rw [if_neg h2];by_cases h3:i<2*(j+1)
       . rw[if_pos h3];omega
       . rw[if_neg h3]
theorem E4E (n:Nat):E0J (vP n) (eP n)=E4q n:=by
 have:=E4H (n:=n) n (ay _)
 rw[a6 (by rw[E4r];exact ay _)] at this
 exact this
theorem E4z {n:Nat}:∀ c,c<=n->E0M (E4q n) (2*c)=c
 |0,_=>rfl
 |c+1,h=>by
   have ih:=E4z (n:=n) c (by omega)
   have e:2*(c+1)=2*c+1+1:=by omega
   have h1:E4q n (2*c)=2*c:=by unfold E4q;rw[if_pos (by omega)];omega
   have h2:E4q n (2*c+1)≠2*c+1:=by unfold E4q;rw[if_pos (by omega)];omega
   rw[e,vc,vc,ih,if_pos h1,if_neg h2]
theorem E4v {n j:Nat}(h:j<2*n):E0E (vP n) (eP n) j=j / 2:=by
 unfold E0E;rw[E4E];have h1:E4q n (j-j%2)=j-j%2:=by unfold E4q;rw[if_pos (by omega)];omega
 have h2:rt (E4q n) j=j-j%2:=by
  rw[ov (E4K n)];have h3:E4q n j=j-j%2:=by unfold E4q;rw[if_pos h]
  by_cases e:E4q n j=j
  . rw[if_pos e];omega
  . rw[if_neg e,h3];exact azB h1
 rw[h2,show j-j%2=2*(j / 2) by omega]
 exact E4z _ (by omega)
theorem aDR (n:Nat):E0I (vP n) (eP n)=n:=by
 unfold E0I;rw[E4E,E4o];exact E4z n (ay _)
theorem aDO {n c:Nat}(h:c<n):E4k (vP n) (eP n) c=[2*(c:Int)+1,2*(c:Int)+2]:=by
 have D:=iE (GP n);have hc:c<E0I (vP n) (eP n):=by rw[aDR];exact h
 refine E3e (R:=λ(a b:Int)=>a<b) (λa b h1 h2=>by omega) (E1x.1 (D.va c hc)) (by simp) λy=>?_
 rw[D.vs c hc];simp only[aG,rq,or_false];constructor
 . rintro ⟨j,hj,rfl,e⟩;have Dy:j<2*n:=by rwa [E4o] at hj
   rw[E4v Dy] at e;rw[E4u];omega
 . intro hy;rcases hy with rfl | rfl
   . exact⟨2*c,by rw[E4o];omega,by rw[E4u];omega,by rw[E4v (by omega)];omega⟩
   . exact⟨2*c+1,by rw[E4o];omega,by rw[E4u];omega,by rw[E4v (by omega)];omega⟩
theorem aDS {n c:Nat}(h:c<n):E4l (vP n) (eP n) c=[[2*(c:Int)+1,2*(c:Int)+2]]:=by
 unfold E4l eP;rw[List.filter_map];have e:(bA n).filter ((λe:List Int=>E0E (vP n) ((bA n).map λ(i:Nat)=>[2*(i:Int)+1,2*(i:Int)+2]) (A0t (vP n) (e.headD 0))==c) ∘ λ(i:Nat)=>[2*(i:Int)+1,2*(i:Int)+2])=[c]:=by
  refine E3e (R:=λ(a b:Nat)=>a<b) (λa b h1 h2=>by omega) (hD.filter _) (by simp) λi=>?_
  rw[cZ,cu,aX];have p1:i<n->E0E (vP n) ((bA n).map λ(i:Nat)=>[2*(i:Int)+1,2*(i:Int)+2]) (A0t (vP n) (2*(i:Int)+1))=i:=λhi=>by
   have:=E4x (n:=n) (i:=2*i) (by omega)
   have p:A0t (vP n) (2*(i:Int)+1)=2*i:=by simpa using this
   rw[p]
   have:=E4v (n:=n) (j:=2*i) (by omega)
   unfold eP at this;rw[this];omega
  constructor
  . rintro⟨hi,he⟩;simp only[Function.comp,lH,p1 hi,beq_iff_eq] at he;exact he
  . rintro rfl;refine⟨h,?_⟩;simp only[Function.comp,lH,p1 h,beq_self_eq_true]
 rw[e];rfl
theorem aDT (a:Int):D4P [a+1,a+2] [[a+1,a+2]]=[1,2]:=by
 have ha:asc [a+1,a+2]=true:=by simp[asc]
 have p0:A0t [a+1,a+2] (a+1)=0:=E3J ha (i:=0) (by simp)
 have p1:A0t [a+1,a+2] (a+2)=1:=E3J ha (i:=1) (by simp)
 have hb:A2w [a+1,a+2] [a+1,a+2]=3:=by
  unfold A2w E1F;simp only[jM,aDD,p0,p1];rfl
 unfold D4P;simp only[aF,List.map_nil,hb,bf,cM];decide +kernel
theorem aDG (n:Nat):partL (E0I (vP n) (eP n)) (E4k (vP n) (eP n)) (E4l (vP n) (eP n))=au n [1,2]:=by
 rw[aDR];unfold partL;rw[List.eq_replicate_iff];refine⟨by simp,λb hb=>?_⟩
 obtain⟨k,hk,rfl⟩:=bp.1 hb;have hk:=cu.1 hk;rw[aDO hk,aDS hk];exact aDT _
theorem aDH:∀ n,E0H (au n [1,2])=2 ^ n
 |0=>rfl
 |n+1=>by
   rw[List.replicate_succ,E0H,aDH n,lQ];simp only[bf,cM];omega
end Go.Hg
namespace Go.Hg
theorem E4w {v:List Int}{j s:Nat}(hj:j<v.length)(hs:s<2 ^ j):idsP (v.take (j+1)) s=idsP (v.take j) s:=by
 unfold idsP
 have:v.take (j+1)=v.take j++[v[j]]:=by rw[W1,ah hj];rfl
 rw[this,p8,s8,b9];simp only[s9,aW,bS,cX (fH hj)];simp[fM hs]
theorem E4A {v:List Int}{j s:Nat}(hj:j<v.length)(hs:s<2 ^ j):idsP (v.take (j+1)) (s ||| 1 <<< j)=idsP (v.take j) s++[v[j]]:=by
 have e1:idsP (v.take j) (s ||| 1 <<< j)=idsP (v.take j) s:=by
  refine azN λi hi=>?_
  rw[aW] at hi;have h2:(1 <<< j).testBit i=false:=by
   rw[mQ,Nat.testBit_two_pow_of_ne (by omega)]
  rw[fj,h2,AB]
 rw[←e1];unfold idsP
 have:v.take (j+1)=v.take j++[v[j]]:=by rw[W1,ah hj];rfl
 rw[this,p8,s8,b9];simp only[s9,aW,bS,cX (fH hj)];simp[fj,auP]
def E4p (n a c:Nat):List Int:=(bA c).map λ(i:Nat)=>2*(i:Int)+1+if a.testBit (n-1-i) then 1 else 0
theorem E4t (n a c:Nat):E4p n a (c+1)=E4p n a c++[2*(c:Int)+1+if a.testBit (n-1-c) then 1 else 0]:=by
 simp[E4p,jO]
structure JP (n a c:Nat)(x:List (List Nat)×Nat×Nat):Prop where
 len:x.1.length=n
 rest:∀k,c<=k->k<n->x.1.getD k []=[1,2]
 prod:E0H x.1=2 ^ (n-c)
 ind:x.2.1=a%2 ^ (n-c)
 out:idsP ((vP n).take (2*c)) x.2.2=E4p n a c
 lt:x.2.2<2 ^ (2*c)
theorem E4I {n j:Nat}(hj:j<2*n)(x:Nat):tst (vP n) (E0E (vP n) (eP n)) (E4k (vP n) (eP n)) j x=x.testBit (j%2):=by
 unfold tst;have Dy:j<(vP n).length:=by rw[E4o];exact hj
 have ha:∀a:Int,asc [a+1,a+2]=true:=λa=>by simp[asc]
 rw[E4v hj,aDO (by omega),bh,ah Dy,bI,E4u]
 congr 1;rcases kj j with e | e
 . have:=E3J (ha (2*((j / 2:Nat):Int))) (i:=0) (by simp)
   simp only[nM] at this;rw[e,←this];congr 1;omega
 . have:=E3J (ha (2*((j / 2:Nat):Int))) (i:=1) (by simp)
   simp only[fL,nM] at this;rw[e,←this];congr 1;omega
theorem E4J {s j:Nat}(h:s<2 ^ j):s ||| 1 <<< j<2 ^ (j+1):=by
 have h2:(2:Nat) ^ j<=2 ^ (j+1):=ez (by decide) (by omega)
 refine fA (by omega) ?_
 rw[mQ];exact oM (by decide) (by omega)
theorem E4L {n a c:Nat}(h:c<n){x:List (List Nat)×Nat×Nat}(J:JP n a c x) :
 JP n a (c+1) (E1a (E0E (vP n) (eP n)) (tst (vP n) (E0E (vP n) (eP n)) (E4k (vP n) (eP n))) (E1a (E0E (vP n) (eP n)) (tst (vP n) (E0E (vP n) (eP n)) (E4k (vP n) (eP n))) x (2*c)) (2*c+1)):=by
 obtain⟨L,i,s⟩:=x;obtain⟨h1,h2,h3,h4,h5,h6⟩:=J;simp only at h1 h2 h3 h4 h5 h6;have GI:c<L.length:=by omega
 have k0:E0E (vP n) (eP n) (2*c)=c:=by rw[E4v (by omega)];omega
 have k1:E0E (vP n) (eP n) (2*c+1)=c:=by rw[E4v (by omega)];omega
 have hpw:2 ^ (n-c)=2*2 ^ (n-(c+1)):=by rw[show n-c=(n-(c+1))+1 by omega,lQ];omega
 have hr:=iv L c GI;rw[h2 c (ay _) h,h3,hpw] at hr;have hr:E0O L c=2 ^ (n-(c+1)):=by simp only[bf,cM] at hr;omega
 have t0:∀y,tst (vP n) (E0E (vP n) (eP n)) (E4k (vP n) (eP n)) (2*c) y=y.testBit 0:=λy=>by rw[E4I (by omega),show 2*c%2=0 by omega]
 have t1:∀y,tst (vP n) (E0E (vP n) (eP n)) (E4k (vP n) (eP n)) (2*c+1) y=y.testBit 1:=λy=>by rw[E4I (by omega),show (2*c+1)%2=1 by omega]
 have w0:E0P (E0E (vP n) (eP n)) (tst (vP n) (E0E (vP n) (eP n)) (E4k (vP n) (eP n))) L (2*c)=[1]:=by
  unfold E0P;rw[k0,h2 c (ay _) h];simp only[jl,auV,t0];rfl
 have u0:E08 (E0E (vP n) (eP n)) (tst (vP n) (E0E (vP n) (eP n)) (E4k (vP n) (eP n))) L (2*c)=[2]:=by
  unfold E08;rw[k0,h2 c (ay _) h];simp only[jl,auV,t0];rfl
 have A0:2*c<(vP n).length:=by rw[E4o];omega
 have Cs:2*c+1<(vP n).length:=by rw[E4o];omega
 have hP:=Nat.two_pow_pos (n-(c+1));have hmod:a%(2 ^ (n-(c+1))*2)=a%2 ^ (n-(c+1))+2 ^ (n-(c+1))*(a / 2 ^ (n-(c+1))%2):=Nat.mod_mul;have XX:a.testBit (n-1-c)=decide (a / 2 ^ (n-(c+1))%2=1):=by rw[show n-1-c=n-(c+1) by omega,Nat.testBit_eq_decide_div_mod_eq]
 have hi:i=a%2 ^ (n-(c+1))+2 ^ (n-(c+1))*(a / 2 ^ (n-(c+1))%2):=by rw[h4,hpw,Nat.mul_comm,hmod]
 have eC:=Nat.mod_lt a hP;have rest:∀(b b':List Nat) k,c+1<=k->k<n->((L.set c b).set c b').getD k []=[1,2]:=by
  intro b b' k hk B5;rw[nK,E1u _ _ _ _ GI,if_neg (by omega)]
  exact h2 k (by omega) B5
 have hrs:∀y:Nat,E0O (L.set c [y]) c=2 ^ (n-(c+1)):=by
  intro y;have e1:=iv (L.set c [y]) c (by rw[iy];exact GI)
  rw[aDx L c [y] GI,E1u _ _ _ _ GI,if_pos rfl,hr] at e1;simp only[bf,cM] at e1;omega
 rcases kj (a / 2 ^ (n-(c+1))) with e | e
 . have rX:i=a%2 ^ (n-(c+1)):=by rw [hi,e];omega
   have hb:a.testBit (n-1-c)=false:=by rw[XX,e];rfl
   have s0:E1a (E0E (vP n) (eP n)) (tst (vP n) (E0E (vP n) (eP n)) (E4k (vP n) (eP n))) (L,i,s) (2*c)=(L.set c [1],i,s ||| 1 <<< (2*c)):=by
    unfold E1a;simp only[w0,u0,k0,hr];rw[if_pos (by simp only[bf,cM];omega)]
   have w1:E0P (E0E (vP n) (eP n)) (tst (vP n) (E0E (vP n) (eP n)) (E4k (vP n) (eP n))) (L.set c [1]) (2*c+1)=[]:=by
    unfold E0P;rw[k1,E1u _ _ _ _ GI,if_pos rfl];simp only[jl,auV,t1];rfl
   have u1:E08 (E0E (vP n) (eP n)) (tst (vP n) (E0E (vP n) (eP n)) (E4k (vP n) (eP n))) (L.set c [1]) (2*c+1)=[1]:=by
    unfold E08;rw[k1,E1u _ _ _ _ GI,if_pos rfl];simp only[jl,auV,t1];rfl
   have s1:E1a (E0E (vP n) (eP n)) (tst (vP n) (E0E (vP n) (eP n)) (E4k (vP n) (eP n))) (L.set c [1],i,s ||| 1 <<< (2*c)) (2*c+1)=((L.set c [1]).set c [1],i,s ||| 1 <<< (2*c)):=by
    unfold E1a;simp only[w1,u1,k1,cM,Nat.zero_mul,Nat.not_lt_zero,if_false,gv]
   rw[s0,s1];have xd:=E4J h6;refine⟨by simp[h1],rest _ _,?_,rX,?_,?_⟩
   . show E0H ((L.set c [1]).set c [1])=_;rw[nK,aDx _ _ _ GI,hr];simp
   . show idsP ((vP n).take (2*(c+1))) (s ||| 1 <<< (2*c))=_;rw [show 2*(c+1)=2*c+1+1 by omega,E4w Cs xd,E4A A0 h6,h5,E4t,hb,E4u]
     simp
   . show s ||| 1 <<< (2*c)<_;exact br xd (ez (by decide) (by omega))
 . have rX:i=a%2 ^ (n-(c+1))+2 ^ (n-(c+1)):=by rw [hi,e];omega
   have hb:a.testBit (n-1-c)=true:=by rw[XX,e];rfl
   have s0:E1a (E0E (vP n) (eP n)) (tst (vP n) (E0E (vP n) (eP n)) (E4k (vP n) (eP n))) (L,i,s) (2*c)=(L.set c [2],a%2 ^ (n-(c+1)),s):=by
    unfold E1a;simp only[w0,u0,k0,hr];rw[if_neg (by simp only[bf,cM];omega)]
    have:i - [1].length*2 ^ (n-(c+1))=a%2 ^ (n-(c+1)):=by simp only[bf,cM];omega
    rw[this]
   have w1:E0P (E0E (vP n) (eP n)) (tst (vP n) (E0E (vP n) (eP n)) (E4k (vP n) (eP n))) (L.set c [2]) (2*c+1)=[2]:=by
    unfold E0P;rw[k1,E1u _ _ _ _ GI,if_pos rfl];simp only[jl,auV,t1];rfl
   have s1:E1a (E0E (vP n) (eP n)) (tst (vP n) (E0E (vP n) (eP n)) (E4k (vP n) (eP n))) (L.set c [2],a%2 ^ (n-(c+1)),s) (2*c+1)=((L.set c [2]).set c [2],a%2 ^ (n-(c+1)),s ||| 1 <<< (2*c+1)):=by
    unfold E1a;simp only[w1,k1,hrs];rw[if_pos (by simp only[bf,cM];omega)]
   rw[s0,s1];have h6':s<2 ^ (2*c+1):=br h6 (ez (by decide) (by omega))
   have xd:=E4J h6';refine⟨by simp[h1],rest _ _,?_,rfl,?_,?_⟩
   . show E0H ((L.set c [2]).set c [2])=_;rw[nK,aDx _ _ _ GI,hr];simp
   . show idsP ((vP n).take (2*(c+1))) (s ||| 1 <<< (2*c+1))=_;rw [show 2*(c+1)=2*c+1+1 by omega,E4A Cs h6',E4w A0 h6,h5,E4t,hb,E4u]
     congr 2
   . show s ||| 1 <<< (2*c+1)<_;rw [show 2*(c+1)=2*c+1+1 by omega]
     exact xd
theorem E4F {n a:Nat}(ha:a<2 ^ n):∀ c,c<=n->JP n a c (atS (E0E (vP n) (eP n)) (tst (vP n) (E0E (vP n) (eP n)) (E4k (vP n) (eP n))) (au n [1,2]) a (2*c))
 |0,_=>by
   refine⟨by simp[E3s],λk _ hk=>?_,?_,?_,?_,?_⟩
   . simp[E3s,hk]
   . rw[azH,E3s];exact aDH n
   . rw[azH,E3s];exact(eQ ha).symm
   . simp[E4p,idsP]
   . simp[E3s]
 |c+1,h=>by
   have ih:=E4F ha c (by omega)
   rw[show 2*(c+1)=2*c+1+1 by omega,azw,azw]
   exact E4L (by omega) ih
theorem aD5 {n a:Nat}(ha:a<2 ^ n):∃s,(D4P (vP n) (eP n))[a]?=some s∧idsP (vP n) s=E4p n a n:=by
 have D:=iE (GP n);have hc:=D.count (GP n);rw[aDG,aDH] at hc;have h1:=D.at_ (GP n) (i:=a) (by omega)
 rw[aDG,aAa,E4o] at h1;refine⟨_,h1,?_⟩;have J:=(E4F ha n (ay _)).out
 rwa [a6 (by rw[E4o];exact ay _)] at J
theorem aDU (n:Nat):(D4P (vP n) (eP n)).length=2 ^ n:=by
 have hc:=(iE (GP n)).count (GP n);rw[aDG,aDH] at hc;exact hc.symm
end Go.Hg
