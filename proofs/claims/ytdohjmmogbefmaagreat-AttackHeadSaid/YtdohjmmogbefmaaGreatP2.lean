/- Sets of attributes as numbers: the operations, bit by bit; the members. -/
import Derived.Test.YtdohjmmogbefmaaGreatP1
import Derived.Test.YtdohjmmogbefmaaGreatT2
import Derived.Test.YtdohjmmogbefmaaGreatM9
import Derived.Sort.EncStr
import Derived.Sort.Walk0
set_option linter.unusedSimpArgs false
set_option linter.unusedVariables false
open BitVec renaming ofInt → b8, toNat_ofNat → iu
open Bool renaming eq_false_iff → aSQ, not_true → bO, not_false → auI, true_and → dm, false_and → sS, false_eq_true → aI, and_eq_true → aj, not_eq_true' → ed
open ByteArray renaming mk → ir
open Go.IntKind renaming u32 → cG, i64 → ao
open Int renaming natCast_nonneg → aq, lt_irrefl → ba, toNat_natCast → ar, natCast_zero → av, eq_ofNat_of_zero_le → eB
open List renaming getElem?_eq_getElem → ah, getElem_mem → aM, length_take → aW, getElem_of_mem → pd, length_append → aR, length_cons → bf, length_nil → cM, nodup_nil → gV, all_eq_not_any_not → gm, length → cz, find?_cons → iz, any_eq_true → fV, mem_of_getElem? → bH, mem_map → bp, mem_map_of_mem → dY, mem_flatMap → gY, filter_cons → jl, range → bA, map_append → b9, take_of_length_le → a6, map → fp, map_id → wR, range_succ → jO, take_nil → gH, take_take → sV, length_map → aB, mem_range → cu, flatMap_append → pc, filter_append → eR, append_nil → bD, drop_drop → kp, length_set → iy, length_replicate → fZ, append_assoc → bg, mem_filter → cZ, mem_filterMap → dr, range_eq_range' → lr, range'_append_1 → aTd
open Nat renaming mod_eq_of_lt → aSU, and_le_left → fC, shiftRight_eq_div_pow → mz, testBit_two_pow_sub_one → iJ, pow_lt_pow_right → oM, pow_le_pow_right → ez, two_pow_pos → fD, le_of_lt → fH, lt_succ_iff_lt_or_eq → mV, le_refl → ay, zero_add → bS, add_zero → dG, min_self → aBG, ble → cQ, ble_eq_true_of_le → auP, succ_mul → du, mul_le_mul → aSZ, le_trans → dF
open Option renaming bind_some → ai, bind → bc
open Option.some renaming injEq → aa
open Sum renaming inl → aC, elim_inr → lS, inr → aA, elim → bT
namespace Go.Mid
abbrev w32:Nat:=4294967296
theorem F1s {x:Int}(h1:0<=x)(h2:x<4294967296):cG.wrap x=x:=by
 simp only [IntKind.wrap,IntKind.bits,IntKind.signed];simp;omega
theorem E9n {n:Nat}(h:n<w32):cG.wrap (n:Int)=(n:Int):=F1s (by omega) (by unfold w32 at h;omega)
theorem E8z (m:Nat):b8 32 (m:Int)=BitVec.ofNat 32 m:=by simp
theorem F2f {m n:Nat}(hm:m<w32)(hn:n<w32):pL .u32 (m:Int) (n:Int)=((m &&& n:Nat):Int):=by
 have h:(b8 cG.bits (m:Int) &&& b8 cG.bits (n:Int)).toNat=m &&& n:=by
  show (b8 32 (m:Int) &&& b8 32 (n:Int)).toNat=_;rw [E8z,E8z,BitVec.toNat_and,iu,iu,aSU (by exact hm),aSU (by exact hn)]
 unfold pL;rw [h];exact E9n (Nat.lt_of_le_of_lt fC hm)
theorem F5y {m n:Nat}(hm:m<w32)(hn:n<w32):uS .u32 (m:Int) (n:Int)=((m ||| n:Nat):Int):=by
 have h:(b8 cG.bits (m:Int) ||| b8 cG.bits (n:Int)).toNat=m ||| n:=by
  show (b8 32 (m:Int) ||| b8 32 (n:Int)).toNat=_;rw [E8z,E8z,BitVec.toNat_or,iu,iu,aSU (by exact hm),aSU (by exact hn)]
 unfold uS;rw [h];exact E9n (Nat.or_lt_two_pow (n:=32) hm hn)
theorem F4M {m i:Nat}(hi:i<=32):jK .u32 (m:Int) (i:Int)=((m >>> i:Nat):Int):=by
 unfold jK;have e:min ((i:Int).toNat) cG.bits=i:=by
  show min i 32=i;omega
 rw [e,mz]
 have:((2:Int) ^ i)=((2 ^ i:Nat):Int):=by simp
 rw [this];exact Int.ofNat_fdiv m (2 ^ i) |>.symm
end Go.Mid
namespace Go.Mid
theorem F4N (i:Nat):(2 ^ i-1) ||| 2 ^ i=2 ^ (i+1)-1:=by
 apply Nat.eq_of_testBit_eq;intro j;rw [Nat.testBit_or,iJ,iJ,Nat.testBit_two_pow];by_cases h1:j<i
 . simp [h1,Nat.lt_succ_of_lt h1]
 . by_cases h2:i=j
   . subst h2;simp
   . have:¬ j<i+1:=by omega
     simp [h1,h2,this]
theorem F4O {i:Nat}(hi:i<32):qZ cG 1 (i:Int)=((2 ^ i:Nat):Int):=by
 unfold qZ;have e:min ((i:Int).toNat) cG.bits=i:=by
  show min i 32=i;omega
 rw [e,Int.one_mul]
 have:((2:Int) ^ i)=((2 ^ i:Nat):Int):=by simp
 rw [this];exact E9n (oM (by decide) hi)
theorem F1t {i:Nat}(hi:i<=32):2 ^ i<=w32:=ez (show 2>0 by decide) hi
theorem F2g {n:Nat}(hn:n<32):E6l (n:Int)=some ((2 ^ n-1:Nat):Int):=by
 unfold E6l
 have:A0d E5E ((n:Int),0,0)=some ((2 ^ n-1:Nat):Int):=tQ (f:=E5E) n (λi=>((n:Int),((2 ^ i-1:Nat):Int),(i:Int))) ((2 ^ n-1:Nat):Int) (λi hi=>by
  have hi':(i:Int)<n:=by omega
  have h32:(i:Int)<32:=by omega
  have hp:=F1t (show i<=32 by omega)
  have JR:2 ^ i<w32:=oM (by decide) (show i<32 by omega)
  have tK:0<2 ^ i:=fD i;simp only [E5E,hi',h32,decide_true,cond_true,aq,F4O (show i<32 by omega),F5y (show 2 ^ i-1<w32 by omega) JR,F4N,iQ (show i<9223372036854775807 by omega)]) (by
  simp only [E5E,ba,decide_false,cond_false])
 rw [this];rfl
end Go.Mid
namespace Go.Mid
def E4I {α:Type}(e:Nat->α->Int):List α->Nat->Int
 | [],_=>0
 | x::r,i=>if e i x=0 then E4I e r (i+1) else e i x
theorem E5R {A B α:Type}{f:A->Option (A ⊕ B)}(l:List α)(st:Nat->A)(e:Nat->α->Int)(mk:Int->B)(fin:B)
 (h1:∀ i (h:i<l.length),f (st i)=if e i l[i]=0 then some (.inl (st (i+1))) else some (.inr (mk (e i l[i])))) (h2:f (st l.length)=some (.inr fin)) :
 A0d f (st 0)=some (if E4I e l 0=0 then fin else mk (E4I e l 0)):=by
 rw [C7j (S:=Unit) (f:=f) l (λi _=>st i) (λi _ x=>if e i x=0 then some (.inl ()) else some (.inr (mk (e i x)))) (λ_=>some fin) (λi h _=>by rw [h1 i h];split<;>rfl) (λ_=>by rw [h2];rfl) ()]
 have:∀ (r:List α) (i:Nat),Fu (S:=Unit) (λi _ x=>if e i x=0 then some (.inl ()) else some (.inr (mk (e i x)))) (λ_=>some fin) r i ()=some (if E4I e r i=0 then fin else mk (E4I e r i)):=by
  intro r
  induction r with
  | nil=>intro i;rfl
  | cons x r ih =>
    intro i;simp only [Fu,E4I];by_cases h:e i x=0
    . simp only [h,if_true];exact ih (i+1)
    . simp only [h,if_false]
 exact this l 0
theorem E7A {α:Type}{e:Nat->α->Int}:∀ {l:List α} {i:Nat},E4I e l i=0↔∀ j (h:j<l.length),e (i+j) l[j]=0
 | [],i=>by simp [E4I]
 | x::r,i=>by
   simp only [E4I];constructor
   . intro h j hj;split at h
     . rename_i h0;cases j with
       | zero=>exact h0
       | succ j =>
         have:=E7A.1 h j (by simpa using hj)
         rw [show i+1+j=i+(j+1) by omega] at this
         exact this
     . rename_i h0;exact (h0 h).elim
   . intro h;rw [if_pos (show e i x=0 from h 0 (by simp))]
     exact E7A.2 λj hj=>by
      have:=h (j+1) (by simpa using hj)
      rw [show i+1+j=i+(j+1) by omega]
      exact this
theorem E9K {α:Type}{e:Nat->α->Int}{P:Int->Prop}(h0:P 0)(h:∀ i x,P (e i x)):∀ (l:List α) (i:Nat),P (E4I e l i)
 | [],_=>h0
 | x::r,i=>by
   simp only [E4I];split
   . exact E9K h0 h r (i+1)
   . exact h i x
def E6S (l:List E4Z)(a:ByteArray):Option Nat:=l.findIdx? λt=>Lv t.1 a
def E9o (o:Option Nat):Int:=match o with | some i=>(i:Int) | none=>-1
theorem F1u (l:List E4Z)(a:ByteArray)(hl:l.length<=1000000):E51 (l,a)=some (E9o (E6S l a)):=by
 unfold E51 E4C
 have:=Ma (f:=E4q) l (λi=>(l,a,(l.length:Int),(i:Int))) (λ_ t=>Lv t.1 a) (λi=>.inl (i:Int)) (.inr ()) (λi hi=>by
  have hi':(i:Int)<l.length:=by omega
  simp only [E4q,E7G,hi',decide_true,cond_true,aq,ar,ah hi,ai,iQ (show i<9223372036854775807 by omega)]
  cases Lv l[i].1 a<;>rfl) (by
  simp only [E4q,ba,decide_false,cond_false])
 simp only [av] at this;rw [this,D86];unfold E6S E9o;cases l.findIdx? (λt=>Lv t.1 a)<;>simp
def E9X (l:List E4Z)(i:Nat)(t:E4Z):Int:=if E8b t=0 then (if (E6S (l.take i) t.1).isSome then 5 else 0) else E8b t
def dbE (l:List E4Z):Int:=if l.length>50 then 3 else E4I (E9X l) l 0
theorem F2h (o:Option Nat):decide (E9o o ≥ 0)=o.isSome:=by
 cases o with
 | none=>rfl
 | some i=>simp [E9o]
theorem E8P {l:List E4Z}(h:dbE l=0):l.length<=50:=by
 unfold dbE at h;split at h
 . cases h
 . omega
theorem F3x (l:List E4Z)(h:∀ t∈l,F0s t):E6U l=some (dbE l):=by
 unfold E6U dbE;by_cases h50:l.length>50
 . have:(l.length:Int)>50:=by omega
   simp only [this,decide_true,cond_true,if_pos h50]
 . have h51:¬ (l.length:Int)>50:=by omega
   simp only [h51,decide_false,cond_false,if_neg h50]
   have:=E5R (f:=E6o) l (λi=>((l,(l.length:Int),(i:Int)),l)) (E9X l) .inl (.inr ()) (λi hi=>by
    have hi':(i:Int)<l.length:=by omega
    have ht:=F0t l[i] (h _ (aM hi));have hf:=F1u (l.take i) l[i].1 (by rw [aW];omega)
    simp only [E6o,hi',decide_true,cond_true,aq,ar,ah hi,ai,ht,jE (fH hi),hf,F2h,iQ (show i<9223372036854775807 by omega),E9X]
    by_cases h0:E8b l[i]=0
    . simp only [h0,bne_self_eq_false,cond_false,if_true];cases (E6S (l.take i) l[i].1).isSome<;>rfl
    . simp only [bne_iff_ne.2 h0,cond_true,if_neg h0]) (by
    simp only [E6o,ba,decide_false,cond_false])
   simp only [av] at this;rw [this,ai];split
   . rename_i h0;rw [h0];rfl
   . rfl
theorem F0u {l:List E4Z}(h:dbE l=0){t:E4Z}(ht:t∈l):E8b t=0:=by
 unfold dbE at h;split at h
 . cases h
 . obtain ⟨j,hj,rfl⟩:=pd ht
   have:=E7A.1 h j hj
   unfold E9X at this;split at this
   . assumption
   . rename_i h0;exact (h0 this).elim
theorem E9q {t:E4Z}(h:E8b t=0):E47 t.1=true∧t.2.1.length<=16:=by
 unfold E8b at h;split at h
 . rename_i h1;split at h
   . cases h
   . exact ⟨h1,by omega⟩
 . cases h
theorem F3V (l:List E4Z)(h:dbE l≠0):dbE l≠4:=by
 unfold dbE at *
 split
 . omega
 . refine E9K (P:=λx=>x≠4) (by omega) (λi t=>?_) l 0
   unfold E9X;split
   . split<;>omega
   . have hr:∀ (n:Nat) (r:List F2L) (p:Int),E8k n p r≠4:=by
      intro n r
      induction r with
      | nil=>intro p;simp [E8k]
      | cons x r ih =>
        intro p;unfold E8k;split
        . omega
        . split
          . omega
          . split
            . exact ih _
            . omega
     unfold E8b;split
     . split
       . omega
       . split
         . omega
         . split
           . exact hr _ _ _
           . omega
     . omega
theorem F2M:E47 (ir #[])=false:=by
 unfold E47;rw [show Lv (ir #[]) (ir #[])=true from E5K.2 rfl];rfl
theorem F1v (l:List E4Z)(h:∀ t∈l,F0s t):E6V (l,(ir #[]),[],(ir #[]),[])=some (if dbE l=0 then 4 else dbE l):=by
 unfold E6V;simp only [F3x l h,ai];by_cases h0:dbE l=0
 . have hn:E6S l (ir #[])=none:=by
    unfold E6S;rw [List.findIdx?_eq_none_iff];intro t ht;have h1:=(E9q (F0u h0 ht)).1;rw [aSQ];intro e;rw [E5K.1 e,F2M] at h1;cases h1
   have hl:=E8P h0;have hf:=F1u l (ir #[]) (by omega)
   rw [hn] at hf;simp only [h0,bne_self_eq_false,cond_false,if_true];unfold E7V;simp only [hf,ai];rfl
 . simp only [bne_iff_ne.2 h0,cond_true,if_neg h0]
end Go.Mid
namespace Go.Mid
def occ (ts:List E5b)(n:Nat)(z:ByteArray):Prop:=z≠{ data:=#[] }∧∃ k u,k<n∧ts[k]?=some u∧u.1=z
theorem E9Y {ts:List E5b}{n:Nat}{u:E5b}(hu:ts[n]?=some u)(z:ByteArray):occ ts (n+1) z↔(occ ts n z∨(z≠{ data:=#[] }∧z=u.1)):=by
 constructor
 . rintro ⟨h0,k,v,hk,h1,h2⟩;rcases mV.1 hk with hk | rfl
   . exact .inl ⟨h0,k,v,hk,h1,h2⟩
   . rw [hu,aa] at h1;subst h1;exact .inr ⟨h0,h2.symm⟩
 . rintro (⟨h0,k,v,hk,h1,h2⟩ | ⟨h0,h1⟩)
   . exact ⟨h0,k,v,by omega,h1,h2⟩
   . exact ⟨h0,n,u,by omega,hu,h1.symm⟩
theorem F2N {l:List tI}{i:Nat}(hi:i<l.length)(ht:l[i].2.length<=1000){P:ByteArray->Prop}{s0:List ByteArray}(h0:Lst s0 P)(hs:s0.length<=1000000) :
 ∃ s,A0d E4Q ((l,s0.length,(i:Int),(0:Int)),s0)=some ((l,s.length,(i:Int)),s)∧Lst s (λz=>P z∨occ l[i].2 l[i].2.length z)∧s.length<=s0.length+l[i].2.length:=by
 have key:=V4 (f:=E4Q) (S:=List ByteArray) l[i].2.length (λk s=>((l,s.length,(i:Int),(k:Int)),s)) (λk s=>Lst s (λz=>P z∨occ l[i].2 k z)∧s.length<=s0.length+k)
  (λr=>∃ s,r=((l,s.length,(i:Int)),s)∧Lst s (λz=>P z∨occ l[i].2 l[i].2.length z)∧s.length<=s0.length+l[i].2.length) s0 ⟨h0.aBn λz=>⟨.inl,λq=>q.elim id (λ⟨_,k,u,hk,_⟩=>by omega)⟩,by omega⟩ (λk s hk hs=>?_) (λs hs=>?_)
 . obtain ⟨r,h1,s,rfl,h3⟩:=key;exact ⟨s,h1,h3⟩
 . left;obtain ⟨h1,h2⟩:=hs;have nq:(k:Int)<l[i].2.length:=by omega
   have hu:l[i].2[k]?=some l[i].2[k]:=ah hk;by_cases he:l[i].2[k].1={ data:=#[] }
   . refine ⟨s,?_,h1.aBn λz=>?_,by omega⟩
     . simp only [E4Q,aq,decide_true,cond_true,ar,ah hi,ai,nq,hu,show Lv l[i].2[k].1 { data:=#[] }=true from E5z.2 he,bO,cond_false,iQ (show k<9223372036854775807 by omega)]
     . rw [E9Y hu];refine ⟨λq=>q.elim .inl λq=>.inr (.inl q),?_⟩
       rintro (q | q | ⟨q,rfl⟩)
       . exact .inl q
       . exact .inr q
       . exact (q he).elim
   . have hne:Lv l[i].2[k].1 { data:=#[] }=false:=aSQ.2 λe=>he (E5z.1 e)
     have ha:=E8O s l[i].2[k].1 (by omega)
     have Nt:=E7z s l[i].2[k].1;have eC:∀ x:Int,decide (x<0)=!decide (x ≥ 0):=λx=>by
      by_cases h:x<0
      . rw [decide_eq_true h,decide_eq_false (by omega)];rfl
      . rw [decide_eq_false h,decide_eq_true (by omega)];rfl
     cases hh:E4Y s l[i].2[k].1 with
     | true =>
       refine ⟨s,?_,h1.aBn λz=>?_,by omega⟩
       . simp only [E4Q,aq,decide_true,cond_true,ar,ah hi,ai,nq,hu,hne,auI,jE (ay _),pN,ha,eC,← Nt,show E5m s l[i].2[k].1=true from hh,bO,cond_false,iQ (show k<9223372036854775807 by omega)]
       . rw [E9Y hu];refine ⟨λq=>q.elim .inl λq=>.inr (.inl q),?_⟩
         rintro (q | q | ⟨q,rfl⟩)
         . exact .inl q
         . exact .inr q
         . exact (h1.has _).1 hh
     | false =>
       refine ⟨s++[l[i].2[k].1],?_,(h1.snoc hh).aBn λz=>?_,by simp;omega⟩
       . simp only [E4Q,aq,decide_true,cond_true,ar,ah hi,ai,nq,hu,hne,auI,jE (ay _),pN,ha,eC,← Nt,show E5m s l[i].2[k].1=false from hh,jE (show (s.length+1)*16<=140737488355328 by omega),iQ (show k<9223372036854775807 by omega),aR,bf,cM]
       . rw [E9Y hu];constructor
         . rintro ((q | q) | rfl)
           . exact .inl q
           . exact .inr (.inl q)
           . exact .inr (.inr ⟨he,rfl⟩)
         . rintro (q | q | ⟨_,q⟩)
           . exact .inl (.inl q)
           . exact .inl (.inr q)
           . exact .inr q
 . refine ⟨_,?_,s,rfl,hs⟩;simp only [E4Q,aq,decide_true,cond_true,ar,ah hi,ai,ba,decide_false,cond_false]
def E9Z (l:List tI)(n:Nat)(z:ByteArray):Prop:=∃ j a,j<n∧l[j]?=some a∧occ a.2 a.2.length z
theorem E8r {l:List tI}(hl:l.length<=1000)(ht:∀ a∈l,a.2.length<=1000):∃ s,E40 l=some s∧Lst s (E9Z l l.length)∧s.length<=l.length*1000:=by
 have key:=V4 (f:=E5o) (S:=List ByteArray) l.length (λi s=>((l,s.length,(i:Int)),s)) (λi s=>Lst s (E9Z l i)∧s.length<=i*1000)
  (λr=>∃ s,r=(s.length,s)∧Lst s (E9Z l l.length)∧s.length<=l.length*1000) [] ⟨⟨gV,λz=>by simp [E9Z]⟩,by simp⟩ (λi s hi hs=>?_) (λs hs=>?_)
 . obtain ⟨r,h1,s,rfl,h3⟩:=key;refine ⟨s,?_,h3⟩;unfold E40;refine (congrArg (λo=>bc o _) h1).trans ?_
   simp only [ai,jE (ay _),cond_true,pN]
 . left;obtain ⟨h1,h2⟩:=hs;have hi':(i:Int)<l.length:=by omega
   have Ge:=ht _ (aM hi);obtain ⟨t,e,t1,t2⟩:=F2N hi Ge h1 (by omega)
   refine ⟨t,?_,t1.aBn λz=>?_,by omega⟩
   . simp only [E5o,hi',decide_true,cond_true];refine (congrArg (λo=>bc o _) e).trans ?_
     simp only [ai,iQ (show i<9223372036854775807 by omega)]
   . constructor
     . rintro (⟨j,a,hj,h⟩ | h)
       . exact ⟨j,a,by omega,h⟩
       . exact ⟨i,l[i],by omega,ah hi,h⟩
     . rintro ⟨j,a,hj,ha,h⟩;rcases mV.1 hj with hj | rfl
       . exact .inl ⟨j,a,hj,ha,h⟩
       . rw [ah hi,aa] at ha;subst ha;exact .inr h
 . refine ⟨_,?_,s,rfl,hs⟩;simp only [E5o,ba,decide_false,cond_false]
end Go.Mid
namespace Go.Mid
theorem E9r (c:UInt8):E7P (c.toNat:Int)=some (E4S c):=E9l c
theorem F2O (s:ByteArray):E7Q s=some (E47 s):=by
 unfold E7Q E47;rw [E78];show (bif Lv s ⟨#[]⟩ then _ else bif _ then _ else bif Lv s E82 then _ else _)=_
 cases h1:Lv s ⟨#[]⟩
 case true=>rfl
 simp only [cond_false,auI,dm,gt_iff_lt];by_cases h2:(24:Int)<(s.data.toList.length:Int)
 . have:¬ s.data.toList.length<=24:=by omega
   simp only [h2,this,decide_true,decide_false,cond_true,sS]
 have hl:s.data.toList.length<=24:=by omega
 simp only [h2,decide_false,cond_false,hl,decide_true,dm];cases h3:Lv s E82
 case true=>rfl
 simp only [cond_false,auI,dm]
 have:=wo (f:=E6W) s.data.toList (λi=>(s,(s.data.toList.length:Int),(i:Int))) (λc=>!(E4S c || E5s c)) (.inl false) (.inr ()) (λi hi=>by
  have hi':(i:Int)<s.data.toList.length:=by omega
  simp only [E6W,hi',decide_true,cond_true,aq,ar,E9W s i hi,ai,E9r,iQ (show i<9223372036854775807 by omega)]
  generalize s.data.toList[i]=c;unfold E5s E8H;simp only [ge_iff_le,show ((48:Int)<=(c.toNat:Int))↔48<=c.toNat by omega,show ((c.toNat:Int)<=57)↔c.toNat<=57 by omega]
  cases E4S c<;>cases decide (48<=c.toNat)<;>cases decide (c.toNat<=57)<;>rfl) (by
  simp only [E6W,ba,decide_false,cond_false])
 simp only [av] at this;have hx:∀ b:Bool,(if b=true then (aC false:Bool ⊕ PUnit) else .inr ())=bif b then .inl false else .inr ():=λb=>by cases b<;>rfl
 rw [this,hx];generalize hL:s.data.toList=L;cases L with
 | nil =>
   have:s=⟨#[]⟩:=by cases s;congr 1;exact Array.toList_inj.1 hL
   rw [E5K.2 this] at h1;cases h1
 | cons c r =>
   have hd:s.data[0]?=some c:=by rw [← Array.getElem?_toList,hL];rfl
   simp only [hd,ai,E9r,List.any_cons];cases hc:E4S c
   . simp
   . simp only [bO,cond_false,Bool.true_or,Bool.false_or,dm];have h2:r.any (λc=>!(E4S c || E5s c))=!r.all (λc=>E4S c || E5s c):=by rw [gm];simp
     rw [h2];cases r.all (λc=>E4S c || E5s c)<;>rfl
def E5t (u:E5b):Bool:=bif Lv u.1 ⟨#[]⟩ then E4N u.2 else E47 u.1&&(u.2.1==0&&(u.2.2.1==0&&Lv u.2.2.2 ⟨#[]⟩))
theorem F1w (u:E5b):E6X u=some (E5t u):=by
 unfold E6X E5t;rw [F2O,E8N];cases Lv u.1 ⟨#[]⟩
 . simp only [auI,cond_true,cond_false,ai];cases E47 u.1<;>rfl
 . rfl
theorem F1U (l:List E5b)(hl:l.length<=9223372036854775807):E4v (l,())=some (!l.all E5t):=by
 unfold E4v E4J
 have:=Ma (f:=E4u) l (λi=>(l,(),(l.length:Int),(i:Int))) (λ_ u=>!E5t u) (λi=>.inl (i:Int)) (.inr ()) (λi hi=>by
  have hi':(i:Int)<l.length:=by omega
  simp only [E4u,E8a,hi',decide_true,cond_true,aq,ar,ah hi,ai,F1w,iQ (show i<9223372036854775807 by omega)]
  cases E5t l[i]<;>rfl) (by
  simp only [E4u,ba,decide_false,cond_false])
 simp only [av] at this;rw [this,show (!l.all E5t)=l.any (λu=>!E5t u) by rw [gm,Bool.not_not],← Qm (λu=>!E5t u) l 0]
 cases tm (λ_ u=>!E5t u) l 0 with
 | none=>rfl
 | some i=>simp
theorem F3W (l:List E4Z)(a:ByteArray)(hl:l.length<=1000000):E8j (l,a)=some (match l.find? (λt=>Lv t.1 a) with | some t=>(t,true) | none=>((⟨#[]⟩,[],[]),false)):=by
 unfold E8j;have key:∀ (r:List E4Z) (i:Nat),l.drop i=r->A0d E6N ((a,l,(l.length:Int),(i:Int)),(ir #[]),([],0),[],0)=some (match r.find? (λt=>Lv t.1 a) with | some t=>.inl (true,t) | none=>.inr ((ir #[]),([],0),[],0)):=by
  intro r
  induction r with
  | nil =>
    intro i hd;have hi:¬ (i:Int)<(l.length:Int):=by
     have:=congrArg cz hd
     simp at this;omega
    exact qc (by simp only [E6N,hi,decide_false,cond_false,List.find?_nil])
  | cons t r ih =>
    intro i hd;have hi:i<l.length:=by
     have:=congrArg cz hd
     simp at this;omega
    have hx:l[i]=t∧l.drop (i+1)=r:=by
     rw [List.drop_eq_getElem_cons hi] at hd;exact List.cons.inj hd
    have hi':(i:Int)<(l.length:Int):=by omega
    rw [iz];cases hs:Lv t.1 a with
    | true=>exact qc (by simp only [E6N,hi',decide_true,cond_true,aq,ar,ah hi,ai,hx.1,hs])
    | false =>
      rw [← ih (i+1) hx.2];exact vw (by simp only [E6N,hi',decide_true,cond_true,aq,ar,ah hi,ai,hx.1,hs,cond_false,iQ (show i<9223372036854775807 by omega)])
 have k0:=key l 0 rfl;simp only [av] at k0;refine (congrArg (λo=>bc o _) k0).trans ?_
 cases l.find? (λt=>Lv t.1 a)<;>rfl
theorem E9s (l:List E4Z)(a:ByteArray):l.find? (λt=>Lv t.1 a)=(E6S l a).bind λi=>l[i]?:=by
 unfold E6S
 induction l with
 | nil=>rfl
 | cons t r ih =>
   rw [iz,List.findIdx?_cons];cases Lv t.1 a with
   | true=>rfl
   | false =>
     rw [ih];cases r.findIdx? (λt=>Lv t.1 a)<;>rfl
theorem F0v {l:List E4Z}{a:ByteArray}{i:Nat}(h:E6S l a=some i):i<l.length:=by
 unfold E6S at h
 have:=List.findIdx?_eq_some_iff_findIdx_eq.1 h
 omega
def E84 (aSP:List E4Z)(_:Nat)(a:tI):Int:=match aSP.find? (λt=>Lv t.1 a.1) with
 | none=>4
 | some t=>bif t.2.1.length==a.2.length then (bif a.2.all E5t then 0 else 1) else 6
def F8c (head:List ByteArray)(ats:List tI):Prop:=∀ i (h:i<head.length),E9Z ats ats.length head[i]∧head[i]∉head.take i
theorem F2i (ts:List E5b)(v:ByteArray):occ ts ts.length v↔(v≠⟨#[]⟩∧ts.any (λu=>Lv u.1 v)=true):=by
 unfold occ;rw [fV];constructor
 . rintro ⟨h0,k,u,hk,hu,e⟩;exact ⟨h0,u,bH hu,by rw [E5K];exact e⟩
 . rintro ⟨h0,u,hu,e⟩;obtain ⟨k,hk,e2⟩:=pd hu;exact ⟨h0,k,u,hk,by rw [← e2];exact ah hk,E5K.1 e⟩
def E9t (ats:List tI)(v:ByteArray):Bool:=ats.any λa=>a.2.any λu=>Lv u.1 v
theorem F3X (ats:List tI)(v:ByteArray):E9Z ats ats.length v↔(v≠⟨#[]⟩∧E9t ats v=true):=by
 unfold E9Z E9t;rw [fV];constructor
 . rintro ⟨j,a,hj,ha,h⟩;obtain ⟨h0,h1⟩:=(F2i a.2 v).1 h;exact ⟨h0,a,bH ha,h1⟩
 . rintro ⟨h0,a,ha,h1⟩;obtain ⟨j,hj,e⟩:=pd ha;exact ⟨j,a,hj,by rw [← e];exact ah hj,(F2i a.2 v).2 ⟨h0,h1⟩⟩
theorem F4Q (l:List E5b)(v:ByteArray)(hl:l.length<=9223372036854775807):E4n (l,v)=some (l.any λu=>Lv u.1 v):=by
 unfold E4n E4A
 have:=Ma (f:=E4m) l (λi=>(l,v,(l.length:Int),(i:Int))) (λ_ u=>Lv u.1 v) (λi=>.inl (i:Int)) (.inr ()) (λi hi=>by
  have hi':(i:Int)<l.length:=by omega
  simp only [E4m,E6R,hi',decide_true,cond_true,aq,ar,ah hi,ai,iQ (show i<9223372036854775807 by omega)]
  cases Lv l[i].1 v<;>rfl) (by
  simp only [E4m,ba,decide_false,cond_false])
 simp only [av] at this;rw [this,← Qm (λu:E5b=>Lv u.1 v) l 0]
 cases tm (λ_ (u:E5b)=>Lv u.1 v) l 0 with
 | none=>rfl
 | some i=>simp
theorem F5A (l:List tI)(v:ByteArray)(hl:l.length<=1000)(ht:∀ a∈l,a.2.length<=1000):E4p (l,v)=some (E9t l v):=by
 unfold E4p E4B
 have:=Ma (f:=E4o) l (λi=>(l,v,(l.length:Int),(i:Int))) (λ_ a=>a.2.any λu=>Lv u.1 v) (λi=>.inl (i:Int)) (.inr ()) (λi hi=>by
  have hi':(i:Int)<l.length:=by omega
  have Ge:=ht _ (aM hi);simp only [E4o,E7u,hi',decide_true,cond_true,aq,ar,ah hi,ai,F4Q _ _ (show l[i].2.length<=9223372036854775807 by omega),iQ (show i<9223372036854775807 by omega)]
  cases l[i].2.any (λu=>Lv u.1 v)<;>rfl) (by
  simp only [E4o,ba,decide_false,cond_false])
 simp only [av] at this;rw [this];unfold E9t;rw [← Qm (λa:tI=>a.2.any λu=>Lv u.1 v) l 0]
 cases tm (λ_ (a:tI)=>a.2.any λu=>Lv u.1 v) l 0 with
 | none=>rfl
 | some i=>simp
theorem E6P {α:Type}{x:Int}{A B:α}:(if x=0 then A else B)=bif x==0 then A else B:=by
 by_cases h:x=0
 . rw [if_pos h,h];rfl
 . rw [if_neg h,beq_false_of_ne h];rfl
def E8s (head:List ByteArray)(ats:List tI)(i:Nat)(v:ByteArray):Int:=bif Lv v ⟨#[]⟩ || E4Y (head.take i) v || !E9t ats v then 1 else 0
theorem F3Y (head:List ByteArray)(l:List tI)(hh:head.length<=1000000)(hl:l.length<=1000)(ht:∀ a∈l,a.2.length<=1000):E6Y (head,l)=some (decide (E4I (E8s head l) head 0=0)):=by
 unfold E6Y
 have:=E5R (f:=E6p) head (λi=>((head,(head.length:Int),(i:Int)),(head,l))) (E8s head l) (λ_=>.inl false) (.inr ()) (λi hi=>by
  have hi':(i:Int)<head.length:=by omega
  have hc:=E9i (head.take i) head[i] (by rw [aW];omega)
  rw [E6P];simp only [E6p,hi',decide_true,cond_true,aq,ar,ah hi,ai,jE (fH hi),hc,F5A l head[i] hl ht,iQ (show i<9223372036854775807 by omega),E8s]
  cases Lv head[i] ⟨#[]⟩<;>cases E4Y (head.take i) head[i]<;>cases E9t l head[i]<;>rfl) (by
  simp only [E6p,ba,decide_false,cond_false])
 simp only [av] at this;rw [this,ai];by_cases h:E4I (E8s head l) head 0=0
 . rw [if_pos h,decide_eq_true h];rfl
 . rw [if_neg h,decide_eq_false h];rfl
theorem F7Z (head:List ByteArray)(l:List tI):E4I (E8s head l) head 0=0↔F8c head l:=by
 rw [E7A];unfold F8c;refine forall_congr' λi=>forall_congr' λhi=>?_
 unfold E8s;rw [bS,F3X];have e1:Lv head[i] ⟨#[]⟩=true↔head[i]=⟨#[]⟩:=E5K;have e2:E4Y (head.take i) head[i]=true↔head[i]∈head.take i:=E5Q;cases h1:Lv head[i] ⟨#[]⟩<;>cases h2:E4Y (head.take i) head[i]<;>cases h3:E9t l head[i]<;>simp [h1,h2] at e1 e2<;>simp [e1,e2]
def E7g (aSP:List E4Z)(head:List ByteArray)(ats:List tI):Int :=
 if dbE aSP=0 then (if ats.length<1∨6<ats.length then 1 else if E4I (E84 aSP) ats 0=0 then (if E4I (E8s head ats) head 0=0 then 0 else 1) else E4I (E84 aSP) ats 0) else dbE aSP
structure Sz (aSP:List E4Z)(keys:List (ByteArray×Int))(head:List ByteArray)(ats:List tI):Prop where
 tb:∀ t∈aSP,F0s t∧t.2.1.length<=1000000
 nk:keys.length<=1000000
 kr:∀ k∈keys,0<=k.2∧k.2<4294967296
 nh:head.length<=1000000
 na:ats.length<=1000
 nt:∀ a∈ats,a.2.length<=1000
section
variable {aSP:List E4Z}{keys:List (ByteArray×Int)}{head:List ByteArray}{ats:List tI}(z:Sz aSP keys head ats)
include z
theorem F3y:E72 (aSP,head,ats)=some (E7g aSP head ats):=by
 have hna:=z.na;unfold E72 E7g;simp only [F1v aSP (λt ht=>(z.tb t ht).1),ai]
 by_cases h0:dbE aSP=0
 . have hl:=E8P h0;rw [if_pos h0,if_pos h0];simp only [bne_self_eq_false,cond_false];by_cases h1:ats.length<1
   . have:(ats.length:Int)<1:=by omega
     simp only [this,decide_true,cond_true,if_pos (Or.inl h1:ats.length<1∨6<ats.length)]
   . by_cases h2:6<ats.length
     . have a1:¬ (ats.length:Int)<1:=by omega
       have a2:(ats.length:Int)>6:=by omega
       simp only [a1,a2,decide_true,decide_false,cond_true,cond_false,if_pos (Or.inr h2:ats.length<1∨6<ats.length)]
     . have a1:¬ (ats.length:Int)<1:=by omega
       have a2:¬ (ats.length:Int)>6:=by omega
       have a3:¬ (ats.length<1∨6<ats.length):=by omega
       simp only [a1,a2,decide_false,cond_false,if_neg a3]
       have:=E5R (f:=E7r) ats (λi=>((ats,(ats.length:Int),(i:Int)),aSP,(head,ats))) (E84 aSP) .inl (.inr (head,ats)) (λi hi=>by
        have hi':(i:Int)<ats.length:=by omega
        have Ge:=z.nt _ (aM hi);rw [E6P];simp only [E7r,hi',decide_true,cond_true,aq,ar,ah hi,ai,F3W aSP _ (show aSP.length<=1000000 by omega),F1U _ (show ats[i].2.length<=9223372036854775807 by omega),iQ (show i<9223372036854775807 by omega),E84]
        cases aSP.find? (λt=>Lv t.1 ats[i].1) with
        | none=>rfl
        | some t =>
          simp only [bO,cond_false];by_cases hlen:t.2.1.length=ats[i].2.length
          . have:((t.2.1.length:Int) != (ats[i].2.length:Int))=false:=by rw [hlen,bne_self_eq_false]
            simp only [hlen,bne_self_eq_false,cond_false,beq_self_eq_true,cond_true];cases ats[i].2.all E5t<;>rfl
          . have:((t.2.1.length:Int) != (ats[i].2.length:Int))=true:=by rw [bne_iff_ne];omega
            simp only [this,cond_true,beq_false_of_ne hlen,cond_false];rfl) (by
        simp only [E7r,ba,decide_false,cond_false])
       simp only [av] at this;simp only [this,ai];by_cases he:E4I (E84 aSP) ats 0=0
       . rw [if_pos he,if_pos he];simp only [lS,F3Y head ats z.nh z.na z.nt,ai];by_cases hh:E4I (E8s head ats) head 0=0
         . rw [if_pos hh,decide_eq_true hh];rfl
         . rw [if_neg hh,decide_eq_false hh];rfl
       . rw [if_neg he,if_neg he];rfl
 . rw [if_neg h0,if_neg h0];simp only [bne_iff_ne.2 (F3V aSP h0),cond_true]
end
end Go.Mid
namespace Go.Mid
theorem E7B (a b:fb):E4K (a,b)=some (b.all λp=>D8V eqS p.1 false a):=by
 have h1:∀ p,E6h p a=if (λ(p:Txt×Bool) (a:fb)=>!D8V eqS p.1 false a) p a then some (.inr false) else some (.inl a):=by
  intro p;have key:∀ c:Bool,cond (!c) (some (aA false):Option (fb ⊕ Bool)) (some (aC a))=if (!c)=true then some (aA false) else some (aC a):=λc=>by cases c<;>rfl
  exact key (D8V eqS p.1 false a)
 have h2:(E7F b λy=>(E5D E6h y a).bind λz=>bT (λu=>some (aC (β:=Bool) ())) (λv=>some (aA v)) z)=some (if b.any (λp=>!D8V eqS p.1 false a) then .inr false else .inl ()):=by
  rw [E7U];intro l' hl;rw [E80 (λ(p:Txt×Bool) (a:fb)=>!D8V eqS p.1 false a) false a _ h1,F1q hl]
  cases b.any (λp=>!D8V eqS p.1 false a)<;>rfl
 simp only [E4K];rw [h2];have h3:b.all (λp=>D8V eqS p.1 false a)=!b.any (λp=>!D8V eqS p.1 false a):=by
  rw [List.not_any_eq_all_not];simp
 rw [h3];cases b.any (λp=>!D8V eqS p.1 false a)<;>rfl
theorem E9u {a b:fb}(ha:SE a):E4K (a,b)=some true↔∀ z∈nb b,z∈nb a:=by
 rw [E7B,aa,List.all_eq_true];constructor
 . intro h z hz;obtain ⟨p,hp,rfl⟩:=bp.1 hz;exact (E7J ha).1 (h p hp)
 . intro h p hp;exact (E7J ha).2 (h p.1 (dY hp))
theorem E9v (a b:fb×fb)(o:fb):E6i (a,b,o)=some (a.2.any λp=>D8V eqS p.1 false b.2 && !D8V eqS p.1 false o):=by
 have h1:∀ p,E7I p (o,b)=if (λ(p:Txt×Bool) (s:fb×fb×fb)=>D8V eqS p.1 false s.2.2 && !D8V eqS p.1 false s.1) p (o,b) then some (.inr true) else some (.inl (o,b)):=by
  intro p;have key:∀ c d:Bool,cond c (cond (!d) (some (aA true):Option ((fb×fb×fb) ⊕ Bool)) (some (aC (o,b)))) (some (aC (o,b)))=if (c && !d)=true then some (aA true) else some (aC (o,b)):=λc d=>by cases c<;>cases d<;>rfl
  exact key (D8V eqS p.1 false b.2) (D8V eqS p.1 false o)
 have h2:(E7F a.2 λy=>(E5D E7I y (o,b)).bind λz=>bT (λu=>some (aC (β:=Bool) ())) (λv=>some (aA v)) z)=some (if a.2.any (λp=>D8V eqS p.1 false b.2 && !D8V eqS p.1 false o) then .inr true else .inl ()):=by
  rw [E7U];intro l' hl;rw [E80 (λ(p:Txt×Bool) (s:fb×fb×fb)=>D8V eqS p.1 false s.2.2 && !D8V eqS p.1 false s.1) true (o,b) _ h1,F1q hl]
  cases a.2.any (λp=>D8V eqS p.1 false b.2 && !D8V eqS p.1 false o)<;>rfl
 simp only [E6i];rw [h2];cases a.2.any (λp=>D8V eqS p.1 false b.2 && !D8V eqS p.1 false o)<;>rfl
end Go.Mid
namespace Go.Mid
inductive Cl (L:List (fb×fb)) (v:fb) (but:Int):Txt->Prop
 | base {z:Txt} (h:z∈nb v):Cl L v but z
 | step {z:Txt} (i:Nat) (a:fb×fb) (hi:L[i]?=some a) (hb:(i:Int)≠but) (hk:∀ x∈nb a.1,Cl L v but x) (hz:z∈nb a.2):Cl L v but z
theorem F0h {C:Type}(c:C):∀ (l:fb) (m:fb),l.foldl (λ(a:C×fb) p=>(a.1,D8N eqS ltS p.1 true a.2)) (c,m)=(c,E6O m l)
 | [],_=>rfl
 | p::r,m=>F0h c r _
theorem E9L {C B R:Type}(f:Txt×Bool->C×fb->Option ((C×fb) ⊕ B))(hf:∀ p a,f p a=some (.inl (a.1,D8N eqS ltS p.1 true a.2)))(g:(C×fb) ⊕ B->Option R)(r:C×fb->R)(hg:∀ a,g (.inl a)=some (r a))(c:C){m l:fb}(hm:SE m) :
 (E7F l λy=>(E5D f y (c,m)).bind g)=some (r (c,E6O m l)):=by
 have hff:f=λp a=>some (.inl (a.1,D8N eqS ltS p.1 true a.2)):=by funext p a;exact hf p a
 subst hff;rw [E7U];intro l' hl;have h1:E5D (B:=B) (λ(p:Txt×Bool) (a:C×fb)=>some (.inl (a.1,D8N eqS ltS p.1 true a.2))) l' (c,m)=some (.inl (l'.foldl (λ(a:C×fb) p=>(a.1,D8N eqS ltS p.1 true a.2)) (c,m))) :=
  F0d (λ(p:Txt×Bool) (a:C×fb)=>(a.1,D8N eqS ltS p.1 true a.2)) l' (c,m)
 rw [h1,F0h,F2J hm hl];exact hg _
section
variable {L:List (fb×fb)}{v:fb}{but:Int}
abbrev stI (L:List (fb×fb)) (but:Int) (i:Nat) (s:Bool×fb):(List (fb×fb)×Int×Bool×List (fb×fb)×Int×Int)×fb:=((L,but,s.1,L,(L.length:Int),(i:Int)),s.2)
def inB (a b:fb):Bool:=b.all λp=>D8V eqS p.1 false a
theorem E9E {a b:fb}(ha:SE a):inB a b=true↔∀ z∈nb b,z∈nb a:=by
 have:=E9u (b:=b) ha
 rw [E7B,aa] at this;exact this
theorem F2Q (hL:L.length<1000000){i:Nat}(hi:i<L.length)(ag:Bool){out:fb}(ho:SE out) :
 E5k (stI L but i (ag,out))=some (.inl (stI L but (i+1) (if ((i:Int) != but&&inB out L[i].1 && !inB out L[i].2)=true then (true,E6O out L[i].2) else (ag,out)))):=by
 have hw:ao.wrap ((i:Int)+1)=((i+1:Nat):Int):=iQ (by omega)
 have h1:decide ((i:Int)<(L.length:Int))=true:=by simp;omega
 have h2:decide ((0:Int)<=(i:Int))=true:=by simp
 have h3:L[(i:Int).toNat]?=some L[i]:=by simp [hi]
 have c1:E4K (out,L[i].1)=some (inB out L[i].1):=E7B out L[i].1;have c2:E4K (out,L[i].2)=some (inB out L[i].2):=E7B out L[i].2;have hr:=E9L (C:=List (fb×fb)×Int×Bool×List (fb×fb)×Int×Int) (B:=PUnit) E8e (λ_ _=>rfl)
  (λt=>bT (λy1=>some ((y1.1.1,y1.1.2.1,y1.1.2.2.1,y1.1.2.2.2.1,y1.1.2.2.2.2.1,y1.1.2.2.2.2.2),y1.2)) (λ_=>none) t) (λa=>a) (λ_=>rfl) (L,but,true,L,(L.length:Int),(i:Int)) (m:=out) (l:=L[i].2) ho
 simp only [E5k,h1,h2,h3,cond_true,ai,c1,c2];cases hb:((i:Int) != but)
 . simp only [cond_false,sS,aI,if_false,hw]
 . simp only [cond_true,dm];cases q1:inB out L[i].1
   . simp only [cond_false,sS,aI,if_false,hw]
   . simp only [cond_true,dm];cases q2:inB out L[i].2
     . simp only [auI,cond_true,if_true];refine (congrArg (λo=>bc o _) hr).trans ?_
       simp only [ai,hw]
     . simp only [bO,cond_false,aI,if_false,hw]
end
end Go.Mid
namespace Go.Mid
section
variable {L:List (fb×fb)}{v:fb}{but:Int}
def F1x (L:List (fb×fb))(but:Int)(n:Nat)(out:fb):Prop:=∀ j (a:fb×fb),j<n->L[j]?=some a->(j:Int)≠but->(∀ z∈nb a.1,z∈nb out)->∀ z∈nb a.2,z∈nb out
structure Rnd (L:List (fb×fb))(v:fb)(but:Int)(aBS:fb)(n:Nat)(s:Bool×fb):Prop where
 ok:SE s.2
 cl:∀ z∈nb s.2,Cl L v but z
 mono:∀ z∈nb aBS,z∈nb s.2
 no:s.1=false->s.2=aBS∧F1x L but n aBS
 yes:s.1=true->∃ z∈nb s.2,z∉nb aBS
theorem F2R (hL:L.length<1000000){aBS:fb}(ho:SE aBS)(dK:∀ z∈nb aBS,Cl L v but z) :
 ∃ b,A0d E5k (stI L but 0 (false,aBS))=some b∧∃ s,b=((L,but,s.1),s.2)∧Rnd L v but aBS L.length s:=by
 refine V4 L.length (stI L but) (Rnd L v but aBS) _ (false,aBS) ⟨ho,dK,λ_ h=>h,λ_=>⟨rfl,λj a hj=>by omega⟩,λh=>by cases h⟩ ?_ ?_
 . rintro i ⟨ag,out⟩ hi J;refine .inl ⟨_,F2Q hL hi ag J.ok,?_⟩;have TL:L[i]?=some L[i]:=by simp [hi]
   split
   . rename_i hc;simp only [aj,bne_iff_ne,ne_eq,ed] at hc;obtain ⟨⟨hb,q1⟩,q2⟩:=hc;have p1:=(E9E J.ok).1 q1;refine ⟨J.ok.union,λz hz=>?_,λz hz=>(E7f J.ok).2 (.inl (J.mono z hz)),λh=>(by cases h),λ_=>?_⟩
     . rcases (E7f J.ok).1 hz with h | h
       . exact J.cl z h
       . exact .step i L[i] TL hb (λx hx=>J.cl x (p1 x hx)) h
     . have:¬ ∀ z∈nb L[i].2,z∈nb out:=λh=>by
        rw [(E9E J.ok).2 h] at q2;cases q2
       obtain ⟨z,h1⟩:=Classical.not_forall.1 this;obtain ⟨hz,h2⟩:=Classical.not_imp.1 h1;exact ⟨z,(E7f J.ok).2 (.inr hz),λh=>h2 (J.mono z h)⟩
   . rename_i hc;refine ⟨J.ok,J.cl,J.mono,λh=>?_,J.yes⟩
     obtain ⟨e,nX⟩:=J.no h;refine ⟨e,λj a hj hja hjb hk=>?_⟩
     by_cases hji:j=i
     . subst hji;rw [TL,aa] at hja;subst hja;have e:out=aBS:=e;subst e;intro z hz;apply Classical.byContradiction;intro hn;apply hc;simp only [aj,bne_iff_ne,ne_eq,ed];refine ⟨⟨hjb,(E9E J.ok).2 hk⟩,?_⟩;rw [aSQ];intro h;exact hn ((E9E J.ok).1 h z hz)
     . exact nX j a (by omega) hja hjb hk
 . rintro ⟨ag,out⟩ J;refine ⟨_,?_,(ag,out),rfl,J⟩;have h1:decide ((L.length:Int)<(L.length:Int))=false:=by simp
   simp only [E5k,h1,cond_false]
def univ (L:List (fb×fb))(v:fb):List Txt:=nb v++L.flatMap λa=>nb a.2
theorem Cl.univ {z:Txt}(h:Cl L v but z):z∈univ L v:=by
 cases h with
 | base h=>exact List.mem_append_left _ h
 | step i a hi hb hk hz=>exact List.mem_append_right _ (gY.2 ⟨a,bH hi,hz⟩)
open Classical in
noncomputable def F5S (L:List (fb×fb))(v out:fb):Nat:=((univ L v).filter λz=>decide (z∉nb out)).length
theorem F4R {out out':fb}(hm:∀ z∈nb out,z∈nb out'){z:Txt}(hz:z∈nb out')(hn:z∉nb out)(hu:z∈univ L v):F5S L v out'<F5S L v out:=by
 classical
 unfold F5S;generalize univ L v=U at hu
 induction U with
 | nil=>cases hu
 | cons y r ih =>
   have le:∀ r:List Txt,(r.filter λz=>decide (z∉nb out')).length<=(r.filter λz=>decide (z∉nb out)).length:=by
    intro r
    induction r with
    | nil=>exact ay _
    | cons a r ih =>
      simp only [jl];by_cases h1:a∈nb out
      . have h2:=hm a h1;simp only [h1,h2,not_true,decide_false,aI,if_false];exact ih
      . by_cases h2:a∈nb out'
        . simp only [h1,h2,not_true,not_false_iff,decide_false,decide_true,aI,if_false,if_true,bf];omega
        . simp only [h1,h2,not_false_iff,decide_true,if_true,bf];omega
   rcases List.mem_cons.1 hu with rfl | hr
   . have:=le r
     simp only [jl,hz,hn,not_true,not_false_iff,decide_false,decide_true,aI,if_false,if_true,bf];omega
   . have:=ih hr
     simp only [jl];by_cases h1:y∈nb out
     . have h2:=hm y h1;simp only [h1,h2,not_true,decide_false,aI,if_false];exact this
     . by_cases h2:y∈nb out'
       . simp only [h1,h2,not_true,not_false_iff,decide_false,decide_true,aI,if_false,if_true,bf];omega
       . simp only [h1,h2,not_false_iff,decide_true,if_true,bf];omega
theorem F0i (hL:L.length<1000000):∃ s,E52 (L,v,but)=some s∧SE s∧∀ z,z∈nb s↔Cl L v but z:=by
 have h0:=E9L (C:=List (fb×fb)×Int) (B:=PUnit) E8d (λ_ _=>rfl) (λz=>bT (λu=>some ((u.1.1,u.1.2),u.2)) (λ_=>none) z) (λa=>a) (λ_=>rfl) (L,but) (m:=[]) (l:=v) trivial
 have hv:∀ z,z∈nb (E6O [] v)↔z∈nb v:=λz=>by
  rw [E7f (m:=[]) trivial];simp [nb]
 have key:∃ b,A0d E7v ((L,but,true),E6O [] v)=some b∧(SE b∧∀ z,z∈nb b↔Cl L v but z):=by
  let I:(List (fb×fb)×Int×Bool)×fb->Prop:=λa=>a.1.1=L∧a.1.2.1=but∧SE a.2∧(∀ z∈nb a.2,Cl L v but z)∧(∀ z∈nb v,z∈nb a.2)∧(a.1.2.2=false->F1x L but L.length a.2)
  refine C8K I (λb=>SE b∧∀ z,z∈nb b↔Cl L v but z) (λa=>2*F5S L v a.2+(if a.1.2.2 then 1 else 0)) ?_ _ ⟨rfl,rfl,SE.union (m:=[]) trivial,λz hz=>.base ((hv z).1 hz),λz hz=>(hv z).2 hz,λh=>by cases h⟩
  rintro ⟨⟨L',aDn,ag⟩,out⟩ ⟨e1,e2,i1,i2,i3,i4⟩;simp only at e1 e2 i1 i2 i3 i4;subst e1;subst e2;cases ag with
  | false =>
    right;refine ⟨out,rfl,i1,λz=>⟨i2 z,λh=>?_⟩⟩
    induction h with
    | base h=>exact i3 _ h
    | step i a hi hb hk hz ih =>
      have eC:i<L'.length:=by
       apply Classical.byContradiction;intro hn;rw [List.getElem?_eq_none (by omega)] at hi
       cases hi
      exact i4 rfl i a eC hi hb ih _ hz
  | true =>
    left;obtain ⟨b,hb,s,rfl,R⟩:=F2R (but:=aDn) hL i1 i2;refine ⟨((L',aDn,s.1),s.2),?_,⟨rfl,rfl,R.ok,R.cl,λz hz=>R.mono z (i3 z hz),λh=>?_⟩,?_⟩
    . have hs:A0d E5k ((L',aDn,false,L',(L'.length:Int),(0:Int)),out)=some ((L',aDn,s.1),s.2):=hb;simp only [E7v,cond_true];refine (congrArg (λo=>bc o _) hs).trans ?_
      rfl
    . obtain ⟨e,hc⟩:=R.no h;have e:s.2=out:=e;show F1x L' aDn L'.length s.2;rw [e];exact hc
    . obtain ⟨ag',out'⟩:=s;cases ag' with
      | false =>
        have e:out'=out:=(R.no rfl).1;subst e;simp
      | true =>
        obtain ⟨z,hz,hn⟩:=R.yes rfl
        have:F5S L' v out'<F5S L' v out:=F4R (L:=L') (v:=v) R.mono hz hn (R.cl z hz).univ
        show 2*F5S L' v out'+(if true=true then 1 else 0)<2*F5S L' v out+(if true=true then 1 else 0)
        omega
 obtain ⟨b,hb,kN⟩:=key;refine ⟨b,?_,kN⟩;simp only [E52];refine (congrArg (λo=>bc o _) h0).trans ?_
 simp only [ai];refine (congrArg (λo=>bc o _) hb).trans ?_
 rfl
end
end Go.Mid
namespace Go.Mid
namespace AG
variable {V:Type}(N:Nat)(key all:Nat->V->Prop)
inductive D (but:Option Nat) (S:V->Prop):V->Prop
 | base {z:V} (h:S z):D but S z
 | step {z:V} (j:Nat) (hj:j<N) (hb:some j≠but) (hk:∀ x,key j x->D but S x) (hz:all j z):D but S z
def plus (i:Nat):V->Prop:=D N key all (some i) (key i)
inductive Rch (i:Nat):Nat->Prop
 | refl:Rch i i
 | step {a b:Nat} (h:Rch i a) (hb:b<N) (x:V) (h1:all a x) (h2:all b x) (h3:¬ plus N key all i x):Rch i b
def att (i k:Nat):Prop:=i<N∧k<N∧k≠i∧Rch N key all i k
def aJU (i k:Nat):Prop:=∀ x,key k x->D N key all none (key i) x
variable {N key all}
theorem D.mono {but:Option Nat}{S T:V->Prop}(h:∀ x,S x->D N key all but T x){z:V}(hz:D N key all but S z):D N key all but T z:=by
 induction hz with
 | base hz=>exact h _ hz
 | step j hj hb _ hz ih=>exact .step j hj hb ih hz
inductive Way (N:Nat) (key all:Nat->V->Prop):Nat->Nat->Nat->Prop
 | one {a b:Nat} (h:att N key all a b):Way N key all 1 a b
 | more {n a b c:Nat} (h:att N key all a b) (r:Way N key all n b c):Way N key all (n+1) a c
end AG
end Go.Mid
namespace Go.Mid
def E5S (l:List (fb×fb))(i:Nat)(z:Txt):Prop:=∃ a,l[i]?=some a∧z∈nb a.1
def E50 (l:List (fb×fb))(i:Nat)(z:Txt):Prop:=∃ a,l[i]?=some a∧z∈nb a.2
theorem F4j {α:Type}{l:List α}{i:Nat}{a:α}(h:l[i]?=some a):i<l.length:=(List.getElem?_eq_some_iff.1 h).1
theorem F5B {l:List (fb×fb)}{v:fb}{but:Int}{o:Option Nat}(ho:∀ j:Nat,(j:Int)≠but↔some j≠o){z:Txt}:Cl l v but z↔AG.D l.length (E5S l) (E50 l) o (λz=>z∈nb v) z:=by
 constructor
 . intro h
   induction h with
   | base h=>exact .base h
   | step i a hi hb hk hz ih=>exact .step i (F4j hi) ((ho i).1 hb) (λx ⟨a',h1,h2⟩=>by rw [hi,aa] at h1;subst h1;exact ih x h2) ⟨a,hi,hz⟩
 . intro h
   induction h with
   | base h=>exact .base h
   | step j hj hb hk hz ih =>
     obtain ⟨a,h1,h2⟩:=hz;exact .step j a h1 ((ho j).2 hb) (λx hx=>ih x ⟨a,h1,hx⟩) h2
theorem F1y (i:Nat):∀ j:Nat,(j:Int)≠(i:Int)↔some j≠some i:=λj=>by
 rw [ne_eq,ne_eq,aa];omega
theorem F4S {l:List (fb×fb)}(hL:l.length<1000000){i:Nat}(hi:i<l.length):∃ s,E52 (l,l[i].1,(i:Int))=some s∧SE s∧∀ z,z∈nb s↔AG.plus l.length (E5S l) (E50 l) i z:=by
 obtain ⟨s,h1,h2,h3⟩:=F0i (L:=l) (v:=l[i].1) (but:=(i:Int)) hL;refine ⟨s,h1,h2,λz=>?_⟩
 rw [h3,F5B (F1y i)];have e:(λz=>z∈nb l[i].1)=E5S l i:=by
  funext x;apply propext;constructor
  . intro h;exact ⟨l[i],by simp [hi],h⟩
  . rintro ⟨a,h1,h2⟩;rw [ah hi,aa] at h1;subst h1;exact h2
 rw [e];exact Iff.rfl
theorem F2S {l:List (fb×fb)}{a b:Nat}(ha:a<l.length)(hb:b<l.length)(ok:∀ s∈l,SE s.2){o:fb}(ho:SE o) :
 ∃ t,E6i (l[a],l[b],o)=some t∧(t=true↔∃ x,E50 l a x∧E50 l b x∧x∉nb o):=by
 refine ⟨_,E9v _ _ _,?_⟩;rw [fV];have aGm:=ok l[b] (aM hb);constructor
 . rintro ⟨p,hp,h⟩;simp only [aj,ed] at h;refine ⟨p.1,⟨l[a],by simp [ha],dY hp⟩,⟨l[b],by simp [hb],(E7J aGm).1 h.1⟩,λhx=>?_⟩
   have:=(E7J ho).2 hx
   rw [h.2] at this;cases this
 . rintro ⟨x,⟨s,h1,h2⟩,⟨t,h3,h4⟩,h5⟩;rw [ah ha,aa] at h1;rw [ah hb,aa] at h3;subst h1;subst h3;obtain ⟨p,hp,rfl⟩:=bp.1 h2;refine ⟨p,hp,?_⟩;simp only [aj,ed];refine ⟨(E7J aGm).2 h4,?_⟩;rw [aSQ];exact λh=>h5 ((E7J ho).1 h)
end Go.Mid
namespace Go.Mid
def E9w (head:List ByteArray)(k:Int)(ts:List E5b)(n:Nat)(z:ByteArray):Prop:=∃ j u,j<n∧ts[j]?=some u∧u.1=z∧z≠{ data:=#[] }∧z∉head∧E7K k j=true
structure QV (keys:List (ByteArray×Int))(head:List ByteArray)(ats:List tI):Prop where
 nk:keys.length<=1000000
 nh:head.length<=1000000
 na:ats.length<=6
 nt:∀ a∈ats,a.2.length<=16
 fk:∀ a∈ats,(keys.findIdx? λp=>Lv p.1 a.1).isSome=true
def E4j (keys:List (ByteArray×Int))(head:List ByteArray)(ats:List tI):List (fb×fb):=ats.map (E6K keys head)
theorem F0L {keys:List (ByteArray×Int)}{head:List ByteArray}{l:List tI}{i:Nat}(hi:i<l.length):(E4j keys head l)[i]?=some (E6K keys head l[i]):=by
 unfold E4j;rw [List.getElem?_map,ah hi];rfl
theorem F30 {keys:List (ByteArray×Int)}{head:List ByteArray}{l:List tI}{i:Nat}(hi:i<l.length)(z:ByteArray):E5S (E4j keys head l) i z↔E9w head (E5O keys l[i].1).1 l[i].2 l[i].2.length z:=by
 have h:=(E9V keys head l[i]).GG z;unfold E5S;rw [F0L hi];constructor
 . rintro ⟨a,e,hz⟩;rw [aa] at e;subst e;exact h.1 hz
 . exact λhz=>⟨_,rfl,h.2 hz⟩
theorem F31 {keys:List (ByteArray×Int)}{head:List ByteArray}{l:List tI}{i:Nat}(hi:i<l.length)(z:ByteArray):E50 (E4j keys head l) i z↔(occ l[i].2 l[i].2.length z∧z∉head):=by
 have h:=(E9V keys head l[i]).aEE z;unfold E50;rw [F0L hi];constructor
 . rintro ⟨a,e,hz⟩;rw [aa] at e;subst e;obtain ⟨j,u,h1,h2,h3,h4,h5⟩:=h.1 hz;exact ⟨⟨h4,j,u,h1,h2,h3⟩,h5⟩
 . rintro ⟨⟨h4,j,u,h1,h2,h3⟩,h5⟩;exact ⟨_,rfl,h.2 ⟨j,u,h1,h2,h3,h4,h5⟩⟩
theorem E79 {keys:List (ByteArray×Int)}{head:List ByteArray}{l:List tI}:(E4j keys head l).length=l.length:=by simp [E4j]
end Go.Mid
namespace Go.Mid
theorem F3A (l:List E4Z)(a:ByteArray)(hl:l.length<=1000000):E7R (l,a)=some (match l.find? (λt=>Lv t.1 a) with | some t=>(t,true) | none=>((⟨#[]⟩,[],[]),false)):=by
 unfold E7R E4G
 have:=Ma (f:=E4r) l (λi=>(l,a,(l.length:Int),(i:Int))) (λ_ t=>Lv t.1 a) (λi=>.inl (i:Int)) (.inr ()) (λi hi=>by
  have hi':(i:Int)<l.length:=by omega
  simp only [E4r,E7W,hi',decide_true,cond_true,aq,ar,ah hi,ai,iQ (show i<9223372036854775807 by omega)]
  cases Lv l[i].1 a<;>rfl) (by
  simp only [E4r,ba,decide_false,cond_false])
 simp only [av] at this;rw [this,D86,E9s];cases hx:E6S l a with
 | none=>unfold E6S at hx;rw [hx];rfl
 | some k =>
   have hk:=F0v hx;unfold E6S at hx;have n1:¬ ((k:Int)<0):=by omega
   rw [hx];simp only [Option.map_some,dG,ai,Sum.elim_inl,n1,decide_false,cond_false,aq,decide_true,cond_true,ar,ah hk]
theorem F32 {k:Int}(h0:0<=k)(h1:k<4294967296){n:Nat}(hn:n<=16):(pL cG k ((2 ^ n-1:Nat):Int)==k)=(jK cG k (n:Int)==0):=by
 obtain ⟨m,rfl⟩:=eB h0;have hm:m<w32:=by unfold w32;omega
 have hp:=F1t (show n<=32 by omega)
 have tK:0<2 ^ n:=fD n;rw [F2f hm (by omega),F4M (by omega),Nat.and_two_pow_sub_one_eq_mod,mz,Bool.eq_iff_iff,beq_iff_eq,beq_iff_eq]
 constructor
 . intro h;have h:m%2 ^ n=m:=by omega
   have:m<2 ^ n:=by rw [← h];exact Nat.mod_lt _ tK
   rw [Nat.div_eq_of_lt this];rfl
 . intro h;have h:m / 2 ^ n=0:=by omega
   have:m<2 ^ n:=by
    rcases Nat.div_eq_zero_iff.1 h with h | h
    . omega
    . exact h
   rw [aSU this]
def E8I (aSP:List E4Z)(keys:List (ByteArray×Int))(i:Nat)(k:ByteArray×Int):Int:=match aSP.find? (λt=>Lv t.1 k.1) with
 | none=>4
 | some t=>bif jK cG k.2 (t.2.1.length:Int)==0 then (bif (E5O (keys.take i) k.1).2 then 5 else 0) else 1
theorem F0j (keys:List (ByteArray×Int))(a:ByteArray):(E5O keys a).2=(keys.findIdx? λp=>Lv p.1 a).isSome:=by
 unfold E5O;cases keys.findIdx? (λp=>Lv p.1 a)<;>rfl
def E9x (ats:List tI)(i:Nat)(a:tI):Int:=bif (ats.take i).any (λb=>Lv b.1 a.1) then 14 else 0
def F0w (keys:List (ByteArray×Int))(_:Nat)(a:tI):Int:=bif (E5O keys a.1).2 then 0 else 4
def E7w (aSP:List E4Z)(keys:List (ByteArray×Int))(head:List ByteArray)(ats:List tI):Int :=
 if E7g aSP head ats=0 then (if E4I (E8I aSP keys) keys 0=0 then (if E4I (E9x ats) ats 0=0 then E4I (F0w keys) ats 0 else E4I (E9x ats) ats 0) else E4I (E8I aSP keys) keys 0) else E7g aSP head ats
theorem E9y {aSP:List E4Z}{head:List ByteArray}{ats:List tI}(h:E7g aSP head ats=0):dbE aSP=0:=by
 unfold E7g at h;split at h
 . assumption
 . rename_i h0;exact (h0 h).elim
section
variable {aSP:List E4Z}{keys:List (ByteArray×Int)}{head:List ByteArray}{ats:List tI}(z:Sz aSP keys head ats)
theorem F3B (nk:keys.length<=1000000)(hdb:dbE aSP=0):E7S (aSP,keys)=some (E4I (E8I aSP keys) keys 0):=by
 have hl:=E8P hdb;unfold E7S
 have:=E5R (f:=E6Z) keys (λi=>((keys,keys,(keys.length:Int),(i:Int)),aSP)) (E8I aSP keys) .inl (.inr ()) (λi hi=>by
  have hi':(i:Int)<keys.length:=by omega
  rw [E6P];simp only [E6Z,hi',decide_true,cond_true,aq,ar,ah hi,ai,F3A aSP _ (show aSP.length<=1000000 by omega),jE (fH hi),F1r (keys.take i) keys[i].1 (by rw [aW];omega),iQ (show i<9223372036854775807 by omega),E8I]
  cases aSP.find? (λt=>Lv t.1 keys[i].1) with
  | none=>rfl
  | some t =>
    simp only [bO,cond_false,bne];cases jK cG keys[i].2 (t.2.1.length:Int)==0<;>cases (E5O (keys.take i) keys[i].1).2<;>rfl) (by
  simp only [E6Z,ba,decide_false,cond_false])
 simp only [av] at this;rw [this,ai];split
 . rename_i h0;rw [h0];rfl
 . rfl
theorem F4U (l:List tI)(a:tI)(hl:l.length<=1000):E4t (l,a)=some (l.any λb=>Lv b.1 a.1):=by
 unfold E4t E4H
 have:=Ma (f:=E4s) l (λi=>(l,a,(l.length:Int),(i:Int))) (λ_ b=>Lv b.1 a.1) (λi=>.inl (i:Int)) (.inr ()) (λi hi=>by
  have hi':(i:Int)<l.length:=by omega
  simp only [E4s,E7X,hi',decide_true,cond_true,aq,ar,ah hi,ai,iQ (show i<9223372036854775807 by omega)]
  cases Lv l[i].1 a.1<;>rfl) (by
  simp only [E4s,ba,decide_false,cond_false])
 simp only [av] at this;rw [this,← Qm (λb:tI=>Lv b.1 a.1) l 0]
 cases tm (λ_ (b:tI)=>Lv b.1 a.1) l 0 with
 | none=>rfl
 | some i=>simp
include z
theorem F0N:E7e (aSP,keys,head,ats)=some (E7w aSP keys head ats):=by
 have hna:=z.na;have hnk:=z.nk;unfold E7e E7w;simp only [F3y z,ai];by_cases h0:E7g aSP head ats=0
 . have hdb:=E9y h0;rw [if_pos h0];simp only [h0,bne_self_eq_false,cond_false,F3B z.nk hdb,ai];by_cases h1:E4I (E8I aSP keys) keys 0=0
   . rw [if_pos h1];simp only [h1,bne_self_eq_false,cond_false]
     have:=E5R (f:=E60) ats (λi=>((keys,ats,(ats.length:Int),(i:Int)),(head,ats))) (E9x ats) .inl (.inr (keys,(head,ats))) (λi hi=>by
      have hi':(i:Int)<ats.length:=by omega
      rw [E6P];simp only [E60,hi',decide_true,cond_true,aq,ar,ah hi,ai,jE (fH hi),F4U (ats.take i) ats[i] (by rw [aW];omega),iQ (show i<9223372036854775807 by omega),E9x]
      cases (ats.take i).any (λb=>Lv b.1 ats[i].1)<;>rfl) (by
      simp only [E60,ba,decide_false,cond_false])
     simp only [av] at this;simp only [this,ai];by_cases h2:E4I (E9x ats) ats 0=0
     . rw [if_pos h2,if_pos h2]
       have:=E5R (f:=E61) ats (λi=>(keys,ats,(ats.length:Int),(i:Int))) (F0w keys) .inl (.inr ()) (λi hi=>by
        have hi':(i:Int)<ats.length:=by omega
        rw [E6P];simp only [E61,hi',decide_true,cond_true,aq,ar,ah hi,ai,F1r keys ats[i].1 hnk,iQ (show i<9223372036854775807 by omega),F0w]
        cases (E5O keys ats[i].1).2<;>rfl) (by
        simp only [E61,ba,decide_false,cond_false])
       simp only [av] at this;simp only [lS,this,ai];split
       . rename_i h3;rw [h3];rfl
       . rfl
     . rw [if_neg h2,if_neg h2];rfl
   . rw [if_neg h1];simp only [bne_iff_ne.2 h1,cond_true]
 . rw [if_neg h0];simp only [bne_iff_ne.2 h0,cond_true]
theorem F2T (h:E7w aSP keys head ats=0):QV keys head ats:=by
 unfold E7w at h;split at h
 . rename_i h0;split at h
   . rename_i h1;split at h
     . rename_i h2;have hdb:=E9y h0;unfold E7g at h0;rw [if_pos hdb] at h0;split at h0
       . cases h0
       . rename_i h6;split at h0
         . rename_i ha;refine ⟨z.nk,z.nh,by omega,λa hm=>?_,λa hm=>?_⟩
           . obtain ⟨j,hj,rfl⟩:=pd hm
             have:=E7A.1 ha j hj
             unfold E84 at this;split at this
             . cases this
             . rename_i t ht;have h16:=(E9q (F0u hdb (List.mem_of_find?_eq_some ht))).2;by_cases e:t.2.1.length=ats[j].2.length
               . omega
               . rw [beq_false_of_ne e,cond_false] at this;cases this
           . obtain ⟨j,hj,rfl⟩:=pd hm
             have:=E7A.1 h j hj
             unfold F0w at this;rw [F0j] at this;cases hx:(keys.findIdx? λp=>Lv p.1 ats[j].1).isSome with
             | true=>rfl
             | false=>rw [hx] at this;cases this
         . rename_i h7;exact (h7 h0).elim
     . rename_i h2;exact (h2 h).elim
   . rename_i h1;exact (h1 h).elim
 . rename_i h0;exact (h0 h).elim
end
end Go.Mid
namespace Go.Mid
abbrev E8l:=List (List Int×Int)×List Int
def aCi:List ByteArray:=[⟨#[120]⟩,⟨#[121]⟩,⟨#[122]⟩,⟨#[117]⟩,⟨#[118]⟩]
def aCE:List ByteArray:=[⟨#[114]⟩,⟨#[115]⟩,⟨#[116]⟩,⟨#[117]⟩]
def aB0:List ByteArray:=[⟨#[97]⟩,⟨#[98]⟩,⟨#[99]⟩,⟨#[100]⟩]
def E86 (n:Int):ByteArray:=(aCi[(n.tmod 5).toNat]?).getD ⟨#[]⟩
theorem F34 {n:Int}(h:0<=n):aCi[(n.tmod 5).toNat]?=some (E86 n):=by
 have h1:(n.tmod 5).toNat<aCi.length:=by
  have:=Int.tmod_lt_of_pos n (show (0:Int)<5 by omega)
  show _<5;omega
 unfold E86;rw [ah h1];rfl
theorem E75 {n:Int}(h:0<=n):E5q n=some (E86 n):=by
 unfold E5q;have h1:0<=n.tmod 5:=Int.tmod_nonneg _ h;simp only [h1,decide_true,cond_true];show (aCi[(n.tmod 5).toNat]?).bind _=_;rw [F34 h];rfl
def E6L (c:Int):E5b:=bif decide (c<5) then (E86 c,0,0,⟨#[]⟩) else (⟨#[]⟩,1,ao.wrap (c.tmod 3),⟨#[]⟩)
def nmT (i:Nat):ByteArray:=(aCE[i]?).getD ⟨#[]⟩
def atC (l:List (List Int×Int))(i:Nat):List Int×Int:=(l[i]?).getD ([],0)
theorem F2j {l:List (List Int×Int)}{i:Nat}(h:i<l.length):l[i]=atC l i:=by
 unfold atC;rw [ah h];rfl
def E4P (l:List (List Int×Int))(n:Nat):List tI:=(bA n).map λi=>(nmT i,(atC l i).1.map E6L)
def E5p (l:List (List Int×Int))(n:Nat):List E4Z:=(bA n).map λi=>(nmT i,aB0.take (atC l i).1.length,[])
def E5f (l:List (List Int×Int))(n:Nat):List (ByteArray×Int):=(bA n).map λi=>(nmT i,pL cG (cG.wrap (atC l i).2) ((2 ^ (atC l i).1.length-1:Nat):Int))
theorem E8m (l:List (List Int×Int))(n:Nat):(E4P l n).length=n:=by simp [E4P]
theorem F0O (l:List (List Int×Int))(n:Nat):(E5p l n).length=n:=by simp [E5p]
theorem E9z (l:List (List Int×Int))(n:Nat):(E5f l n).length=n:=by simp [E5f]
def OkC (c:E8l):Prop:=(∀ a∈c.1,(∀ x∈a.1,0<=x∧x<=255)∧0<=a.2∧a.2<=255)∧∀ x∈c.2,0<=x∧x<=255
theorem F35 {c:E8l}(ok:OkC c){i:Nat}(hi:i<c.1.length)(hl:c.1[i].1.length<=4)(kn:Nat)(name:ByteArray)(T2:List E4Z)(n2:Nat)(H4:List ByteArray)(h4:Nat)(A4:List tI)(a4:Nat)(T6:List E4Z)(n6:Nat)(K:List (ByteArray×Int))(H8:List ByteArray)(h8:Nat)(A8:List tI)(a8:Nat) :
 A0d E5u ((kn,(i:Int),(c.1[i].1.length:Int),name,(0:Int)),c,(T2,n2),((H4,h4),A4,a4),(T6,n6),K,((H8,h8),A8,a8),name,[],0) =
  some ((kn,(i:Int),(c.1[i].1.length:Int),name),c,(T2,n2),((H4,h4),A4,a4),(T6,n6),K,((H8,h8),A8,a8),name,c.1[i].1.map E6L,c.1[i].1.length):=by
 have:=tQ (f:=E5u) c.1[i].1.length (λj=>((kn,(i:Int),(c.1[i].1.length:Int),name,(j:Int)),c,(T2,n2),((H4,h4),A4,a4),(T6,n6),K,((H8,h8),A8,a8),name,(c.1[i].1.take j).map E6L,j))
  ((kn,(i:Int),(c.1[i].1.length:Int),name),c,(T2,n2),((H4,h4),A4,a4),(T6,n6),K,((H8,h8),A8,a8),name,c.1[i].1.map E6L,c.1[i].1.length) (λj hj=>?_) ?_
 . simpa using this
 . have Dy:(j:Int)<(c.1[i].1.length:Int):=by omega
   have hx:=(ok.1 _ (aM hi)).1 _ (aM hj);have hlen:((c.1[i].1.take j).map E6L).length=j:=by simp;omega
   have e:(c.1[i].1.take (j+1)).map E6L=(c.1[i].1.take j).map E6L++[E6L c.1[i].1[j]]:=by
    rw [vz hj,b9];rfl
   rw [e];have b1:(j+1)*48<=140737488355328:=by omega
   have t1:((c.1[i].1.take j).map E6L).take j=(c.1[i].1.take j).map E6L:=a6 (by rw [hlen];exact ay _)
   have hb:j<=((c.1[i].1.take j).map E6L).length:=by rw [hlen];exact ay _
   by_cases h5:c.1[i].1[j]<5
   . simp only [E5u,Dy,decide_true,cond_true,aq,ar,ah hi,ah hj,ai,h5,E75 hx.1,beq_self_eq_true,jE hb,jE b1,t1,iQ (show j<9223372036854775807 by omega),E6L]
     rw [jE (by rw [aR,hlen];exact ay _)]
     rfl
   . simp only [E5u,Dy,decide_true,cond_true,aq,ar,ah hi,ah hj,ai,h5,decide_false,cond_false,beq_self_eq_true,jE hb,jE b1,t1,iQ (show j<9223372036854775807 by omega),E6L]
     rw [jE (by rw [aR,hlen];exact ay _)]
     rfl
 . simp only [E5u,ba,decide_false,cond_false,List.take_length]
end Go.Mid
namespace Go.Mid
theorem F2U (l:List E5b):fp (uR (Ty.agg [Ty.str,Ty.agg [Ty.int ao,Ty.int ao,Ty.str]])) l=l:=by
 have:(uR (Ty.agg [Ty.str,Ty.agg [Ty.int ao,Ty.int ao,Ty.str]]):E5b->E5b)=id:=by funext y;rfl
 exact (congrArg (λf=>fp f l) this).trans (wR l)
theorem F3C (a:tI):uR (Ty.agg [Ty.str,Ty.vec 4 (Ty.agg [Ty.str,Ty.agg [Ty.int ao,Ty.int ao,Ty.str]])]) a=a:=congrArg (λl=>(a.1,l)) (F2U a.2)
theorem F2V (l:List tI):fp (uR (Ty.agg [Ty.str,Ty.vec 4 (Ty.agg [Ty.str,Ty.agg [Ty.int ao,Ty.int ao,Ty.str]])])) l=l:=by
 have:(uR (Ty.agg [Ty.str,Ty.vec 4 (Ty.agg [Ty.str,Ty.agg [Ty.int ao,Ty.int ao,Ty.str]])]):tI->tI)=id:=by funext y;exact F3C y
 exact (congrArg (λf=>fp f l) this).trans (wR l)
def F36 (c:E8l):Prop:=∀ i,i<c.1.length->(atC c.1 i).1.length<=4
theorem F37 {c:E8l}(ok:OkC c)(h4:c.1.length<=4) :
 ∃ b,A0d E5v ((0,(0:Int)),c,([],0),(([],0),[],0),([],0),[],([],0),[],0)=some b ∧
  ((F36 c∧b=.inr (c.1.length,c,([],0),(([],0),[],0),(E5p c.1 c.1.length,c.1.length),E5f c.1 c.1.length,([],0),E4P c.1 c.1.length,c.1.length)) ∨
    ∃ r,b=.inl ((0,false),([],0),[],(([],0),[],0),r)):=by
 refine V4 (f:=E5v) (S:=Unit) c.1.length (λi _=>((i,(i:Int)),c,([],0),(([],0),[],0),(E5p c.1 i,i),E5f c.1 i,([],0),E4P c.1 i,i))
  (λi _=>∀ j,j<i->(atC c.1 j).1.length<=4) _ () (λj hj=>by omega) (λi _ hi hs=>?_) (λ_ hs=>?_)
 . have hi':(i:Int)<(c.1.length:Int):=by omega
   by_cases hl:c.1[i].1.length<=4
   . left;have CT:=F35 ok hi hl i (nmT i) [] 0 [] 0 [] 0 (E5p c.1 i) i (E5f c.1 i) [] 0 (E4P c.1 i) i;have hle:¬ (c.1[i].1.length:Int)>4:=by omega
     have hn:[(ir #[114]),(ir #[115]),(ir #[116]),(ir #[117])][i]?=some (nmT i):=by
      have h1:i<aCE.length:=by show i<4;omega
      show aCE[i]?=_;unfold nmT;rw [ah h1];rfl
     have hta:(aB0.take c.1[i].1.length).length=c.1[i].1.length:=by
      rw [aW];show min _ 4=_;omega
     have kV:=F2j hi;have lT:=F0O c.1 i;have lK:=E9z c.1 i;have lA:=E8m c.1 i;have eT:E5p c.1 (i+1)=E5p c.1 i++[(nmT i,aB0.take c.1[i].1.length,[])]:=by
      unfold E5p;rw [jO,b9,kV];rfl
     have eK:E5f c.1 (i+1)=E5f c.1 i++[(nmT i,pL cG (cG.wrap c.1[i].2) ((2 ^ c.1[i].1.length-1:Nat):Int))]:=by
      unfold E5f;rw [jO,b9,kV];rfl
     have eA:E4P c.1 (i+1)=E4P c.1 i++[(nmT i,c.1[i].1.map E6L)]:=by
      unfold E4P;rw [jO,b9,kV];rfl
     refine ⟨(),?_,λj hj=>?_⟩
     . rw [eT,eK,eA];simp only [E5v,hi',decide_true,cond_true,aq,ar,ah hi,ai,hle,decide_false,cond_false];rw [hn];simp only [ai];refine (congrArg (λo=>bc o _) CT).trans ?_
       have t1:(E4P c.1 i).take i=E4P c.1 i:=a6 (by rw [lA];exact ay _)
       have t2:(E5p c.1 i).take i=E5p c.1 i:=a6 (by rw [lT];exact ay _)
       have t3:(E5f c.1 i).take i=E5f c.1 i:=a6 (by rw [lK];exact ay _)
       have b0:c.1[i].1.length<=(c.1[i].1.map E6L).length:=by simp
       have b1:(i+1)*40<=140737488355328:=by omega
       have b2:(i+1)*64<=140737488355328:=by omega
       have b3:(i+1)*24<=140737488355328:=by omega
       have b4:i<=(E4P c.1 i).length:=by rw [lA];exact ay _
       have b5:i<=(E5p c.1 i).length:=by rw [lT];exact ay _
       have b6:i<=(E5f c.1 i).length:=by rw [lK];exact ay _
       have b7:c.1[i].1.length*16<=140737488355328:=by omega
       have tM:=F2g (show c.1[i].1.length<32 by omega)
       have aJ1:[(ir #[97]),(ir #[98]),(ir #[99]),(ir #[100])]=aB0:=rfl;simp only [ai,jE b0,cond_true,Nat.beq_eq,beq_self_eq_true,jE b4,jE b1,t1,lA,jE (ay _),aq,decide_true,ar,jE hl,gH,List.nil_append,bS,aJ1,hta,jE b7,jE b5,jE b2,t2];have tk:∀ x:E4Z,List.take 1 [x]=[x]:=λ_=>rfl
       simp only [show Nat.beq 0 0=true from rfl,show Nat.beq 1 1=true from rfl,cond_true,sV,aBG,tk,aR,lT,bf,cM,jE (ay _),ah hi,ai,tM,jE b6,jE b3,t3,aB,beq_self_eq_true,iQ (show i<9223372036854775807 by omega)]
     . rcases mV.1 hj with hj | rfl
       . exact hs j hj
       . rw [← kV];exact hl
   . right;have hle:(c.1[i].1.length:Int)>4:=by omega
     refine ⟨.inl ((0,false),([],0),[],(([],0),[],0),((E5p c.1 i,i),E5f c.1 i,([],0),E4P c.1 i,i)),?_,.inr ⟨_,rfl⟩⟩;simp only [E5v,hi',decide_true,cond_true,aq,ar,ah hi,ai,hle]
 . refine ⟨_,?_,.inl ⟨hs,rfl⟩⟩;simp only [E5v,ba,decide_false,cond_false]
structure aEh (vs head:List ByteArray):Prop where
 nd:head.Nodup
 sub:∀ z∈head,z∈vs
 len:head.length<=5
theorem F4V {c:E8l}(ok:OkC c){vs:List ByteArray}(hv:vs.length<=1000000)(kn:Nat)(T2:List E4Z)(n2:Nat)(H4:List ByteArray)(h4:Nat)(A4:List tI)(a4:Nat)(T6:List E4Z)(n6:Nat)(K:List (ByteArray×Int))(A8:List tI)(a8:Nat) :
 ∃ hd,A0d E44 ((kn,vs,(0:Int)),c,(T2,n2),((H4,h4),A4,a4),(T6,n6),K,(([],0),A8,a8))=some (kn,(T2,n2),((H4,h4),A4,a4),(T6,n6),K,((hd,hd.length),A8,a8))∧aEh vs hd:=by
 have key:=V4 (f:=E44) (S:=List ByteArray) (min c.2.length 5) (λi h=>((kn,vs,(i:Int)),c,(T2,n2),((H4,h4),A4,a4),(T6,n6),K,((h,h.length),A8,a8)))
  (λi h=>h.Nodup∧(∀ z∈h,z∈vs)∧h.length<=i) (λb=>∃ h,b=(kn,(T2,n2),((H4,h4),A4,a4),(T6,n6),K,((h,h.length),A8,a8))∧aEh vs h) [] ⟨gV,λz hz=>(by cases hz),by simp⟩ (λi h hi hJ=>?_) (λh hJ=>?_)
 . obtain ⟨b,h1,h,rfl,h2⟩:=key;exact ⟨h,h1,h2⟩
 . left;obtain ⟨j1,j2,j3⟩:=hJ;have AX:i<c.2.length:=by omega
   have hi':(i:Int)<(c.2.length:Int):=by omega
   have hi5:(i:Int)<5:=by omega
   have hx:=ok.2 _ (aM AX);have e1:=E7T vs (E86 c.2[i]) (by omega)
   have e2:=E7T h (E86 c.2[i]) (by omega)
   cases h1:E4Y vs (E86 c.2[i]) with
   | false =>
     refine ⟨h,?_,j1,j2,by omega⟩
     simp only [E44,hi',hi5,decide_true,cond_true,aq,ar,ah AX,ai,E75 hx.1,e1,h1,cond_false,iQ (show i<9223372036854775807 by omega)]
   | true =>
     cases h2:E4Y h (E86 c.2[i]) with
     | true =>
       refine ⟨h,?_,j1,j2,by omega⟩
       simp only [E44,hi',hi5,decide_true,cond_true,aq,ar,ah AX,ai,E75 hx.1,e1,h1,jE (ay _),pN,e2,h2,bO,cond_false,iQ (show i<9223372036854775807 by omega)]
     | false =>
       have hl:=(Lst.mk (P:=λz=>z∈h) j1 (λz=>Iff.rfl)).snoc h2
       refine ⟨h++[E86 c.2[i]],?_,hl.nd,λz hz=>?_,by simp;omega⟩
       . simp only [E44,hi',hi5,decide_true,cond_true,aq,ar,ah AX,ai,E75 hx.1,e1,h1,jE (ay _),pN,e2,h2,auI,beq_self_eq_true,jE (show (h.length+1)*16<=140737488355328 by omega),aR,bf,cM,bS,iQ (show i<9223372036854775807 by omega)]
       . rcases List.mem_append.1 hz with hz | hz
         . exact j2 z hz
         . rw [List.mem_singleton] at hz;subst hz;exact E5Q.1 h1
 . obtain ⟨j1,j2,j3⟩:=hJ;refine ⟨_,?_,h,rfl,j1,j2,by omega⟩
   by_cases h1:(min c.2.length 5:Nat)<c.2.length
   . have e1:((min c.2.length 5:Nat):Int)<(c.2.length:Int):=by omega
     have e2:¬ ((min c.2.length 5:Nat):Int)<5:=by omega
     simp only [E44,e1,e2,decide_true,decide_false,cond_true,cond_false]
   . have e1:¬ ((min c.2.length 5:Nat):Int)<(c.2.length:Int):=by omega
     simp only [E44,e1,decide_false,cond_false]
theorem F5F {c:E8l}(ok:OkC c):(∃ r,E6M c=some r∧r.2.2.2=false) ∨
 (1<=c.1.length∧c.1.length<=4∧F36 c∧∃ hd,E6M c=some (E5p c.1 c.1.length,E5f c.1 c.1.length,(hd,E4P c.1 c.1.length),true)∧hd.Nodup∧hd.length<=5∧∀ z∈hd,E9Z (E4P c.1 c.1.length) (E4P c.1 c.1.length).length z):=by
 unfold E6M;by_cases h1:c.1.length<1
 . left
   have:(c.1.length:Int)<1:=by omega
   simp only [this,decide_true,cond_true,show cQ 0 0=true from rfl];exact ⟨_,rfl,rfl⟩
 have vR:¬ (c.1.length:Int)<1:=by omega
 by_cases h4:4<c.1.length
 . left
   have:(c.1.length:Int)>4:=by omega
   simp only [vR,this,decide_true,decide_false,cond_true,cond_false,show cQ 0 0=true from rfl];exact ⟨_,rfl,rfl⟩
 have h4':¬ (c.1.length:Int)>4:=by omega
 simp only [vR,h4',decide_false,cond_false];obtain ⟨b,e,hb⟩:=F37 ok (by omega)
 rcases hb with ⟨hf,rfl⟩ | ⟨r,rfl⟩
 . right;refine ⟨by omega,by omega,hf,?_⟩
   have lT:=F0O c.1 c.1.length;have lK:=E9z c.1 c.1.length;have lA:=E8m c.1 c.1.length;have t1:(E4P c.1 c.1.length).take c.1.length=E4P c.1 c.1.length:=a6 (by rw [lA];exact ay _)
   have t2:(E5p c.1 c.1.length).take c.1.length=E5p c.1 c.1.length:=a6 (by rw [lT];exact ay _)
   have t3:(E5f c.1 c.1.length).take c.1.length=E5f c.1 c.1.length:=a6 (by rw [lK];exact ay _)
   have b4:c.1.length<=(E4P c.1 c.1.length).length:=by rw [lA];exact ay _
   have b5:c.1.length<=(E5p c.1 c.1.length).length:=by rw [lT];exact ay _
   have b6:c.1.length<=(E5f c.1 c.1.length).length:=by rw [lK];exact ay _
   have ht:∀ a∈E4P c.1 c.1.length,a.2.length<=1000:=λa ha=>by
    unfold E4P at ha;obtain ⟨i,hi,rfl⟩:=bp.1 ha
    have:=hf i (cu.1 hi)
    simp only [aB];omega
   obtain ⟨vs,ev,v1,v2⟩:=E8r (l:=E4P c.1 c.1.length) (by omega) ht
   obtain ⟨hd,eh,hh⟩:=F4V ok (vs:=vs) (by rw [lA] at v2;omega) c.1.length [] 0 [] 0 [] 0 (E5p c.1 c.1.length) c.1.length (E5f c.1 c.1.length) (E4P c.1 c.1.length) c.1.length
   refine ⟨hd,?_,hh.nd,hh.len,λz hz=>(v1.mem z).1 (hh.sub z hz)⟩
   refine (congrArg (λo=>bc o _) e).trans ?_
   have eq:fp (uR (Ty.agg [Ty.str,Ty.vec 4 (Ty.agg [Ty.str,Ty.agg [Ty.int ao,Ty.int ao,Ty.str]])])) ((E4P c.1 c.1.length).take c.1.length)=E4P c.1 c.1.length :=
    (congrArg (λl:List tI=>fp (uR (Ty.agg [Ty.str,Ty.vec 4 (Ty.agg [Ty.str,Ty.agg [Ty.int ao,Ty.int ao,Ty.str]])])) l) t1).trans (F2V _)
   simp only [ai,lS,jE b4,cond_true];refine (congrArg (λo=>bc o _) ((congrArg E40 eq).trans ev)).trans ?_
   simp only [ai];refine (congrArg (λo=>bc o _) eh).trans ?_
   simp only [ai,jE b5,jE b6,jE b4,jE (ay _),cond_true,t2,t3,pN];exact congrArg (λl:List tI=>some (E5p c.1 c.1.length,E5f c.1 c.1.length,(hd,l),true)) eq
 . left;refine ⟨_,(congrArg (λo=>bc o _) e).trans rfl,rfl⟩
end Go.Mid
namespace Go.Mid
section
variable {keys:List (ByteArray×Int)}{head:List ByteArray}{l:List tI}(q:QV keys head l)
end
end Go.Mid
namespace Go.Mid
section
variable {keys:List (ByteArray×Int)}{head:List ByteArray}{l:List tI}(q:QV keys head l)
abbrev E8J (keys:List (ByteArray×Int)) (head:List ByteArray) (l:List tI):Nat->Nat->Prop:=AG.att l.length (E5S (E4j keys head l)) (E50 (E4j keys head l))
abbrev F1A (keys:List (ByteArray×Int)) (head:List ByteArray) (l:List tI):Nat->Nat->Prop:=AG.Rch l.length (E5S (E4j keys head l)) (E50 (E4j keys head l))
end
end Go.Mid
namespace Go.Mid
def E76 (L:List (fb×fb))(o:fb)(a b:Nat):Bool:=match L[a]?,L[b]? with
 | some x,some y=>x.2.any λp=>D8V eqS p.1 false y.2 && !D8V eqS p.1 false o
 | _,_=>false
def E7i (L:List (fb×fb))(o:fb)(a n:Nat):List (Int×Int):=(bA n).filterMap λb=>if E76 L o a b then some ((a:Int),(b:Int)) else none
theorem F1B (L:List (fb×fb))(o:fb)(a n:Nat):(E7i L o a n).length<=n:=by
 have:=List.length_filterMap_le (λb=>if E76 L o a b then some ((a:Int),(b:Int)) else none) (bA n)
 rw [List.length_range] at this;exact this
theorem F3E (L:List (fb×fb))(o:fb)(a n:Nat):E7i L o a (n+1)=E7i L o a n++(if E76 L o a n then [((a:Int),(n:Int))] else []):=by
 unfold E7i;rw [jO,List.filterMap_append];congr 1;by_cases h:E76 L o a n=true
 . simp [h]
 . simp [h]
theorem F4b {L:List (fb×fb)}{o:fb}{a:Nat}(ha:a<L.length)(hL:L.length<=1000)(lo io src:Int)(E:List (Int×Int))(hE:E.length<=1000000) :
 A0d E5F ((L,o,E.length,(a:Int),lo,io,(L.length:Int),(0:Int)),src,E)=some ((L,o,(E++E7i L o a L.length).length,lo,io),src,E++E7i L o a L.length):=by
 have key:=V4 (f:=E5F) (S:=List (Int×Int)) L.length (λi s=>((L,o,s.length,(a:Int),lo,io,(L.length:Int),(i:Int)),src,s)) (λi s=>s=E++E7i L o a i)
  (λb=>b=((L,o,(E++E7i L o a L.length).length,lo,io),src,E++E7i L o a L.length)) E (by simp [E7i]) (λi s hi hs=>?_) (λs hs=>?_)
 . obtain ⟨b,h1,h2⟩:=key;rw [h2] at h1;exact h1
 . left;refine ⟨E++E7i L o a (i+1),?_,rfl⟩;subst hs;have hi':(i:Int)<L.length:=by omega
   have hlk:E6i (L[a],L[i],o)=some (E76 L o a i):=by
    rw [E9v];simp only [E76,ah ha,ah hi]
   have b1:cQ (E++E7i L o a i).length (E++E7i L o a i).length=true:=auP (ay _);have b2:cQ (((E++E7i L o a i).length+1)*16) 140737488355328=true:=by
    refine auP ?_
    have:=F1B L o a i
    rw [aR];omega
   simp only [E5F,hi',decide_true,cond_true,aq,ar,ah hi,ah ha,ai,hlk,iQ (show i<9223372036854775807 by omega),b1,b2]
   rw [F3E];cases E76 L o a i
   . simp
   . simp [a6];omega
 . subst hs;refine ⟨_,?_,rfl⟩;simp only [E5F,ba,decide_false,cond_false]
def E5j (L:List (fb×fb))(o:fb)(n:Nat):List (Int×Int):=(bA n).flatMap λa=>E7i L o a L.length
theorem E9N (L:List (fb×fb))(o:fb)(n:Nat):E5j L o (n+1)=E5j L o n++E7i L o n L.length:=by
 unfold E5j;rw [jO,pc];simp
theorem E87 (L:List (fb×fb))(o:fb):∀ n,(E5j L o n).length<=n*L.length
 | 0=>by simp [E5j]
 | n+1=>by
   rw [E9N,aR,du]
   have:=E87 L o n
   have:=F1B L o n L.length
   omega
theorem F21 {L:List (fb×fb)}{o:fb}(hL:L.length<=1000)(src:Int) :
 A0d E5G ((L,o,(0:Nat),(L.length:Int),(0:Int)),src,[])=some ((L,(E5j L o L.length).length),src,E5j L o L.length):=by
 have key:=V4 (f:=E5G) (S:=List (Int×Int)) L.length (λi s=>((L,o,s.length,(L.length:Int),(i:Int)),src,s)) (λi s=>s=E5j L o i)
  (λb=>b=((L,(E5j L o L.length).length),src,E5j L o L.length)) [] (by simp [E5j]) (λi s hi hs=>?_) (λs hs=>?_)
 . obtain ⟨b,h1,h2⟩:=key;rw [h2] at h1;exact h1
 . left;refine ⟨E5j L o (i+1),?_,rfl⟩;subst hs;have hi':(i:Int)<L.length:=by omega
   have hlen:(E5j L o i).length<=1000000:=by
    have:=E87 L o i
    have:i*L.length<=1000*1000:=aSZ (by omega) hL
    omega
   have hr:=F4b (o:=o) hi hL (L.length:Int) (i:Int) src (E5j L o i) hlen;simp only [E5G,hi',decide_true,cond_true];refine (congrArg (λq=>bc q _) hr).trans ?_
   simp only [ai,iQ (show i<9223372036854775807 by omega),E9N]
 . subst hs;refine ⟨_,?_,rfl⟩;simp only [E5G,ba,decide_false,cond_false]
end Go.Mid
namespace Go.Mid
theorem F1C (l:List Int)(a:Int)(hl:l.length<=1000000):E4D (l,a)=some (match l.findIdx? (λx=>x==a) with | some i=>(i:Int) | none=>-1):=by
 unfold E4D
 have:=Ma (f:=E4y) l (λi=>(l,a,(l.length:Int),(i:Int))) (λ_ b=>b==a) (λi=>.inl (i:Int)) (.inr ()) (λi hi=>by
  have hi':(i:Int)<l.length:=by omega
  simp only [E4y,E5l,hi',decide_true,cond_true,aq,ar,ah hi,ai,iQ (show i<9223372036854775807 by omega)]
  cases l[i]==a<;>rfl) (by
  simp only [E4y,ba,decide_false,cond_false])
 simp only [av] at this;rw [this,D86];cases l.findIdx? (λb=>b==a)<;>simp
def E7E (a:Int)(l:List Int):List Int:=l.filter λx=>x != a
theorem F1Y {l:List Int}{a:Int}(hl:l.length<=1000000){y:Nat}(hy:y<l.length)(hya:l[y]=a)(hb:∀ x∈l.take y,x≠a) :
 ∃ (u:List Int) (w:Nat),A0d E4E ((l.length,(y:Int),((y+1:Nat):Int)),l,a)=some ((l.length,(w:Int)),u,a)∧u.length=l.length∧w<=l.length∧u.take w=E7E a l:=by
 have hk0:E7E a (l.take y)=l.take y:=List.filter_eq_self.2 λx hx=>bne_iff_ne.2 (hb x hx)
 have Ic:E7E a (l.take (y+1))=l.take y:=by
  unfold E7E;rw [vz hy,eR,hya];simp only [jl,bne_self_eq_false,aI,if_false,List.filter_nil,bD];exact hk0
 have key:=C3H (f:=E4E) (S:=List Int×Nat) l.length (λj s=>((l.length,(s.2:Int),(j:Int)),s.1,a))
  (λj s=>y<j∧s.1.length=l.length∧s.2<j∧s.1.take s.2=E7E a (l.take j)∧s.1.drop j=l.drop j)
  (λo=>∃ u w,o=((l.length,((w:Nat):Int)),u,a)∧u.length=l.length∧w<=l.length∧u.take w=E7E a l) (λj s hj hs=>?_) (λs hs=>?_) (l.length-(y+1)) (y+1) (l,y) (by omega) ⟨by omega,rfl,by simp,Ic.symm,rfl⟩
 . obtain ⟨o,h1,u,w,rfl,h2⟩:=key;exact ⟨u,w,h1,h2⟩
 . left;obtain ⟨h0,h1,h2,h3,h4⟩:=hs;have Dy:(j:Int)<l.length:=by omega
   have hju:j<s.1.length:=by omega
   have hwu:s.2<s.1.length:=by omega
   have hg:s.1[j]=l[j]:=by
    have:=congrArg (·[0]?) h4
    simp only [List.getElem?_drop,dG,ah hj,ah hju,aa] at this;exact this
   have N9:s.1.drop (j+1)=l.drop (j+1):=by
    rw [← kp,h4,kp]
   have ht:E7E a (l.take (j+1))=E7E a (l.take j)++(if l[j]=a then [] else [l[j]]):=by
    unfold E7E;rw [vz hj,eR];congr 1;by_cases e:l[j]=a
    . simp [e]
    . simp [e]
   by_cases e:l[j]=a
   . refine ⟨(s.1,s.2),?_,by omega,h1,by omega,by rw [ht,if_pos e,bD,h3],N9⟩
     simp only [E4E,Dy,decide_true,cond_true,aq,ar,lB hj,ah hju,ai,E5l,hg,e,beq_self_eq_true,bO,cond_false,iQ (show j<9223372036854775807 by omega)]
   . have hbe:(l[j]==a)=false:=beq_eq_false_iff_ne.2 e;refine ⟨(s.1.set s.2 l[j],s.2+1),?_,by omega,by rw [iy];exact h1,by omega,?_,?_⟩
     . simp only [E4E,Dy,decide_true,cond_true,aq,ar,lB hj,ah hju,ai,E5l,hg,hbe,auI,lB (show s.2<l.length by omega),ah hwu,iQ (show j<9223372036854775807 by omega),iQ (show s.2<9223372036854775807 by omega)]
     . rw [ht,if_neg e,← h3];have eC:s.2<(s.1.set s.2 l[j]).length:=by rw [iy];exact hwu
       show (s.1.set s.2 l[j]).take (s.2+1)=_;rw [vz eC,List.getElem_set_self,List.take_set_of_le (ay _)]
     . show (s.1.set s.2 l[j]).drop (j+1)=_;rw [List.drop_set_of_lt (by omega),N9]
 . obtain ⟨h0,h1,h2,h3,h4⟩:=hs;refine ⟨_,?_,s.1,s.2,rfl,h1,by omega,by rw [h3,pN]⟩
   simp only [E4E,ba,decide_false,cond_false]
theorem F0T {l:List Int}{a:Int}(hl:l.length<=1000000)(ha:a∈l) :
 ∃ (u:List Int) (w:Nat),E46 (l.length,l,a)=some (w,u,a)∧w<=u.length∧u.take w=E7E a l:=by
 have hs:(l.findIdx? λx=>x==a).isSome=true:=by
  rw [List.findIdx?_isSome,fV];exact ⟨a,ha,by simp⟩
 obtain ⟨y,hy⟩:=Option.isSome_iff_exists.1 hs;obtain ⟨hyl,hya,hyb⟩:=List.findIdx?_eq_some_iff_getElem.1 hy;obtain ⟨u,w,h1,h2,h3,h4⟩:=F1Y (a:=a) hl hyl (by simpa using hya) (λx hx=>by
  obtain ⟨j,hj,rfl⟩:=pd hx;rw [aW] at hj
  have:=hyb j (by omega)
  rw [List.getElem_take];simpa using this)
 refine ⟨A1x u (some w) (List.replicate (l.length-w) 0),w,?_,?_,?_⟩
 . unfold E46;have hi:=F1C l a hl;rw [hy] at hi;have hne:((y:Int)==(-1:Int))=false:=by rw [beq_eq_false_iff_ne];omega
   simp only [jE (ay _),pN,cond_true,hi,ai,hne,cond_false,iQ (show y<9223372036854775807 by omega)]
   refine (congrArg (λo=>bc o _) h1).trans ?_
   simp only [ai,aq,decide_true,cond_true,ar,jE h3];rw [jE (by rw [fZ,h2];omega)]
   rfl
 . unfold A1x;simp only [aR,aW,fZ,List.length_drop];omega
 . unfold A1x;simp only;rw [bg,List.take_append_of_le_length (by rw [aW];omega),sV,aBG,h4]
end Go.Mid
namespace Go.Mid
section
variable {keys:List (ByteArray×Int)}{head:List ByteArray}{l:List tI}(q:QV keys head l)
noncomputable def E91 (keys:List (ByteArray×Int))(head:List ByteArray)(l:List tI)(i:Nat):List Nat:=by
 classical exact (bA l.length).filter λk=>decide (E8J keys head l i k)
noncomputable def E7j (keys:List (ByteArray×Int))(head:List ByteArray)(l:List tI)(i:Nat):List Int:=(E91 keys head l i).map λk:Nat=>(k:Int)
theorem F1D {i k:Nat}:k∈E91 keys head l i↔E8J keys head l i k:=by
 classical
 unfold E91;rw [cZ,cu,decide_eq_true_eq];exact ⟨λh=>h.2,λh=>⟨h.2.1,h⟩⟩
theorem E92 {i:Nat}{x:Int}:x∈E7j keys head l i↔∃ k:Nat,x=(k:Int)∧E8J keys head l i k:=by
 unfold E7j;rw [bp];exact ⟨λ⟨k,h,e⟩=>⟨k,e.symm,F1D.1 h⟩,λ⟨k,e,h⟩=>⟨k,F1D.2 h,e.symm⟩⟩
theorem F4d (i:Nat):(E91 keys head l i).Pairwise (· < ·):=by
 classical
 unfold E91;exact List.Pairwise.filter _ List.pairwise_lt_range
theorem F4e (i:Nat):(E7j keys head l i).Pairwise (· < ·):=by
 unfold E7j;rw [List.pairwise_map];exact (F4d i).imp λh=>by omega
theorem E93 (i:Nat):(E7j keys head l i).length<=l.length:=by
 unfold E7j E91;rw [aB];exact dF (List.length_filter_le ..) (by simp)
theorem F4f:∀ s∈E4j keys head l,SE s.2:=λs hs=>by
 unfold E4j at hs;obtain ⟨a,_,rfl⟩:=bp.1 hs;exact (E9V keys head a).ok2
theorem F0Q {z:fb}(hz:SE z){a b:Nat}(ha:a<l.length)(hb:b<l.length):E76 (E4j keys head l) z a b=true↔∃ x,E50 (E4j keys head l) a x∧E50 (E4j keys head l) b x∧x∉nb z:=by
 have ha':a<(E4j keys head l).length:=by rw [E79];exact ha
 have js:b<(E4j keys head l).length:=by rw [E79];exact hb
 obtain ⟨t,h1,h2⟩:=F2S ha' js F4f hz;rw [E9v,aa] at h1;rw [← h2,← h1];unfold E76;simp only [ah ha',ah js]
theorem E88 {z:fb}{N:Nat}(hN:(E4j keys head l).length=N){u w:Int}:(u,w)∈E5j (E4j keys head l) z N↔∃ a b:Nat,u=(a:Int)∧w=(b:Int)∧a<N∧b<N∧E76 (E4j keys head l) z a b=true:=by
 unfold E5j E7i;rw [gY];constructor
 . rintro ⟨a,ha,h⟩;obtain ⟨b,hb,h⟩:=dr.1 h;split at h
   . rename_i hl;simp only [aa,Prod.mk.injEq] at h;exact ⟨a,b,h.1.symm,h.2.symm,cu.1 ha,by rw [← hN];exact cu.1 hb,hl⟩
   . cases h
 . rintro ⟨a,b,rfl,rfl,ha,hb,hl⟩;refine ⟨a,cu.2 ha,dr.2 ⟨b,cu.2 (by rw [hN];exact hb),?_⟩⟩
   rw [if_pos hl]
include q in
theorem E9O {i:Nat}(hi:i<l.length):E6s (E4j keys head l,(i:Int))=some (E7j keys head l i):=by
 have hna:=q.na;have hL:=E79 (keys:=keys) (head:=head) (l:=l);have hiL:i<(E4j keys head l).length:=by rw [hL];exact hi
 obtain ⟨z,e1,z1,z2⟩:=F4S (l:=E4j keys head l) (by omega) hiL
 have aGp:=F21 (L:=E4j keys head l) (o:=z) (by omega) (i:Int)
 have aM6:=E87 (E4j keys head l) z (E4j keys head l).length;have aKd:(E5j (E4j keys head l) z (E4j keys head l).length).length<=36:=by
  have:(E4j keys head l).length*(E4j keys head l).length<=6*6:=aSZ (by omega) (by omega)
  omega
 have CT:∀ e∈E5j (E4j keys head l) z (E4j keys head l).length,HL ((E4j keys head l).length:Int) e=false:=by
  rintro ⟨u,w⟩ he;obtain ⟨a,b,rfl,rfl,ha,hb,_⟩:=(E88 rfl).1 he;rw [aSQ];intro He;rw [XD] at He;simp only at He;omega
 have hvalid:JK ((E4j keys head l).length:Int) (E5j (E4j keys head l) z (E4j keys head l).length)=0:=by
  unfold JK;rw [if_neg (by omega),if_neg (by omega),if_neg (by omega),if_neg]
  rw [fV];rintro ⟨e,he,hb⟩;rw [CT e he] at hb;cases hb
 obtain ⟨out,_,e2,r⟩:=F0y hvalid hiL (by omega)
 have aKe:∀ x:Int,x∈out↔∃ k:Nat,x=(k:Int)∧k<l.length∧F1A keys head l i k:=by
  intro x;constructor
  . intro hx;refine r.min (λx=>∃ k:Nat,x=(k:Int)∧k<l.length∧F1A keys head l i k) ⟨i,rfl,hi,.refl⟩ ?_ x hx
    rintro u w ⟨a,rfl,ha,hr⟩ he;obtain ⟨a',b,h1,rfl,_,hb,hl⟩:=(E88 rfl).1 he
    have:a'=a:=by omega
    subst this;rw [hL] at hb;obtain ⟨y,y1,y2,y3⟩:=(F0Q z1 ha hb).1 hl;exact ⟨b,rfl,hb,.step hr hb y y1 y2 λm=>y3 ((z2 y).2 (by rw [hL];exact m))⟩
  . rintro ⟨k,rfl,hk,hr⟩
    induction hr with
    | refl=>exact r.st
    | step h hb y y1 y2 y3 ih =>
      rename_i a b;have ha:a<l.length:=by
       obtain ⟨s,h1,_⟩:=y1
       have:=F4j h1
       rw [hL] at this;exact this
      refine r.cl _ (ih ha) _ ((E88 rfl).2 ⟨a,b,rfl,rfl,by omega,by omega,(F0Q z1 ha hb).2 ⟨y,y1,y2,λm=>y3 ?_⟩⟩)
      have:=(z2 y).1 m
      rw [hL] at this;exact this
 have aM7:=r.len;obtain ⟨u,w,e3,w1,w2⟩:=F0T (l:=out) (a:=(i:Int)) (by omega) r.st
 have aKf:E7E (i:Int) out=E7j keys head l i:=by
  refine F5D (List.Pairwise.filter _ r.asc) (F4e i) λx=>?_
  rw [E92,show E7E (i:Int) out=out.filter (λx=>x != (i:Int)) from rfl,cZ,aKe,bne_iff_ne]
  constructor
  . rintro ⟨⟨k,rfl,hk,hr⟩,hne⟩;exact ⟨k,rfl,hi,hk,by omega,hr⟩
  . rintro ⟨k,rfl,h⟩;have YP:=h.2.1;have hne:=h.2.2.1;exact ⟨⟨k,rfl,h.2.1,h.2.2.2⟩,by omega⟩
 unfold E6s;simp only [aq,decide_true,cond_true,ar,ah hiL,ai,e1];refine (congrArg (λo=>bc o _) aGp).trans ?_
 simp only [ai,jE (ay _),cond_true,pN,e2,e3,jE w1,w2,aKf]
noncomputable def E6y (keys:List (ByteArray×Int))(head:List ByteArray)(l:List tI)(n:Nat):List (Int×Int):=(bA n).flatMap λi=>(E7j keys head l i).map λk=>((i:Int),k)
theorem E8K (n:Nat):E6y keys head l (n+1)=E6y keys head l n++(E7j keys head l n).map λk=>((n:Int),k):=by
 unfold E6y;rw [jO,pc];simp
theorem E8n:∀ n,(E6y keys head l n).length<=n*l.length
 | 0=>by simp [E6y]
 | n+1=>by
   rw [E8K,aR,aB,du]
   have:=E8n n
   have:=E93 (keys:=keys) (head:=head) (l:=l) n
   omega
noncomputable abbrev E8c (keys:List (ByteArray×Int)) (head:List ByteArray) (l:List tI):List (Int×Int):=E6y keys head l l.length
theorem F1E (hna:l.length<=6):(E8c keys head l).length<=36:=by
 have h1:=E8n (keys:=keys) (head:=head) (l:=l) l.length
 have:l.length*l.length<=6*6:=aSZ (by omega) (by omega)
 exact dF h1 (by omega)
theorem F7m {u w:Int}:(u,w)∈E8c keys head l↔∃ a b:Nat,u=(a:Int)∧w=(b:Int)∧E8J keys head l a b:=by
 unfold E8c E6y;rw [gY];constructor
 . rintro ⟨a,_,h⟩;obtain ⟨k,hk,h⟩:=bp.1 h;obtain ⟨b,rfl,hb⟩:=E92.1 hk;simp only [Prod.mk.injEq] at h;exact ⟨a,b,h.1.symm,h.2.symm,hb⟩
 . rintro ⟨a,b,rfl,rfl,h⟩;exact ⟨a,cu.2 h.1,bp.2 ⟨(b:Int),E92.2 ⟨b,rfl,h⟩,rfl⟩⟩
theorem F5G {L:List (fb×fb)}(y:List Int)(hy:y.length<=1000)(i n m:Int)(E:List (Int×Int))(hE:E.length<=1000) :
 A0d E5r ((L,E.length,i,n,m,y,(y.length:Int),(0:Int)),E)=some ((L,(E++y.map λk=>(i,k)).length,n,m),E++y.map λk=>(i,k)):=by
 have key:=V4 (f:=E5r) (S:=List (Int×Int)) y.length (λj s=>((L,s.length,i,n,m,y,(y.length:Int),(j:Int)),s)) (λj s=>s=E++(y.take j).map λk=>(i,k))
  (λb=>b=((L,(E++y.map λk=>(i,k)).length,n,m),E++y.map λk=>(i,k))) E (by simp) (λj s hj hs=>?_) (λs hs=>?_)
 . obtain ⟨b,h1,h2⟩:=key;rw [h2] at h1;exact h1
 . left;refine ⟨_,?_,rfl⟩;have Dy:(j:Int)<y.length:=by omega
   have hlen:s.length<=2000:=by rw [hs];simp;omega
   simp only [E5r,Dy,decide_true,cond_true,aq,ar,ah hj,ai,jE (ay _),jE (show (s.length+1)*16<=140737488355328 by omega),pN,iQ (show j<9223372036854775807 by omega)]
   have e:E++(y.take (j+1)).map (λk=>(i,k))=s++[(i,y[j])]:=by
    rw [hs,vz hj,b9,bg];rfl
   rw [e];simp
 . rw [pN] at hs;subst hs;refine ⟨_,?_,rfl⟩;simp only [E5r,ba,decide_false,cond_false]
include q in
theorem F1F:E6F (E4j keys head l)=some ((E8c keys head l).length,E8c keys head l):=by
 have hna:=q.na;have hL:=E79 (keys:=keys) (head:=head) (l:=l);have key:=V4 (f:=E56) (S:=List (Int×Int)) l.length (λi s=>((E4j keys head l,s.length,((E4j keys head l).length:Int),(i:Int)),s)) (λi s=>s=E6y keys head l i)
  (λb=>b=((E8c keys head l).length,E8c keys head l)) [] (by simp [E6y]) (λi s hi hs=>?_) (λs hs=>?_)
 . obtain ⟨b,h1,h2⟩:=key;rw [h2] at h1;unfold E6F;refine (congrArg (λo=>bc o _) h1).trans ?_
   rfl
 . left;refine ⟨_,?_,rfl⟩;subst hs;have hi':(i:Int)<((E4j keys head l).length:Int):=by rw [hL];omega
   have Aw:=E93 (keys:=keys) (head:=head) (l:=l) i;have Wn:(E6y keys head l i).length<=36:=by
    have:=E8n (keys:=keys) (head:=head) (l:=l) i
    have:i*l.length<=6*6:=aSZ (by omega) (by omega)
    omega
   have hr:=F5G (L:=E4j keys head l) (E7j keys head l i) (by omega) (i:Int) ((E4j keys head l).length:Int) (i:Int) (E6y keys head l i) (by omega)
   simp only [E56,hi',decide_true,cond_true,E9O q hi,ai];refine (congrArg (λo=>bc o _) hr).trans ?_
   simp only [ai,iQ (show i<9223372036854775807 by omega),E8K]
 . subst hs;refine ⟨_,?_,rfl⟩;simp only [E56,hL,ba,decide_false,cond_false]
abbrev F4k (keys:List (ByteArray×Int)) (head:List ByteArray) (l:List tI):Nat->Nat->Prop:=AG.aJU l.length (E5S (E4j keys head l)) (E50 (E4j keys head l))
end
end Go.Mid
namespace Go.Mid
theorem F5H {c:E8l}(ok:OkC c)(h4:c.1.length<=4)(hf:F36 c){hd:List ByteArray}(h5:hd.length<=5):Sz (E5p c.1 c.1.length) (E5f c.1 c.1.length) hd (E4P c.1 c.1.length) where
 tb:=λt ht=>by
  unfold E5p at ht;obtain ⟨i,hi,rfl⟩:=bp.1 ht;refine ⟨λr hr=>(by cases hr),?_⟩
  have:aB0.length=4:=rfl
  simp only [aW];omega
 nk:=by rw [E9z];omega
 kr:=λk hk=>by
  unfold E5f at hk;obtain ⟨i,hi,rfl⟩:=bp.1 hk;have hi:=cu.1 hi;have h1:=(ok.1 _ (aM hi)).2;rw [F2j hi] at h1;have hfi:=hf i hi;have hw:cG.wrap (atC c.1 i).2=(atC c.1 i).2:=F1s h1.1 (by omega)
  obtain ⟨m,hm⟩:=eB h1.1;have hp:2 ^ (atC c.1 i).1.length<=2 ^ 4:=ez (by omega) hfi
  show 0<=pL cG (cG.wrap (atC c.1 i).2) _∧pL cG (cG.wrap (atC c.1 i).2) _<4294967296;rw [hw,hm,F2f (by unfold w32;omega) (by unfold w32;omega)]
  have:=@fC m (2 ^ (atC c.1 i).1.length-1)
  omega
 nh:=by omega
 na:=by rw [E8m];omega
 nt:=λa ha=>by
  unfold E4P at ha;obtain ⟨i,hi,rfl⟩:=bp.1 ha
  have:=hf i (cu.1 hi)
  simp only [aB];omega
theorem F1G {keys:List (ByteArray×Int)}{head:List ByteArray}{ats:List tI}(q:QV keys head ats):E6D (keys,head,ats)=some (E4j keys head ats) :=
 F3T keys head ats q.nk q.nh (by have:=q.na;omega) λa ha=>by have:=q.nt a ha;omega
section
variable {aSP:List E4Z}{keys:List (ByteArray×Int)}{head:List ByteArray}{ats:List tI}(z:Sz aSP keys head ats)
include z
theorem F23:E7t (aSP,keys,head,ats)=some (if E7w aSP keys head ats=0 then (E8c keys head ats,0) else ([],E7w aSP keys head ats)):=by
 unfold E7t;simp only [F0N z,ai];by_cases h:E7w aSP keys head ats=0
 . have q:=F2T z h;have hl:=F1E (keys:=keys) (head:=head) q.na;rw [if_pos h];simp only [h,bne_self_eq_false,cond_false,F1G q,ai,F1F q,jE (ay _),cond_true,pN]
 . rw [if_neg h];simp only [bne_iff_ne.2 h,cond_true,show cQ 0 0=true from rfl,gH]
end
section
variable {aSP:List E4Z}{keys:List (ByteArray×Int)}{head:List ByteArray}{ats:List tI}(z:Sz aSP keys head ats)
include z
end
end Go.Mid
namespace Go.Mid
end Go.Mid
namespace Go.Mid
section
variable {aSP:List E4Z}{keys:List (ByteArray×Int)}{head:List ByteArray}{ats:List tI}(z:Sz aSP keys head ats)
include z
end
end Go.Mid
namespace Go.Mid
section
variable {keys:List (ByteArray×Int)}{head:List ByteArray}{l:List tI}
abbrev rcP (keys:List (ByteArray×Int)) (head:List ByteArray) (l:List tI):Nat->Nat->Prop:=Rc (BX (E8c keys head l))
def F7H (keys:List (ByteArray×Int))(head:List ByteArray)(l:List tI)(i k:Nat):Prop:=E8J keys head l i k∧rcP keys head l k i
end
end Go.Mid
namespace Go.Mid
section
variable {keys:List (ByteArray×Int)}{head:List ByteArray}{l:List tI}(q:QV keys head l)
def Cls (Q S:Prop)(c:Int):Prop:=(S->c=3)∧(¬ S->Q->c=2)∧(¬ Q->c=1)
theorem Cls.val {Q S:Prop}{c:Int}(h:Cls Q S c):(c=1∨c=2∨c=3):=by
 by_cases hS:S
 . exact .inr (.inr (h.1 hS))
 . by_cases hQ:Q
   . exact .inr (.inl (h.2.1 hS hQ))
   . exact .inl (h.2.2 hQ)
theorem Cls.aBn {Q S Q' S':Prop}{c:Int}(h:Cls Q S c)(e1:Q↔Q')(e2:S↔S'):Cls Q' S' c:=⟨λs=>h.1 (e2.2 s),λs r=>h.2.1 (λx=>s (e2.1 x)) (e1.2 r),λr=>h.2.2 λx=>r (e1.1 x)⟩
def F7I (keys:List (ByteArray×Int))(head:List ByteArray)(l:List tI)(i k:Nat):Prop:=F7H keys head l i k∧¬ F4k keys head l i k
def F7r (keys:List (ByteArray×Int))(head:List ByteArray)(l:List tI)(P:Nat->Nat->Prop):Prop:=∃ i k,P i k∧F7H keys head l i k
def F7s (keys:List (ByteArray×Int))(head:List ByteArray)(l:List tI)(P:Nat->Nat->Prop):Prop:=∃ i k,P i k∧F7I keys head l i k
theorem Cls.add {P P':Nat->Nat->Prop}{c:Int}(h:Cls (F7r keys head l P) (F7s keys head l P) c){i k:Nat}(hP:∀ a b,P' a b↔(P a b∨(a=i∧b=k))) :
 (¬ F7H keys head l i k->Cls (F7r keys head l P') (F7s keys head l P') c)∧(F7I keys head l i k->Cls (F7r keys head l P') (F7s keys head l P') 3) ∧
   (F7H keys head l i k->¬ F7I keys head l i k->Cls (F7r keys head l P') (F7s keys head l P') (if 2>c then 2 else c)):=by
 have eQ:F7r keys head l P'↔(F7r keys head l P∨F7H keys head l i k):=by
  constructor
  . rintro ⟨a,b,h1,h2⟩;rcases (hP a b).1 h1 with h1 | ⟨rfl,rfl⟩
    . exact .inl ⟨a,b,h1,h2⟩
    . exact .inr h2
  . rintro (⟨a,b,h1,h2⟩ | h2)
    . exact ⟨a,b,(hP a b).2 (.inl h1),h2⟩
    . exact ⟨i,k,(hP i k).2 (.inr ⟨rfl,rfl⟩),h2⟩
 have eS:F7s keys head l P'↔(F7s keys head l P∨F7I keys head l i k):=by
  constructor
  . rintro ⟨a,b,h1,h2⟩;rcases (hP a b).1 h1 with h1 | ⟨rfl,rfl⟩
    . exact .inl ⟨a,b,h1,h2⟩
    . exact .inr h2
  . rintro (⟨a,b,h1,h2⟩ | h2)
    . exact ⟨a,b,(hP a b).2 (.inl h1),h2⟩
    . exact ⟨i,k,(hP i k).2 (.inr ⟨rfl,rfl⟩),h2⟩
 have hSQ:F7s keys head l P->F7r keys head l P:=λ⟨a,b,h1,h2⟩=>⟨a,b,h1,h2.1⟩
 refine ⟨λhc=>h.aBn ?_ ?_,λhs=>⟨λ_=>rfl,λn _=>(n (eS.2 (.inr hs))).elim,λn=>(n (eQ.2 (.inr hs.1))).elim⟩,λhc hs=>⟨λs=>?_,λn _=>?_,λn=>(n (eQ.2 (.inr hc))).elim⟩⟩
 . rw [eQ];exact ⟨.inl,λx=>x.elim id λy=>(hc y).elim⟩
 . rw [eS];exact ⟨.inl,λx=>x.elim id λy=>(hc y.1).elim⟩
 . have s':=(eS.1 s).resolve_right hs;rw [h.1 s'];rfl
 . have n':¬ F7s keys head l P:=λx=>n (eS.2 (.inl x))
   by_cases hQ:F7r keys head l P
   . rw [h.2.1 n' hQ];rfl
   . rw [h.2.2 hQ];rfl
def before (N i k:Nat)(a b:Nat):Prop:=(a<i∧b<N)∨(a=i∧b<k)
end
section
variable {aSP:List E4Z}{keys:List (ByteArray×Int)}{head:List ByteArray}{ats:List tI}(z:Sz aSP keys head ats)
include z
end
end Go.Mid
namespace Go.Mid
section
variable {keys:List (ByteArray×Int)}{head:List ByteArray}{l:List tI}
theorem F7M {P:Nat->Bool}{n v:Nat}(hv:v<n)(hp:P v=true)(h:∀ u,u<v->P u=false):(bA n).find? P=some v:=by
 rw [List.find?_eq_some_iff_append];refine ⟨hp,bA v,(List.range' (v+1) (n-v-1)),?_,λa ha=>by rw [h a (cu.1 ha)];rfl⟩
 rw [lr,lr]
 have:n=v+(1+(n-v-1)):=by omega
 rw [this,← aTd,← aTd];simp
end
section
variable {aSP:List E4Z}{keys:List (ByteArray×Int)}{head:List ByteArray}{ats:List tI}(z:Sz aSP keys head ats)
include z
end
end Go.Mid
