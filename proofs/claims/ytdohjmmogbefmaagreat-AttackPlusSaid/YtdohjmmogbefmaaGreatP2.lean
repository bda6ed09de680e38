/- Chapter 49: the closure, whole. -/
import Derived.Test.YtdohjmmogbefmaaGreatP1
import Derived.Test.YtdohjmmogbefmaaGreatM9
import Derived.Test.YtdohjmmogbefmaaGreatT2
set_option linter.unusedSimpArgs false
set_option linter.unusedVariables false
open Bool renaming and_eq_true → aj, not_eq_true' → ed, eq_false_iff → aSQ, false_eq_true → aI, not_true → bO, not_false → auI
open ByteArray renaming mk → ir
open Classical renaming not_forall → vb, not_imp → aSS, byContradiction → aS0
open Go.IntKind renaming u32 → cG, i64 → ao
open Int renaming natCast_nonneg → aq, toNat_natCast → ar, lt_irrefl → ba, natCast_zero → av, eq_ofNat_of_zero_le → eB
open List renaming filter_cons → jl, length_cons → bf, mem_cons → aG, getElem?_eq_getElem → ah, getElem_mem → aM, nodup_nil → gV, length_append → aR, length_nil → cM, length_take → aW, getElem_of_mem → pd, range → bA, map_append → b9, take_of_length_le → a6, map → fp, map_id → wR, range_succ → jO, take_nil → gH, nil_append → a7, length_map → aB, mem_append → az, mem_singleton → aX, mem_map → bp, mem_range → cu, mem_cons_of_mem → bC, filter_cons_of_neg → lb, filter_cons_of_pos → iv, mem_cons_self → dS, pairwise_cons → bN, cons_append → aS, eq_nil_of_length_eq_zero → bu, getElem?_append_right → bG, pairwise_append → cF, append_nil → bD, perm_middle → vc
open Nat renaming le_refl → ay, lt_succ_iff_lt_or_eq → mV, le_trans → dF, le_of_lt → fH, zero_add → bS, ble → cQ, add_le_add_left → aBx, mul_le_mul_right → iY, le_succ → au6, succ_mul → du, zero_le → dg, mul_le_mul → aSZ
open Option renaming bind → bc, bind_some → ai
open Option.some renaming injEq → aa, inj → s8
open Sum renaming elim → bT, elim_inl → vh, elim_inr → lS
namespace Go.Mid
section
variable {L:List (fb×fb)}{v:fb}{but:Int}
def F1x (L:List (fb×fb))(but:Int)(n:Nat)(out:fb):Prop:=∀ j (a:fb×fb),j<n->L[j]?=some a->(j:Int)≠but->(∀ z∈nb a.1,z∈nb out)->∀ z∈nb a.2,z∈nb out
structure Rnd (L:List (fb×fb))(v:fb)(but:Int)(aBS:fb)(n:Nat)(s:Bool×fb):Prop where
 ok:SE s.2
 cl:∀ z∈nb s.2,Cl L v but z
 mono:∀ z∈nb aBS,z∈nb s.2
 no:s.1=false->s.2=aBS∧F1x L but n aBS
 yes:s.1=true->∃ z∈nb s.2,z∉nb aBS
theorem F2R (hL:L.length<1000000){aBS:fb}(ho:SE aBS)(dK:∀ z∈nb aBS,Cl L v but z) :
 ∃ b,A0d E5k (stI L but 0 (false,aBS))=some b∧∃ s,b=((L,but,s.1),s.2)∧Rnd L v but aBS L.length s:=by
 refine V4 L.length (stI L but) (Rnd L v but aBS) _ (false,aBS) ⟨ho,dK,λ_ h=>h,λ_=>⟨rfl,λj a hj=>by omega⟩,λh=>by cases h⟩ ?_ ?_
 . rintro i ⟨ag,out⟩ hi J;refine .inl ⟨_,F2Q hL hi ag J.ok,?_⟩;have TL:L[i]?=some L[i]:=by simp [hi]
   split
   . rename_i hc;simp only [aj,bne_iff_ne,ne_eq,ed] at hc;obtain ⟨⟨hb,q1⟩,q2⟩:=hc;have p1:=(E9E J.ok).1 q1;refine ⟨J.ok.union,λz hz=>?_,λz hz=>(E7f J.ok).2 (.inl (J.mono z hz)),λh=>(by cases h),λ_=>?_⟩
     . rcases (E7f J.ok).1 hz with h | h
       . exact J.cl z h
       . exact .step i L[i] TL hb (λx hx=>J.cl x (p1 x hx)) h
     . have:¬ ∀ z∈nb L[i].2,z∈nb out:=λh=>by
        rw [(E9E J.ok).2 h] at q2;cases q2
       obtain ⟨z,h1⟩:=vb.1 this;obtain ⟨hz,h2⟩:=aSS.1 h1;exact ⟨z,(E7f J.ok).2 (.inr hz),λh=>h2 (J.mono z h)⟩
   . rename_i hc;refine ⟨J.ok,J.cl,J.mono,λh=>?_,J.yes⟩
     obtain ⟨e,nX⟩:=J.no h;refine ⟨e,λj a hj hja hjb hk=>?_⟩
     by_cases hji:j=i
     . subst hji;rw [TL,aa] at hja;subst hja;have e:out=aBS:=e;subst e;intro z hz;apply aS0;intro hn;apply hc;simp only [aj,bne_iff_ne,ne_eq,ed];refine ⟨⟨hjb,(E9E J.ok).2 hk⟩,?_⟩;rw [aSQ];intro h;exact hn ((E9E J.ok).1 h z hz)
     . exact nX j a (by omega) hja hjb hk
 . rintro ⟨ag,out⟩ J;refine ⟨_,?_,(ag,out),rfl,J⟩;have h1:decide ((L.length:Int)<(L.length:Int))=false:=by simp
   simp only [E5k,h1,cond_false]
def univ (L:List (fb×fb))(v:fb):List Txt:=nb v++L.flatMap λa=>nb a.2
theorem Cl.univ {z:Txt}(h:Cl L v but z):z∈univ L v:=by
 cases h with
 | base h=>exact List.mem_append_left _ h
 | step i a hi hb hk hz=>exact List.mem_append_right _ (List.mem_flatMap.2 ⟨a,List.mem_of_getElem? hi,hz⟩)
open Classical in
noncomputable def F5S (L:List (fb×fb))(v out:fb):Nat:=((univ L v).filter λz=>decide (z∉nb out)).length
theorem F4R {out jv:fb}(hm:∀ z∈nb out,z∈nb jv){z:Txt}(hz:z∈nb jv)(hn:z∉nb out)(hu:z∈univ L v):F5S L v jv<F5S L v out:=by
 classical
 unfold F5S;generalize univ L v=U at hu
 induction U with
 | nil=>cases hu
 | cons y r ih =>
   have le:∀ r:List Txt,(r.filter λz=>decide (z∉nb jv)).length<=(r.filter λz=>decide (z∉nb out)).length:=by
    intro r
    induction r with
    | nil=>exact ay _
    | cons a r ih =>
      simp only [jl];by_cases h1:a∈nb out
      . have h2:=hm a h1;simp only [h1,h2,not_true,decide_false,aI,if_false];exact ih
      . by_cases h2:a∈nb jv
        . simp only [h1,h2,not_true,not_false_iff,decide_false,decide_true,aI,if_false,if_true,bf];omega
        . simp only [h1,h2,not_false_iff,decide_true,if_true,bf];omega
   rcases aG.1 hu with rfl | hr
   . have:=le r
     simp only [jl,hz,hn,not_true,not_false_iff,decide_false,decide_true,aI,if_false,if_true,bf];omega
   . have:=ih hr
     simp only [jl];by_cases h1:y∈nb out
     . have h2:=hm y h1;simp only [h1,h2,not_true,decide_false,aI,if_false];exact this
     . by_cases h2:y∈nb jv
       . simp only [h1,h2,not_true,not_false_iff,decide_false,decide_true,aI,if_false,if_true,bf];omega
       . simp only [h1,h2,not_false_iff,decide_true,if_true,bf];omega
theorem F0i (hL:L.length<1000000):∃ s,E52 (L,v,but)=some s∧SE s∧∀ z,z∈nb s↔Cl L v but z:=by
 have h0:=E9L (C:=List (fb×fb)×Int) (B:=PUnit) E8d (λ_ _=>rfl) (λz=>bT (λu=>some ((u.1.1,u.1.2),u.2)) (λ_=>none) z) (λa=>a) (λ_=>rfl) (L,but) (m:=[]) (l:=v) trivial
 have hv:∀ z,z∈nb (E6O [] v)↔z∈nb v:=λz=>by
  rw [E7f (m:=[]) trivial];simp [nb]
 have key:∃ b,A0d E7v ((L,but,true),E6O [] v)=some b∧(SE b∧∀ z,z∈nb b↔Cl L v but z):=by
  let I:(List (fb×fb)×Int×Bool)×fb->Prop:=λa=>a.1.1=L∧a.1.2.1=but∧SE a.2∧(∀ z∈nb a.2,Cl L v but z)∧(∀ z∈nb v,z∈nb a.2)∧(a.1.2.2=false->F1x L but L.length a.2)
  refine C8K I (λb=>SE b∧∀ z,z∈nb b↔Cl L v but z) (λa=>2*F5S L v a.2+(if a.1.2.2 then 1 else 0)) ?_ _ ⟨rfl,rfl,SE.union (m:=[]) trivial,λz hz=>.base ((hv z).1 hz),λz hz=>(hv z).2 hz,λh=>by cases h⟩
  rintro ⟨⟨L',aDn,ag⟩,out⟩ ⟨e1,e2,i1,i2,i3,i4⟩;simp only at e1 e2 i1 i2 i3 i4;subst e1;subst e2;cases ag with
  | false =>
    right;refine ⟨out,rfl,i1,λz=>⟨i2 z,λh=>?_⟩⟩
    induction h with
    | base h=>exact i3 _ h
    | step i a hi hb hk hz ih =>
      have eC:i<L'.length:=by
       apply aS0;intro hn;rw [List.getElem?_eq_none (by omega)] at hi
       cases hi
      exact i4 rfl i a eC hi hb ih _ hz
  | true =>
    left;obtain ⟨b,hb,s,rfl,R⟩:=F2R (but:=aDn) hL i1 i2;refine ⟨((L',aDn,s.1),s.2),?_,⟨rfl,rfl,R.ok,R.cl,λz hz=>R.mono z (i3 z hz),λh=>?_⟩,?_⟩
    . have hs:A0d E5k ((L',aDn,false,L',(L'.length:Int),(0:Int)),out)=some ((L',aDn,s.1),s.2):=hb;simp only [E7v,cond_true];refine (congrArg (λo=>bc o _) hs).trans ?_
      rfl
    . obtain ⟨e,hc⟩:=R.no h;have e:s.2=out:=e;show F1x L' aDn L'.length s.2;rw [e];exact hc
    . obtain ⟨ag',jv⟩:=s;cases ag' with
      | false =>
        have e:jv=out:=(R.no rfl).1;subst e;simp
      | true =>
        obtain ⟨z,hz,hn⟩:=R.yes rfl
        have:F5S L' v jv<F5S L' v out:=F4R (L:=L') (v:=v) R.mono hz hn (R.cl z hz).univ
        show 2*F5S L' v jv+(if true=true then 1 else 0)<2*F5S L' v out+(if true=true then 1 else 0)
        omega
 obtain ⟨b,hb,kN⟩:=key;refine ⟨b,?_,kN⟩;simp only [E52];refine (congrArg (λo=>bc o _) h0).trans ?_
 simp only [ai];refine (congrArg (λo=>bc o _) hb).trans ?_
 rfl
end
end Go.Mid
namespace Go.Mid
namespace AG
variable {V:Type}(N:Nat)(key all:Nat->V->Prop)
inductive D (but:Option Nat) (S:V->Prop):V->Prop
 | base {z:V} (h:S z):D but S z
 | step {z:V} (j:Nat) (hj:j<N) (hb:some j≠but) (hk:∀ x,key j x->D but S x) (hz:all j z):D but S z
def plus (i:Nat):V->Prop:=D N key all (some i) (key i)
inductive Rch (i:Nat):Nat->Prop
 | refl:Rch i i
 | step {a b:Nat} (h:Rch i a) (hb:b<N) (x:V) (h1:all a x) (h2:all b x) (h3:¬ plus N key all i x):Rch i b
def att (i k:Nat):Prop:=i<N∧k<N∧k≠i∧Rch N key all i k
variable {N key all}
theorem D.mono {but:Option Nat}{S T:V->Prop}(h:∀ x,S x->D N key all but T x){z:V}(hz:D N key all but S z):D N key all but T z:=by
 induction hz with
 | base hz=>exact h _ hz
 | step j hj hb _ hz ih=>exact .step j hj hb ih hz
inductive Way (N:Nat) (key all:Nat->V->Prop):Nat->Nat->Nat->Prop
 | one {a b:Nat} (h:att N key all a b):Way N key all 1 a b
 | more {n a b c:Nat} (h:att N key all a b) (r:Way N key all n b c):Way N key all (n+1) a c
end AG
end Go.Mid
namespace Go.Mid
def E5S (l:List (fb×fb))(i:Nat)(z:Txt):Prop:=∃ a,l[i]?=some a∧z∈nb a.1
def E50 (l:List (fb×fb))(i:Nat)(z:Txt):Prop:=∃ a,l[i]?=some a∧z∈nb a.2
theorem F4j {α:Type}{l:List α}{i:Nat}{a:α}(h:l[i]?=some a):i<l.length:=(List.getElem?_eq_some_iff.1 h).1
theorem F5B {l:List (fb×fb)}{v:fb}{but:Int}{o:Option Nat}(ho:∀ j:Nat,(j:Int)≠but↔some j≠o){z:Txt}:Cl l v but z↔AG.D l.length (E5S l) (E50 l) o (λz=>z∈nb v) z:=by
 constructor
 . intro h
   induction h with
   | base h=>exact .base h
   | step i a hi hb hk hz ih=>exact .step i (F4j hi) ((ho i).1 hb) (λx ⟨a',h1,h2⟩=>by rw [hi,aa] at h1;subst h1;exact ih x h2) ⟨a,hi,hz⟩
 . intro h
   induction h with
   | base h=>exact .base h
   | step j hj hb hk hz ih =>
     obtain ⟨a,h1,h2⟩:=hz;exact .step j a h1 ((ho j).2 hb) (λx hx=>ih x ⟨a,h1,hx⟩) h2
theorem F1y (i:Nat):∀ j:Nat,(j:Int)≠(i:Int)↔some j≠some i:=λj=>by
 rw [ne_eq,ne_eq,aa];omega
theorem F4S {l:List (fb×fb)}(hL:l.length<1000000){i:Nat}(hi:i<l.length):∃ s,E52 (l,l[i].1,(i:Int))=some s∧SE s∧∀ z,z∈nb s↔AG.plus l.length (E5S l) (E50 l) i z:=by
 obtain ⟨s,h1,h2,h3⟩:=F0i (L:=l) (v:=l[i].1) (but:=(i:Int)) hL;refine ⟨s,h1,h2,λz=>?_⟩
 rw [h3,F5B (F1y i)];have e:(λz=>z∈nb l[i].1)=E5S l i:=by
  funext x;apply propext;constructor
  . intro h;exact ⟨l[i],by simp [hi],h⟩
  . rintro ⟨a,h1,h2⟩;rw [ah hi,aa] at h1;subst h1;exact h2
 rw [e];exact Iff.rfl
end Go.Mid
namespace Go.Mid
def E9w (head:List ByteArray)(k:Int)(ts:List E5b)(n:Nat)(z:ByteArray):Prop:=∃ j u,j<n∧ts[j]?=some u∧u.1=z∧z≠{ data:=#[] }∧z∉head∧E7K k j=true
theorem F0K {head:List ByteArray}{k:Int}{ts:List E5b}{n:Nat}{u:E5b}(hu:ts[n]?=some u)(z:ByteArray):E9w head k ts (n+1) z↔(E9w head k ts n z∨(z=u.1∧u.1≠{ data:=#[] }∧u.1∉head∧E7K k n=true)):=by
 constructor
 . rintro ⟨j,v,hj,h1,rfl,h2⟩;rcases mV.1 hj with hj | rfl
   . exact .inl ⟨j,v,hj,h1,rfl,h2⟩
   . rw [hu,aa] at h1;subst h1;exact .inr ⟨rfl,h2⟩
 . rintro (⟨j,v,hj,h1⟩ | ⟨rfl,h1⟩)
   . exact ⟨j,v,by omega,h1⟩
   . exact ⟨n,u,by omega,hu,rfl,h1⟩
theorem F4T (k:Int)(j:Nat)(hj:j<32):Qz (k,(j:Int))=some (E7K k j):=by
 unfold Qz E7K;simp only [ge_iff_le,aq,decide_true,cond_true,show ((j:Int)<32) by omega]
structure QV (keys:List (ByteArray×Int))(head:List ByteArray)(ats:List tI):Prop where
 nk:keys.length<=1000000
 nh:head.length<=1000000
 na:ats.length<=6
 nt:∀ a∈ats,a.2.length<=16
 fk:∀ a∈ats,(keys.findIdx? λp=>Lv p.1 a.1).isSome=true
theorem F5C {keys:List (ByteArray×Int)}{head:List ByteArray}{l:List tI}(q:QV keys head l){i:Nat}(hi:i<l.length) :
 ∃ s,E5d (keys,(head,l),(i:Int))=some s∧Lst s (E9w head (E5O keys l[i].1).1 l[i].2 l[i].2.length)∧s.length<=16:=by
 have ha:l[i]∈l:=aM hi;have Aj:=q.nt _ ha;have hnk:=q.nk;have hnh:=q.nh;obtain ⟨m,hm⟩:=Option.isSome_iff_exists.1 (q.fk _ ha);have hml:m<keys.length:=by
  have:=List.findIdx?_eq_some_iff_findIdx_eq.1 hm
  omega
 have awg:(E5O keys l[i].1).1=keys[m].2:=by
  unfold E5O;rw [hm];simp only [ah hml,Option.getD_some]
 rw [awg];have key:=V4 (f:=E42) (S:=List ByteArray) l[i].2.length (λk s=>(((i:Int),keys[m].2,s.length,(k:Int)),(head,l),s)) (λk s=>Lst s (E9w head keys[m].2 l[i].2 k)∧s.length<=k)
  (λr=>∃ s,r=(s.length,s)∧Lst s (E9w head keys[m].2 l[i].2 l[i].2.length)∧s.length<=l[i].2.length) [] ⟨⟨gV,λz=>by simp [E9w]⟩,by simp⟩ (λk s hk hs=>?_) (λs hs=>?_)
 . obtain ⟨r,h1,s,rfl,h3,h4⟩:=key;refine ⟨s,?_,h3,by omega⟩
   unfold E5d;have hf:=F2e keys l[i].1 (by omega)
   rw [hm] at hf;simp only [aq,decide_true,cond_true,ar,ah hi,ai,hf,ah hml];refine (congrArg (λo=>bc o _) h1).trans ?_
   simp only [ai,jE (ay _),cond_true,pN]
 . left;obtain ⟨h1,h2⟩:=hs;have nq:(k:Int)<l[i].2.length:=by omega
   have hu:l[i].2[k]?=some l[i].2[k]:=ah hk;have hb:=F4T keys[m].2 k (by omega)
   have hha:=E7T head l[i].2[k].1 (by omega)
   have hhs:=E7T s l[i].2[k].1 (by omega)
   have skip:¬ (l[i].2[k].1≠{ data:=#[] }∧l[i].2[k].1∉head∧E7K keys[m].2 k=true)∨l[i].2[k].1∈s->Lst s (E9w head keys[m].2 l[i].2 (k+1)):=λhn=>h1.aBn λz=>by
    rw [F0K hu];refine ⟨.inl,λw=>w.elim id ?_⟩
    rintro ⟨rfl,w2⟩;rcases hn with hn | hn
    . exact (hn w2).elim
    . exact (h1.mem _).1 hn
   cases XX:E7K keys[m].2 k with
   | false =>
     refine ⟨s,?_,skip (.inl λw=>by rw [w.2.2] at XX;cases XX),by omega⟩
     simp only [E42,aq,decide_true,cond_true,ar,ah hi,ai,nq,hu,hb,XX,cond_false,iQ (show k<9223372036854775807 by omega)]
   | true =>
     by_cases he:l[i].2[k].1={ data:=#[] }
     . refine ⟨s,?_,skip (.inl λw=>w.1 he),by omega⟩
       simp only [E42,aq,decide_true,cond_true,ar,ah hi,ai,nq,hu,hb,XX,show Lv l[i].2[k].1 { data:=#[] }=true from E5z.2 he,bO,cond_false,iQ (show k<9223372036854775807 by omega)]
     . have hne:Lv l[i].2[k].1 { data:=#[] }=false:=aSQ.2 λe=>he (E5z.1 e)
       cases hh:E4Y head l[i].2[k].1 with
       | true =>
         refine ⟨s,?_,skip (.inl λw=>w.2.1 (E5Q.1 hh)),by omega⟩
         simp only [E42,aq,decide_true,cond_true,ar,ah hi,ai,nq,hu,hb,XX,hne,auI,hha,hh,bO,cond_false,iQ (show k<9223372036854775807 by omega)]
       | false =>
         have hn:l[i].2[k].1∉head:=λw=>by rw [E5Q.2 w] at hh;cases hh
         cases hss:E4Y s l[i].2[k].1 with
         | true =>
           refine ⟨s,?_,skip (.inr (E5Q.1 hss)),by omega⟩
           simp only [E42,aq,decide_true,cond_true,ar,ah hi,ai,nq,hu,hb,XX,hne,auI,hha,hh,jE (ay _),pN,hhs,hss,bO,cond_false,iQ (show k<9223372036854775807 by omega)]
         | false =>
           refine ⟨s++[l[i].2[k].1],?_,(h1.snoc hss).aBn λz=>?_,by simp;omega⟩
           . simp only [E42,aq,decide_true,cond_true,ar,ah hi,ai,nq,hu,hb,XX,hne,auI,hha,hh,jE (ay _),pN,hhs,hss,jE (show (s.length+1)*16<=140737488355328 by omega),iQ (show k<9223372036854775807 by omega),aR,bf,cM]
           . rw [F0K hu];exact ⟨λw=>w.elim .inl λw=>.inr ⟨w,he,hn,XX⟩,λw=>w.elim .inl λw=>.inr w.1⟩
 . refine ⟨_,?_,s,rfl,hs⟩;simp only [E42,aq,decide_true,cond_true,ar,ah hi,ai,ba,decide_false,cond_false]
def E4j (keys:List (ByteArray×Int))(head:List ByteArray)(ats:List tI):List (fb×fb):=ats.map (E6K keys head)
theorem F0L {keys:List (ByteArray×Int)}{head:List ByteArray}{l:List tI}{i:Nat}(hi:i<l.length):(E4j keys head l)[i]?=some (E6K keys head l[i]):=by
 unfold E4j;rw [List.getElem?_map,ah hi];rfl
theorem F30 {keys:List (ByteArray×Int)}{head:List ByteArray}{l:List tI}{i:Nat}(hi:i<l.length)(z:ByteArray):E5S (E4j keys head l) i z↔E9w head (E5O keys l[i].1).1 l[i].2 l[i].2.length z:=by
 have h:=(E9V keys head l[i]).GG z;unfold E5S;rw [F0L hi];constructor
 . rintro ⟨a,e,hz⟩;rw [aa] at e;subst e;exact h.1 hz
 . exact λhz=>⟨_,rfl,h.2 hz⟩
theorem F31 {keys:List (ByteArray×Int)}{head:List ByteArray}{l:List tI}{i:Nat}(hi:i<l.length)(z:ByteArray):E50 (E4j keys head l) i z↔(occ l[i].2 l[i].2.length z∧z∉head):=by
 have h:=(E9V keys head l[i]).aEE z;unfold E50;rw [F0L hi];constructor
 . rintro ⟨a,e,hz⟩;rw [aa] at e;subst e;obtain ⟨j,u,h1,h2,h3,h4,h5⟩:=h.1 hz;exact ⟨⟨h4,j,u,h1,h2,h3⟩,h5⟩
 . rintro ⟨⟨h4,j,u,h1,h2,h3⟩,h5⟩;exact ⟨_,rfl,h.2 ⟨j,u,h1,h2,h3,h4,h5⟩⟩
theorem E79 {keys:List (ByteArray×Int)}{head:List ByteArray}{l:List tI}:(E4j keys head l).length=l.length:=by simp [E4j]
theorem E8A {keys:List (ByteArray×Int)}{head:List ByteArray}{l:List tI}(q:QV keys head l){i:Nat}(hi:i<l.length) :
 ∃ s,E5d (keys,(head,l),(i:Int))=some s∧Lst s (E5S (E4j keys head l) i)∧s.length<=16:=by
 obtain ⟨s,h1,h2,h3⟩:=F5C q hi;exact ⟨s,h1,h2.aBn λz=>(F30 hi z).symm,h3⟩
theorem E85 {keys:List (ByteArray×Int)}{head:List ByteArray}{l:List tI}(q:QV keys head l){i:Nat}(hi:i<l.length) :
 ∃ s,E5h ((head,l),(i:Int))=some s∧Lst s (E50 (E4j keys head l) i)∧s.length<=1000:=by
 have:=q.na
 obtain ⟨s,h1,h2,h3⟩:=F4P (head:=head) hi (by omega) q.nh (λa ha=>dF (q.nt a ha) (by omega))
 exact ⟨s,h1,h2.aBn λz=>(F31 hi z).symm,h3⟩
end Go.Mid
namespace Go.Mid
theorem F3A (l:List E4Z)(a:ByteArray)(hl:l.length<=1000000):E7R (l,a)=some (match l.find? (λt=>Lv t.1 a) with | some t=>(t,true) | none=>((⟨#[]⟩,[],[]),false)):=by
 unfold E7R E4G
 have:=Ma (f:=E4r) l (λi=>(l,a,(l.length:Int),(i:Int))) (λ_ t=>Lv t.1 a) (λi=>.inl (i:Int)) (.inr ()) (λi hi=>by
  have hi':(i:Int)<l.length:=by omega
  simp only [E4r,E7W,hi',decide_true,cond_true,aq,ar,ah hi,ai,iQ (show i<9223372036854775807 by omega)]
  cases Lv l[i].1 a<;>rfl) (by
  simp only [E4r,ba,decide_false,cond_false])
 simp only [av] at this;rw [this,D86,E9s];cases hx:E6S l a with
 | none=>unfold E6S at hx;rw [hx];rfl
 | some k =>
   have hk:=F0v hx;unfold E6S at hx;have n1:¬ ((k:Int)<0):=by omega
   rw [hx];simp only [Option.map_some,Nat.add_zero,ai,vh,n1,decide_false,cond_false,aq,decide_true,cond_true,ar,ah hk]
theorem F32 {k:Int}(h0:0<=k)(h1:k<4294967296){n:Nat}(hn:n<=16):(pL cG k ((2 ^ n-1:Nat):Int)==k)=(jK cG k (n:Int)==0):=by
 obtain ⟨m,rfl⟩:=eB h0;have hm:m<w32:=by unfold w32;omega
 have hp:=F1t (show n<=32 by omega)
 have tK:0<2 ^ n:=Nat.two_pow_pos n;rw [F2f hm (by omega),F4M (by omega),Nat.and_two_pow_sub_one_eq_mod,Nat.shiftRight_eq_div_pow,Bool.eq_iff_iff,beq_iff_eq,beq_iff_eq]
 constructor
 . intro h;have h:m%2 ^ n=m:=by omega
   have:m<2 ^ n:=by rw [← h];exact Nat.mod_lt _ tK
   rw [Nat.div_eq_of_lt this];rfl
 . intro h;have h:m / 2 ^ n=0:=by omega
   have:m<2 ^ n:=by
    rcases Nat.div_eq_zero_iff.1 h with h | h
    . omega
    . exact h
   rw [Nat.mod_eq_of_lt this]
def E8I (aSP:List E4Z)(keys:List (ByteArray×Int))(i:Nat)(k:ByteArray×Int):Int:=match aSP.find? (λt=>Lv t.1 k.1) with
 | none=>4
 | some t=>bif jK cG k.2 (t.2.1.length:Int)==0 then (bif (E5O (keys.take i) k.1).2 then 5 else 0) else 1
theorem F0j (keys:List (ByteArray×Int))(a:ByteArray):(E5O keys a).2=(keys.findIdx? λp=>Lv p.1 a).isSome:=by
 unfold E5O;cases keys.findIdx? (λp=>Lv p.1 a)<;>rfl
theorem F0M (keys:List (ByteArray×Int))(a:ByteArray)(hl:keys.length<=9223372036854775807):∃ r,E5g (keys,a)=some r∧decide (r ≥ 0)=(E5O keys a).2∧decide (r<0)=!(E5O keys a).2:=by
 refine ⟨_,F2e keys a hl,?_,?_⟩<;>rw [F0j]<;>cases keys.findIdx? (λb=>Lv b.1 a) with
 | none=>rfl
 | some i=>simp
def E9x (ats:List tI)(i:Nat)(a:tI):Int:=bif (ats.take i).any (λb=>Lv b.1 a.1) then 14 else 0
def F0w (keys:List (ByteArray×Int))(_:Nat)(a:tI):Int:=bif (E5O keys a.1).2 then 0 else 4
def E7w (aSP:List E4Z)(keys:List (ByteArray×Int))(head:List ByteArray)(ats:List tI):Int :=
 if E7g aSP head ats=0 then (if E4I (E8I aSP keys) keys 0=0 then (if E4I (E9x ats) ats 0=0 then E4I (F0w keys) ats 0 else E4I (E9x ats) ats 0) else E4I (E8I aSP keys) keys 0) else E7g aSP head ats
theorem E9y {aSP:List E4Z}{head:List ByteArray}{ats:List tI}(h:E7g aSP head ats=0):dbE aSP=0:=by
 unfold E7g at h;split at h
 . assumption
 . rename_i h0;exact (h0 h).elim
section
variable {aSP:List E4Z}{keys:List (ByteArray×Int)}{head:List ByteArray}{ats:List tI}(z:Sz aSP keys head ats)
theorem F3B (nk:keys.length<=1000000)(hdb:dbE aSP=0):E7S (aSP,keys)=some (E4I (E8I aSP keys) keys 0):=by
 have hl:=E8P hdb;unfold E7S
 have:=E5R (f:=E6Z) keys (λi=>((keys,keys,(keys.length:Int),(i:Int)),aSP)) (E8I aSP keys) .inl (.inr ()) (λi hi=>by
  have hi':(i:Int)<keys.length:=by omega
  rw [E6P];simp only [E6Z,hi',decide_true,cond_true,aq,ar,ah hi,ai,F3A aSP _ (show aSP.length<=1000000 by omega),jE (fH hi),F1r (keys.take i) keys[i].1 (by rw [aW];omega),iQ (show i<9223372036854775807 by omega),E8I]
  cases aSP.find? (λt=>Lv t.1 keys[i].1) with
  | none=>rfl
  | some t =>
    simp only [bO,cond_false,bne];cases jK cG keys[i].2 (t.2.1.length:Int)==0<;>cases (E5O (keys.take i) keys[i].1).2<;>rfl) (by
  simp only [E6Z,ba,decide_false,cond_false])
 simp only [av] at this;rw [this,ai];split
 . rename_i h0;rw [h0];rfl
 . rfl
theorem F33 (nk:keys.length<=1000000)(kr:∀ k∈keys,0<=k.2∧k.2<4294967296)(hdb:dbE aSP=0):E64 (aSP,keys)=some (E4I (E8I aSP keys) keys 0):=by
 have hl:=E8P hdb;unfold E64
 have:=E5R (f:=E6w) keys (λi=>((keys,(i:Int)),aSP)) (E8I aSP keys) .inl (.inr ()) (λi hi=>by
  have hi':(i:Int)<keys.length:=by omega
  obtain ⟨r,hr,Iw,_⟩:=F0M (keys.take i) keys[i].1 (by rw [aW];omega)
  rw [E6P];simp only [E6w,hi',decide_true,cond_true,aq,ar,ah hi,ai,E9p aSP _ (show aSP.length<=1000000 by omega),jE (fH hi),hr,Iw,iQ (show i<9223372036854775807 by omega),E8I,E9s]
  cases hx:E6S aSP keys[i].1 with
  | none=>rfl
  | some k =>
    have hk:=F0v hx;have n1:¬ ((k:Int)<0):=by omega
    have h16:=(E9q (F0u hdb (aM hk))).2;have hkr:=kr _ (aM hi);simp only [E9o,n1,decide_false,cond_false,aq,decide_true,cond_true,ar,ah hk,ai,F2g (show aSP[k].2.1.length<32 by omega),E7Y,F32 hkr.1 hkr.2 h16]
    cases jK cG keys[i].2 (aSP[k].2.1.length:Int)==0<;>cases (E5O (keys.take i) keys[i].1).2<;>rfl) (by
  simp only [E6w,ba,decide_false,cond_false])
 simp only [av] at this;rw [this,ai];split
 . rename_i h0;rw [h0];rfl
 . rfl
theorem F4U (l:List tI)(a:tI)(hl:l.length<=1000):E4t (l,a)=some (l.any λb=>Lv b.1 a.1):=by
 unfold E4t E4H
 have:=Ma (f:=E4s) l (λi=>(l,a,(l.length:Int),(i:Int))) (λ_ b=>Lv b.1 a.1) (λi=>.inl (i:Int)) (.inr ()) (λi hi=>by
  have hi':(i:Int)<l.length:=by omega
  simp only [E4s,E7X,hi',decide_true,cond_true,aq,ar,ah hi,ai,iQ (show i<9223372036854775807 by omega)]
  cases Lv l[i].1 a.1<;>rfl) (by
  simp only [E4s,ba,decide_false,cond_false])
 simp only [av] at this;rw [this,← Qm (λb:tI=>Lv b.1 a.1) l 0]
 cases tm (λ_ (b:tI)=>Lv b.1 a.1) l 0 with
 | none=>rfl
 | some i=>simp
include z
theorem F0N:E7e (aSP,keys,head,ats)=some (E7w aSP keys head ats):=by
 have hna:=z.na;have hnk:=z.nk;unfold E7e E7w;simp only [F3y z,ai];by_cases h0:E7g aSP head ats=0
 . have hdb:=E9y h0;rw [if_pos h0];simp only [h0,bne_self_eq_false,cond_false,F3B z.nk hdb,ai];by_cases h1:E4I (E8I aSP keys) keys 0=0
   . rw [if_pos h1];simp only [h1,bne_self_eq_false,cond_false]
     have:=E5R (f:=E60) ats (λi=>((keys,ats,(ats.length:Int),(i:Int)),(head,ats))) (E9x ats) .inl (.inr (keys,(head,ats))) (λi hi=>by
      have hi':(i:Int)<ats.length:=by omega
      rw [E6P];simp only [E60,hi',decide_true,cond_true,aq,ar,ah hi,ai,jE (fH hi),F4U (ats.take i) ats[i] (by rw [aW];omega),iQ (show i<9223372036854775807 by omega),E9x]
      cases (ats.take i).any (λb=>Lv b.1 ats[i].1)<;>rfl) (by
      simp only [E60,ba,decide_false,cond_false])
     simp only [av] at this;simp only [this,ai];by_cases h2:E4I (E9x ats) ats 0=0
     . rw [if_pos h2,if_pos h2]
       have:=E5R (f:=E61) ats (λi=>(keys,ats,(ats.length:Int),(i:Int))) (F0w keys) .inl (.inr ()) (λi hi=>by
        have hi':(i:Int)<ats.length:=by omega
        rw [E6P];simp only [E61,hi',decide_true,cond_true,aq,ar,ah hi,ai,F1r keys ats[i].1 hnk,iQ (show i<9223372036854775807 by omega),F0w]
        cases (E5O keys ats[i].1).2<;>rfl) (by
        simp only [E61,ba,decide_false,cond_false])
       simp only [av] at this;simp only [lS,this,ai];split
       . rename_i h3;rw [h3];rfl
       . rfl
     . rw [if_neg h2,if_neg h2];rfl
   . rw [if_neg h1];simp only [bne_iff_ne.2 h1,cond_true]
 . rw [if_neg h0];simp only [bne_iff_ne.2 h0,cond_true]
theorem E9M:E55 (aSP,keys,head,ats)=some (E7w aSP keys head ats):=by
 have hna:=z.na;have hnk:=z.nk;unfold E55 E7w;simp only [F3z z,ai];by_cases h0:E7g aSP head ats=0
 . have hdb:=E9y h0;rw [if_pos h0];simp only [h0,bne_self_eq_false,cond_false,F33 z.nk z.kr hdb,ai];by_cases h1:E4I (E8I aSP keys) keys 0=0
   . rw [if_pos h1];simp only [h1,bne_self_eq_false,cond_false]
     have:=E5R (f:=E6e) ats (λi=>((keys,(i:Int)),(head,ats))) (E9x ats) .inl (.inr (keys,(head,ats))) (λi hi=>by
      have hi':(i:Int)<ats.length:=by omega
      have CT:=wo (f:=E6d) (ats.take i) (λk=>((keys,(i:Int),(k:Int)),(head,ats))) (λb=>Lv b.1 ats[i].1) (.inl 14) (.inr ((keys,(i:Int)),(head,ats))) (λk hk=>by
       have YP:k<i:=by rw [aW] at hk;omega
       have hk3:k<ats.length:=by omega
       have nq:(k:Int)<(i:Int):=by omega
       simp only [E6d,nq,decide_true,cond_true,aq,ar,ah hi,ah hk3,ai,List.getElem_take,F0e ats[i].1,iQ (show k<9223372036854775807 by omega)]
       cases Lv ats[k].1 ats[i].1<;>rfl) (by
       have:((ats.take i).length:Int)=(i:Int):=by rw [aW];omega
       simp only [E6d,this,ba,decide_false,cond_false])
      simp only [av] at CT;rw [E6P];simp only [E6e,hi',decide_true,cond_true,CT,ai,E9x];rcases Bool.eq_false_or_eq_true ((ats.take i).any (λb=>Lv b.1 ats[i].1)) with h | h
      . simp only [h,if_true,cond_true];rfl
      . simp only [h,aI,if_false,cond_false,lS,iQ (show i<9223372036854775807 by omega)];rfl) (by
      simp only [E6e,ba,decide_false,cond_false])
     simp only [av] at this;simp only [this,ai];by_cases h2:E4I (E9x ats) ats 0=0
     . rw [if_pos h2,if_pos h2]
       have:=E5R (f:=E6f) ats (λi=>((keys,(i:Int)),(head,ats))) (F0w keys) .inl (.inr ()) (λi hi=>by
        have hi':(i:Int)<ats.length:=by omega
        obtain ⟨r,hr,_,Iw⟩:=F0M keys ats[i].1 (by omega)
        rw [E6P];simp only [E6f,hi',decide_true,cond_true,aq,ar,ah hi,ai,hr,Iw,iQ (show i<9223372036854775807 by omega),F0w]
        cases (E5O keys ats[i].1).2<;>rfl) (by
        simp only [E6f,ba,decide_false,cond_false])
       simp only [av] at this;simp only [lS,this,ai];split
       . rename_i h3;rw [h3];rfl
       . rfl
     . rw [if_neg h2,if_neg h2];rfl
   . rw [if_neg h1];simp only [bne_iff_ne.2 h1,cond_true]
 . rw [if_neg h0];simp only [bne_iff_ne.2 h0,cond_true]
theorem F2T (h:E7w aSP keys head ats=0):QV keys head ats:=by
 unfold E7w at h;split at h
 . rename_i h0;split at h
   . rename_i h1;split at h
     . rename_i h2;have hdb:=E9y h0;unfold E7g at h0;rw [if_pos hdb] at h0;split at h0
       . cases h0
       . rename_i h6;split at h0
         . rename_i ha;refine ⟨z.nk,z.nh,by omega,λa hm=>?_,λa hm=>?_⟩
           . obtain ⟨j,hj,rfl⟩:=pd hm
             have:=E7A.1 ha j hj
             unfold E84 at this;split at this
             . cases this
             . rename_i t ht;have h16:=(E9q (F0u hdb (List.mem_of_find?_eq_some ht))).2;by_cases e:t.2.1.length=ats[j].2.length
               . omega
               . rw [beq_false_of_ne e,cond_false] at this;cases this
           . obtain ⟨j,hj,rfl⟩:=pd hm
             have:=E7A.1 h j hj
             unfold F0w at this;rw [F0j] at this;cases hx:(keys.findIdx? λp=>Lv p.1 ats[j].1).isSome with
             | true=>rfl
             | false=>rw [hx] at this;cases this
         . rename_i h7;exact (h7 h0).elim
     . rename_i h2;exact (h2 h).elim
   . rename_i h1;exact (h1 h).elim
 . rename_i h0;exact (h0 h).elim
end
end Go.Mid
namespace Go.Mid
abbrev E8l:=List (List Int×Int)×List Int
def aCi:List ByteArray:=[⟨#[120]⟩,⟨#[121]⟩,⟨#[122]⟩,⟨#[117]⟩,⟨#[118]⟩]
def aCE:List ByteArray:=[⟨#[114]⟩,⟨#[115]⟩,⟨#[116]⟩,⟨#[117]⟩]
def aB0:List ByteArray:=[⟨#[97]⟩,⟨#[98]⟩,⟨#[99]⟩,⟨#[100]⟩]
def E86 (n:Int):ByteArray:=(aCi[(n.tmod 5).toNat]?).getD ⟨#[]⟩
theorem F34 {n:Int}(h:0<=n):aCi[(n.tmod 5).toNat]?=some (E86 n):=by
 have h1:(n.tmod 5).toNat<aCi.length:=by
  have:=Int.tmod_lt_of_pos n (show (0:Int)<5 by omega)
  show _<5;omega
 unfold E86;rw [ah h1];rfl
theorem E75 {n:Int}(h:0<=n):E5q n=some (E86 n):=by
 unfold E5q;have h1:0<=n.tmod 5:=Int.tmod_nonneg _ h;simp only [h1,decide_true,cond_true];show (aCi[(n.tmod 5).toNat]?).bind _=_;rw [F34 h];rfl
def E6L (c:Int):E5b:=bif decide (c<5) then (E86 c,0,0,⟨#[]⟩) else (⟨#[]⟩,1,ao.wrap (c.tmod 3),⟨#[]⟩)
def nmT (i:Nat):ByteArray:=(aCE[i]?).getD ⟨#[]⟩
def atC (l:List (List Int×Int))(i:Nat):List Int×Int:=(l[i]?).getD ([],0)
theorem F2j {l:List (List Int×Int)}{i:Nat}(h:i<l.length):l[i]=atC l i:=by
 unfold atC;rw [ah h];rfl
def E4P (l:List (List Int×Int))(n:Nat):List tI:=(bA n).map λi=>(nmT i,(atC l i).1.map E6L)
def E5p (l:List (List Int×Int))(n:Nat):List E4Z:=(bA n).map λi=>(nmT i,aB0.take (atC l i).1.length,[])
def E5f (l:List (List Int×Int))(n:Nat):List (ByteArray×Int):=(bA n).map λi=>(nmT i,pL cG (cG.wrap (atC l i).2) ((2 ^ (atC l i).1.length-1:Nat):Int))
theorem E8m (l:List (List Int×Int))(n:Nat):(E4P l n).length=n:=by simp [E4P]
theorem F0O (l:List (List Int×Int))(n:Nat):(E5p l n).length=n:=by simp [E5p]
theorem E9z (l:List (List Int×Int))(n:Nat):(E5f l n).length=n:=by simp [E5f]
def OkC (c:E8l):Prop:=(∀ a∈c.1,(∀ x∈a.1,0<=x∧x<=255)∧0<=a.2∧a.2<=255)∧∀ x∈c.2,0<=x∧x<=255
theorem F35 {c:E8l}(ok:OkC c){i:Nat}(hi:i<c.1.length)(hl:c.1[i].1.length<=4)(kn:Nat)(name:ByteArray)(T2:List E4Z)(n2:Nat)(H4:List ByteArray)(h4:Nat)(A4:List tI)(a4:Nat)(T6:List E4Z)(n6:Nat)(K:List (ByteArray×Int))(H8:List ByteArray)(h8:Nat)(A8:List tI)(a8:Nat) :
 A0d E5u ((kn,(i:Int),(c.1[i].1.length:Int),name,(0:Int)),c,(T2,n2),((H4,h4),A4,a4),(T6,n6),K,((H8,h8),A8,a8),name,[],0) =
  some ((kn,(i:Int),(c.1[i].1.length:Int),name),c,(T2,n2),((H4,h4),A4,a4),(T6,n6),K,((H8,h8),A8,a8),name,c.1[i].1.map E6L,c.1[i].1.length):=by
 have:=tQ (f:=E5u) c.1[i].1.length (λj=>((kn,(i:Int),(c.1[i].1.length:Int),name,(j:Int)),c,(T2,n2),((H4,h4),A4,a4),(T6,n6),K,((H8,h8),A8,a8),name,(c.1[i].1.take j).map E6L,j))
  ((kn,(i:Int),(c.1[i].1.length:Int),name),c,(T2,n2),((H4,h4),A4,a4),(T6,n6),K,((H8,h8),A8,a8),name,c.1[i].1.map E6L,c.1[i].1.length) (λj hj=>?_) ?_
 . simpa using this
 . have Dy:(j:Int)<(c.1[i].1.length:Int):=by omega
   have hx:=(ok.1 _ (aM hi)).1 _ (aM hj);have hlen:((c.1[i].1.take j).map E6L).length=j:=by simp;omega
   have e:(c.1[i].1.take (j+1)).map E6L=(c.1[i].1.take j).map E6L++[E6L c.1[i].1[j]]:=by
    rw [vz hj,b9];rfl
   rw [e];have b1:(j+1)*48<=140737488355328:=by omega
   have t1:((c.1[i].1.take j).map E6L).take j=(c.1[i].1.take j).map E6L:=a6 (by rw [hlen];exact ay _)
   have hb:j<=((c.1[i].1.take j).map E6L).length:=by rw [hlen];exact ay _
   by_cases h5:c.1[i].1[j]<5
   . simp only [E5u,Dy,decide_true,cond_true,aq,ar,ah hi,ah hj,ai,h5,E75 hx.1,beq_self_eq_true,jE hb,jE b1,t1,iQ (show j<9223372036854775807 by omega),E6L]
     rw [jE (by rw [aR,hlen];exact ay _)]
     rfl
   . simp only [E5u,Dy,decide_true,cond_true,aq,ar,ah hi,ah hj,ai,h5,decide_false,cond_false,beq_self_eq_true,jE hb,jE b1,t1,iQ (show j<9223372036854775807 by omega),E6L]
     rw [jE (by rw [aR,hlen];exact ay _)]
     rfl
 . simp only [E5u,ba,decide_false,cond_false,List.take_length]
end Go.Mid
namespace Go.Mid
theorem F2U (l:List E5b):fp (uR (Ty.agg [Ty.str,Ty.agg [Ty.int ao,Ty.int ao,Ty.str]])) l=l:=by
 have:(uR (Ty.agg [Ty.str,Ty.agg [Ty.int ao,Ty.int ao,Ty.str]]):E5b->E5b)=id:=by funext y;rfl
 exact (congrArg (λf=>fp f l) this).trans (wR l)
theorem F3C (a:tI):uR (Ty.agg [Ty.str,Ty.vec 4 (Ty.agg [Ty.str,Ty.agg [Ty.int ao,Ty.int ao,Ty.str]])]) a=a:=congrArg (λl=>(a.1,l)) (F2U a.2)
theorem F2V (l:List tI):fp (uR (Ty.agg [Ty.str,Ty.vec 4 (Ty.agg [Ty.str,Ty.agg [Ty.int ao,Ty.int ao,Ty.str]])])) l=l:=by
 have:(uR (Ty.agg [Ty.str,Ty.vec 4 (Ty.agg [Ty.str,Ty.agg [Ty.int ao,Ty.int ao,Ty.str]])]):tI->tI)=id:=by funext y;exact F3C y
 exact (congrArg (λf=>fp f l) this).trans (wR l)
def F36 (c:E8l):Prop:=∀ i,i<c.1.length->(atC c.1 i).1.length<=4
theorem F37 {c:E8l}(ok:OkC c)(h4:c.1.length<=4) :
 ∃ b,A0d E5v ((0,(0:Int)),c,([],0),(([],0),[],0),([],0),[],([],0),[],0)=some b ∧
  ((F36 c∧b=.inr (c.1.length,c,([],0),(([],0),[],0),(E5p c.1 c.1.length,c.1.length),E5f c.1 c.1.length,([],0),E4P c.1 c.1.length,c.1.length)) ∨
    ∃ r,b=.inl ((0,false),([],0),[],(([],0),[],0),r)):=by
 refine V4 (f:=E5v) (S:=Unit) c.1.length (λi _=>((i,(i:Int)),c,([],0),(([],0),[],0),(E5p c.1 i,i),E5f c.1 i,([],0),E4P c.1 i,i))
  (λi _=>∀ j,j<i->(atC c.1 j).1.length<=4) _ () (λj hj=>by omega) (λi _ hi hs=>?_) (λ_ hs=>?_)
 . have hi':(i:Int)<(c.1.length:Int):=by omega
   by_cases hl:c.1[i].1.length<=4
   . left;have CT:=F35 ok hi hl i (nmT i) [] 0 [] 0 [] 0 (E5p c.1 i) i (E5f c.1 i) [] 0 (E4P c.1 i) i;have hle:¬ (c.1[i].1.length:Int)>4:=by omega
     have hn:[(ir #[114]),(ir #[115]),(ir #[116]),(ir #[117])][i]?=some (nmT i):=by
      have h1:i<aCE.length:=by show i<4;omega
      show aCE[i]?=_;unfold nmT;rw [ah h1];rfl
     have hta:(aB0.take c.1[i].1.length).length=c.1[i].1.length:=by
      rw [aW];show min _ 4=_;omega
     have kV:=F2j hi;have lT:=F0O c.1 i;have lK:=E9z c.1 i;have lA:=E8m c.1 i;have eT:E5p c.1 (i+1)=E5p c.1 i++[(nmT i,aB0.take c.1[i].1.length,[])]:=by
      unfold E5p;rw [jO,b9,kV];rfl
     have eK:E5f c.1 (i+1)=E5f c.1 i++[(nmT i,pL cG (cG.wrap c.1[i].2) ((2 ^ c.1[i].1.length-1:Nat):Int))]:=by
      unfold E5f;rw [jO,b9,kV];rfl
     have eA:E4P c.1 (i+1)=E4P c.1 i++[(nmT i,c.1[i].1.map E6L)]:=by
      unfold E4P;rw [jO,b9,kV];rfl
     refine ⟨(),?_,λj hj=>?_⟩
     . rw [eT,eK,eA];simp only [E5v,hi',decide_true,cond_true,aq,ar,ah hi,ai,hle,decide_false,cond_false];rw [hn];simp only [ai];refine (congrArg (λo=>bc o _) CT).trans ?_
       have t1:(E4P c.1 i).take i=E4P c.1 i:=a6 (by rw [lA];exact ay _)
       have t2:(E5p c.1 i).take i=E5p c.1 i:=a6 (by rw [lT];exact ay _)
       have t3:(E5f c.1 i).take i=E5f c.1 i:=a6 (by rw [lK];exact ay _)
       have b0:c.1[i].1.length<=(c.1[i].1.map E6L).length:=by simp
       have b1:(i+1)*40<=140737488355328:=by omega
       have b2:(i+1)*64<=140737488355328:=by omega
       have b3:(i+1)*24<=140737488355328:=by omega
       have b4:i<=(E4P c.1 i).length:=by rw [lA];exact ay _
       have b5:i<=(E5p c.1 i).length:=by rw [lT];exact ay _
       have b6:i<=(E5f c.1 i).length:=by rw [lK];exact ay _
       have b7:c.1[i].1.length*16<=140737488355328:=by omega
       have tM:=F2g (show c.1[i].1.length<32 by omega)
       have aJ1:[(ir #[97]),(ir #[98]),(ir #[99]),(ir #[100])]=aB0:=rfl;simp only [ai,jE b0,cond_true,Nat.beq_eq,beq_self_eq_true,jE b4,jE b1,t1,lA,jE (ay _),aq,decide_true,ar,jE hl,gH,a7,bS,aJ1,hta,jE b7,jE b5,jE b2,t2];have tk:∀ x:E4Z,List.take 1 [x]=[x]:=λ_=>rfl
       simp only [show Nat.beq 0 0=true from rfl,show Nat.beq 1 1=true from rfl,cond_true,List.take_take,Nat.min_self,tk,aR,lT,bf,cM,jE (ay _),ah hi,ai,tM,jE b6,jE b3,t3,aB,beq_self_eq_true,iQ (show i<9223372036854775807 by omega)]
     . rcases mV.1 hj with hj | rfl
       . exact hs j hj
       . rw [← kV];exact hl
   . right;have hle:(c.1[i].1.length:Int)>4:=by omega
     refine ⟨.inl ((0,false),([],0),[],(([],0),[],0),((E5p c.1 i,i),E5f c.1 i,([],0),E4P c.1 i,i)),?_,.inr ⟨_,rfl⟩⟩;simp only [E5v,hi',decide_true,cond_true,aq,ar,ah hi,ai,hle]
 . refine ⟨_,?_,.inl ⟨hs,rfl⟩⟩;simp only [E5v,ba,decide_false,cond_false]
structure aEh (vs head:List ByteArray):Prop where
 nd:head.Nodup
 sub:∀ z∈head,z∈vs
 len:head.length<=5
theorem F4V {c:E8l}(ok:OkC c){vs:List ByteArray}(hv:vs.length<=1000000)(kn:Nat)(T2:List E4Z)(n2:Nat)(H4:List ByteArray)(h4:Nat)(A4:List tI)(a4:Nat)(T6:List E4Z)(n6:Nat)(K:List (ByteArray×Int))(A8:List tI)(a8:Nat) :
 ∃ hd,A0d E44 ((kn,vs,(0:Int)),c,(T2,n2),((H4,h4),A4,a4),(T6,n6),K,(([],0),A8,a8))=some (kn,(T2,n2),((H4,h4),A4,a4),(T6,n6),K,((hd,hd.length),A8,a8))∧aEh vs hd:=by
 have key:=V4 (f:=E44) (S:=List ByteArray) (min c.2.length 5) (λi h=>((kn,vs,(i:Int)),c,(T2,n2),((H4,h4),A4,a4),(T6,n6),K,((h,h.length),A8,a8)))
  (λi h=>h.Nodup∧(∀ z∈h,z∈vs)∧h.length<=i) (λb=>∃ h,b=(kn,(T2,n2),((H4,h4),A4,a4),(T6,n6),K,((h,h.length),A8,a8))∧aEh vs h) [] ⟨gV,λz hz=>(by cases hz),by simp⟩ (λi h hi hJ=>?_) (λh hJ=>?_)
 . obtain ⟨b,h1,h,rfl,h2⟩:=key;exact ⟨h,h1,h2⟩
 . left;obtain ⟨j1,j2,j3⟩:=hJ;have AX:i<c.2.length:=by omega
   have hi':(i:Int)<(c.2.length:Int):=by omega
   have hi5:(i:Int)<5:=by omega
   have hx:=ok.2 _ (aM AX);have e1:=E7T vs (E86 c.2[i]) (by omega)
   have e2:=E7T h (E86 c.2[i]) (by omega)
   cases h1:E4Y vs (E86 c.2[i]) with
   | false =>
     refine ⟨h,?_,j1,j2,by omega⟩
     simp only [E44,hi',hi5,decide_true,cond_true,aq,ar,ah AX,ai,E75 hx.1,e1,h1,cond_false,iQ (show i<9223372036854775807 by omega)]
   | true =>
     cases h2:E4Y h (E86 c.2[i]) with
     | true =>
       refine ⟨h,?_,j1,j2,by omega⟩
       simp only [E44,hi',hi5,decide_true,cond_true,aq,ar,ah AX,ai,E75 hx.1,e1,h1,jE (ay _),pN,e2,h2,bO,cond_false,iQ (show i<9223372036854775807 by omega)]
     | false =>
       have hl:=(Lst.mk (P:=λz=>z∈h) j1 (λz=>Iff.rfl)).snoc h2
       refine ⟨h++[E86 c.2[i]],?_,hl.nd,λz hz=>?_,by simp;omega⟩
       . simp only [E44,hi',hi5,decide_true,cond_true,aq,ar,ah AX,ai,E75 hx.1,e1,h1,jE (ay _),pN,e2,h2,auI,beq_self_eq_true,jE (show (h.length+1)*16<=140737488355328 by omega),aR,bf,cM,bS,iQ (show i<9223372036854775807 by omega)]
       . rcases az.1 hz with hz | hz
         . exact j2 z hz
         . rw [aX] at hz;subst hz;exact E5Q.1 h1
 . obtain ⟨j1,j2,j3⟩:=hJ;refine ⟨_,?_,h,rfl,j1,j2,by omega⟩
   by_cases h1:(min c.2.length 5:Nat)<c.2.length
   . have e1:((min c.2.length 5:Nat):Int)<(c.2.length:Int):=by omega
     have e2:¬ ((min c.2.length 5:Nat):Int)<5:=by omega
     simp only [E44,e1,e2,decide_true,decide_false,cond_true,cond_false]
   . have e1:¬ ((min c.2.length 5:Nat):Int)<(c.2.length:Int):=by omega
     simp only [E44,e1,decide_false,cond_false]
theorem F5F {c:E8l}(ok:OkC c):(∃ r,E6M c=some r∧r.2.2.2=false) ∨
 (1<=c.1.length∧c.1.length<=4∧F36 c∧∃ hd,E6M c=some (E5p c.1 c.1.length,E5f c.1 c.1.length,(hd,E4P c.1 c.1.length),true)∧hd.Nodup∧hd.length<=5∧∀ z∈hd,E9Z (E4P c.1 c.1.length) (E4P c.1 c.1.length).length z):=by
 unfold E6M;by_cases h1:c.1.length<1
 . left
   have:(c.1.length:Int)<1:=by omega
   simp only [this,decide_true,cond_true,show cQ 0 0=true from rfl];exact ⟨_,rfl,rfl⟩
 have vR:¬ (c.1.length:Int)<1:=by omega
 by_cases h4:4<c.1.length
 . left
   have:(c.1.length:Int)>4:=by omega
   simp only [vR,this,decide_true,decide_false,cond_true,cond_false,show cQ 0 0=true from rfl];exact ⟨_,rfl,rfl⟩
 have h4':¬ (c.1.length:Int)>4:=by omega
 simp only [vR,h4',decide_false,cond_false];obtain ⟨b,e,hb⟩:=F37 ok (by omega)
 rcases hb with ⟨hf,rfl⟩ | ⟨r,rfl⟩
 . right;refine ⟨by omega,by omega,hf,?_⟩
   have lT:=F0O c.1 c.1.length;have lK:=E9z c.1 c.1.length;have lA:=E8m c.1 c.1.length;have t1:(E4P c.1 c.1.length).take c.1.length=E4P c.1 c.1.length:=a6 (by rw [lA];exact ay _)
   have t2:(E5p c.1 c.1.length).take c.1.length=E5p c.1 c.1.length:=a6 (by rw [lT];exact ay _)
   have t3:(E5f c.1 c.1.length).take c.1.length=E5f c.1 c.1.length:=a6 (by rw [lK];exact ay _)
   have b4:c.1.length<=(E4P c.1 c.1.length).length:=by rw [lA];exact ay _
   have b5:c.1.length<=(E5p c.1 c.1.length).length:=by rw [lT];exact ay _
   have b6:c.1.length<=(E5f c.1 c.1.length).length:=by rw [lK];exact ay _
   have ht:∀ a∈E4P c.1 c.1.length,a.2.length<=1000:=λa ha=>by
    unfold E4P at ha;obtain ⟨i,hi,rfl⟩:=bp.1 ha
    have:=hf i (cu.1 hi)
    simp only [aB];omega
   obtain ⟨vs,ev,v1,v2⟩:=E8r (l:=E4P c.1 c.1.length) (by omega) ht
   obtain ⟨hd,eh,hh⟩:=F4V ok (vs:=vs) (by rw [lA] at v2;omega) c.1.length [] 0 [] 0 [] 0 (E5p c.1 c.1.length) c.1.length (E5f c.1 c.1.length) (E4P c.1 c.1.length) c.1.length
   refine ⟨hd,?_,hh.nd,hh.len,λz hz=>(v1.mem z).1 (hh.sub z hz)⟩
   refine (congrArg (λo=>bc o _) e).trans ?_
   have eq:fp (uR (Ty.agg [Ty.str,Ty.vec 4 (Ty.agg [Ty.str,Ty.agg [Ty.int ao,Ty.int ao,Ty.str]])])) ((E4P c.1 c.1.length).take c.1.length)=E4P c.1 c.1.length :=
    (congrArg (λl:List tI=>fp (uR (Ty.agg [Ty.str,Ty.vec 4 (Ty.agg [Ty.str,Ty.agg [Ty.int ao,Ty.int ao,Ty.str]])])) l) t1).trans (F2V _)
   simp only [ai,lS,jE b4,cond_true];refine (congrArg (λo=>bc o _) ((congrArg E40 eq).trans ev)).trans ?_
   simp only [ai];refine (congrArg (λo=>bc o _) eh).trans ?_
   simp only [ai,jE b5,jE b6,jE b4,jE (ay _),cond_true,t2,t3,pN];exact congrArg (λl:List tI=>some (E5p c.1 c.1.length,E5f c.1 c.1.length,(hd,l),true)) eq
 . left;refine ⟨_,(congrArg (λo=>bc o _) e).trans rfl,rfl⟩
end Go.Mid
namespace Go.Mid
theorem E9A {p q:Nat->Bool}:∀ {l:List Nat},(∀ x∈l,p x=true->q x=true)->(∃ y∈l,q y=true∧p y=false)->(l.filter p).length<(l.filter q).length
 | [],_,⟨y,hy,_⟩=>by cases hy
 | x::r,h,⟨y,hy,h1,h2⟩=>by
   have hle:∀ {l:List Nat},(∀ x∈l,p x=true->q x=true)->(l.filter p).length<=(l.filter q).length:=by
    intro l
    induction l with
    | nil=>intro _;simp
    | cons x r ih =>
      intro h;have ih:=ih λz hz=>h z (bC _ hz)
      cases hp:p x with
      | false =>
        rw [lb (by simp [hp])]
        cases hq:q x with
        | false=>rw [lb (by simp [hq])];exact ih
        | true=>rw [iv hq,bf];omega
      | true=>rw [iv hp,iv (h x (dS ..) hp),bf,bf];omega
   have hr:=hle λz hz=>h z (bC x hz)
   rcases aG.1 hy with rfl | hy
   . rw [lb (by simp [h2]),iv h1,bf]
     omega
   . have ih:=E9A (λz hz=>h z (bC x hz)) ⟨y,hy,h1,h2⟩
     cases hp:p x with
     | false =>
       rw [lb (by simp [hp])]
       cases hq:q x with
       | false=>rw [lb (by simp [hq])];exact ih
       | true=>rw [iv hq,bf];omega
     | true=>rw [iv hp,iv (h x (dS ..) hp),bf,bf];omega
section
variable {keys:List (ByteArray×Int)}{head:List ByteArray}{l:List tI}(q:QV keys head l)
def F2W (keys:List (ByteArray×Int))(head:List ByteArray)(l:List tI)(but:Option Nat)(s:List ByteArray)(i:Nat):Prop:=some i≠but∧(∀ z,E5S (E4j keys head l) i z->z∈s)∧∀ z,E50 (E4j keys head l) i z->z∈s
noncomputable def E8B (keys:List (ByteArray×Int))(head:List ByteArray)(l:List tI)(but:Option Nat)(s:List ByteArray):Nat:=by
 classical exact ((bA l.length).filter λi=>decide (F2W keys head l but s i)).length
theorem F38 (but:Option Nat)(s:List ByteArray):E8B keys head l but s<=l.length:=by
 unfold E8B;exact dF (List.length_filter_le ..) (by simp)
theorem F39 {but:Option Nat}{s t:List ByteArray}(hst:∀ z∈s,z∈t){i:Nat}(hi:i<l.length)(h1:F2W keys head l but t i)(h2:¬ F2W keys head l but s i):E8B keys head l but s<E8B keys head l but t:=by
 classical
 unfold E8B;exact E9A (λx _ h=>decide_eq_true (by
  obtain ⟨a,b,c⟩:=of_decide_eq_true h;exact ⟨a,λz hz=>hst z (b z hz),λz hz=>hst z (c z hz)⟩)) ⟨i,by simpa using hi,decide_eq_true h1,decide_eq_false h2⟩
structure Part (keys:List (ByteArray×Int))(head:List ByteArray)(l:List tI)(but:Option Nat)(s0 s:List ByteArray):Prop where
 nd:s.Nodup
 sub:∀ z∈s0,z∈s
 dn:∀ z∈s,AG.D l.length (E5S (E4j keys head l)) (E50 (E4j keys head l)) but (· ∈ s0) z
def E7Z (keys:List (ByteArray×Int))(head:List ByteArray)(l:List tI)(but:Option Nat)(s:List ByteArray):Prop:=∀ i,i<l.length->some i≠but->(∀ z,E5S (E4j keys head l) i z->z∈s)->∀ z,E50 (E4j keys head l) i z->z∈s
theorem E90 {but:Option Nat}{s0 s:List ByteArray}(h:Part keys head l but s0 s)(hc:E7Z keys head l but s)(z:ByteArray):z∈s↔AG.D l.length (E5S (E4j keys head l)) (E50 (E4j keys head l)) but (· ∈ s0) z:=by
 refine ⟨h.dn z,λhd=>?_⟩
 induction hd with
 | base hz=>exact h.sub _ hz
 | step j hj hb _ hz ih=>exact hc j hj hb ih _ hz
include q in
theorem F4a {b:Int}{but:Option Nat}(aDM:∀ j:Nat,(j:Int)≠b↔some j≠but){s0 s:List ByteArray}(hs:Part keys head l but s0 s){B:Nat}(hB:s.length<=B)(hB2:B<=100000)(r:Int) :
 ∃ t,A0d E4X ((keys,s,b,r,(0:Int)),head,l)=some ((keys,t,b,r),head,l)∧Part keys head l but s0 t∧t.length<=B+l.length*1000∧(∀ z∈s,z∈t)∧(E7Z keys head l but s∨E8B keys head l but s<E8B keys head l but t):=by
 have hna:=q.na;have key:=V4 (f:=E4X) (S:=List ByteArray) l.length (λi t=>((keys,t,b,r,(i:Int)),head,l))
  (λi t=>Part keys head l but s0 t∧t.length<=B+i*1000∧(∀ z∈s,z∈t)∧∀ j,j<i->some j≠but->(∀ z,E5S (E4j keys head l) j z->z∈s)->∀ z,E50 (E4j keys head l) j z->z∈t)
  (λo=>∃ t,o=((keys,t,b,r),head,l)∧Part keys head l but s0 t∧t.length<=B+l.length*1000∧(∀ z∈s,z∈t)∧∀ j,j<l.length->some j≠but->(∀ z,E5S (E4j keys head l) j z->z∈s)->∀ z,E50 (E4j keys head l) j z->z∈t) s
  ⟨hs,by omega,λ_ h=>h,λj hj=>by omega⟩ (λi t hi ht=>?_) (λt ht=>?_)
 . obtain ⟨o,h1,t,rfl,h2,h3,h4,h5⟩:=key;refine ⟨t,h1,h2,h3,h4,?_⟩;by_cases hc:E7Z keys head l but s
   . exact .inl hc
   . right;unfold E7Z at hc;obtain ⟨i,hc⟩:=vb.1 hc;obtain ⟨hi,hc⟩:=aSS.1 hc;obtain ⟨hb,hc⟩:=aSS.1 hc;obtain ⟨hk,hc⟩:=aSS.1 hc;refine F39 h4 hi ⟨hb,λz hz=>h4 z (hk z hz),h5 i hi hb hk⟩ λhf=>hc hf.2.2
 . left;obtain ⟨h1,h2,h3,h4⟩:=ht;have hi':(i:Int)<l.length:=by omega
   by_cases hb:(i:Int)=b
   . refine ⟨t,?_,h1,dF h2 (aBx (iY _ (au6 i)) B),h3,λj hj hjb hk=>?_⟩
     . subst hb;simp only [E4X,hi',decide_true,cond_true,bne_self_eq_false,cond_false,iQ (show i<9223372036854775807 by omega)]
     . rcases mV.1 hj with hj | rfl
       . exact h4 j hj hjb hk
       . exact (((aDM j).2 hjb) hb).elim
   . have kE:((i:Int) != b)=true:=bne_iff_ne.2 hb;obtain ⟨ks,e1,k1,k2⟩:=E8A q hi;obtain ⟨vs,e2,v1,v2⟩:=E85 q hi;have hw:=F0J (a:=ks) (b:=t) (by omega) (by omega)
     have tl:Lst t (· ∈ t):=⟨h1.nd,λz=>Iff.rfl⟩
     have hwi:=D87 k1 tl;cases hwc:ks.all (E4Y t) with
     | false =>
       refine ⟨t,?_,h1,dF h2 (aBx (iY _ (au6 i)) B),h3,λj hj hjb hk=>?_⟩
       . simp only [E4X,hi',decide_true,cond_true,kE,e1,ai,hw,hwc,cond_false,iQ (show i<9223372036854775807 by omega)]
       . rcases mV.1 hj with hj | rfl
         . exact h4 j hj hjb hk
         . exact absurd (hwi.2 λz hz=>h3 z (hk z hz)) (by rw [hwc];simp)
     | true =>
       obtain ⟨u,e3,u1,u2⟩:=F4L (a:=t) (b:=vs) h1.nd (by omega) (by omega)
       refine ⟨u,?_,⟨u1.nd,λz hz=>(u1.mem z).2 (.inl (h1.sub z hz)),λz hz=>?_⟩,by rw [du];omega,λz hz=>(u1.mem z).2 (.inl (h3 z hz)),λj hj hjb hk z hz=>?_⟩
       . simp only [E4X,hi',decide_true,cond_true,kE,e1,ai,hw,hwc,e2,e3,iQ (show i<9223372036854775807 by omega)]
       . rcases (u1.mem z).1 hz with hz | hz
         . exact h1.dn z hz
         . exact .step i hi ((aDM i).1 hb) (λx hx=>h1.dn x (hwi.1 hwc x hx)) ((v1.mem z).1 hz)
       . rcases mV.1 hj with hj | rfl
         . exact (u1.mem z).2 (.inl (h4 j hj hjb hk z hz))
         . exact (u1.mem z).2 (.inr ((v1.mem z).2 hz))
 . refine ⟨_,?_,t,rfl,ht⟩;simp only [E4X,ba,decide_false,cond_false]
include q in
theorem E9a {b:Int}{but:Option Nat}(aDM:∀ j:Nat,(j:Int)≠b↔some j≠but){s0:List ByteArray}(hs:s0.Nodup)(hl:s0.length<=1000) :
 ∃ t,E5J (keys,(head,l),s0,b)=some t∧Lst t (AG.D l.length (E5S (E4j keys head l)) (E50 (E4j keys head l)) but (· ∈ s0))∧t.length<=100000:=by
 have hna:=q.na;have key:=V4 (f:=E5N) (S:=List ByteArray) (l.length+1) (λn t=>((keys,t,b,(n:Int)),head,l))
  (λn t=>Part keys head l but s0 t∧t.length<=1000+n*(l.length*1000)∧(E7Z keys head l but t∨n<=E8B keys head l but t))
  (λt=>Part keys head l but s0 t∧E7Z keys head l but t∧t.length<=100000) s0 ⟨⟨hs,λ_ h=>h,λz hz=>.base hz⟩,by omega,.inr (dg _)⟩ (λn t hn ht=>?_) (λt ht=>?_)
 . obtain ⟨t,h1,h2,h3,h4⟩:=key;refine ⟨t,?_,⟨h2.nd,E90 h2 h3⟩,h4⟩;unfold E5J;refine (congrArg (λo=>bc o _) h1).trans ?_
   rfl
 . left;obtain ⟨h1,h2,h3⟩:=ht;have rV:(n:Int)<=l.length:=by omega
   have hmul:n*(l.length*1000)<=6*6000:=aSZ (by omega) (by omega)
   obtain ⟨u,e,u1,u2,u3,u4⟩:=F4a q aDM h1 h2 (by omega) (n:Int)
   refine ⟨u,?_,u1,?_,?_⟩
   . simp only [E5N,rV,decide_true,cond_true];refine (congrArg (λo=>bc o _) e).trans ?_
     simp only [ai,iQ (show n<9223372036854775807 by omega)]
   . rw [du];omega
   . by_cases hcu:E7Z keys head l but u
     . exact .inl hcu
     . right;rcases u4 with hc | hf
       . -- closed at the aIh begin: nothing is added
         exfalso;apply hcu;intro i hi hb hk z hz;have hD:∀ x∈u,x∈t:=λx hx=>(E90 h1 hc x).2 (u1.dn x hx)
         exact u3 z (hc i hi hb (λx hx=>hD x (hk x hx)) z hz)
       . rcases h3 with hc | h3
         . exfalso;apply hcu;intro i hi hb hk z hz;have hD:∀ x∈u,x∈t:=λx hx=>(E90 h1 hc x).2 (u1.dn x hx)
           exact u3 z (hc i hi hb (λx hx=>hD x (hk x hx)) z hz)
         . omega
 . obtain ⟨h1,h2,h3⟩:=ht;refine ⟨t,?_,h1,?_,?_⟩
   . have:¬ (((l.length+1:Nat):Int)<=(l.length:Int)):=by omega
     simp only [E5N,this,decide_false,cond_false]
   . rcases h3 with h3 | h3
     . exact h3
     . have:=F38 (keys:=keys) (head:=head) (l:=l) but t
       omega
   . have:(l.length+1)*(l.length*1000)<=7*6000:=aSZ (by omega) (by omega)
     omega
include q in
theorem F2X {i:Nat}(hi:i<l.length):∃ t,E66 (keys,(head,l),(i:Int))=some t∧Lst t (AG.plus l.length (E5S (E4j keys head l)) (E50 (E4j keys head l)) i)∧t.length<=100000:=by
 obtain ⟨ks,e1,k1,k2⟩:=E8A q hi;obtain ⟨t,e2,t1,t2⟩:=E9a q (F1y i) k1.nd (by omega)
 refine ⟨t,?_,t1.aBn λz=>?_,t2⟩
 . unfold E66;simp only [e1,ai,e2]
 . have e:(λz=>z∈ks)=E5S (E4j keys head l) i:=by
    funext x;exact propext (k1.mem x)
   rw [e];exact Iff.rfl
end
end Go.Mid
namespace Go.Mid
section
variable {keys:List (ByteArray×Int)}{head:List ByteArray}{l:List tI}(q:QV keys head l)
end
end Go.Mid
namespace Go.Mid
end Go.Mid
namespace Go.Mid
end Go.Mid
namespace Go.Mid
end Go.Mid
namespace Go.Mid
structure VI (n:Nat)(Q:Int->Prop)(seen:List Bool)(out:List Int):Prop where
 sl:seen.length=n
 nd:out.Nodup
 mem:∀ v:Nat,v<n->(seen[v]?=some true↔(v:Int)∈out)
 yd:∀ v∈out,0<=v∧v<n
 q:∀ v∈out,Q v
 cnt:seen.count true=out.length
theorem VI.le {n:Nat}{Q:Int->Prop}{seen:List Bool}{out:List Int}(h:VI n Q seen out):out.length<=n:=by
 rw [← h.cnt,← h.sl];exact List.count_le_length
theorem VI.add {n:Nat}{Q:Int->Prop}{seen:List Bool}{out:List Int}(h:VI n Q seen out){w:Nat}(hw:w<n)(hs:seen[w]?=some false)(hq:Q w):VI n Q (seen.set w true) (out++[(w:Int)]) where
 sl:=by rw [List.length_set];exact h.sl
 nd:=by
  have:(w:Int)∉out:=λhm=>by
   have:=(h.mem w hw).2 hm
   rw [hs] at this;cases this
  rw [List.nodup_append];refine ⟨h.nd,by simp,?_⟩
  intro a ha b hb e;simp at hb;subst hb;subst e;exact this ha
 mem:=by
  intro v hv;rw [List.getElem?_set];by_cases e:w=v
  . subst e;simp [h.sl,hv]
  . rw [if_neg e,h.mem v hv];simp only [az,aX];constructor
    . exact .inl
    . rintro (h1 | h1)
      . exact h1
      . omega
 yd:=by
  intro v hv;rcases az.1 hv with h1 | h1
  . exact h.yd v h1
  . rw [aX] at h1;subst h1;omega
 q:=by
  intro v hv;rcases az.1 hv with h1 | h1
  . exact h.q v h1
  . rw [aX] at h1;subst h1;exact hq
 cnt:=by
  have eC:w<seen.length:=by rw [h.sl];exact hw
  have hg:seen[w]=false:=by
   rw [ah eC] at hs;exact s8 hs
  rw [List.count_set eC,hg,h.cnt];simp
structure NB (n:Nat)(next:List (List Int)):Prop where
 len:next.length=n
 yd:∀ l∈next,∀ w∈l,0<=w∧w<n
 Rp:∀ l∈next,l.length<=1000
 small:n<=1000
end Go.Mid
namespace Go.Mid
end Go.Mid
namespace Go.Mid
end Go.Mid
namespace Go.Mid
end Go.Mid
namespace Go.Mid
section
variable {keys:List (ByteArray×Int)}{head:List ByteArray}{l:List tI}(q:QV keys head l)
end
end Go.Mid
namespace Go.Mid
theorem F5H {c:E8l}(ok:OkC c)(h4:c.1.length<=4)(hf:F36 c){hd:List ByteArray}(h5:hd.length<=5):Sz (E5p c.1 c.1.length) (E5f c.1 c.1.length) hd (E4P c.1 c.1.length) where
 tb:=λt ht=>by
  unfold E5p at ht;obtain ⟨i,hi,rfl⟩:=bp.1 ht;refine ⟨λr hr=>(by cases hr),?_⟩
  have:aB0.length=4:=rfl
  simp only [aW];omega
 nk:=by rw [E9z];omega
 kr:=λk hk=>by
  unfold E5f at hk;obtain ⟨i,hi,rfl⟩:=bp.1 hk;have hi:=cu.1 hi;have h1:=(ok.1 _ (aM hi)).2;rw [F2j hi] at h1;have hfi:=hf i hi;have hw:cG.wrap (atC c.1 i).2=(atC c.1 i).2:=F1s h1.1 (by omega)
  obtain ⟨m,hm⟩:=eB h1.1;have hp:2 ^ (atC c.1 i).1.length<=2 ^ 4:=Nat.pow_le_pow_right (by omega) hfi
  show 0<=pL cG (cG.wrap (atC c.1 i).2) _∧pL cG (cG.wrap (atC c.1 i).2) _<4294967296;rw [hw,hm,F2f (by unfold w32;omega) (by unfold w32;omega)]
  have:=@Nat.and_le_left m (2 ^ (atC c.1 i).1.length-1)
  omega
 nh:=by omega
 na:=by rw [E8m];omega
 nt:=λa ha=>by
  unfold E4P at ha;obtain ⟨i,hi,rfl⟩:=bp.1 ha
  have:=hf i (cu.1 hi)
  simp only [aB];omega
theorem F1G {keys:List (ByteArray×Int)}{head:List ByteArray}{ats:List tI}(q:QV keys head ats):E6D (keys,head,ats)=some (E4j keys head ats) :=
 F3T keys head ats q.nk q.nh (by have:=q.na;omega) λa ha=>by have:=q.nt a ha;omega
section
variable {aSP:List E4Z}{keys:List (ByteArray×Int)}{head:List ByteArray}{ats:List tI}(z:Sz aSP keys head ats)
include z
end
section
variable {aSP:List E4Z}{keys:List (ByteArray×Int)}{head:List ByteArray}{ats:List tI}(z:Sz aSP keys head ats)
include z
end
end Go.Mid
namespace Go.Mid
theorem F6K (a b:Txt):Pz a b=ltS a b:=rfl
def Fs (a b:Txt):Prop:=Pz b a=false
theorem F6L {a b c:Txt}(h:Fs a b)(k:Fs b c):Fs a c:=by
 unfold Fs at *
 rw [aSQ];intro q;by_cases e:a=b
 . subst e;rw [k] at q;cases q
 . have h1:ltS a b=true:=F4K (λx=>e x.symm) h
   have:=F0G (x:=c) (y:=a) (z:=b) q h1
   rw [← F6K,k] at this;cases this
theorem F6k {a b:Txt}(h:Pz a b=true):Fs a b:=by
 unfold Fs;rw [aSQ];intro q
 have:=F0G (x:=a) (y:=b) (z:=a) h q
 rw [F0c] at this;cases this
theorem F6M {a b:Txt}(h:Fs a b)(e:a≠b):ltS a b=true:=F4K (λx=>e x.symm) h
theorem F6c:∀ {l m:List Txt},l.Pairwise (λa b=>ltS a b=true)->m.Pairwise (λa b=>ltS a b=true)->(∀ x,x∈l↔x∈m)->l=m
 | [],[],_,_,_=>rfl
 | [],b::m,_,_,h=>absurd ((h b).2 (by simp)) (by simp)
 | a::l,[],_,_,h=>absurd ((h a).1 (by simp)) (by simp)
 | a::l,b::m,hl,hm,h=>by
   rw [bN] at hl hm;have Nr:∀ x y:Txt,ltS x y=true->ltS y x=true->False:=λx y p q=>by
    have:=F0G p q
    rw [F0c] at this;cases this
   have uO:a=b:=by
    rcases aG.1 ((h a).1 (by simp)) with e | e
    . exact e
    . rcases aG.1 ((h b).2 (by simp)) with e2 | e2
      . exact e2.symm
      . exact (Nr _ _ (hm.1 a e) (hl.1 b e2)).elim
   subst uO;rw [F6c hl.2 hm.2 λx=>?_]
   have hx:=h x;simp only [aG] at hx;constructor
   . intro p;rcases hx.1 (.inr p) with e | e
     . subst e
       have:=hl.1 x p
       rw [F0c] at this;cases this
     . exact e
   . intro p;rcases hx.2 (.inr p) with e | e
     . subst e
       have:=hm.1 x p
       rw [F0c] at this;cases this
     . exact e
theorem F6l {l:List Txt}(h:l.Pairwise Fs)(hn:l.Nodup):l.Pairwise (λa b=>ltS a b=true) :=
 (List.Pairwise.and h hn).imp λq=>F6M q.1 q.2
theorem F58:∀ {l:fb},SE l->(nb l).Pairwise (λa b=>ltS a b=true)
 | [],_=>.nil
 | p::r,h=>bN.2 ⟨λx hx=>by
    obtain ⟨q,hq,rfl⟩:=bp.1 hx;exact h.2.1 q hq,F58 h.2.2⟩
theorem F6R (A R:List Txt)(x y:Txt):((A++y::x::R).set (A.length+1) y).set A.length x=A++x::y::R:=by
 induction A with
 | nil=>rfl
 | cons a A ih=>simp only [aS,bf,List.set_cons_succ,ih]
theorem F6v (n:Nat)(i:Int)(C:List Txt)(hn:n<=1000000):∀ (m:Nat) (A B:List Txt) (x:Txt),A.length=m->(A++x::(B++C)).length=n->(A++B).Pairwise Fs->(∀ b∈B,Pz x b=true)->
 ∃ A' B',A0d F5T ((n,i,(A.length:Int)),A++x::(B++C))=some ((n,i),A'++x::(B'++C))∧A'++B'=A++B∧(A'++x::B').Pairwise Fs
 | 0,A,B,x,hA,_,hp,hb=>by
   have:A=[]:=bu hA
   subst this;refine ⟨[],B,qc ?_,rfl,?_⟩
   . simp only [F5T,cM,av,gt_iff_lt,ba,decide_false,cond_false]
   . exact bN.2 ⟨λb h=>F6k (hb b h),by simpa using hp⟩
 | m+1,A,B,x,hA,hlen,hp,hb=>by
   obtain ⟨A1,y,rfl⟩:∃ A1 y,A=A1++[y]:=by
    refine ⟨A.dropLast,A.getLast (λe=>by rw [e] at hA;cases hA),?_⟩
    exact (List.dropLast_concat_getLast _).symm
   have hA1:A1.length=m:=by simpa using hA
   have e0:A1++[y]++x::(B++C)=A1++y::x::(B++C):=by simp
   have eC:A1.length+1<n:=by
    rw [e0] at hlen;simp at hlen;omega
   have g1:(A1++y::x::(B++C))[A1.length+1]?=some x:=by
    rw [bG (by omega)]
    simp
   have g0:(A1++y::x::(B++C))[A1.length]?=some y:=by
    rw [bG (by omega)]
    simp
   have hk:((A1++[y]).length:Int)=((A1.length+1:Nat):Int):=by simp
   have hw:ao.wrap (((A1.length+1:Nat):Int)-1)=(A1.length:Int):=by rw [E9S (by omega) (by omega)];omega
   have tK:((A1.length+1:Nat):Int)>0:=by omega
   rw [e0,hk];cases xL:Pz x y with
   | true =>
     obtain ⟨A',B',h1,h2,h3⟩:=F6v n i C hn m A1 (y::B) x hA1 (by rw [← hlen,e0];simp) (by simpa using hp) (λb js=>by
      rcases aG.1 js with rfl | h
      . exact xL
      . exact hb b h)
     refine ⟨A',B',?_,by simpa using h2,h3⟩
     rw [← h1];refine vw ?_;have sB:=F6R A1 (B++C) x y;have g0':((A1++y::x::(B++C)).set (A1.length+1) y)[A1.length]?=some y:=by
      rw [List.getElem?_set_ne (by omega)];exact g0
     simp only [F5T,tK,decide_true,cond_true,aq,ar,lB eC,g1,ai,hw,lB (show A1.length<n by omega),g0,xL,g0',sB,aS]
   | false =>
     refine ⟨A1++[y],B,?_,rfl,?_⟩
     . rw [e0];refine qc ?_;simp only [F5T,tK,decide_true,cond_true,aq,ar,lB eC,g1,ai,hw,lB (show A1.length<n by omega),g0,xL,cond_false]
     . rw [cF] at hp ⊢;obtain ⟨p1,p2,p3⟩:=hp;have hyx:Fs y x:=xL;refine ⟨p1,bN.2 ⟨λb h=>F6k (hb b h),p2⟩,λa ha b js=>?_⟩
       rcases aG.1 js with rfl | js
       . rcases az.1 ha with ha | ha
         . have:=(cF.1 p1).2.2 a ha y (by simp)
           exact F6L this hyx
         . rw [aX] at ha;subst ha;exact hyx
       . exact p3 a ha b js
theorem F6w (l:List Txt)(hl:l.length<=1000000):∃ r,F50 l=some r∧r.Perm l∧r.Pairwise Fs:=by
 have key:=V4 (f:=F5X) (S:=List Txt) l.length (λi s=>((l.length,(i:Int)),s)) (λi s=>s.Perm l∧∃ P R,s=P++R∧P.length=i∧P.Pairwise Fs)
  (λb=>∃ r,b=(l.length,r)∧r.Perm l∧r.Pairwise Fs) l ⟨.refl _,[],l,rfl,rfl,.nil⟩ (λi s hi hs=>?_) (λs hs=>?_)
 . obtain ⟨b,h1,r,rfl,h2,h3⟩:=key;refine ⟨r,?_,h2,h3⟩;unfold F50;simp only [jE (ay 0),cond_true,gH,a7,bS,jE (show l.length*16<=140737488355328 by omega)]
   refine (congrArg (λo=>bc o _) h1).trans ?_
   simp only [ai,h2.length_eq,jE (ay _),cond_true];rw [a6 (by rw [h2.length_eq];exact ay _)]
 . left;obtain ⟨h1,P,R,rfl,h2,h3⟩:=hs;have hi':(i:Int)<(l.length:Int):=by omega
   cases R with
   | nil =>
     have:=h1.length_eq
     simp at this;omega
   | cons x R =>
     obtain ⟨A',B',e,k1,k2⟩:=F6v l.length (i:Int) R hl P.length P [] x rfl (by rw [← h1.length_eq];rfl) (by simpa using h3) (λb hb=>by cases hb)
     refine ⟨A'++x::(B'++R),?_,?_,A'++x::B',R,by simp,?_,k2⟩
     . simp only [F5X,hi',decide_true,cond_true];have e:A0d F5T ((l.length,(i:Int),(i:Int)),P++x::R)=some ((l.length,(i:Int)),A'++x::(B'++R)):=by
        rw [← h2];rw [h2];rw [h2] at e;exact e
       refine (congrArg (λo=>bc o _) e).trans ?_
       simp only [ai,iQ (show i<9223372036854775807 by omega)]
     . refine List.Perm.trans ?_ h1;have hAB:A'++B'=P:=by rw [k1,bD]
       have p1:(A'++x::(B'++R)).Perm (x::(A'++(B'++R))):=vc;have p2:(P++x::R).Perm (x::(P++R)):=vc;refine p1.trans (List.Perm.trans ?_ p2.symm);rw [← List.append_assoc,hAB]
     . have:=congrArg List.length k1
       simp at this ⊢;omega
 . obtain ⟨h1,P,R,rfl,h2,h3⟩:=hs;refine ⟨_,?_,P++R,rfl,h1,?_⟩
   . simp only [F5X,ba,decide_false,cond_false]
   . have:=h1.length_eq
     rw [aR] at this
     have:R=[]:=bu (by omega)
     rw [this,bD];exact h3
theorem F6m {α:Type} [DecidableEq α]:∀ {l m:List α},l.Nodup->(∀ x∈l,x∈m)->l.length<=m.length
 | [],_,_,_=>dg _
 | a::l,m,h,hs=>by
   have h':=List.nodup_cons.1 h;have JL:=hs a (by simp)
   have:=F6m (l:=l) (m:=m.erase a) h'.2 λx hx=>by
    have hne:x≠a:=λe=>h'.1 (e ▸ hx)
    exact (List.mem_erase_of_ne hne).2 (hs x (bC _ hx))
   rw [List.length_erase_of_mem JL] at this
   have:=List.length_pos_of_mem JL
   simp only [bf];omega
theorem F6n (w:fb):∀ (r:fb) (a:List Txt),(a.length+r.length)*16<=140737488355328->E5D Mk r (a.length,a)=some (.inl ((a++nb r).length,a++nb r))
 | [],a,_=>by simp [E5D,nb]
 | p::r,a,h=>by
   have h1:Mk p (a.length,a)=some (.inl ((a++[p.1]).length,a++[p.1])):=by
    simp only [bf] at h;simp only [Mk,jE (ay _),jE (show (a.length+1)*16<=140737488355328 by omega),cond_true,pN,aR,bf,cM]
   have h2:E5D Mk (p::r) (a.length,a)=E5D (B:=PUnit) Mk r ((a++[p.1]).length,a++[p.1]):=by
    simp only [E5D];exact congrArg (λo=>bc o (λz=>bT (λb=>E5D Mk r b) (λc=>some (Sum.inr c)) z)) h1
   rw [h2,F6n w r (a++[p.1]) (by simp only [aR,bf,cM] at h ⊢;omega)]
   simp [nb]
theorem F6N {l m:fb}(h:l.Perm m):(nb l).Perm (nb m):=h.map _
theorem F6F {v l:fb}(hv:SE v)(h:l.Perm v):F10 (nb l)=nb v:=by
 have aRu:=F58 hv;have hnd:(nb v).Nodup:=aRu.imp λq e=>by
  subst e;rw [F0c] at q;cases q
 have hp:(F10 (nb l)).Perm (nb v):=(F55 _).trans (F6N h);refine F6c (F6l ((F56 _).imp λq=>q) (hp.nodup_iff.2 hnd)) aRu λx=>hp.mem_iff
theorem F6S {v:fb}(hv:SE v)(hl:v.length<=1000000):(E7F v λw=>(E5D Mk w (0,[])).bind λp=>bT (λq=>(F5U (q.1,q.2)).bind λr=>some ((q.1,(0:Int)),r)) (λs=>none) p)=some ((v.length,0),nb v):=by
 rw [E7U];intro l hp;have hf:=F6n l l [] (by have:=hp.length_eq;simp;omega)
 simp only [cM,a7] at hf;have hk:(nb l).length=v.length:=by simp [nb,hp.length_eq]
 rw [hf];simp only [ai,vh];have hs:F5U ((nb l).length,nb l)=some (nb v):=by
  unfold F5U;have hso:=F6F hv hp;simp only [jE (ay _),pN,cond_true,hso,lB (show (nb l).length<4611686018427387904 by omega)]
  unfold A1x;simp only;rw [List.drop_of_length_le (by simp [nb,hp.length_eq]),bD]
 rw [hs,hk];rfl
theorem F6x (l:List Txt)(hl:l.length<=1000000):F5Z (l,l)=some true:=by
 unfold F5Z F52;simp only [bne_self_eq_false,cond_false]
 have:=wo (f:=F5W) l (λi=>(l,l,(i:Int))) (λ_=>false) (.inl false) (.inr ()) (λi hi=>by
  have hi':(i:Int)<l.length:=by omega
  simp only [F5W,hi',decide_true,cond_true,aq,ar,ah hi,ai,show Lv l[i] l[i]=true from E5z.2 rfl,bO,cond_false,iQ (show i<9223372036854775807 by omega)]
  simp) (by
  simp only [F5W,ba,decide_false,cond_false])
 simp only [av] at this;rw [this];simp
section
variable {aSP:List E4Z}{keys:List (ByteArray×Int)}{head:List ByteArray}{ats:List tI}(z:Sz aSP keys head ats)
include z
theorem F6O (i:Int):∃ w:List ByteArray×Int,F53 (aSP,keys,(head,ats),i)=some w∧F51 (aSP,keys,(head,ats),i)=some w∧w.1.length<=1000000∧(E7w aSP keys head ats≠0->w=([],E7w aSP keys head ats)):=by
 unfold F53 F51;simp only [F0N z,E9M z,ai];by_cases h:E7w aSP keys head ats=0
 . have q:=F2T z h;have hna:=q.na;simp only [h,bne_self_eq_false,cond_false];by_cases h1:i<0
   . simp only [h1,decide_true,cond_true,show cQ 0 0=true from rfl,gH];exact ⟨_,rfl,rfl,by simp,λe=>(e rfl).elim⟩
   by_cases h2:i ≥ (ats.length:Int)
   . simp only [h1,h2,decide_true,decide_false,cond_true,cond_false,show cQ 0 0=true from rfl,gH];exact ⟨_,rfl,rfl,by simp,λe=>(e rfl).elim⟩
   obtain ⟨a,rfl⟩:=eB (show 0<=i by omega)
   have ha:a<ats.length:=by omega
   have hL:=E79 (keys:=keys) (head:=head) (l:=ats);have haL:a<(E4j keys head ats).length:=by rw [hL];exact ha
   obtain ⟨s,e1,s1,s2⟩:=F4S (l:=E4j keys head ats) (by omega) haL
   obtain ⟨t,e2,t1,t2⟩:=F2X q ha;have hlen:s.length<=1000000:=by
    have hnd:(nb s).Nodup:=(F58 s1).imp λq e=>by
     subst e;rw [F0c] at q;cases q
    have dK:∀ x∈nb s,x∈t:=λx hx=>(t1.mem x).2 (by have:=(s2 x).1 hx;rw [hL] at this;exact this)
    have:(nb s).length<=t.length:=by
     classical
     exact F6m hnd dK
    simp [nb] at this;omega
   obtain ⟨r,e3,r1,r2⟩:=F6w t (by omega)
   have hr:r=nb s:=F6c (F6l r2 (r1.nodup_iff.2 t1.nd)) (F58 s1) λx=>by
    rw [r1.mem_iff,t1.mem,s2,hL]
   subst hr;refine ⟨(nb s,0),?_,?_,by simpa [nb] using hlen,λe=>(e rfl).elim⟩
   . simp only [h1,h2,decide_false,cond_false,F1G q,ai,aq,decide_true,cond_true,ar,ah haL,e1];refine (congrArg (λo=>bc o _) (F6S s1 hlen)).trans ?_
     have:s.length<=(nb s).length:=by simp [nb]
     simp only [ai,jE this,cond_true];rw [a6 (by simp [nb])]
   . simp only [h1,h2,decide_false,cond_false,e2,e3,ai]
 . simp only [bne_iff_ne.2 h,cond_true,show cQ 0 0=true from rfl,gH];exact ⟨_,rfl,rfl,by simp,λ_=>rfl⟩
end
theorem F63 {c:E8l}(ok:OkC c)(i:Int):F5Y (c,i)=some true:=by
 unfold F5Y;rcases F5F ok with ⟨r,e,hr⟩ | ⟨h1,h4,hf,hd,e,hn,h5,hs⟩
 . simp only [e,ai,hr,bO,auI,cond_true,cond_false]
 . have z:=F5H ok h4 hf h5;obtain ⟨w,w1,w2,w3,_⟩:=F6O z i;simp only [e,ai,bO,cond_false,w1,w2,beq_self_eq_true,cond_true,F6x _ w3]
end Go.Mid
