/- Chapter 49: the program's closure and links as the abstract ones. -/
import Derived.Test.YtdohjmmogbefmaaGreatP1
import Derived.Test.YtdohjmmogbefmaaGreatM9
import Derived.Test.YtdohjmmogbefmaaGreatT2
set_option linter.unusedSimpArgs false
set_option linter.unusedVariables false
open Bool renaming and_eq_true → aj, not_eq_true' → ed, eq_false_iff → aSQ, not_true → bO, not_false → auI
open ByteArray renaming mk → ir
open Classical renaming not_forall → vb, not_imp → aSS
open Go.IntKind renaming u32 → cG, i64 → ao
open Int renaming natCast_nonneg → aq, toNat_natCast → ar, lt_irrefl → ba, natCast_zero → av, eq_ofNat_of_zero_le → eB, le_refl → lu
open List renaming getElem?_eq_some_iff → aJ, getElem?_eq_getElem → ah, any_eq_true → fV, getElem_mem → aM, mem_map → bp, nodup_nil → gV, length_append → aR, length_cons → bf, length_nil → cM, length_take → aW, getElem_of_mem → pd, range → bA, map_append → b9, take_of_length_le → a6, map → fp, map_id → wR, range_succ → jO, nil_append → a7, take → aP, take_take → sV, length_map → aB, mem_append → az, mem_singleton → aX, mem_range → cu, mem_cons_of_mem → bC, filter_cons_of_neg → lb, filter_cons_of_pos → iv, mem_cons_self → dS, mem_cons → aG, length_filter_le → dt, getElem?_set → dD, length_set → iy, replicate → au, getElem?_replicate → jY, getElem?_append_right → bG, pairwise_cons → bN, cons_append → aS, length_drop → cm, set_set → nK, length_replicate → fZ, prefix_refl → aBM, ext_getElem? → fy, getElem?_eq_none → bJ, mem_filter → cZ
open Nat renaming lt_succ_iff_lt_or_eq → mV, le_refl → ay, le_trans → dF, add_zero → dG, le_of_lt → fH, zero_add → bS, beq → iI, min_self → aBG, ble → cQ, add_le_add_left → aBx, mul_le_mul_right → iY, le_succ → au6, succ_mul → du, zero_le → dg, mul_le_mul → aSZ, sub_self → gx, ble_eq_true_of_le → auP, add_assoc → bV
open Option renaming bind_some → ai, bind → bc
open Option.some renaming injEq → aa, inj → s8
open Sum renaming elim_inl → vh, elim_inr → lS
namespace Go.Mid
def E5S (l:List (fb×fb))(i:Nat)(z:Txt):Prop:=∃ a,l[i]?=some a∧z∈nb a.1
def E50 (l:List (fb×fb))(i:Nat)(z:Txt):Prop:=∃ a,l[i]?=some a∧z∈nb a.2
theorem F4j {α:Type}{l:List α}{i:Nat}{a:α}(h:l[i]?=some a):i<l.length:=(aJ.1 h).1
theorem F5B {l:List (fb×fb)}{v:fb}{but:Int}{o:Option Nat}(ho:∀ j:Nat,(j:Int)≠but↔some j≠o){z:Txt}:Cl l v but z↔AG.D l.length (E5S l) (E50 l) o (λz=>z∈nb v) z:=by
 constructor
 . intro h
   induction h with
   | base h=>exact .base h
   | step i a hi hb hk hz ih=>exact .step i (F4j hi) ((ho i).1 hb) (λx ⟨a',h1,h2⟩=>by rw [hi,aa] at h1;subst h1;exact ih x h2) ⟨a,hi,hz⟩
 . intro h
   induction h with
   | base h=>exact .base h
   | step j hj hb hk hz ih =>
     obtain ⟨a,h1,h2⟩:=hz;exact .step j a h1 ((ho j).2 hb) (λx hx=>ih x ⟨a,h1,hx⟩) h2
theorem F1y (i:Nat):∀ j:Nat,(j:Int)≠(i:Int)↔some j≠some i:=λj=>by
 rw [ne_eq,ne_eq,aa];omega
theorem F1z:∀ j:Nat,(j:Int)≠(-1:Int)↔some j≠(none:Option Nat):=λj=>⟨λ_ h=>(by cases h),λ_ h=>(by omega)⟩
theorem F4S {l:List (fb×fb)}(hL:l.length<1000000){i:Nat}(hi:i<l.length):∃ s,E52 (l,l[i].1,(i:Int))=some s∧SE s∧∀ z,z∈nb s↔AG.plus l.length (E5S l) (E50 l) i z:=by
 obtain ⟨s,h1,h2,h3⟩:=F0i (L:=l) (v:=l[i].1) (but:=(i:Int)) hL;refine ⟨s,h1,h2,λz=>?_⟩
 rw [h3,F5B (F1y i)];have e:(λz=>z∈nb l[i].1)=E5S l i:=by
  funext x;apply propext;constructor
  . intro h;exact ⟨l[i],by simp [hi],h⟩
  . rintro ⟨a,h1,h2⟩;rw [ah hi,aa] at h1;subst h1;exact h2
 rw [e];exact Iff.rfl
theorem F2S {l:List (fb×fb)}{a b:Nat}(ha:a<l.length)(hb:b<l.length)(ok:∀ s∈l,SE s.2){o:fb}(ho:SE o) :
 ∃ t,E6i (l[a],l[b],o)=some t∧(t=true↔∃ x,E50 l a x∧E50 l b x∧x∉nb o):=by
 refine ⟨_,E9v _ _ _,?_⟩;rw [fV];have aGm:=ok l[b] (aM hb);constructor
 . rintro ⟨p,hp,h⟩;simp only [aj,ed] at h;refine ⟨p.1,⟨l[a],by simp [ha],List.mem_map_of_mem hp⟩,⟨l[b],by simp [hb],(E7J aGm).1 h.1⟩,λhx=>?_⟩
   have:=(E7J ho).2 hx
   rw [h.2] at this;cases this
 . rintro ⟨x,⟨s,h1,h2⟩,⟨t,h3,h4⟩,h5⟩;rw [ah ha,aa] at h1;rw [ah hb,aa] at h3;subst h1;subst h3;obtain ⟨p,hp,rfl⟩:=bp.1 h2;refine ⟨p,hp,?_⟩;simp only [aj,ed];refine ⟨(E7J aGm).2 h4,?_⟩;rw [aSQ];exact λh=>h5 ((E7J ho).1 h)
end Go.Mid
namespace Go.Mid
def E9w (head:List ByteArray)(k:Int)(ts:List E5b)(n:Nat)(z:ByteArray):Prop:=∃ j u,j<n∧ts[j]?=some u∧u.1=z∧z≠{ data:=#[] }∧z∉head∧E7K k j=true
theorem F0K {head:List ByteArray}{k:Int}{ts:List E5b}{n:Nat}{u:E5b}(hu:ts[n]?=some u)(z:ByteArray):E9w head k ts (n+1) z↔(E9w head k ts n z∨(z=u.1∧u.1≠{ data:=#[] }∧u.1∉head∧E7K k n=true)):=by
 constructor
 . rintro ⟨j,v,hj,h1,rfl,h2⟩;rcases mV.1 hj with hj | rfl
   . exact .inl ⟨j,v,hj,h1,rfl,h2⟩
   . rw [hu,aa] at h1;subst h1;exact .inr ⟨rfl,h2⟩
 . rintro (⟨j,v,hj,h1⟩ | ⟨rfl,h1⟩)
   . exact ⟨j,v,by omega,h1⟩
   . exact ⟨n,u,by omega,hu,rfl,h1⟩
theorem F4T (k:Int)(j:Nat)(hj:j<32):Qz (k,(j:Int))=some (E7K k j):=by
 unfold Qz E7K;simp only [ge_iff_le,aq,decide_true,cond_true,show ((j:Int)<32) by omega]
structure QV (keys:List (ByteArray×Int))(head:List ByteArray)(ats:List tI):Prop where
 nk:keys.length<=1000000
 nh:head.length<=1000000
 na:ats.length<=6
 nt:∀ a∈ats,a.2.length<=16
 fk:∀ a∈ats,(keys.findIdx? λp=>Lv p.1 a.1).isSome=true
theorem F5C {keys:List (ByteArray×Int)}{head:List ByteArray}{l:List tI}(q:QV keys head l){i:Nat}(hi:i<l.length) :
 ∃ s,E5d (keys,(head,l),(i:Int))=some s∧Lst s (E9w head (E5O keys l[i].1).1 l[i].2 l[i].2.length)∧s.length<=16:=by
 have ha:l[i]∈l:=aM hi;have Aj:=q.nt _ ha;have hnk:=q.nk;have hnh:=q.nh;obtain ⟨m,hm⟩:=Option.isSome_iff_exists.1 (q.fk _ ha);have hml:m<keys.length:=by
  have:=List.findIdx?_eq_some_iff_findIdx_eq.1 hm
  omega
 have awg:(E5O keys l[i].1).1=keys[m].2:=by
  unfold E5O;rw [hm];simp only [ah hml,Option.getD_some]
 rw [awg];have key:=V4 (f:=E42) (S:=List ByteArray) l[i].2.length (λk s=>(((i:Int),keys[m].2,s.length,(k:Int)),(head,l),s)) (λk s=>Lst s (E9w head keys[m].2 l[i].2 k)∧s.length<=k)
  (λr=>∃ s,r=(s.length,s)∧Lst s (E9w head keys[m].2 l[i].2 l[i].2.length)∧s.length<=l[i].2.length) [] ⟨⟨gV,λz=>by simp [E9w]⟩,by simp⟩ (λk s hk hs=>?_) (λs hs=>?_)
 . obtain ⟨r,h1,s,rfl,h3,h4⟩:=key;refine ⟨s,?_,h3,by omega⟩
   unfold E5d;have hf:=F2e keys l[i].1 (by omega)
   rw [hm] at hf;simp only [aq,decide_true,cond_true,ar,ah hi,ai,hf,ah hml];refine (congrArg (λo=>bc o _) h1).trans ?_
   simp only [ai,jE (ay _),cond_true,pN]
 . left;obtain ⟨h1,h2⟩:=hs;have nq:(k:Int)<l[i].2.length:=by omega
   have hu:l[i].2[k]?=some l[i].2[k]:=ah hk;have hb:=F4T keys[m].2 k (by omega)
   have hha:=E7T head l[i].2[k].1 (by omega)
   have hhs:=E7T s l[i].2[k].1 (by omega)
   have skip:¬ (l[i].2[k].1≠{ data:=#[] }∧l[i].2[k].1∉head∧E7K keys[m].2 k=true)∨l[i].2[k].1∈s->Lst s (E9w head keys[m].2 l[i].2 (k+1)):=λhn=>h1.aBn λz=>by
    rw [F0K hu];refine ⟨.inl,λw=>w.elim id ?_⟩
    rintro ⟨rfl,w2⟩;rcases hn with hn | hn
    . exact (hn w2).elim
    . exact (h1.mem _).1 hn
   cases XX:E7K keys[m].2 k with
   | false =>
     refine ⟨s,?_,skip (.inl λw=>by rw [w.2.2] at XX;cases XX),by omega⟩
     simp only [E42,aq,decide_true,cond_true,ar,ah hi,ai,nq,hu,hb,XX,cond_false,iQ (show k<9223372036854775807 by omega)]
   | true =>
     by_cases he:l[i].2[k].1={ data:=#[] }
     . refine ⟨s,?_,skip (.inl λw=>w.1 he),by omega⟩
       simp only [E42,aq,decide_true,cond_true,ar,ah hi,ai,nq,hu,hb,XX,show Lv l[i].2[k].1 { data:=#[] }=true from E5z.2 he,bO,cond_false,iQ (show k<9223372036854775807 by omega)]
     . have hne:Lv l[i].2[k].1 { data:=#[] }=false:=aSQ.2 λe=>he (E5z.1 e)
       cases hh:E4Y head l[i].2[k].1 with
       | true =>
         refine ⟨s,?_,skip (.inl λw=>w.2.1 (E5Q.1 hh)),by omega⟩
         simp only [E42,aq,decide_true,cond_true,ar,ah hi,ai,nq,hu,hb,XX,hne,auI,hha,hh,bO,cond_false,iQ (show k<9223372036854775807 by omega)]
       | false =>
         have hn:l[i].2[k].1∉head:=λw=>by rw [E5Q.2 w] at hh;cases hh
         cases hss:E4Y s l[i].2[k].1 with
         | true =>
           refine ⟨s,?_,skip (.inr (E5Q.1 hss)),by omega⟩
           simp only [E42,aq,decide_true,cond_true,ar,ah hi,ai,nq,hu,hb,XX,hne,auI,hha,hh,jE (ay _),pN,hhs,hss,bO,cond_false,iQ (show k<9223372036854775807 by omega)]
         | false =>
           refine ⟨s++[l[i].2[k].1],?_,(h1.snoc hss).aBn λz=>?_,by simp;omega⟩
           . simp only [E42,aq,decide_true,cond_true,ar,ah hi,ai,nq,hu,hb,XX,hne,auI,hha,hh,jE (ay _),pN,hhs,hss,jE (show (s.length+1)*16<=140737488355328 by omega),iQ (show k<9223372036854775807 by omega),aR,bf,cM]
           . rw [F0K hu];exact ⟨λw=>w.elim .inl λw=>.inr ⟨w,he,hn,XX⟩,λw=>w.elim .inl λw=>.inr w.1⟩
 . refine ⟨_,?_,s,rfl,hs⟩;simp only [E42,aq,decide_true,cond_true,ar,ah hi,ai,ba,decide_false,cond_false]
def E4j (keys:List (ByteArray×Int))(head:List ByteArray)(ats:List tI):List (fb×fb):=ats.map (E6K keys head)
theorem F0L {keys:List (ByteArray×Int)}{head:List ByteArray}{l:List tI}{i:Nat}(hi:i<l.length):(E4j keys head l)[i]?=some (E6K keys head l[i]):=by
 unfold E4j;rw [List.getElem?_map,ah hi];rfl
theorem F30 {keys:List (ByteArray×Int)}{head:List ByteArray}{l:List tI}{i:Nat}(hi:i<l.length)(z:ByteArray):E5S (E4j keys head l) i z↔E9w head (E5O keys l[i].1).1 l[i].2 l[i].2.length z:=by
 have h:=(E9V keys head l[i]).GG z;unfold E5S;rw [F0L hi];constructor
 . rintro ⟨a,e,hz⟩;rw [aa] at e;subst e;exact h.1 hz
 . exact λhz=>⟨_,rfl,h.2 hz⟩
theorem F31 {keys:List (ByteArray×Int)}{head:List ByteArray}{l:List tI}{i:Nat}(hi:i<l.length)(z:ByteArray):E50 (E4j keys head l) i z↔(occ l[i].2 l[i].2.length z∧z∉head):=by
 have h:=(E9V keys head l[i]).aEE z;unfold E50;rw [F0L hi];constructor
 . rintro ⟨a,e,hz⟩;rw [aa] at e;subst e;obtain ⟨j,u,h1,h2,h3,h4,h5⟩:=h.1 hz;exact ⟨⟨h4,j,u,h1,h2,h3⟩,h5⟩
 . rintro ⟨⟨h4,j,u,h1,h2,h3⟩,h5⟩;exact ⟨_,rfl,h.2 ⟨j,u,h1,h2,h3,h4,h5⟩⟩
theorem E79 {keys:List (ByteArray×Int)}{head:List ByteArray}{l:List tI}:(E4j keys head l).length=l.length:=by simp [E4j]
theorem E8A {keys:List (ByteArray×Int)}{head:List ByteArray}{l:List tI}(q:QV keys head l){i:Nat}(hi:i<l.length) :
 ∃ s,E5d (keys,(head,l),(i:Int))=some s∧Lst s (E5S (E4j keys head l) i)∧s.length<=16:=by
 obtain ⟨s,h1,h2,h3⟩:=F5C q hi;exact ⟨s,h1,h2.aBn λz=>(F30 hi z).symm,h3⟩
theorem E85 {keys:List (ByteArray×Int)}{head:List ByteArray}{l:List tI}(q:QV keys head l){i:Nat}(hi:i<l.length) :
 ∃ s,E5h ((head,l),(i:Int))=some s∧Lst s (E50 (E4j keys head l) i)∧s.length<=1000:=by
 have:=q.na
 obtain ⟨s,h1,h2,h3⟩:=F4P (head:=head) hi (by omega) q.nh (λa ha=>dF (q.nt a ha) (by omega))
 exact ⟨s,h1,h2.aBn λz=>(F31 hi z).symm,h3⟩
end Go.Mid
namespace Go.Mid
theorem F3A (l:List E4Z)(a:ByteArray)(hl:l.length<=1000000):E7R (l,a)=some (match l.find? (λt=>Lv t.1 a) with | some t=>(t,true) | none=>((⟨#[]⟩,[],[]),false)):=by
 unfold E7R E4G
 have:=Ma (f:=E4r) l (λi=>(l,a,(l.length:Int),(i:Int))) (λ_ t=>Lv t.1 a) (λi=>.inl (i:Int)) (.inr ()) (λi hi=>by
  have hi':(i:Int)<l.length:=by omega
  simp only [E4r,E7W,hi',decide_true,cond_true,aq,ar,ah hi,ai,iQ (show i<9223372036854775807 by omega)]
  cases Lv l[i].1 a<;>rfl) (by
  simp only [E4r,ba,decide_false,cond_false])
 simp only [av] at this;rw [this,D86,E9s];cases hx:E6S l a with
 | none=>unfold E6S at hx;rw [hx];rfl
 | some k =>
   have hk:=F0v hx;unfold E6S at hx;have n1:¬ ((k:Int)<0):=by omega
   rw [hx];simp only [Option.map_some,dG,ai,vh,n1,decide_false,cond_false,aq,decide_true,cond_true,ar,ah hk]
theorem F32 {k:Int}(h0:0<=k)(h1:k<4294967296){n:Nat}(hn:n<=16):(pL cG k ((2 ^ n-1:Nat):Int)==k)=(jK cG k (n:Int)==0):=by
 obtain ⟨m,rfl⟩:=eB h0;have hm:m<w32:=by unfold w32;omega
 have hp:=F1t (show n<=32 by omega)
 have tK:0<2 ^ n:=Nat.two_pow_pos n;rw [F2f hm (by omega),F4M (by omega),Nat.and_two_pow_sub_one_eq_mod,Nat.shiftRight_eq_div_pow,Bool.eq_iff_iff,beq_iff_eq,beq_iff_eq]
 constructor
 . intro h;have h:m%2 ^ n=m:=by omega
   have:m<2 ^ n:=by rw [← h];exact Nat.mod_lt _ tK
   rw [Nat.div_eq_of_lt this];rfl
 . intro h;have h:m / 2 ^ n=0:=by omega
   have:m<2 ^ n:=by
    rcases Nat.div_eq_zero_iff.1 h with h | h
    . omega
    . exact h
   rw [Nat.mod_eq_of_lt this]
def E8I (aSP:List E4Z)(keys:List (ByteArray×Int))(i:Nat)(k:ByteArray×Int):Int:=match aSP.find? (λt=>Lv t.1 k.1) with
 | none=>4
 | some t=>bif jK cG k.2 (t.2.1.length:Int)==0 then (bif (E5O (keys.take i) k.1).2 then 5 else 0) else 1
theorem F0j (keys:List (ByteArray×Int))(a:ByteArray):(E5O keys a).2=(keys.findIdx? λp=>Lv p.1 a).isSome:=by
 unfold E5O;cases keys.findIdx? (λp=>Lv p.1 a)<;>rfl
theorem F0M (keys:List (ByteArray×Int))(a:ByteArray)(hl:keys.length<=9223372036854775807):∃ r,E5g (keys,a)=some r∧decide (r ≥ 0)=(E5O keys a).2∧decide (r<0)=!(E5O keys a).2:=by
 refine ⟨_,F2e keys a hl,?_,?_⟩<;>rw [F0j]<;>cases keys.findIdx? (λb=>Lv b.1 a) with
 | none=>rfl
 | some i=>simp
def E9x (ats:List tI)(i:Nat)(a:tI):Int:=bif (ats.take i).any (λb=>Lv b.1 a.1) then 14 else 0
def F0w (keys:List (ByteArray×Int))(_:Nat)(a:tI):Int:=bif (E5O keys a.1).2 then 0 else 4
def E7w (aSP:List E4Z)(keys:List (ByteArray×Int))(head:List ByteArray)(ats:List tI):Int :=
 if E7g aSP head ats=0 then (if E4I (E8I aSP keys) keys 0=0 then (if E4I (E9x ats) ats 0=0 then E4I (F0w keys) ats 0 else E4I (E9x ats) ats 0) else E4I (E8I aSP keys) keys 0) else E7g aSP head ats
theorem E9y {aSP:List E4Z}{head:List ByteArray}{ats:List tI}(h:E7g aSP head ats=0):dbE aSP=0:=by
 unfold E7g at h;split at h
 . assumption
 . rename_i h0;exact (h0 h).elim
section
variable {aSP:List E4Z}{keys:List (ByteArray×Int)}{head:List ByteArray}{ats:List tI}(z:Sz aSP keys head ats)
theorem F3B (nk:keys.length<=1000000)(hdb:dbE aSP=0):E7S (aSP,keys)=some (E4I (E8I aSP keys) keys 0):=by
 have hl:=E8P hdb;unfold E7S
 have:=E5R (f:=E6Z) keys (λi=>((keys,keys,(keys.length:Int),(i:Int)),aSP)) (E8I aSP keys) .inl (.inr ()) (λi hi=>by
  have hi':(i:Int)<keys.length:=by omega
  rw [E6P];simp only [E6Z,hi',decide_true,cond_true,aq,ar,ah hi,ai,F3A aSP _ (show aSP.length<=1000000 by omega),jE (fH hi),F1r (keys.take i) keys[i].1 (by rw [aW];omega),iQ (show i<9223372036854775807 by omega),E8I]
  cases aSP.find? (λt=>Lv t.1 keys[i].1) with
  | none=>rfl
  | some t =>
    simp only [bO,cond_false,bne];cases jK cG keys[i].2 (t.2.1.length:Int)==0<;>cases (E5O (keys.take i) keys[i].1).2<;>rfl) (by
  simp only [E6Z,ba,decide_false,cond_false])
 simp only [av] at this;rw [this,ai];split
 . rename_i h0;rw [h0];rfl
 . rfl
theorem F33 (nk:keys.length<=1000000)(kr:∀ k∈keys,0<=k.2∧k.2<4294967296)(hdb:dbE aSP=0):E64 (aSP,keys)=some (E4I (E8I aSP keys) keys 0):=by
 have hl:=E8P hdb;unfold E64
 have:=E5R (f:=E6w) keys (λi=>((keys,(i:Int)),aSP)) (E8I aSP keys) .inl (.inr ()) (λi hi=>by
  have hi':(i:Int)<keys.length:=by omega
  obtain ⟨r,hr,Iw,_⟩:=F0M (keys.take i) keys[i].1 (by rw [aW];omega)
  rw [E6P];simp only [E6w,hi',decide_true,cond_true,aq,ar,ah hi,ai,E9p aSP _ (show aSP.length<=1000000 by omega),jE (fH hi),hr,Iw,iQ (show i<9223372036854775807 by omega),E8I,E9s]
  cases hx:E6S aSP keys[i].1 with
  | none=>rfl
  | some k =>
    have hk:=F0v hx;have n1:¬ ((k:Int)<0):=by omega
    have h16:=(E9q (F0u hdb (aM hk))).2;have hkr:=kr _ (aM hi);simp only [E9o,n1,decide_false,cond_false,aq,decide_true,cond_true,ar,ah hk,ai,F2g (show aSP[k].2.1.length<32 by omega),E7Y,F32 hkr.1 hkr.2 h16]
    cases jK cG keys[i].2 (aSP[k].2.1.length:Int)==0<;>cases (E5O (keys.take i) keys[i].1).2<;>rfl) (by
  simp only [E6w,ba,decide_false,cond_false])
 simp only [av] at this;rw [this,ai];split
 . rename_i h0;rw [h0];rfl
 . rfl
theorem F4U (l:List tI)(a:tI)(hl:l.length<=1000):E4t (l,a)=some (l.any λb=>Lv b.1 a.1):=by
 unfold E4t E4H
 have:=Ma (f:=E4s) l (λi=>(l,a,(l.length:Int),(i:Int))) (λ_ b=>Lv b.1 a.1) (λi=>.inl (i:Int)) (.inr ()) (λi hi=>by
  have hi':(i:Int)<l.length:=by omega
  simp only [E4s,E7X,hi',decide_true,cond_true,aq,ar,ah hi,ai,iQ (show i<9223372036854775807 by omega)]
  cases Lv l[i].1 a.1<;>rfl) (by
  simp only [E4s,ba,decide_false,cond_false])
 simp only [av] at this;rw [this,← Qm (λb:tI=>Lv b.1 a.1) l 0]
 cases tm (λ_ (b:tI)=>Lv b.1 a.1) l 0 with
 | none=>rfl
 | some i=>simp
include z
theorem F0N:E7e (aSP,keys,head,ats)=some (E7w aSP keys head ats):=by
 have hna:=z.na;have hnk:=z.nk;unfold E7e E7w;simp only [F3y z,ai];by_cases h0:E7g aSP head ats=0
 . have hdb:=E9y h0;rw [if_pos h0];simp only [h0,bne_self_eq_false,cond_false,F3B z.nk hdb,ai];by_cases h1:E4I (E8I aSP keys) keys 0=0
   . rw [if_pos h1];simp only [h1,bne_self_eq_false,cond_false]
     have:=E5R (f:=E60) ats (λi=>((keys,ats,(ats.length:Int),(i:Int)),(head,ats))) (E9x ats) .inl (.inr (keys,(head,ats))) (λi hi=>by
      have hi':(i:Int)<ats.length:=by omega
      rw [E6P];simp only [E60,hi',decide_true,cond_true,aq,ar,ah hi,ai,jE (fH hi),F4U (ats.take i) ats[i] (by rw [aW];omega),iQ (show i<9223372036854775807 by omega),E9x]
      cases (ats.take i).any (λb=>Lv b.1 ats[i].1)<;>rfl) (by
      simp only [E60,ba,decide_false,cond_false])
     simp only [av] at this;simp only [this,ai];by_cases h2:E4I (E9x ats) ats 0=0
     . rw [if_pos h2,if_pos h2]
       have:=E5R (f:=E61) ats (λi=>(keys,ats,(ats.length:Int),(i:Int))) (F0w keys) .inl (.inr ()) (λi hi=>by
        have hi':(i:Int)<ats.length:=by omega
        rw [E6P];simp only [E61,hi',decide_true,cond_true,aq,ar,ah hi,ai,F1r keys ats[i].1 hnk,iQ (show i<9223372036854775807 by omega),F0w]
        cases (E5O keys ats[i].1).2<;>rfl) (by
        simp only [E61,ba,decide_false,cond_false])
       simp only [av] at this;simp only [lS,this,ai];split
       . rename_i h3;rw [h3];rfl
       . rfl
     . rw [if_neg h2,if_neg h2];rfl
   . rw [if_neg h1];simp only [bne_iff_ne.2 h1,cond_true]
 . rw [if_neg h0];simp only [bne_iff_ne.2 h0,cond_true]
theorem E9M:E55 (aSP,keys,head,ats)=some (E7w aSP keys head ats):=by
 have hna:=z.na;have hnk:=z.nk;unfold E55 E7w;simp only [F3z z,ai];by_cases h0:E7g aSP head ats=0
 . have hdb:=E9y h0;rw [if_pos h0];simp only [h0,bne_self_eq_false,cond_false,F33 z.nk z.kr hdb,ai];by_cases h1:E4I (E8I aSP keys) keys 0=0
   . rw [if_pos h1];simp only [h1,bne_self_eq_false,cond_false]
     have:=E5R (f:=E6e) ats (λi=>((keys,(i:Int)),(head,ats))) (E9x ats) .inl (.inr (keys,(head,ats))) (λi hi=>by
      have hi':(i:Int)<ats.length:=by omega
      have CT:=wo (f:=E6d) (ats.take i) (λk=>((keys,(i:Int),(k:Int)),(head,ats))) (λb=>Lv b.1 ats[i].1) (.inl 14) (.inr ((keys,(i:Int)),(head,ats))) (λk hk=>by
       have YP:k<i:=by rw [aW] at hk;omega
       have hk3:k<ats.length:=by omega
       have nq:(k:Int)<(i:Int):=by omega
       simp only [E6d,nq,decide_true,cond_true,aq,ar,ah hi,ah hk3,ai,List.getElem_take,F0e ats[i].1,iQ (show k<9223372036854775807 by omega)]
       cases Lv ats[k].1 ats[i].1<;>rfl) (by
       have:((ats.take i).length:Int)=(i:Int):=by rw [aW];omega
       simp only [E6d,this,ba,decide_false,cond_false])
      simp only [av] at CT;rw [E6P];simp only [E6e,hi',decide_true,cond_true,CT,ai,E9x];rcases Bool.eq_false_or_eq_true ((ats.take i).any (λb=>Lv b.1 ats[i].1)) with h | h
      . simp only [h,if_true,cond_true];rfl
      . simp only [h,Bool.false_eq_true,if_false,cond_false,lS,iQ (show i<9223372036854775807 by omega)];rfl) (by
      simp only [E6e,ba,decide_false,cond_false])
     simp only [av] at this;simp only [this,ai];by_cases h2:E4I (E9x ats) ats 0=0
     . rw [if_pos h2,if_pos h2]
       have:=E5R (f:=E6f) ats (λi=>((keys,(i:Int)),(head,ats))) (F0w keys) .inl (.inr ()) (λi hi=>by
        have hi':(i:Int)<ats.length:=by omega
        obtain ⟨r,hr,_,Iw⟩:=F0M keys ats[i].1 (by omega)
        rw [E6P];simp only [E6f,hi',decide_true,cond_true,aq,ar,ah hi,ai,hr,Iw,iQ (show i<9223372036854775807 by omega),F0w]
        cases (E5O keys ats[i].1).2<;>rfl) (by
        simp only [E6f,ba,decide_false,cond_false])
       simp only [av] at this;simp only [lS,this,ai];split
       . rename_i h3;rw [h3];rfl
       . rfl
     . rw [if_neg h2,if_neg h2];rfl
   . rw [if_neg h1];simp only [bne_iff_ne.2 h1,cond_true]
 . rw [if_neg h0];simp only [bne_iff_ne.2 h0,cond_true]
theorem F2T (h:E7w aSP keys head ats=0):QV keys head ats:=by
 unfold E7w at h;split at h
 . rename_i h0;split at h
   . rename_i h1;split at h
     . rename_i h2;have hdb:=E9y h0;unfold E7g at h0;rw [if_pos hdb] at h0;split at h0
       . cases h0
       . rename_i h6;split at h0
         . rename_i ha;refine ⟨z.nk,z.nh,by omega,λa hm=>?_,λa hm=>?_⟩
           . obtain ⟨j,hj,rfl⟩:=pd hm
             have:=E7A.1 ha j hj
             unfold E84 at this;split at this
             . cases this
             . rename_i t ht;have h16:=(E9q (F0u hdb (List.mem_of_find?_eq_some ht))).2;by_cases e:t.2.1.length=ats[j].2.length
               . omega
               . rw [beq_false_of_ne e,cond_false] at this;cases this
           . obtain ⟨j,hj,rfl⟩:=pd hm
             have:=E7A.1 h j hj
             unfold F0w at this;rw [F0j] at this;cases hx:(keys.findIdx? λp=>Lv p.1 ats[j].1).isSome with
             | true=>rfl
             | false=>rw [hx] at this;cases this
         . rename_i h7;exact (h7 h0).elim
     . rename_i h2;exact (h2 h).elim
   . rename_i h1;exact (h1 h).elim
 . rename_i h0;exact (h0 h).elim
end
end Go.Mid
namespace Go.Mid
abbrev E8l:=List (List Int×Int)×List Int
def aCi:List ByteArray:=[⟨#[120]⟩,⟨#[121]⟩,⟨#[122]⟩,⟨#[117]⟩,⟨#[118]⟩]
def aCE:List ByteArray:=[⟨#[114]⟩,⟨#[115]⟩,⟨#[116]⟩,⟨#[117]⟩]
def aB0:List ByteArray:=[⟨#[97]⟩,⟨#[98]⟩,⟨#[99]⟩,⟨#[100]⟩]
def E86 (n:Int):ByteArray:=(aCi[(n.tmod 5).toNat]?).getD ⟨#[]⟩
theorem F34 {n:Int}(h:0<=n):aCi[(n.tmod 5).toNat]?=some (E86 n):=by
 have h1:(n.tmod 5).toNat<aCi.length:=by
  have:=Int.tmod_lt_of_pos n (show (0:Int)<5 by omega)
  show _<5;omega
 unfold E86;rw [ah h1];rfl
theorem E75 {n:Int}(h:0<=n):E5q n=some (E86 n):=by
 unfold E5q;have h1:0<=n.tmod 5:=Int.tmod_nonneg _ h;simp only [h1,decide_true,cond_true];show (aCi[(n.tmod 5).toNat]?).bind _=_;rw [F34 h];rfl
def E6L (c:Int):E5b:=bif decide (c<5) then (E86 c,0,0,⟨#[]⟩) else (⟨#[]⟩,1,ao.wrap (c.tmod 3),⟨#[]⟩)
def nmT (i:Nat):ByteArray:=(aCE[i]?).getD ⟨#[]⟩
def atC (l:List (List Int×Int))(i:Nat):List Int×Int:=(l[i]?).getD ([],0)
theorem F2j {l:List (List Int×Int)}{i:Nat}(h:i<l.length):l[i]=atC l i:=by
 unfold atC;rw [ah h];rfl
def E4P (l:List (List Int×Int))(n:Nat):List tI:=(bA n).map λi=>(nmT i,(atC l i).1.map E6L)
def E5p (l:List (List Int×Int))(n:Nat):List E4Z:=(bA n).map λi=>(nmT i,aB0.take (atC l i).1.length,[])
def E5f (l:List (List Int×Int))(n:Nat):List (ByteArray×Int):=(bA n).map λi=>(nmT i,pL cG (cG.wrap (atC l i).2) ((2 ^ (atC l i).1.length-1:Nat):Int))
theorem E8m (l:List (List Int×Int))(n:Nat):(E4P l n).length=n:=by simp [E4P]
theorem F0O (l:List (List Int×Int))(n:Nat):(E5p l n).length=n:=by simp [E5p]
theorem E9z (l:List (List Int×Int))(n:Nat):(E5f l n).length=n:=by simp [E5f]
def OkC (c:E8l):Prop:=(∀ a∈c.1,(∀ x∈a.1,0<=x∧x<=255)∧0<=a.2∧a.2<=255)∧∀ x∈c.2,0<=x∧x<=255
theorem F35 {c:E8l}(ok:OkC c){i:Nat}(hi:i<c.1.length)(hl:c.1[i].1.length<=4)(kn:Nat)(name:ByteArray)(T2:List E4Z)(n2:Nat)(H4:List ByteArray)(h4:Nat)(A4:List tI)(a4:Nat)(T6:List E4Z)(n6:Nat)(K:List (ByteArray×Int))(H8:List ByteArray)(h8:Nat)(A8:List tI)(a8:Nat) :
 A0d E5u ((kn,(i:Int),(c.1[i].1.length:Int),name,(0:Int)),c,(T2,n2),((H4,h4),A4,a4),(T6,n6),K,((H8,h8),A8,a8),name,[],0) =
  some ((kn,(i:Int),(c.1[i].1.length:Int),name),c,(T2,n2),((H4,h4),A4,a4),(T6,n6),K,((H8,h8),A8,a8),name,c.1[i].1.map E6L,c.1[i].1.length):=by
 have:=tQ (f:=E5u) c.1[i].1.length (λj=>((kn,(i:Int),(c.1[i].1.length:Int),name,(j:Int)),c,(T2,n2),((H4,h4),A4,a4),(T6,n6),K,((H8,h8),A8,a8),name,(c.1[i].1.take j).map E6L,j))
  ((kn,(i:Int),(c.1[i].1.length:Int),name),c,(T2,n2),((H4,h4),A4,a4),(T6,n6),K,((H8,h8),A8,a8),name,c.1[i].1.map E6L,c.1[i].1.length) (λj hj=>?_) ?_
 . simpa using this
 . have Dy:(j:Int)<(c.1[i].1.length:Int):=by omega
   have hx:=(ok.1 _ (aM hi)).1 _ (aM hj);have hlen:((c.1[i].1.take j).map E6L).length=j:=by simp;omega
   have e:(c.1[i].1.take (j+1)).map E6L=(c.1[i].1.take j).map E6L++[E6L c.1[i].1[j]]:=by
    rw [vz hj,b9];rfl
   rw [e];have b1:(j+1)*48<=140737488355328:=by omega
   have t1:((c.1[i].1.take j).map E6L).take j=(c.1[i].1.take j).map E6L:=a6 (by rw [hlen];exact ay _)
   have hb:j<=((c.1[i].1.take j).map E6L).length:=by rw [hlen];exact ay _
   by_cases h5:c.1[i].1[j]<5
   . simp only [E5u,Dy,decide_true,cond_true,aq,ar,ah hi,ah hj,ai,h5,E75 hx.1,beq_self_eq_true,jE hb,jE b1,t1,iQ (show j<9223372036854775807 by omega),E6L]
     rw [jE (by rw [aR,hlen];exact ay _)]
     rfl
   . simp only [E5u,Dy,decide_true,cond_true,aq,ar,ah hi,ah hj,ai,h5,decide_false,cond_false,beq_self_eq_true,jE hb,jE b1,t1,iQ (show j<9223372036854775807 by omega),E6L]
     rw [jE (by rw [aR,hlen];exact ay _)]
     rfl
 . simp only [E5u,ba,decide_false,cond_false,List.take_length]
end Go.Mid
namespace Go.Mid
theorem F2U (l:List E5b):fp (uR (Ty.agg [Ty.str,Ty.agg [Ty.int ao,Ty.int ao,Ty.str]])) l=l:=by
 have:(uR (Ty.agg [Ty.str,Ty.agg [Ty.int ao,Ty.int ao,Ty.str]]):E5b->E5b)=id:=by funext y;rfl
 exact (congrArg (λf=>fp f l) this).trans (wR l)
theorem F3C (a:tI):uR (Ty.agg [Ty.str,Ty.vec 4 (Ty.agg [Ty.str,Ty.agg [Ty.int ao,Ty.int ao,Ty.str]])]) a=a:=congrArg (λl=>(a.1,l)) (F2U a.2)
theorem F2V (l:List tI):fp (uR (Ty.agg [Ty.str,Ty.vec 4 (Ty.agg [Ty.str,Ty.agg [Ty.int ao,Ty.int ao,Ty.str]])])) l=l:=by
 have:(uR (Ty.agg [Ty.str,Ty.vec 4 (Ty.agg [Ty.str,Ty.agg [Ty.int ao,Ty.int ao,Ty.str]])]):tI->tI)=id:=by funext y;exact F3C y
 exact (congrArg (λf=>fp f l) this).trans (wR l)
def F36 (c:E8l):Prop:=∀ i,i<c.1.length->(atC c.1 i).1.length<=4
theorem F37 {c:E8l}(ok:OkC c)(h4:c.1.length<=4) :
 ∃ b,A0d E5v ((0,(0:Int)),c,([],0),(([],0),[],0),([],0),[],([],0),[],0)=some b ∧
  ((F36 c∧b=.inr (c.1.length,c,([],0),(([],0),[],0),(E5p c.1 c.1.length,c.1.length),E5f c.1 c.1.length,([],0),E4P c.1 c.1.length,c.1.length)) ∨
    ∃ r,b=.inl ((0,false),([],0),[],(([],0),[],0),r)):=by
 refine V4 (f:=E5v) (S:=Unit) c.1.length (λi _=>((i,(i:Int)),c,([],0),(([],0),[],0),(E5p c.1 i,i),E5f c.1 i,([],0),E4P c.1 i,i))
  (λi _=>∀ j,j<i->(atC c.1 j).1.length<=4) _ () (λj hj=>by omega) (λi _ hi hs=>?_) (λ_ hs=>?_)
 . have hi':(i:Int)<(c.1.length:Int):=by omega
   by_cases hl:c.1[i].1.length<=4
   . left;have CT:=F35 ok hi hl i (nmT i) [] 0 [] 0 [] 0 (E5p c.1 i) i (E5f c.1 i) [] 0 (E4P c.1 i) i;have hle:¬ (c.1[i].1.length:Int)>4:=by omega
     have hn:[(ir #[114]),(ir #[115]),(ir #[116]),(ir #[117])][i]?=some (nmT i):=by
      have h1:i<aCE.length:=by show i<4;omega
      show aCE[i]?=_;unfold nmT;rw [ah h1];rfl
     have hta:(aB0.take c.1[i].1.length).length=c.1[i].1.length:=by
      rw [aW];show min _ 4=_;omega
     have kV:=F2j hi;have lT:=F0O c.1 i;have lK:=E9z c.1 i;have lA:=E8m c.1 i;have eT:E5p c.1 (i+1)=E5p c.1 i++[(nmT i,aB0.take c.1[i].1.length,[])]:=by
      unfold E5p;rw [jO,b9,kV];rfl
     have eK:E5f c.1 (i+1)=E5f c.1 i++[(nmT i,pL cG (cG.wrap c.1[i].2) ((2 ^ c.1[i].1.length-1:Nat):Int))]:=by
      unfold E5f;rw [jO,b9,kV];rfl
     have eA:E4P c.1 (i+1)=E4P c.1 i++[(nmT i,c.1[i].1.map E6L)]:=by
      unfold E4P;rw [jO,b9,kV];rfl
     refine ⟨(),?_,λj hj=>?_⟩
     . rw [eT,eK,eA];simp only [E5v,hi',decide_true,cond_true,aq,ar,ah hi,ai,hle,decide_false,cond_false];rw [hn];simp only [ai];refine (congrArg (λo=>bc o _) CT).trans ?_
       have t1:(E4P c.1 i).take i=E4P c.1 i:=a6 (by rw [lA];exact ay _)
       have t2:(E5p c.1 i).take i=E5p c.1 i:=a6 (by rw [lT];exact ay _)
       have t3:(E5f c.1 i).take i=E5f c.1 i:=a6 (by rw [lK];exact ay _)
       have b0:c.1[i].1.length<=(c.1[i].1.map E6L).length:=by simp
       have b1:(i+1)*40<=140737488355328:=by omega
       have b2:(i+1)*64<=140737488355328:=by omega
       have b3:(i+1)*24<=140737488355328:=by omega
       have b4:i<=(E4P c.1 i).length:=by rw [lA];exact ay _
       have b5:i<=(E5p c.1 i).length:=by rw [lT];exact ay _
       have b6:i<=(E5f c.1 i).length:=by rw [lK];exact ay _
       have b7:c.1[i].1.length*16<=140737488355328:=by omega
       have tM:=F2g (show c.1[i].1.length<32 by omega)
       have aJ1:[(ir #[97]),(ir #[98]),(ir #[99]),(ir #[100])]=aB0:=rfl;simp only [ai,jE b0,cond_true,Nat.beq_eq,beq_self_eq_true,jE b4,jE b1,t1,lA,jE (ay _),aq,decide_true,ar,jE hl,List.take_nil,a7,bS,aJ1,hta,jE b7,jE b5,jE b2,t2];have tk:∀ x:E4Z,aP 1 [x]=[x]:=λ_=>rfl
       simp only [show iI 0 0=true from rfl,show iI 1 1=true from rfl,cond_true,sV,aBG,tk,aR,lT,bf,cM,jE (ay _),ah hi,ai,tM,jE b6,jE b3,t3,aB,beq_self_eq_true,iQ (show i<9223372036854775807 by omega)]
     . rcases mV.1 hj with hj | rfl
       . exact hs j hj
       . rw [← kV];exact hl
   . right;have hle:(c.1[i].1.length:Int)>4:=by omega
     refine ⟨.inl ((0,false),([],0),[],(([],0),[],0),((E5p c.1 i,i),E5f c.1 i,([],0),E4P c.1 i,i)),?_,.inr ⟨_,rfl⟩⟩;simp only [E5v,hi',decide_true,cond_true,aq,ar,ah hi,ai,hle]
 . refine ⟨_,?_,.inl ⟨hs,rfl⟩⟩;simp only [E5v,ba,decide_false,cond_false]
structure aEh (vs head:List ByteArray):Prop where
 nd:head.Nodup
 sub:∀ z∈head,z∈vs
 len:head.length<=5
theorem F4V {c:E8l}(ok:OkC c){vs:List ByteArray}(hv:vs.length<=1000000)(kn:Nat)(T2:List E4Z)(n2:Nat)(H4:List ByteArray)(h4:Nat)(A4:List tI)(a4:Nat)(T6:List E4Z)(n6:Nat)(K:List (ByteArray×Int))(A8:List tI)(a8:Nat) :
 ∃ hd,A0d E44 ((kn,vs,(0:Int)),c,(T2,n2),((H4,h4),A4,a4),(T6,n6),K,(([],0),A8,a8))=some (kn,(T2,n2),((H4,h4),A4,a4),(T6,n6),K,((hd,hd.length),A8,a8))∧aEh vs hd:=by
 have key:=V4 (f:=E44) (S:=List ByteArray) (min c.2.length 5) (λi h=>((kn,vs,(i:Int)),c,(T2,n2),((H4,h4),A4,a4),(T6,n6),K,((h,h.length),A8,a8)))
  (λi h=>h.Nodup∧(∀ z∈h,z∈vs)∧h.length<=i) (λb=>∃ h,b=(kn,(T2,n2),((H4,h4),A4,a4),(T6,n6),K,((h,h.length),A8,a8))∧aEh vs h) [] ⟨gV,λz hz=>(by cases hz),by simp⟩ (λi h hi hJ=>?_) (λh hJ=>?_)
 . obtain ⟨b,h1,h,rfl,h2⟩:=key;exact ⟨h,h1,h2⟩
 . left;obtain ⟨j1,j2,j3⟩:=hJ;have AX:i<c.2.length:=by omega
   have hi':(i:Int)<(c.2.length:Int):=by omega
   have hi5:(i:Int)<5:=by omega
   have hx:=ok.2 _ (aM AX);have e1:=E7T vs (E86 c.2[i]) (by omega)
   have e2:=E7T h (E86 c.2[i]) (by omega)
   cases h1:E4Y vs (E86 c.2[i]) with
   | false =>
     refine ⟨h,?_,j1,j2,by omega⟩
     simp only [E44,hi',hi5,decide_true,cond_true,aq,ar,ah AX,ai,E75 hx.1,e1,h1,cond_false,iQ (show i<9223372036854775807 by omega)]
   | true =>
     cases h2:E4Y h (E86 c.2[i]) with
     | true =>
       refine ⟨h,?_,j1,j2,by omega⟩
       simp only [E44,hi',hi5,decide_true,cond_true,aq,ar,ah AX,ai,E75 hx.1,e1,h1,jE (ay _),pN,e2,h2,bO,cond_false,iQ (show i<9223372036854775807 by omega)]
     | false =>
       have hl:=(Lst.mk (P:=λz=>z∈h) j1 (λz=>Iff.rfl)).snoc h2
       refine ⟨h++[E86 c.2[i]],?_,hl.nd,λz hz=>?_,by simp;omega⟩
       . simp only [E44,hi',hi5,decide_true,cond_true,aq,ar,ah AX,ai,E75 hx.1,e1,h1,jE (ay _),pN,e2,h2,auI,beq_self_eq_true,jE (show (h.length+1)*16<=140737488355328 by omega),aR,bf,cM,bS,iQ (show i<9223372036854775807 by omega)]
       . rcases az.1 hz with hz | hz
         . exact j2 z hz
         . rw [aX] at hz;subst hz;exact E5Q.1 h1
 . obtain ⟨j1,j2,j3⟩:=hJ;refine ⟨_,?_,h,rfl,j1,j2,by omega⟩
   by_cases h1:(min c.2.length 5:Nat)<c.2.length
   . have e1:((min c.2.length 5:Nat):Int)<(c.2.length:Int):=by omega
     have e2:¬ ((min c.2.length 5:Nat):Int)<5:=by omega
     simp only [E44,e1,e2,decide_true,decide_false,cond_true,cond_false]
   . have e1:¬ ((min c.2.length 5:Nat):Int)<(c.2.length:Int):=by omega
     simp only [E44,e1,decide_false,cond_false]
theorem F5F {c:E8l}(ok:OkC c):(∃ r,E6M c=some r∧r.2.2.2=false) ∨
 (1<=c.1.length∧c.1.length<=4∧F36 c∧∃ hd,E6M c=some (E5p c.1 c.1.length,E5f c.1 c.1.length,(hd,E4P c.1 c.1.length),true)∧hd.Nodup∧hd.length<=5∧∀ z∈hd,E9Z (E4P c.1 c.1.length) (E4P c.1 c.1.length).length z):=by
 unfold E6M;by_cases h1:c.1.length<1
 . left
   have:(c.1.length:Int)<1:=by omega
   simp only [this,decide_true,cond_true,show cQ 0 0=true from rfl];exact ⟨_,rfl,rfl⟩
 have vR:¬ (c.1.length:Int)<1:=by omega
 by_cases h4:4<c.1.length
 . left
   have:(c.1.length:Int)>4:=by omega
   simp only [vR,this,decide_true,decide_false,cond_true,cond_false,show cQ 0 0=true from rfl];exact ⟨_,rfl,rfl⟩
 have h4':¬ (c.1.length:Int)>4:=by omega
 simp only [vR,h4',decide_false,cond_false];obtain ⟨b,e,hb⟩:=F37 ok (by omega)
 rcases hb with ⟨hf,rfl⟩ | ⟨r,rfl⟩
 . right;refine ⟨by omega,by omega,hf,?_⟩
   have lT:=F0O c.1 c.1.length;have lK:=E9z c.1 c.1.length;have lA:=E8m c.1 c.1.length;have t1:(E4P c.1 c.1.length).take c.1.length=E4P c.1 c.1.length:=a6 (by rw [lA];exact ay _)
   have t2:(E5p c.1 c.1.length).take c.1.length=E5p c.1 c.1.length:=a6 (by rw [lT];exact ay _)
   have t3:(E5f c.1 c.1.length).take c.1.length=E5f c.1 c.1.length:=a6 (by rw [lK];exact ay _)
   have b4:c.1.length<=(E4P c.1 c.1.length).length:=by rw [lA];exact ay _
   have b5:c.1.length<=(E5p c.1 c.1.length).length:=by rw [lT];exact ay _
   have b6:c.1.length<=(E5f c.1 c.1.length).length:=by rw [lK];exact ay _
   have ht:∀ a∈E4P c.1 c.1.length,a.2.length<=1000:=λa ha=>by
    unfold E4P at ha;obtain ⟨i,hi,rfl⟩:=bp.1 ha
    have:=hf i (cu.1 hi)
    simp only [aB];omega
   obtain ⟨vs,ev,v1,v2⟩:=E8r (l:=E4P c.1 c.1.length) (by omega) ht
   obtain ⟨hd,eh,hh⟩:=F4V ok (vs:=vs) (by rw [lA] at v2;omega) c.1.length [] 0 [] 0 [] 0 (E5p c.1 c.1.length) c.1.length (E5f c.1 c.1.length) (E4P c.1 c.1.length) c.1.length
   refine ⟨hd,?_,hh.nd,hh.len,λz hz=>(v1.mem z).1 (hh.sub z hz)⟩
   refine (congrArg (λo=>bc o _) e).trans ?_
   have eq:fp (uR (Ty.agg [Ty.str,Ty.vec 4 (Ty.agg [Ty.str,Ty.agg [Ty.int ao,Ty.int ao,Ty.str]])])) ((E4P c.1 c.1.length).take c.1.length)=E4P c.1 c.1.length :=
    (congrArg (λl:List tI=>fp (uR (Ty.agg [Ty.str,Ty.vec 4 (Ty.agg [Ty.str,Ty.agg [Ty.int ao,Ty.int ao,Ty.str]])])) l) t1).trans (F2V _)
   simp only [ai,lS,jE b4,cond_true];refine (congrArg (λo=>bc o _) ((congrArg E40 eq).trans ev)).trans ?_
   simp only [ai];refine (congrArg (λo=>bc o _) eh).trans ?_
   simp only [ai,jE b5,jE b6,jE b4,jE (ay _),cond_true,t2,t3,pN];exact congrArg (λl:List tI=>some (E5p c.1 c.1.length,E5f c.1 c.1.length,(hd,l),true)) eq
 . left;refine ⟨_,(congrArg (λo=>bc o _) e).trans rfl,rfl⟩
end Go.Mid
namespace Go.Mid
theorem E9A {p q:Nat->Bool}:∀ {l:List Nat},(∀ x∈l,p x=true->q x=true)->(∃ y∈l,q y=true∧p y=false)->(l.filter p).length<(l.filter q).length
 | [],_,⟨y,hy,_⟩=>by cases hy
 | x::r,h,⟨y,hy,h1,h2⟩=>by
   have hle:∀ {l:List Nat},(∀ x∈l,p x=true->q x=true)->(l.filter p).length<=(l.filter q).length:=by
    intro l
    induction l with
    | nil=>intro _;simp
    | cons x r ih =>
      intro h;have ih:=ih λz hz=>h z (bC _ hz)
      cases hp:p x with
      | false =>
        rw [lb (by simp [hp])]
        cases hq:q x with
        | false=>rw [lb (by simp [hq])];exact ih
        | true=>rw [iv hq,bf];omega
      | true=>rw [iv hp,iv (h x (dS ..) hp),bf,bf];omega
   have hr:=hle λz hz=>h z (bC x hz)
   rcases aG.1 hy with rfl | hy
   . rw [lb (by simp [h2]),iv h1,bf]
     omega
   . have ih:=E9A (λz hz=>h z (bC x hz)) ⟨y,hy,h1,h2⟩
     cases hp:p x with
     | false =>
       rw [lb (by simp [hp])]
       cases hq:q x with
       | false=>rw [lb (by simp [hq])];exact ih
       | true=>rw [iv hq,bf];omega
     | true=>rw [iv hp,iv (h x (dS ..) hp),bf,bf];omega
section
variable {keys:List (ByteArray×Int)}{head:List ByteArray}{l:List tI}(q:QV keys head l)
def F2W (keys:List (ByteArray×Int))(head:List ByteArray)(l:List tI)(but:Option Nat)(s:List ByteArray)(i:Nat):Prop:=some i≠but∧(∀ z,E5S (E4j keys head l) i z->z∈s)∧∀ z,E50 (E4j keys head l) i z->z∈s
noncomputable def E8B (keys:List (ByteArray×Int))(head:List ByteArray)(l:List tI)(but:Option Nat)(s:List ByteArray):Nat:=by
 classical exact ((bA l.length).filter λi=>decide (F2W keys head l but s i)).length
theorem F38 (but:Option Nat)(s:List ByteArray):E8B keys head l but s<=l.length:=by
 unfold E8B;exact dF (dt ..) (by simp)
theorem F39 {but:Option Nat}{s t:List ByteArray}(hst:∀ z∈s,z∈t){i:Nat}(hi:i<l.length)(h1:F2W keys head l but t i)(h2:¬ F2W keys head l but s i):E8B keys head l but s<E8B keys head l but t:=by
 classical
 unfold E8B;exact E9A (λx _ h=>decide_eq_true (by
  obtain ⟨a,b,c⟩:=of_decide_eq_true h;exact ⟨a,λz hz=>hst z (b z hz),λz hz=>hst z (c z hz)⟩)) ⟨i,by simpa using hi,decide_eq_true h1,decide_eq_false h2⟩
structure Part (keys:List (ByteArray×Int))(head:List ByteArray)(l:List tI)(but:Option Nat)(s0 s:List ByteArray):Prop where
 nd:s.Nodup
 sub:∀ z∈s0,z∈s
 dn:∀ z∈s,AG.D l.length (E5S (E4j keys head l)) (E50 (E4j keys head l)) but (· ∈ s0) z
def E7Z (keys:List (ByteArray×Int))(head:List ByteArray)(l:List tI)(but:Option Nat)(s:List ByteArray):Prop:=∀ i,i<l.length->some i≠but->(∀ z,E5S (E4j keys head l) i z->z∈s)->∀ z,E50 (E4j keys head l) i z->z∈s
theorem E90 {but:Option Nat}{s0 s:List ByteArray}(h:Part keys head l but s0 s)(hc:E7Z keys head l but s)(z:ByteArray):z∈s↔AG.D l.length (E5S (E4j keys head l)) (E50 (E4j keys head l)) but (· ∈ s0) z:=by
 refine ⟨h.dn z,λhd=>?_⟩
 induction hd with
 | base hz=>exact h.sub _ hz
 | step j hj hb _ hz ih=>exact hc j hj hb ih _ hz
include q in
theorem F4a {b:Int}{but:Option Nat}(aDM:∀ j:Nat,(j:Int)≠b↔some j≠but){s0 s:List ByteArray}(hs:Part keys head l but s0 s){B:Nat}(hB:s.length<=B)(hB2:B<=100000)(r:Int) :
 ∃ t,A0d E4X ((keys,s,b,r,(0:Int)),head,l)=some ((keys,t,b,r),head,l)∧Part keys head l but s0 t∧t.length<=B+l.length*1000∧(∀ z∈s,z∈t)∧(E7Z keys head l but s∨E8B keys head l but s<E8B keys head l but t):=by
 have hna:=q.na;have key:=V4 (f:=E4X) (S:=List ByteArray) l.length (λi t=>((keys,t,b,r,(i:Int)),head,l))
  (λi t=>Part keys head l but s0 t∧t.length<=B+i*1000∧(∀ z∈s,z∈t)∧∀ j,j<i->some j≠but->(∀ z,E5S (E4j keys head l) j z->z∈s)->∀ z,E50 (E4j keys head l) j z->z∈t)
  (λo=>∃ t,o=((keys,t,b,r),head,l)∧Part keys head l but s0 t∧t.length<=B+l.length*1000∧(∀ z∈s,z∈t)∧∀ j,j<l.length->some j≠but->(∀ z,E5S (E4j keys head l) j z->z∈s)->∀ z,E50 (E4j keys head l) j z->z∈t) s
  ⟨hs,by omega,λ_ h=>h,λj hj=>by omega⟩ (λi t hi ht=>?_) (λt ht=>?_)
 . obtain ⟨o,h1,t,rfl,h2,h3,h4,h5⟩:=key;refine ⟨t,h1,h2,h3,h4,?_⟩;by_cases hc:E7Z keys head l but s
   . exact .inl hc
   . right;unfold E7Z at hc;obtain ⟨i,hc⟩:=vb.1 hc;obtain ⟨hi,hc⟩:=aSS.1 hc;obtain ⟨hb,hc⟩:=aSS.1 hc;obtain ⟨hk,hc⟩:=aSS.1 hc;refine F39 h4 hi ⟨hb,λz hz=>h4 z (hk z hz),h5 i hi hb hk⟩ λhf=>hc hf.2.2
 . left;obtain ⟨h1,h2,h3,h4⟩:=ht;have hi':(i:Int)<l.length:=by omega
   by_cases hb:(i:Int)=b
   . refine ⟨t,?_,h1,dF h2 (aBx (iY _ (au6 i)) B),h3,λj hj hjb hk=>?_⟩
     . subst hb;simp only [E4X,hi',decide_true,cond_true,bne_self_eq_false,cond_false,iQ (show i<9223372036854775807 by omega)]
     . rcases mV.1 hj with hj | rfl
       . exact h4 j hj hjb hk
       . exact (((aDM j).2 hjb) hb).elim
   . have kE:((i:Int) != b)=true:=bne_iff_ne.2 hb;obtain ⟨ks,e1,k1,k2⟩:=E8A q hi;obtain ⟨vs,e2,v1,v2⟩:=E85 q hi;have hw:=F0J (a:=ks) (b:=t) (by omega) (by omega)
     have tl:Lst t (· ∈ t):=⟨h1.nd,λz=>Iff.rfl⟩
     have hwi:=D87 k1 tl;cases hwc:ks.all (E4Y t) with
     | false =>
       refine ⟨t,?_,h1,dF h2 (aBx (iY _ (au6 i)) B),h3,λj hj hjb hk=>?_⟩
       . simp only [E4X,hi',decide_true,cond_true,kE,e1,ai,hw,hwc,cond_false,iQ (show i<9223372036854775807 by omega)]
       . rcases mV.1 hj with hj | rfl
         . exact h4 j hj hjb hk
         . exact absurd (hwi.2 λz hz=>h3 z (hk z hz)) (by rw [hwc];simp)
     | true =>
       obtain ⟨u,e3,u1,u2⟩:=F4L (a:=t) (b:=vs) h1.nd (by omega) (by omega)
       refine ⟨u,?_,⟨u1.nd,λz hz=>(u1.mem z).2 (.inl (h1.sub z hz)),λz hz=>?_⟩,by rw [du];omega,λz hz=>(u1.mem z).2 (.inl (h3 z hz)),λj hj hjb hk z hz=>?_⟩
       . simp only [E4X,hi',decide_true,cond_true,kE,e1,ai,hw,hwc,e2,e3,iQ (show i<9223372036854775807 by omega)]
       . rcases (u1.mem z).1 hz with hz | hz
         . exact h1.dn z hz
         . exact .step i hi ((aDM i).1 hb) (λx hx=>h1.dn x (hwi.1 hwc x hx)) ((v1.mem z).1 hz)
       . rcases mV.1 hj with hj | rfl
         . exact (u1.mem z).2 (.inl (h4 j hj hjb hk z hz))
         . exact (u1.mem z).2 (.inr ((v1.mem z).2 hz))
 . refine ⟨_,?_,t,rfl,ht⟩;simp only [E4X,ba,decide_false,cond_false]
include q in
theorem E9a {b:Int}{but:Option Nat}(aDM:∀ j:Nat,(j:Int)≠b↔some j≠but){s0:List ByteArray}(hs:s0.Nodup)(hl:s0.length<=1000) :
 ∃ t,E5J (keys,(head,l),s0,b)=some t∧Lst t (AG.D l.length (E5S (E4j keys head l)) (E50 (E4j keys head l)) but (· ∈ s0))∧t.length<=100000:=by
 have hna:=q.na;have key:=V4 (f:=E5N) (S:=List ByteArray) (l.length+1) (λn t=>((keys,t,b,(n:Int)),head,l))
  (λn t=>Part keys head l but s0 t∧t.length<=1000+n*(l.length*1000)∧(E7Z keys head l but t∨n<=E8B keys head l but t))
  (λt=>Part keys head l but s0 t∧E7Z keys head l but t∧t.length<=100000) s0 ⟨⟨hs,λ_ h=>h,λz hz=>.base hz⟩,by omega,.inr (dg _)⟩ (λn t hn ht=>?_) (λt ht=>?_)
 . obtain ⟨t,h1,h2,h3,h4⟩:=key;refine ⟨t,?_,⟨h2.nd,E90 h2 h3⟩,h4⟩;unfold E5J;refine (congrArg (λo=>bc o _) h1).trans ?_
   rfl
 . left;obtain ⟨h1,h2,h3⟩:=ht;have rV:(n:Int)<=l.length:=by omega
   have hmul:n*(l.length*1000)<=6*6000:=aSZ (by omega) (by omega)
   obtain ⟨u,e,u1,u2,u3,u4⟩:=F4a q aDM h1 h2 (by omega) (n:Int)
   refine ⟨u,?_,u1,?_,?_⟩
   . simp only [E5N,rV,decide_true,cond_true];refine (congrArg (λo=>bc o _) e).trans ?_
     simp only [ai,iQ (show n<9223372036854775807 by omega)]
   . rw [du];omega
   . by_cases hcu:E7Z keys head l but u
     . exact .inl hcu
     . right;rcases u4 with hc | hf
       . -- closed at the aIh begin: nothing is added
         exfalso;apply hcu;intro i hi hb hk z hz;have hD:∀ x∈u,x∈t:=λx hx=>(E90 h1 hc x).2 (u1.dn x hx)
         exact u3 z (hc i hi hb (λx hx=>hD x (hk x hx)) z hz)
       . rcases h3 with hc | h3
         . exfalso;apply hcu;intro i hi hb hk z hz;have hD:∀ x∈u,x∈t:=λx hx=>(E90 h1 hc x).2 (u1.dn x hx)
           exact u3 z (hc i hi hb (λx hx=>hD x (hk x hx)) z hz)
         . omega
 . obtain ⟨h1,h2,h3⟩:=ht;refine ⟨t,?_,h1,?_,?_⟩
   . have:¬ (((l.length+1:Nat):Int)<=(l.length:Int)):=by omega
     simp only [E5N,this,decide_false,cond_false]
   . rcases h3 with h3 | h3
     . exact h3
     . have:=F38 (keys:=keys) (head:=head) (l:=l) but t
       omega
   . have:(l.length+1)*(l.length*1000)<=7*6000:=aSZ (by omega) (by omega)
     omega
include q in
theorem F2X {i:Nat}(hi:i<l.length):∃ t,E66 (keys,(head,l),(i:Int))=some t∧Lst t (AG.plus l.length (E5S (E4j keys head l)) (E50 (E4j keys head l)) i)∧t.length<=100000:=by
 obtain ⟨ks,e1,k1,k2⟩:=E8A q hi;obtain ⟨t,e2,t1,t2⟩:=E9a q (F1y i) k1.nd (by omega)
 refine ⟨t,?_,t1.aBn λz=>?_,t2⟩
 . unfold E66;simp only [e1,ai,e2]
 . have e:(λz=>z∈ks)=E5S (E4j keys head l) i:=by
    funext x;exact propext (k1.mem x)
   rw [e];exact Iff.rfl
end
end Go.Mid
namespace Go.Mid
section
variable {keys:List (ByteArray×Int)}{head:List ByteArray}{l:List tI}(q:QV keys head l)
abbrev E8J (keys:List (ByteArray×Int)) (head:List ByteArray) (l:List tI):Nat->Nat->Prop:=AG.att l.length (E5S (E4j keys head l)) (E50 (E4j keys head l))
abbrev F2Y (keys:List (ByteArray×Int)) (head:List ByteArray) (l:List tI):Nat->ByteArray->Prop:=AG.plus l.length (E5S (E4j keys head l)) (E50 (E4j keys head l))
abbrev F1A (keys:List (ByteArray×Int)) (head:List ByteArray) (l:List tI):Nat->Nat->Prop:=AG.Rch l.length (E5S (E4j keys head l)) (E50 (E4j keys head l))
def lk (keys:List (ByteArray×Int))(head:List ByteArray)(l:List tI)(p:List ByteArray)(a b:Nat):Prop:=∃ x,E50 (E4j keys head l) a x∧E50 (E4j keys head l) b x∧x∉p
include q in
theorem F3D {a b:Nat}(ha:a<l.length)(hb:b<l.length){p:List ByteArray}(hp:p.length<=100000) :
 ∃ t,E6B ((head,l),(a:Int),(b:Int),p)=some t∧(t=true↔lk keys head l p a b):=by
 obtain ⟨u,e1,u1,u2⟩:=E85 q ha;obtain ⟨v,e2,v1,v2⟩:=E85 q hb;refine ⟨u.any λx=>E4Y v x && !E4Y p x,?_,?_⟩
 . unfold E6B
   have:=wo (f:=E5Y) u (λn=>(p,u,v,(n:Int))) (λx=>E4Y v x && !E4Y p x) (.inl true) (.inr ()) (λn hn=>by
    have rV:(n:Int)<u.length:=by omega
    simp only [E5Y,rV,decide_true,cond_true,aq,ar,ah hn,ai,E7T v u[n] (by omega),E7T p u[n] (by omega),iQ (show n<9223372036854775807 by omega)]
    cases E4Y v u[n]<;>cases E4Y p u[n]<;>rfl) (by
    simp only [E5Y,ba,decide_false,cond_false])
   simp only [av] at this;simp only [e1,e2,ai,this];cases u.any (λx=>E4Y v x && !E4Y p x)<;>rfl
 . rw [fV];constructor
   . rintro ⟨x,hx,h⟩;simp only [aj,ed] at h;exact ⟨x,(u1.mem x).1 hx,(v1.has x).1 h.1,λm=>by rw [E5Q.2 m] at h;cases h.2⟩
   . rintro ⟨x,h1,h2,h3⟩;refine ⟨x,(u1.mem x).2 h1,?_⟩;simp only [aj,ed];exact ⟨(v1.has x).2 h2,aSQ.2 λm=>h3 (E5Q.1 m)⟩
structure Mk (keys:List (ByteArray×Int))(head:List ByteArray)(l:List tI)(i:Nat)(s:List Bool):Prop where
 len:s.length=l.length
 st:s[i]?=some true
 rch:∀ k:Nat,s[k]?=some true->F1A keys head l i k
def leM (s t:List Bool):Prop:=∀ k:Nat,s[k]?=some true->t[k]?=some true
noncomputable def E9B (N:Nat)(s:List Bool):Nat:=((bA N).filter λk=>s[k]? == some true).length
theorem F4W (N:Nat)(s:List Bool):E9B N s<=N:=by
 unfold E9B;exact dF (dt ..) (by simp)
theorem F2k {N:Nat}{s t:List Bool}(h:leM s t){k:Nat}(hk:k<N)(h1:t[k]?=some true)(h2:s[k]? ≠ some true):E9B N s<E9B N t:=by
 unfold E9B;refine E9A (λx _ hx=>?_) ⟨k,by simpa using hk,by rw [h1];rfl,?_⟩
 . rw [beq_iff_eq] at hx ⊢;exact h x hx
 . rw [beq_eq_false_iff_ne];exact h2
theorem E7h {s:List Bool}{b k:Nat}(hb:b<s.length):(s.set b true)[k]?=some true↔(k=b∨s[k]?=some true):=by
 rw [dD];by_cases e:b=k
 . subst e;simp [hb]
 . rw [if_neg e];exact ⟨.inr,λh=>h.elim (λh=>(e h.symm).elim) id⟩
include q in
theorem F2Z {i:Nat}(hi:i<l.length){p:List ByteArray}(hp:Lst p (F2Y keys head l i))(qN:p.length<=100000){s t:List Bool}(hst:leM s t)(ht:Mk keys head l i t){a:Nat}(ha:a<l.length)(n:Int) :
 ∃ u,A0d E4T (((i:Int),p,l.length,n,(a:Int),(0:Int)),(head,l),t)=some (((i:Int),p,l.length,n,(a:Int)),(head,l),u)∧Mk keys head l i u∧leM t u∧(∀ b,b<l.length->s[a]?=some true->lk keys head l p a b->u[b]?=some true):=by
 have hna:=q.na;have key:=V4 (f:=E4T) (S:=List Bool) l.length (λb u=>(((i:Int),p,l.length,n,(a:Int),(b:Int)),(head,l),u))
  (λb u=>Mk keys head l i u∧leM t u∧∀ b',b'<b->s[a]?=some true->lk keys head l p a b'->u[b']?=some true)
  (λo=>∃ u,o=(((i:Int),p,l.length,n,(a:Int)),(head,l),u)∧Mk keys head l i u∧leM t u∧∀ b',b'<l.length->s[a]?=some true->lk keys head l p a b'->u[b']?=some true) t
  ⟨ht,λ_ h=>h,λb hb=>by omega⟩ (λb u hb hu=>?_) (λu hu=>?_)
 . obtain ⟨o,h1,u,rfl,h2⟩:=key;exact ⟨u,h1,h2⟩
 . left;obtain ⟨h1,h2,h3⟩:=hu;have js:(b:Int)<l.length:=by omega
   have hau:a<u.length:=by rw [h1.len];exact ha
   have hbu:b<u.length:=by rw [h1.len];exact hb
   cases hv:u[a] with
   | false =>
     refine ⟨u,?_,h1,h2,λb' He Wi hl=>?_⟩
     . simp only [E4T,js,decide_true,cond_true,aq,ar,lB ha,ah hau,ai,hv,cond_false,iQ (show b<9223372036854775807 by omega)]
     . have:=h2 a (hst a Wi)
       rw [ah hau,hv] at this;cases this
   | true =>
     obtain ⟨c,e,hc⟩:=F3D q ha hb qN;cases vo:c with
     | false =>
       refine ⟨u,?_,h1,h2,λb' He Wi hl=>?_⟩
       . simp only [E4T,js,decide_true,cond_true,aq,ar,lB ha,ah hau,ai,hv,e,vo,cond_false,iQ (show b<9223372036854775807 by omega)]
       . rcases mV.1 He with He | rfl
         . exact h3 b' He Wi hl
         . rw [hc.2 hl] at vo;cases vo
     | true =>
       have hR:F1A keys head l i b:=by
        obtain ⟨x,x1,x2,x3⟩:=hc.1 vo;exact .step (h1.rch a (by rw [ah hau,hv])) hb x x1 x2 λm=>x3 ((hp.mem x).2 m)
       refine ⟨u.set b true,?_,⟨by rw [iy];exact h1.len,(E7h hbu).2 (.inr h1.st),λk hk=>?_⟩,λk hk=>(E7h hbu).2 (.inr (h2 k hk)),λb' He Wi hl=>?_⟩
       . simp only [E4T,js,decide_true,cond_true,aq,ar,lB ha,lB hb,ah hau,ah hbu,ai,hv,e,vo,iQ (show b<9223372036854775807 by omega)]
       . rcases (E7h hbu).1 hk with rfl | hk
         . exact hR
         . exact h1.rch k hk
       . rcases mV.1 He with He | rfl
         . exact (E7h hbu).2 (.inr (h3 b' He Wi hl))
         . exact (E7h hbu).2 (.inl rfl)
 . refine ⟨_,?_,u,rfl,hu⟩;simp only [E4T,ba,decide_false,cond_false]
def E7N (keys:List (ByteArray×Int))(head:List ByteArray)(l:List tI)(p:List ByteArray)(s:List Bool):Prop:=∀ a b,a<l.length->b<l.length->s[a]?=some true->lk keys head l p a b->s[b]?=some true
include q in
theorem F20 {i:Nat}(hi:i<l.length){p:List ByteArray}(hp:Lst p (F2Y keys head l i))(qN:p.length<=100000){s:List Bool}(hs:Mk keys head l i s)(n:Int) :
 ∃ u,A0d E5c (((i:Int),p,l.length,n,(0:Int)),(head,l),s)=some (((i:Int),p,l.length,n),(head,l),u)∧Mk keys head l i u∧leM s u∧(E7N keys head l p s∨E9B l.length s<E9B l.length u):=by
 have hna:=q.na;have key:=V4 (f:=E5c) (S:=List Bool) l.length (λa u=>(((i:Int),p,l.length,n,(a:Int)),(head,l),u))
  (λa u=>Mk keys head l i u∧leM s u∧∀ a',a'<a->∀ b,b<l.length->s[a']?=some true->lk keys head l p a' b->u[b]?=some true)
  (λo=>∃ u,o=(((i:Int),p,l.length,n),(head,l),u)∧Mk keys head l i u∧leM s u∧∀ a',a'<l.length->∀ b,b<l.length->s[a']?=some true->lk keys head l p a' b->u[b]?=some true) s
  ⟨hs,λ_ h=>h,λb hb=>by omega⟩ (λa u ha hu=>?_) (λu hu=>?_)
 . obtain ⟨o,h1,u,rfl,h2,h3,h4⟩:=key;refine ⟨u,h1,h2,h3,?_⟩;by_cases hc:E7N keys head l p s
   . exact .inl hc
   . right;unfold E7N at hc;obtain ⟨a,hc⟩:=vb.1 hc;obtain ⟨b,hc⟩:=vb.1 hc;obtain ⟨ha,hc⟩:=aSS.1 hc;obtain ⟨hb,hc⟩:=aSS.1 hc;obtain ⟨Wi,hc⟩:=aSS.1 hc;obtain ⟨hl,hc⟩:=aSS.1 hc;exact F2k h3 hb (h4 a ha b hb Wi hl) hc
 . left;obtain ⟨h1,h2,h3⟩:=hu;have ha':(a:Int)<l.length:=by omega
   obtain ⟨v,e,v1,v2,v3⟩:=F2Z q hi hp qN h2 h1 ha n;refine ⟨v,?_,v1,λk hk=>v2 k (h2 k hk),λa' Ml b hb Wi hl=>?_⟩
   . simp only [E5c,ha',decide_true,cond_true];refine (congrArg (λo=>bc o _) e).trans ?_
     simp only [ai,iQ (show a<9223372036854775807 by omega)]
   . rcases mV.1 Ml with Ml | rfl
     . exact v2 b (h3 a' Ml b hb Wi hl)
     . exact v3 b hb Wi hl
 . refine ⟨_,?_,u,rfl,hu⟩;simp only [E5c,ba,decide_false,cond_false]
theorem F0k {i:Nat}{p:List ByteArray}(hp:Lst p (F2Y keys head l i)){s:List Bool}(hs:Mk keys head l i s)(hc:E7N keys head l p s)(k:Nat):s[k]?=some true↔F1A keys head l i k:=by
 refine ⟨hs.rch k,λh=>?_⟩
 induction h with
 | refl=>exact hs.st
 | step h hb x h1 h2 h3 ih =>
   rename_i a b;have ha:a<l.length:=by
    have:=(aJ.1 ih).1
    rw [hs.len] at this;exact this
   exact hc a b ha hb ih ⟨x,h1,h2,λm=>h3 ((hp.mem x).1 m)⟩
structure aDO (keys:List (ByteArray×Int))(head:List ByteArray)(l:List tI)(i:Nat)(s:List Bool):Prop where
 len:s.length=l.length
 att:∀ k:Nat,s[k]?=some true↔E8J keys head l i k
include q in
theorem F0x {i:Nat}(hi:i<l.length):∃ s,E6g (keys,(head,l),(i:Int))=some s∧aDO keys head l i s:=by
 have hna:=q.na;obtain ⟨p,e,p1,p2⟩:=F2X q hi;have h0:Mk keys head l i ((au l.length false).set i true):=by
  have hl:(au l.length false).length=l.length:=by simp
  refine ⟨by simp,(E7h (by rw [hl];exact hi)).2 (.inl rfl),λk hk=>?_⟩
  rcases (E7h (by rw [hl];exact hi)).1 hk with rfl | hk
  . exact .refl
  . rw [jY] at hk;split at hk
    . simp at hk
    . cases hk
 have key:=V4 (f:=E5B) (S:=List Bool) l.length (λn u=>(((i:Int),p,l.length,(n:Int)),(head,l),u))
  (λn u=>Mk keys head l i u∧(E7N keys head l p u∨n+1<=E9B l.length u))
  (λo=>∃ u,o=(((i:Int),l.length),u)∧Mk keys head l i u∧E7N keys head l p u) ((au l.length false).set i true)
  ⟨h0,.inr (by
    have h1:leM (au l.length false) ((au l.length false).set i true):=λk hk=>(E7h (by simpa using hi)).2 (.inr hk)
    have:=F2k h1 hi h0.st (by rw [jY,if_pos hi];simp)
    omega)⟩ (λn u hn hu=>?_) (λu hu=>?_)
 . obtain ⟨o,h1,u,rfl,h2,h3⟩:=key;have hiu:i<u.length:=by rw [h2.len];exact hi
   refine ⟨u.set i false,?_,by rw [iy];exact h2.len,λk=>?_⟩
   . unfold E6g;have hg:(au l.length false)[i]?=some false:=by simp [hi]
     simp only [e,ai,aq,lu,decide_true,cond_true,ar,jE (show l.length*1<=140737488355328 by omega),lB hi,hg]
     refine (congrArg (λo=>bc o _) h1).trans ?_
     simp only [ai,aq,decide_true,cond_true,ar,lB hi,ah hiu,iy,h2.len,jE (ay _)];rw [a6 (by rw [iy,h2.len];exact ay _)]
   . have hr:=F0k p1 h2 h3 k;rw [dD];by_cases ei:i=k
     . subst ei;rw [if_pos rfl,if_pos hiu];exact ⟨λh=>(by cases h),λh=>(h.2.2.1 rfl).elim⟩
     . rw [if_neg ei,hr];constructor
       . intro h;refine ⟨hi,?_,λe=>ei e.symm,h⟩
         have:=(aJ.1 (hr.2 h)).1
         rw [h2.len] at this;exact this
       . exact λh=>h.2.2.2
 . left;obtain ⟨h1,h2⟩:=hu;have rV:(n:Int)<l.length:=by omega
   obtain ⟨v,ev,v1,v2,v3⟩:=F20 q hi p1 p2 h1 (n:Int);refine ⟨v,?_,v1,?_⟩
   . simp only [E5B,rV,decide_true,cond_true];refine (congrArg (λo=>bc o _) ev).trans ?_
     simp only [ai,iQ (show n<9223372036854775807 by omega)]
   . have aCP:E7N keys head l p u->E7N keys head l p v:=by
      intro hc a b ha hb EY hl;have hau:=(F0k p1 h1 hc a).2 (v1.rch a EY);exact v2 b (hc a b ha hb hau hl)
     rcases h2 with h2 | h2
     . exact .inl (aCP h2)
     . rcases v3 with v3 | v3
       . exact .inl (aCP v3)
       . exact .inr (by omega)
 . obtain ⟨h1,h2⟩:=hu;refine ⟨_,?_,u,rfl,h1,?_⟩
   . simp only [E5B,ba,decide_false,cond_false]
   . rcases h2 with h2 | h2
     . exact h2
     . have:=F4W l.length u
       omega
structure aEN (keys:List (ByteArray×Int))(head:List ByteArray)(l:List tI)(M:List (List Bool)):Prop where
 len:M.length=l.length
 row:∀ (i:Nat) r,M[i]?=some r->aDO keys head l i r
include q in
theorem F0P:∃ M,E5V (keys,head,l)=some M∧aEN keys head l M:=by
 have hna:=q.na;have key:=V4 (f:=E5Z) (S:=List (List Bool)) l.length (λi M=>((keys,M.length,(i:Int)),(head,l),M))
  (λi M=>M.length=i∧∀ k r,M[k]?=some r->aDO keys head l k r)
  (λo=>∃ M,o=(M.length,M)∧M.length=l.length∧∀ k r,M[k]?=some r->aDO keys head l k r) [] ⟨rfl,λk r h=>by simp at h⟩ (λi M hi hM=>?_) (λM hM=>?_)
 . obtain ⟨o,h1,M,rfl,h2,h3⟩:=key;refine ⟨M,?_,h2,h3⟩;unfold E5V;refine (congrArg (λo=>bc o _) h1).trans ?_
   simp only [ai,jE (ay _),cond_true,pN]
 . left;obtain ⟨h1,h2⟩:=hM;have hi':(i:Int)<l.length:=by omega
   obtain ⟨r,e,hr⟩:=F0x q hi;refine ⟨M++[r],?_,by simp [h1],λk s hk=>?_⟩
   . simp only [E5Z,hi',decide_true,cond_true,e,ai,jE (ay _),jE (show (M.length+1)*24<=140737488355328 by omega),pN,iQ (show i<9223372036854775807 by omega),aR,bf,cM]
   . by_cases YP:k<M.length
     . rw [List.getElem?_append_left YP] at hk;exact h2 k s hk
     . rw [bG (by omega)] at hk
       have hkk:k=i:=by
        have:=(aJ.1 hk).1
        simp at this;omega
       subst hkk;rw [h1,gx] at hk;simp at hk;subst hk;exact hr
 . obtain ⟨h1,h2⟩:=hM;refine ⟨_,?_,M,rfl,h1,h2⟩;simp only [E5Z,ba,decide_false,cond_false]
end
end Go.Mid
namespace Go.Mid
def E76 (L:List (fb×fb))(o:fb)(a b:Nat):Bool:=match L[a]?,L[b]? with
 | some x,some y=>x.2.any λp=>D8V eqS p.1 false y.2 && !D8V eqS p.1 false o
 | _,_=>false
def E7i (L:List (fb×fb))(o:fb)(a n:Nat):List (Int×Int):=(bA n).filterMap λb=>if E76 L o a b then some ((a:Int),(b:Int)) else none
theorem F1B (L:List (fb×fb))(o:fb)(a n:Nat):(E7i L o a n).length<=n:=by
 have:=List.length_filterMap_le (λb=>if E76 L o a b then some ((a:Int),(b:Int)) else none) (bA n)
 rw [List.length_range] at this;exact this
theorem F3E (L:List (fb×fb))(o:fb)(a n:Nat):E7i L o a (n+1)=E7i L o a n++(if E76 L o a n then [((a:Int),(n:Int))] else []):=by
 unfold E7i;rw [jO,List.filterMap_append];congr 1;by_cases h:E76 L o a n=true
 . simp [h]
 . simp [h]
theorem F4b {L:List (fb×fb)}{o:fb}{a:Nat}(ha:a<L.length)(hL:L.length<=1000)(lo io src:Int)(E:List (Int×Int))(hE:E.length<=1000000) :
 A0d E5F ((L,o,E.length,(a:Int),lo,io,(L.length:Int),(0:Int)),src,E)=some ((L,o,(E++E7i L o a L.length).length,lo,io),src,E++E7i L o a L.length):=by
 have key:=V4 (f:=E5F) (S:=List (Int×Int)) L.length (λi s=>((L,o,s.length,(a:Int),lo,io,(L.length:Int),(i:Int)),src,s)) (λi s=>s=E++E7i L o a i)
  (λb=>b=((L,o,(E++E7i L o a L.length).length,lo,io),src,E++E7i L o a L.length)) E (by simp [E7i]) (λi s hi hs=>?_) (λs hs=>?_)
 . obtain ⟨b,h1,h2⟩:=key;rw [h2] at h1;exact h1
 . left;refine ⟨E++E7i L o a (i+1),?_,rfl⟩;subst hs;have hi':(i:Int)<L.length:=by omega
   have hlk:E6i (L[a],L[i],o)=some (E76 L o a i):=by
    rw [E9v];simp only [E76,ah ha,ah hi]
   have b1:cQ (E++E7i L o a i).length (E++E7i L o a i).length=true:=auP (ay _);have b2:cQ (((E++E7i L o a i).length+1)*16) 140737488355328=true:=by
    refine auP ?_
    have:=F1B L o a i
    rw [aR];omega
   simp only [E5F,hi',decide_true,cond_true,aq,ar,ah hi,ah ha,ai,hlk,iQ (show i<9223372036854775807 by omega),b1,b2]
   rw [F3E];cases E76 L o a i
   . simp
   . simp [a6];omega
 . subst hs;refine ⟨_,?_,rfl⟩;simp only [E5F,ba,decide_false,cond_false]
def E5j (L:List (fb×fb))(o:fb)(n:Nat):List (Int×Int):=(bA n).flatMap λa=>E7i L o a L.length
theorem E9N (L:List (fb×fb))(o:fb)(n:Nat):E5j L o (n+1)=E5j L o n++E7i L o n L.length:=by
 unfold E5j;rw [jO,List.flatMap_append];simp
theorem E87 (L:List (fb×fb))(o:fb):∀ n,(E5j L o n).length<=n*L.length
 | 0=>by simp [E5j]
 | n+1=>by
   rw [E9N,aR,du]
   have:=E87 L o n
   have:=F1B L o n L.length
   omega
theorem F21 {L:List (fb×fb)}{o:fb}(hL:L.length<=1000)(src:Int) :
 A0d E5G ((L,o,(0:Nat),(L.length:Int),(0:Int)),src,[])=some ((L,(E5j L o L.length).length),src,E5j L o L.length):=by
 have key:=V4 (f:=E5G) (S:=List (Int×Int)) L.length (λi s=>((L,o,s.length,(L.length:Int),(i:Int)),src,s)) (λi s=>s=E5j L o i)
  (λb=>b=((L,(E5j L o L.length).length),src,E5j L o L.length)) [] (by simp [E5j]) (λi s hi hs=>?_) (λs hs=>?_)
 . obtain ⟨b,h1,h2⟩:=key;rw [h2] at h1;exact h1
 . left;refine ⟨E5j L o (i+1),?_,rfl⟩;subst hs;have hi':(i:Int)<L.length:=by omega
   have hlen:(E5j L o i).length<=1000000:=by
    have:=E87 L o i
    have:i*L.length<=1000*1000:=aSZ (by omega) hL
    omega
   have hr:=F4b (o:=o) hi hL (L.length:Int) (i:Int) src (E5j L o i) hlen;simp only [E5G,hi',decide_true,cond_true];refine (congrArg (λq=>bc q _) hr).trans ?_
   simp only [ai,iQ (show i<9223372036854775807 by omega),E9N]
 . subst hs;refine ⟨_,?_,rfl⟩;simp only [E5G,ba,decide_false,cond_false]
end Go.Mid
namespace Go.Mid
theorem F2l {R:Int->Int->Prop}(HK:∀ a,¬ R a a)(Nr:∀ a b,R a b->R b a->False):∀ {l m:List Int},l.Pairwise R->m.Pairwise R->(∀ x,x∈l↔x∈m)->l=m
 | [],[],_,_,_=>rfl
 | [],b::m,_,_,h=>absurd ((h b).2 (by simp)) (by simp)
 | a::l,[],_,_,h=>absurd ((h a).1 (by simp)) (by simp)
 | a::l,b::m,hl,hm,h=>by
   have zj:=bN.1 hl;have xM:=bN.1 hm;have uO:a=b:=by
    rcases aG.1 ((h a).1 (by simp)) with e | e
    . exact e
    . rcases aG.1 ((h b).2 (by simp)) with e2 | e2
      . exact e2.symm
      . exact (Nr _ _ (zj.1 b e2) (xM.1 a e)).elim
   subst uO;congr 1;refine F2l HK Nr zj.2 xM.2 λx=>?_
   constructor
   . intro hx;rcases aG.1 ((h x).1 (bC _ hx)) with e | e
     . subst e;exact (HK _ (zj.1 _ hx)).elim
     . exact e
   . intro hx;rcases aG.1 ((h x).2 (bC _ hx)) with e | e
     . subst e;exact (HK _ (xM.1 _ hx)).elim
     . exact e
theorem F5D {l m:List Int}(hl:l.Pairwise (· < ·))(hm:m.Pairwise (· < ·))(h:∀ x,x∈l↔x∈m):l=m :=
 F2l (λa=>ba a) (λa b h1 h2=>by omega) hl hm h
theorem Rn {l:List Int}{x:Int}:x∈A0K l↔x∈l:=(Me l).mem_iff
theorem C9l {l:List Int}(h:l.Nodup):(A0K l).Pairwise (· < ·):=by
 have h1:=B5E l;have h2:(A0K l).Nodup:=(Me l).nodup_iff.2 h;exact (h1.and h2).imp λ⟨a,b⟩=>by omega
end Go.Mid
namespace Go.Mid
def jg:List Int->List Int
 | []=>[]
 | [x]=>[x]
 | x::y::r=>if x=y then jg (y::r) else x::jg (y::r)
theorem Ro:∀ (l:List Int) (x:Int),x∈jg l↔x∈l
 | [],x=>by simp [jg]
 | [a],x=>by simp [jg]
 | a::b::r,x=>by
   unfold jg;split
   . rename_i h;rw [Ro (b::r) x,h];simp
   . rw [aG,Ro (b::r) x];simp
theorem Ns:∀ l:List Int,(jg l).length<=l.length
 | []=>by simp [jg]
 | [a]=>by simp [jg]
 | a::b::r=>by
   unfold jg
   have:=Ns (b::r)
   split<;>simp only [bf] at * <;> omega
theorem B62:∀ (l:List Int) (x:Int),l ≠ []->jg (l++[x])=if l.getLast?=some x then jg l else jg l++[x]
 | [],_,h=>absurd rfl h
 | [a],x,_=>by
   simp only [aS,a7,jg,List.getLast?_singleton,aa];by_cases h:a=x
   . simp [h]
   . simp [h]
 | a::b::r,x,_=>by
   have ih:=B62 (b::r) x (by simp)
   have e:(a::b::r).getLast?=(b::r).getLast?:=by simp
   rw [e];simp only [aS] at ih ⊢;rw [jg,ih]
   conv=>rhs;rw [jg]
   by_cases h1:a=b<;>by_cases h2:(b::r).getLast?=some x<;>simp [h1,h2]
def pS (l:List Int)(m:Nat):List Int:=jg (l.take m)++l.drop (jg (l.take m)).length
theorem C1U (l:List Int)(m:Nat):(jg (l.take m)).length<=m:=dF (Ns _) (by rw [aW];omega)
theorem C4f (l:List Int)(m:Nat):(pS l m).length=l.length:=by
 unfold pS;have h1:=Ns (l.take m);rw [aW] at h1;rw [aR,cm];omega
theorem C4g {l:List Int}{m i:Nat}(h:(jg (l.take m)).length<=i):(pS l m)[i]?=l[i]?:=by
 unfold pS;rw [bG h,List.getElem?_drop];congr 1;omega
theorem C9m {l:List Int}{m:Nat}(h0:0<m)(h:m<=l.length):(l.take m).getLast?=l[m-1]?:=by
 rw [List.getLast?_eq_getElem?,aW,Nat.min_eq_left h,List.getElem?_take_of_lt (by omega)]
theorem JJ {l:List Int}{m:Nat}(h0:0<m)(h:m<l.length):jg (l.take (m+1))=if l[m]'h=l[m-1]'(by omega) then jg (l.take m) else jg (l.take m)++[l[m]'h]:=by
 have hne:l.take m ≠ []:=by
  intro e
  have:=congrArg List.length e
  rw [aW,cM] at this;omega
 rw [vz h,B62 _ _ hne,C9m h0 (by omega),ah (by omega:m-1<l.length)]
 simp only [aa];by_cases e:l[m]'h=l[m-1]'(by omega)
 . rw [if_pos e.symm,if_pos e]
 . rw [if_neg (λh=>e h.symm),if_neg e]
theorem D07 {l:List Int}{m:Nat}(h0:0<m)(h:m<l.length)(hk:(jg (l.take m)).length<=m-1)(hne:l[m]'h≠l[m-1]'(by omega)):pS l (m+1)=(pS l m).set (jg (l.take m)).length (l[m]'h):=by
 unfold pS;rw [JJ h0 h,if_neg hne];generalize jg (l.take m)=D at hk;rw [List.set_append_right _ _ (ay _),gx,aR]
 have:D.length<l.length:=by omega
 rw [List.drop_eq_getElem_cons this,List.set_cons_zero];simp
theorem B63 {l:List Int}{m k:Nat}(JG:k<m)(hk:(jg (l.take m)).length<=m-1):∀ j,m+j<=l.length->(jg (l.take (m+j))).length<=m+j-1
 | 0,_=>by simpa using hk
 | j+1,h=>by
   have ih:=B63 JG hk j (by omega)
   rw [← bV,JJ (by omega) (by omega)]
   split
   . omega
   . rw [aR];simp;omega
theorem C1V {LL:List (List Int)}{I N off:Nat}{l:List Int}(hI:I<LL.length)(hN:l.length=N)(hN2:N<=1000)(ho:0<off)(hoN:off<N)(hd:(jg (l.take (off+1))).length=off) :
 A0d Jt (((I,N),(off:Int),(I,off,N-off),1),LL.set I (pS l (off+1)))=some (((I,N),((jg l).length:Int)),LL.set I (pS l N)):=by
 have hall:jg (l.take N)=jg l:=by rw [a6 (by omega)]
 have:A0d Jt (((I,N),((jg (l.take (off+1+0))).length:Int),(I,off,N-off),((0+1:Nat):Int)),LL.set I (pS l (off+1+0)))=_ :=
  tQ (f:=Jt) (N-off-1) (λi=>(((I,N),((jg (l.take (off+1+i))).length:Int),(I,off,N-off),((i+1:Nat):Int)),LL.set I (pS l (off+1+i)))) (((I,N),((jg l).length:Int)),LL.set I (pS l N)) (λi hi=>by
   have hm:off+1+i<l.length:=by omega
   have hsm:=B63 (l:=l) (m:=off+1) (k:=off) (by omega) (by omega) i (by omega)
   have hk0:=C1U l (off+1+i);have hj:((i+1:Nat):Int)<((N-off:Nat):Int):=by omega
   have EJ:(0:Int)<=((i+1:Nat):Int):=by omega
   have hw:ao.wrap (((i+1:Nat):Int)-1)=(i:Int):=by rw [E9S (by omega) (by omega)];omega
   have e1:(LL.set I (pS l (off+1+i)))[I]?=some (pS l (off+1+i)):=by simp [hI]
   have g1:(pS l (off+1+i))[off+(i+1)]?=some (l[off+1+i]'hm):=by
    rw [C4g (by omega),show off+(i+1)=off+1+i by omega,ah hm]
   have g2:(pS l (off+1+i))[off+i]?=some (l[off+i]'(by omega)):=by
    rw [C4g (by omega),ah (by omega)]
   have hlen:=C4f l (off+1+i);have rG:=JJ (l:=l) (m:=off+1+i) (by omega) hm
   have Nt:off+1+i-1=off+i:=by omega
   simp only [Nt] at rG;simp only [Jt,hj,decide_true,cond_true,e1,ai,EJ,ar,lB (show i+1<N-off by omega),g1,hw,aq,lB (show i<N-off by omega),g2]
   by_cases hne:l[off+1+i]'hm=l[off+i]'(by omega)
   . rw [if_pos hne] at rG;have hb:(l[off+1+i]'hm != l[off+i]'(by omega))=false:=by simp [hne]
     have ha:pS l (off+1+(i+1))=pS l (off+1+i):=by
      rw [← bV];unfold pS;rw [rG]
     rw [ha,← bV (off+1) i 1,rG];simp only [hb,cond_false,iQ (show i+1<9223372036854775807 by omega)]
   . rw [if_neg hne] at rG;have hb:(l[off+1+i]'hm != l[off+i]'(by omega))=true:=by simpa using hne
     have ha:=D07 (l:=l) (m:=off+1+i) (by omega) hm (by omega) (by simp only [Nt];exact hne)
     rw [← bV (off+1) i 1,ha,rG];have hDl:(jg (l.take (off+1+i))).length<(pS l (off+1+i)).length:=by omega
     simp only [hb,cond_true,lB (show (jg (l.take (off+1+i))).length<N by omega),ah hDl,ai,beq_self_eq_true,iy,lB hI,nK,aR,bf,cM,iQ (show (jg (l.take (off+1+i))).length<9223372036854775807 by omega),iQ (show i+1<9223372036854775807 by omega)]) (by
   have hm:off+1+(N-off-1)=N:=by omega
   have e1:(LL.set I (pS l N))[I]?=some (pS l N):=by simp [hI]
   have hj:¬ ((N-off-1+1:Nat):Int)<((N-off:Nat):Int):=by omega
   rw [hm,hall];simp only [Jt,hj,decide_false,cond_false,e1,ai])
 have h0:((jg (l.take (off+1+0))).length:Int)=(off:Int):=by rw [dG,hd]
 rw [h0] at this;exact this
theorem Xx {l:List Int}{k:Nat}(h:∀ j (h0:0<j) (hj:j<k) (hl:j<l.length),l[j]≠l[j-1]'(by omega)):∀ m,m<=k->m<=l.length->jg (l.take m)=l.take m
 | 0,_,_=>by simp [jg]
 | 1,_,hl=>by
   rw [vz (by omega:0<l.length)];simp [jg]
 | m+2,hk,hl=>by
   rw [JJ (by omega) (by omega:m+1<l.length),if_neg (h (m+1) (by omega) (by omega) (by omega)),Xx h (m+1) (by omega) (by omega),← vz (by omega)]
theorem C7E {LL:List (List Int)}{I:Nat}{l:List Int}(hL:LL[I]?=some l)(hN2:l.length<=1000) :
 ∃ l',QK ((I,l.length),LL)=some ((I,(jg l).length),LL.set I l')∧l'.take (jg l).length=jg l∧(jg l).length<=l'.length:=by
 have hI:=(aJ.1 hL).1;unfold QK;by_cases h2:(l.length:Int)<2
 . have hd:jg l=l:=by
    match l,h2 with
    | [],_=>rfl
    | [_],_=>rfl
    | _::_::_,h=>simp at h;omega
   refine ⟨l,?_,by rw [hd,pN],by rw [hd];exact ay _⟩
   simp only [h2,decide_true,cond_true,hL,ai,hd,Xw hL]
 simp only [h2,decide_false,cond_false,hL,ai];have key:∀ n k,n+k=l.length->0<k->(∀ j (h0:0<j) (hj:j<k) (hl:j<l.length),l[j]≠l[j-1]'(by omega))->
  ∃ b,A0d Ju (((I,l.length),(k:Int)),LL)=some b ∧
   ((∃ l',b=.inl ((I,(jg l).length),LL.set I l')∧l'.take (jg l).length=jg l∧(jg l).length<=l'.length)∨(b=.inr ((I,l.length),LL)∧jg l=l)):=by
  intro n
  induction n with
  | zero =>
    intro k hk h0 hp;have zq:k=l.length:=by omega
    refine ⟨.inr ((I,l.length),LL),qc ?_,.inr ⟨rfl,?_⟩⟩
    . subst zq;simp only [Ju,ba,decide_false,cond_false,hL,ai]
    . have:=Xx hp l.length (by omega) (ay _)
      rwa [pN] at this
  | succ n ih =>
    intro k hk h0 hp;have zq:k<l.length:=by omega
    have nq:(k:Int)<(l.length:Int):=by omega
    have hw:ao.wrap ((k:Int)-1)=((k-1:Nat):Int):=by rw [E9S (by omega) (by omega)];omega
    by_cases he:l[k]=l[k-1]'(by omega)
    . have hd:jg (l.take k)=l.take k:=Xx hp k (ay _) (by omega)
      have hd1:(jg (l.take (k+1))).length=k:=by
       rw [JJ h0 zq,if_pos he,hd,aW];omega
      have ha:pS l (k+1)=l:=by
       unfold pS;rw [hd1,JJ h0 zq,if_pos he,hd,List.take_append_drop]
      have CT:=C1V (LL:=LL) (I:=I) (N:=l.length) (off:=k) (l:=l) hI rfl hN2 h0 zq hd1;rw [ha,Xw hL] at CT;have hle:=Ns l;have hD:pS l l.length=jg l++l.drop (jg l).length:=by unfold pS;rw [pN]
      have Xy:=C4f l l.length;refine ⟨.inl ((I,(jg l).length),LL.set I (A1x (pS l l.length) (some (jg l).length) (au (l.length-(jg l).length) 0))),qc ?_,.inl ⟨_,rfl,?_,?_⟩⟩
      . have e1:(LL.set I (pS l l.length))[I]?=some (pS l l.length):=by simp [hI]
        have e3:(A1x (pS l l.length) (some (jg l).length) (au (l.length-(jg l).length) 0)).length=(pS l l.length).length:=by
         unfold A1x;simp only [aR,aW,fZ,cm,Xy];omega
        simp only [Ju,nq,decide_true,cond_true,hL,ai,aq,ar,lB zq,ah zq,hw,lB (show k-1<l.length by omega),ah (show k-1<l.length by omega),he,beq_self_eq_true,jE (show k<=l.length by omega)]
        refine (congrArg (λo=>bc o _) CT).trans ?_
        simp only [ai,e1,jE hle,aq,decide_true,cond_true,ar,beq_self_eq_true,iy,lB hI,e3,nK];rw [jE (by rw [fZ,Xy];omega)]
        rfl
      . unfold A1x;simp only;rw [hD,List.append_assoc,List.take_append_of_le_length (by rw [aW];simp),sV,aBG,List.take_left' rfl]
      . unfold A1x;simp only [aR,aW,fZ,cm,Xy];omega
    . have hb:(l[k]==l[k-1]'(by omega))=false:=by simpa using he
      obtain ⟨b,h1,h3⟩:=ih (k+1) (by omega) (by omega) (λj a b c=>by
       by_cases e:j=k
       . subst e;exact he
       . exact hp j a (by omega) c)
      refine ⟨b,?_,h3⟩;rw [← h1];exact vw (by
       simp only [Ju,nq,decide_true,cond_true,hL,ai,aq,ar,lB zq,ah zq,hw,lB (show k-1<l.length by omega),ah (show k-1<l.length by omega),hb,cond_false,iQ (show k<9223372036854775807 by omega)])
 obtain ⟨b,h1,h3⟩:=key (l.length-1) 1 (by omega) (by omega) (λj a b c=>by omega)
 have h1:A0d Ju (((I,l.length),(1:Int)),LL)=some b:=h1;rw [h1];rcases h3 with ⟨l',rfl,h4,h5⟩ | ⟨rfl,h4⟩
 . refine ⟨l',?_,h4,h5⟩;have e1:(LL.set I l')[I]?=some l':=by simp [hI]
   simp only [ai,vh,e1]
 . refine ⟨l,?_,by rw [h4,pN],by rw [h4];exact ay _⟩
   simp only [ai,lS,hL,h4,Xw hL]
end Go.Mid
namespace Go.Mid
structure VI (n:Nat)(Q:Int->Prop)(seen:List Bool)(out:List Int):Prop where
 sl:seen.length=n
 nd:out.Nodup
 mem:∀ v:Nat,v<n->(seen[v]?=some true↔(v:Int)∈out)
 yd:∀ v∈out,0<=v∧v<n
 q:∀ v∈out,Q v
 cnt:seen.count true=out.length
theorem VI.le {n:Nat}{Q:Int->Prop}{seen:List Bool}{out:List Int}(h:VI n Q seen out):out.length<=n:=by
 rw [← h.cnt,← h.sl];exact List.count_le_length
theorem VI.add {n:Nat}{Q:Int->Prop}{seen:List Bool}{out:List Int}(h:VI n Q seen out){w:Nat}(hw:w<n)(hs:seen[w]?=some false)(hq:Q w):VI n Q (seen.set w true) (out++[(w:Int)]) where
 sl:=by rw [iy];exact h.sl
 nd:=by
  have:(w:Int)∉out:=λhm=>by
   have:=(h.mem w hw).2 hm
   rw [hs] at this;cases this
  rw [List.nodup_append];refine ⟨h.nd,by simp,?_⟩
  intro a ha b hb e;simp at hb;subst hb;subst e;exact this ha
 mem:=by
  intro v hv;rw [dD];by_cases e:w=v
  . subst e;simp [h.sl,hv]
  . rw [if_neg e,h.mem v hv];simp only [az,aX];constructor
    . exact .inl
    . rintro (h1 | h1)
      . exact h1
      . omega
 yd:=by
  intro v hv;rcases az.1 hv with h1 | h1
  . exact h.yd v h1
  . rw [aX] at h1;subst h1;omega
 q:=by
  intro v hv;rcases az.1 hv with h1 | h1
  . exact h.q v h1
  . rw [aX] at h1;subst h1;exact hq
 cnt:=by
  have eC:w<seen.length:=by rw [h.sl];exact hw
  have hg:seen[w]=false:=by
   rw [ah eC] at hs;exact s8 hs
  rw [List.count_set eC,hg,h.cnt];simp
structure NB (n:Nat)(next:List (List Int)):Prop where
 len:next.length=n
 yd:∀ l∈next,∀ w∈l,0<=w∧w<n
 Rp:∀ l∈next,l.length<=1000
 small:n<=1000
theorem F1W {n:Nat}{Q:Int->Prop}{next:List (List Int)}(hN:NB n next){L:List Int}(hL:L∈next)(hQ:∀ w∈L,Q w)(i0:Int)(seen:List Bool)(out:List Int)(h:VI n Q seen out) :
 ∃ seen' out',A0d E5w ((next,n,out.length,i0,L,(L.length:Int),0),seen,out)=some ((next,n,out'.length,i0),seen',out')∧VI n Q seen' out'∧out <+: out'∧∀ w∈L,w∈out':=by
 have hf:=hN.Rp L hL
 have:=V4 (f:=E5w) L.length (λi (s:List Bool×List Int)=>((next,n,s.2.length,i0,L,(L.length:Int),(i:Int)),s.1,s.2)) (λi s=>VI n Q s.1 s.2∧out <+: s.2∧∀ k (hk:k<L.length),k<i->L[k]∈s.2)
  (λb=>∃ seen' out',b=((next,n,out'.length,i0),seen',out')∧VI n Q seen' out'∧out <+: out'∧∀ w∈L,w∈out') (seen,out) ⟨h,aBM _,λk _ hk=>by omega⟩ (λi s hi hJ=>by
    obtain ⟨hv,hp,hall⟩:=hJ;have hi':(i:Int)<L.length:=by omega
    obtain ⟨w,hw⟩:∃ w:Nat,L[i]=(w:Int):=eB (hN.yd L hL _ (aM hi)).1;have Em:w<n:=by have:=(hN.yd L hL _ (aM hi)).2;rw [hw] at this;omega
    have hle:=hv.le;have hsm:=hN.small;have eC:w<s.1.length:=by rw [hv.sl];exact Em
    left;by_cases hs:s.1[w]=true
    . refine ⟨s,?_,hv,hp,λk hk Dp=>?_⟩
      . simp only [E5w,hi',decide_true,cond_true,aq,ar,ah hi,ai,hw,lB Em,ah eC,hs,bO,cond_false,iQ (show i<9223372036854775807 by omega)]
      . rcases mV.1 Dp with h1 | h1
        . exact hall k hk h1
        . subst h1;rw [hw];exact (hv.mem w Em).1 (by rw [ah eC,hs])
    . have hs:s.1[w]=false:=by simpa using hs
      refine ⟨(s.1.set w true,s.2++[(w:Int)]),?_,hv.add Em (by rw [ah eC,hs]) (by rw [← hw];exact hQ _ (aM hi)),hp.trans (List.prefix_append _ _),λk hk Dp=>?_⟩
      . simp only [E5w,hi',decide_true,cond_true,aq,ar,ah hi,ai,hw,lB Em,ah eC,hs,auI,jE (ay _),pN,aR,bf,cM,iQ (show i<9223372036854775807 by omega)]
        rw [jE (show (s.2.length+1)*8<=140737488355328 by omega)]
        rfl
      . rcases mV.1 Dp with h1 | h1
        . exact List.mem_append_left _ (hall k hk h1)
        . subst h1;rw [hw];simp) (λs hJ=>by
    obtain ⟨hv,hp,hall⟩:=hJ;refine ⟨((next,n,s.2.length,i0),s.1,s.2),?_,s.1,s.2,rfl,hv,hp,λw hw=>?_⟩
    . simp only [E5w,ba,decide_false,cond_false]
    . obtain ⟨k,hk,rfl⟩:=pd hw;exact hall k hk hk)
 obtain ⟨b,hb,seen',out',rfl,h1,h2,h3⟩:=this;exact ⟨seen',out',hb,h1,h2,h3⟩
theorem F1X {n:Nat}{Q:Int->Prop}{next:List (List Int)}(hN:NB n next)(hQ:∀ v:Nat,(hv:v<next.length)->Q v->∀ w∈next[v],Q w)(seen:List Bool)(out:List Int)(h:VI n Q seen out) :
 ∃ out',A0d E5x ((next,n,out.length,0),seen,out)=some (out'.length,out')∧(∃ s,VI n Q s out')∧out <+: out'∧∀ v∈out',∀ (hv:v.toNat<next.length),∀ w∈next[v.toNat],w∈out':=by
 have hsm:=hN.small
 have:=C8K (f:=E5x) (λa=>∃ (i:Nat) (seen':List Bool) (out':List Int),a=((next,n,out'.length,(i:Int)),seen',out')∧VI n Q seen' out'∧out <+: out'∧i<=out'.length∧∀ k (hk:k<out'.length),k<i->∀ (hv:(out'[k]).toNat<next.length),∀ w∈next[(out'[k]).toNat],w∈out')
  (λb=>∃ out',b=(out'.length,out')∧(∃ s,VI n Q s out')∧out <+: out'∧∀ v∈out',∀ (hv:v.toNat<next.length),∀ w∈next[v.toNat],w∈out')
  (λa=>n-a.1.2.2.2.toNat) (λa ha=>by
    obtain ⟨i,seen',out',rfl,hv,hp,hi,hall⟩:=ha;have hle:=hv.le;by_cases rX:i<out'.length
    . left;have hi':(i:Int)<(out'.length:Int):=by omega
      obtain ⟨u,hu⟩:∃ u:Nat,out'[i]=(u:Int):=eB (hv.yd _ (aM rX)).1;have XA:u<n:=by have:=(hv.yd _ (aM rX)).2;rw [hu] at this;omega
      have aEO:u<next.length:=by rw [hN.len];exact XA
      obtain ⟨s2,o2,e1,v2,p2,a2⟩:=F1W hN (aM aEO) (hQ u aEO (by rw [← hu];exact hv.q _ (aM rX))) (i:Int) seen' out' hv
      refine ⟨((next,n,o2.length,((i+1:Nat):Int)),s2,o2),?_,⟨i+1,s2,o2,rfl,v2,hp.trans p2,dF rX p2.length_le,?_⟩,?_⟩
      . simp only [E5x,hi',decide_true,cond_true,aq,ar,lB rX,ah rX,ai,hu,ah aEO,e1,iQ (show i<9223372036854775807 by omega)]
      . intro k hk Dp HP w hw;have YP:k<out'.length:=by omega
        have hg:o2[k]=out'[k]:=(List.IsPrefix.getElem p2 YP).symm;rcases mV.1 Dp with h1 | h1
        . simp only [hg] at HP hw;exact p2.subset (hall k YP h1 HP w hw)
        . subst h1;simp only [hg,hu,ar] at hw;exact a2 w hw
      . show n-(((i+1:Nat):Int)).toNat<n-((i:Int)).toNat;simp only [ar];omega
    . right;have hie:i=out'.length:=by omega
      refine ⟨(out'.length,out'),?_,out',rfl,⟨_,hv⟩,hp,λv hvm hvn w hw=>?_⟩
      . have eC:¬ (i:Int)<(out'.length:Int):=by omega
        simp only [E5x,eC,decide_false,cond_false]
      . obtain ⟨k,hk,rfl⟩:=pd hvm;exact hall k hk (by omega) hvn w hw)
  ((next,n,out.length,0),seen,out) ⟨0,seen,out,rfl,h,aBM _,dg _,λk _ hk=>by omega⟩
 obtain ⟨b,hb,out',rfl,h1,h2,h3⟩:=this;exact ⟨out',hb,h1,h2,h3⟩
end Go.Mid
namespace Go.Mid
theorem C9n (x:List Int):uR (Ty.vec 1 (Ty.int ao)) x=x:=by
 show fp (uR (Ty.int ao)) x=x
 have:(uR (Ty.int ao):Int->Int)=id:=by funext y;rfl
 exact (congrArg (λf=>fp f x) this).trans (wR x)
theorem B4A (l:List (List Int)):fp (uR (Ty.vec 1 (Ty.int ao))) l=l:=by
 have:(uR (Ty.vec 1 (Ty.int ao)):List Int->List Int)=id:=by funext y;exact C9n y
 exact (congrArg (λf=>fp f l) this).trans (wR l)
abbrev oW:=List (Int×Int)
def eg (E:oW)(v:Nat):List Int:=(E.filter λe=>e.1==(v:Int)).map (·.2)
def zM (n:Nat)(E:oW):List (List Int):=(bA n).map (eg E)
theorem Rq {n v:Nat}{E:oW}(h:v<n):(zM n E)[v]?=some (eg E v):=by simp [zM,h]
theorem Nu (n:Nat)(E:oW):(zM n E).length=n:=by simp [zM]
theorem D08 (E:oW)(e:Int×Int)(v:Nat):eg (E++[e]) v=if e.1=(v:Int) then eg E v++[e.2] else eg E v:=by
 unfold eg;rw [List.filter_append,b9];by_cases h:e.1=(v:Int)<;>simp [h]
theorem C9o {n:Nat}{E:oW}{u:Nat}{w:Int}(hu:u<n):zM n (E++[((u:Int),w)])=(zM n E).set u (eg E u++[w]):=by
 apply fy;intro v;rw [dD,Nu];by_cases hv:v<n
 . rw [Rq hv,D08];by_cases e:u=v
   . subst e;simp [hv]
   . have:¬ ((u:Int)=(v:Int)):=by omega
     simp [e,this,Rq hv]
 . rw [bJ (by rw [Nu];omega)]
   have:¬ u=v:=by omega
   rw [if_neg this,bJ (by rw [Nu];omega)]
theorem Xz (E:oW)(v:Nat):(eg E v).length<=E.length:=by
 unfold eg;rw [aB];exact dt ..
theorem C5V {E:oW}{v:Nat}{w:Int}:w∈eg E v↔((v:Int),w)∈E:=by
 unfold eg;rw [bp];constructor
 . rintro ⟨⟨a,b⟩,h1,rfl⟩;rw [cZ] at h1
   have:=h1.2
   simp at this;rw [← this];exact h1.1
 . intro h;exact ⟨((v:Int),w),cZ.2 ⟨h,by simp⟩,rfl⟩
def Ej (n:Nat)(E:oW):Prop:=∀ e∈E,0<=e.1∧e.1<n∧0<=e.2∧e.2<n
theorem D09 {n:Nat}{E:oW}(hr:Ej n E)(hE:E.length<=1000):A0d MH ((n,E,(E.length:Int),0),au n [])=some (n,zM n E):=by
 have h0:au n []=zM n (E.take 0):=by
  apply fy;intro v;by_cases hv:v<n
  . rw [Rq hv];simp [hv,eg]
  . rw [bJ (by simp;omega),bJ (by rw [Nu];omega)]
 rw [h0]
 have:=tQ (f:=MH) E.length (λi=>((n,E,(E.length:Int),(i:Int)),zM n (E.take i))) (n,zM n E) (λi hi=>by
  have hi':(i:Int)<E.length:=by omega
  have he:=hr E[i] (aM hi);obtain ⟨u,hu⟩:∃ u:Nat,(E[i]).1=(u:Int):=eB he.1;have XA:u<n:=by have:=he.2.1;rw [hu] at this;omega
  have hei:E[i]=((u:Int),(E[i]).2):=Prod.ext hu rfl;rw [vz hi,hei,C9o XA];have hl:=Xz (E.take i) u;rw [aW] at hl;have b0:Nat.blt 0 2=true:=rfl;have b1:Nat.blt 1 2=true:=rfl;simp only [MH,hi',decide_true,cond_true,aq,ar,ah hi,ai,b0,b1,hu,lB XA,Rq XA,beq_self_eq_true,jE (ay _),Nu,pN,aR,bf,cM,iQ (show i<9223372036854775807 by omega)]
  rw [jE (show ((eg (E.take i) u).length+1)*8<=140737488355328 by omega)]
  rfl) (by
  simp only [MH,ba,decide_false,cond_false,pN])
 simpa using this
def A2U (n:Nat)(E:oW):List (List Int):=(bA n).map λv=>jg (A0K (eg E v))
def ye (n:Nat)(E:oW)(i:Nat):List (List Int):=(bA n).map λv=>if v<i then jg (A0K (eg E v)) else eg E v
theorem XB {n v i:Nat}{E:oW}(h:v<n):(ye n E i)[v]?=some (if v<i then jg (A0K (eg E v)) else eg E v):=by simp [ye,h]
theorem Nv (n i:Nat)(E:oW):(ye n E i).length=n:=by simp [ye]
theorem D1a {n i:Nat}{E:oW}(hi:i<n):ye n E (i+1)=(ye n E i).set i (jg (A0K (eg E i))):=by
 apply fy;intro v;rw [dD,Nv];by_cases hv:v<n
 . rw [XB hv];by_cases e:i=v
   . subst e;simp [hv]
   . rw [if_neg e,XB hv];by_cases h1:v<i
     . rw [if_pos h1,if_pos (by omega)]
     . rw [if_neg h1,if_neg (by omega)]
 . rw [bJ (by rw [Nv];omega)]
   have:¬ i=v:=by omega
   rw [if_neg this,bJ (by rw [Nv];omega)]
theorem D2Z {LL:List (List Int)}{I:Nat}{l:List Int}(hL:LL[I]?=some l)(hl:l.length<=1000):QJ ((I,l.length),LL)=some (LL.set I (A0K l)):=by
 unfold QJ;have h1:A1x l none (A0K l)=A0K l:=by
  unfold A1x;simp only;rw [Hv,List.drop_length,List.append_nil]
 simp only [hL,ai,pN,h1,Hv,jE (ay _),cond_true,beq_self_eq_true];rw [lB (by omega)]
 rfl
theorem D1b {n:Nat}{E:oW}(hn:n<=1000)(hE:E.length<=1000):A0d MI ((n,(n:Int),0),zM n E)=some (n,A2U n E):=by
 have h0:zM n E=ye n E 0:=by simp [zM,ye]
 have h1:A2U n E=ye n E n:=by
  unfold A2U ye;apply List.map_congr_left;intro v hv;rw [if_pos (cu.1 hv)]
 rw [h0,h1]
 have:=tQ (f:=MI) n (λi=>((n,(n:Int),(i:Int)),ye n E i)) (n,ye n E n) (λi hi=>by
  have hi':(i:Int)<n:=by omega
  have hl:=Xz E i;have g0:(ye n E i)[i]?=some (eg E i):=by rw [XB hi,if_neg (Nat.lt_irrefl i)]
  have hs:=D2Z g0 (by omega)
  have xj:(A0K (eg E i)).length=(eg E i).length:=Hv _;have g1:((ye n E i).set i (A0K (eg E i)))[i]?=some (A0K (eg E i)):=by simp [Nv,hi]
  obtain ⟨l',c1,c2,c3⟩:=C7E g1 (by omega)
  have g2:((ye n E i).set i l')[i]?=some l':=by simp [Nv,hi]
  have g3:(jg (A0K (eg E i))).length=(aP (jg (A0K (eg E i))).length l').length:=by rw [c2]
  have bq:iI i i=true:=by simp
  simp only [MI,hi',decide_true,cond_true,aq,ar,lB hi,g0,ai,hs,g1,c1,g2,bq,jE c3,c2,beq_self_eq_true,nK,D1a hi,iQ (show i<9223372036854775807 by omega)]) (by
  simp only [MI,ba,decide_false,cond_false])
 simpa using this
theorem XC (n:Nat)(E:oW):(A2U n E).length=n:=by simp [A2U]
theorem C1W {n:Nat}{E:oW}(hn:n<=1000)(hr:Ej n E)(hE:E.length<=1000):Jv ((n:Int),E)=some (A2U n E):=by
 unfold Jv;simp only [aq,decide_true,cond_true,ar,lu];rw [jE (show n*24<=140737488355328 by omega)]
 simp only [cond_true,D09 hr hE,ai,D1b hn hE];rw [jE (show n<=(A2U n E).length by rw [XC];exact ay _)]
 have e:aP n (A2U n E)=A2U n E:=a6 (by rw [XC];exact ay _)
 refine congrArg some ?_;refine Eq.trans ?_ (B4A (A2U n E));exact congrArg (λl:List (List Int)=>fp (uR (Ty.vec 1 (Ty.int ao))) l) e
theorem C1I {n v:Nat}{E:oW}(h:v<(A2U n E).length):(A2U n E)[v]=jg (A0K (eg E v)):=by simp [A2U]
theorem C9p {n v:Nat}{E:oW}{w:Int}(h:v<(A2U n E).length):w∈(A2U n E)[v]↔((v:Int),w)∈E:=by
 rw [C1I h,Ro,Rn,C5V]
theorem D1c {n:Nat}{E:oW}(hn:n<=1000)(hr:Ej n E)(hE:E.length<=1000):NB n (A2U n E) where
 len:=XC n E
 yd:=by
  intro l hl w hw;obtain ⟨v,hv,rfl⟩:=pd hl
  have:=hr _ ((C9p hv).1 hw)
  exact this.2.2
 Rp:=by
  intro l hl;obtain ⟨v,hv,rfl⟩:=pd hl;rw [C1I hv];have h1:=Ns (A0K (eg E v));rw [Hv] at h1;have h2:=Xz E v;omega
 small:=hn
end Go.Mid
