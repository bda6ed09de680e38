/- Sets of texts, kept in order; ranges over them. -/
import Derived.Test.YtdohjmmogbefmaaGreatM9
import Derived.Sort.EncStr
import Derived.Sort.Walk0
import Derived.Test.YtdohjmmogbefmaaGreatT2
set_option linter.unusedSimpArgs false
set_option linter.unusedVariables false
open Array renaming toList_inj → aSY, getElem?_mapIdx → avt, getElem?_toList → kB
open BitVec renaming ofInt → b8, toNat_ofNat → iu
open Bool renaming or_eq_true → cn, and_eq_true → aj, false_eq_true → aI, eq_iff_iff → c6, eq_false_iff → aSQ, not_not → aBD, not_false → auI, true_and → dm, false_and → sS, true_or → tB, and_true → fQ, not_true → bO, false_or → gL, eq_false_or_eq_true → nv
open ByteArray renaming toList → ea, mk → ir
open Go.ByteArray renaming toList_eq → avG
open Go.IntKind renaming u32 → cG
open Go.Op renaming bytesLess → lP
open Go.Proofs renaming encStr → ei
open Go.Sort renaming Holds → ym, putRow → fq
open Go.Value renaming string → bq
open Int renaming natCast_nonneg → aq, toNat_natCast → ar, lt_irrefl → ba, natCast_zero → av
open List renaming map_cons → aF, mem_cons → aG, mem_map_of_mem → dY, mem_map → bp, foldl_cons → jM, any_eq_true → fV, length_map → aB, pairwise_cons → bN, getElem?_eq_getElem → ah, findIdx?_eq_some_iff_findIdx_eq → aSV, length_cons → bf, take_of_length_le → a6, getElem_mem → aM, take → aP, take_length → dM, all_eq_not_any_not → gm, any_cons → aS6, length → cz, drop_eq_getElem_cons → bY, take_succ_eq_append_getElem → auR, length_take → aW, take_zero → ff, mem_iff_getElem? → aBk, getElem?_eq_some_iff → aJ, length_append → aR, length_nil → cM, all_eq_true → bB, getElem_of_mem → pd, nodup_nil → gV, find?_cons → iz, mem_of_getElem? → bH
open Nat renaming lt_succ_iff_lt_or_eq → mV, zero_add → bS, le_refl → ay, ble → cQ, ble_eq_true_of_le → auP, zero_le → dg, mod_eq_of_lt → aSU, testBit_two_pow_sub_one → iJ, pow_lt_pow_right → oM, le_of_lt → fH
open Option renaming bind_some → ai, map_some → ak, bind → bc
open Option.some renaming injEq → aa, inj → s8
open Sum renaming elim_inl → vh, elim_inr → lS, inl → aC, inr → aA, elim → bT
namespace Go.Mid
theorem F0F:∀ x:List UInt8,lP x x=false
 | []=>rfl
 | a::x=>by simp [lP,F0F x]
theorem F1p:∀ {x y z:List UInt8},lP x y=true->lP y z=true->lP x z=true
 | [],[],_,h,_=>by simp [lP] at h
 | _::_,[],_,h,_=>by simp [lP] at h
 | [],_::_,[],_,h=>by simp [lP] at h
 | [],_::_,_::_,_,_=>by simp [lP]
 | _::_,_::_,[],_,h=>by simp [lP] at h
 | a::x,b::y,c::z,h,k=>by
   simp only [lP,cn,decide_eq_true_eq,aj,beq_iff_eq] at h k ⊢;rcases h with h | ⟨rfl,h⟩
   . rcases k with k | ⟨rfl,k⟩
     . exact .inl (UInt8.lt_trans h k)
     . exact .inl h
   . rcases k with k | ⟨rfl,k⟩
     . exact .inl k
     . exact .inr ⟨rfl,F1p h k⟩
theorem F3t:∀ (x y:List UInt8),x≠y->lP x y=false->lP y x=true
 | [],[],h,_=>(h rfl).elim
 | _::_,[],_,_=>by simp [lP]
 | [],_::_,_,h=>by simp [lP] at h
 | a::x,b::y,hne,h=>by
   simp only [lP,Bool.or_eq_false_iff,decide_eq_false_iff_not,Bool.and_eq_false_imp,beq_iff_eq] at h;simp only [lP,cn,decide_eq_true_eq,aj,beq_iff_eq];by_cases uO:a=b
   . subst uO;exact .inr ⟨rfl,F3t x y (λe=>hne (by rw [e])) (h.2 rfl)⟩
   . refine .inl ?_;rcases UInt8.lt_or_lt_of_ne uO with q | q
     . exact absurd q h.1
     . exact q
theorem toList_inj {x y:ByteArray}(h:x.toList=y.toList):x=y:=by
 rw [avG,avG] at h;exact ByteArray.ext (aSY.1 h)
abbrev Txt:=ByteArray
abbrev fb:=List (Txt×Bool)
abbrev eqS:Txt->Txt->Bool:=eqK TD.str
abbrev ltS:Txt->Txt->Bool:=ltK TD.str
theorem E5z {x y:Txt}:eqS x y=true↔x=y:=by
 show (x.toList==y.toList)=true↔_;rw [beq_iff_eq];exact ⟨toList_inj,λh=>by rw [h]⟩
theorem F0c (x:Txt):ltS x x=false:=F0F _
theorem F0G {x y z:Txt}(h:ltS x y=true)(k:ltS y z=true):ltS x z=true:=F1p h k
theorem F4K {x y:Txt}(h:x≠y)(k:ltS x y=false):ltS y x=true:=F3t _ _ (λe=>h (toList_inj e)) k
def SE:fb->Prop
 | []=>True
 | p::r=>p.2=true∧(∀ q∈r,ltS p.1 q.1=true)∧SE r
def nb (l:fb):List Txt:=l.map (·.1)
theorem E9T {x z:Txt}:∀ {l:fb},z∈nb (aBy ltS x true l)↔z=x∨z∈nb l
 | []=>by simp [aBy,nb]
 | p::r=>by
   have ih:=E9T (x:=x) (z:=z) (l:=r);simp only [aBy];split
   . simp only [nb,aF,aG] at ih ⊢;rw [ih];constructor
     . rintro (h | h | h)<;>simp [h]
     . rintro (h | h | h)<;>simp [h]
   . simp [nb]
theorem E9U {x:Txt}:∀ {l:fb},D80 eqS x l=true↔x∈nb l
 | []=>by simp [D80,nb]
 | p::r=>by
   have ih:=E9U (x:=x) (l:=r);simp only [D80,nb,aF,aG];by_cases h:x=p.1
   . rw [if_pos (E5z.2 h)];simp [h]
   . rw [if_neg (λe=>h (E5z.1 e)),ih]
     simp [h,nb]
theorem SE.aBy {x:Txt}:∀ {l:fb},SE l->x∉nb l->SE (aBy ltS x true l)
 | [],_,_=>by simp [Mid.aBy,SE]
 | p::r,h,hx=>by
   simp only [nb,aF,aG,not_or] at hx;simp only [Mid.aBy];by_cases eC:ltS p.1 x=true
   . rw [if_pos eC];refine ⟨h.1,λq hq=>?_,SE.aBy h.2.2 hx.2⟩
     have:q.1∈nb (Mid.aBy ltS x true r):=dY hq
     rcases E9T.1 this with e | e
     . rw [e];exact eC
     . obtain ⟨q',Z3,he⟩:=bp.1 e
       have:=h.2.1 q' Z3
       rw [he] at this;exact this
   . rw [if_neg eC];have hxp:ltS x p.1=true:=F4K (λe=>hx.1 e.symm) (by simpa using eC)
     refine ⟨rfl,λq hq=>?_,h⟩
     rcases aG.1 hq with rfl | hq
     . exact hxp
     . exact F0G hxp (h.2.1 q hq)
theorem E9g {x:Txt}:∀ {l:fb},SE l->E9f eqS x true l=l
 | [],_=>rfl
 | p::r,h=>by
   simp only [E9f];by_cases e:x=p.1
   . rw [if_pos (E5z.2 e)];obtain ⟨a,b⟩:=p;have h1:b=true:=h.1;subst h1;subst e;rfl
   . rw [if_neg (λq=>e (E5z.1 q)),E9g h.2.2]
theorem SE.put {x:Txt}{l:fb}(h:SE l):SE (D8N eqS ltS x true l):=by
 unfold D8N;split
 . rw [E9g h];exact h
 . rename_i hx;exact h.aBy λe=>hx (E9U.2 e)
theorem F0p {x z:Txt}{l:fb}(h:SE l):z∈nb (D8N eqS ltS x true l)↔z=x∨z∈nb l:=by
 unfold D8N;split
 . rename_i hx;rw [E9g h];exact ⟨.inr,λe=>e.elim (λe=>by rw [e];exact E9U.1 hx) id⟩
 . exact E9T
theorem E7J {x:Txt}:∀ {l:fb},SE l->(D8V eqS x false l=true↔x∈nb l)
 | [],_=>by simp [D8V,nb]
 | p::r,h=>by
   have ih:=E7J (x:=x) h.2.2;simp only [D8V,nb,aF,aG];by_cases e:x=p.1
   . rw [if_pos (E5z.2 e)];simp [e,h.1]
   . rw [if_neg (λq=>e (E5z.1 q)),ih]
     simp [e,nb]
theorem SE.eq:∀ {l m:fb},SE l->SE m->(∀ z,z∈nb l↔z∈nb m)->l=m
 | [],[],_,_,_=>rfl
 | [],q::s,_,_,h=>by have:=(h q.1).2 (by simp [nb]);simp [nb] at this
 | p::r,[],_,_,h=>by have:=(h p.1).1 (by simp [nb]);simp [nb] at this
 | p::r,q::s,hl,hm,h=>by
   have le:∀ {p q:Txt×Bool} {r s:fb},SE (p::r)->SE (q::s)->(∀ z,z∈nb (p::r)↔z∈nb (q::s))->p.1=q.1∨ltS q.1 p.1=true:=by
    intro p q r s hl hm h
    have:p.1∈nb (q::s):=(h p.1).1 (by simp [nb])
    simp only [nb,aF,aG,bp] at this;rcases this with e | ⟨a,ha,e⟩
    . exact .inl e
    . right;rw [← e];exact hm.2.1 a ha
   have hpq:p.1=q.1:=by
    rcases le hl hm h with e | e
    . exact e
    rcases le hm hl (λz=>(h z).symm) with e' | e'
    . exact e'.symm
    have:=F0G e e'
    rw [F0c] at this;cases this
   have hp:p=q:=by
    obtain ⟨a,b⟩:=p;obtain ⟨c,d⟩:=q;have h1:b=true:=hl.1;have h2:d=true:=hm.1;subst h1;subst h2;have h3:a=c:=hpq;rw [h3]
   subst hp;have hne:∀ {r:fb},SE (p::r)->p.1∉nb r:=by
    intro r hr CT;obtain ⟨a,ha,e⟩:=bp.1 CT
    have:=hr.2.1 a ha
    rw [e,F0c] at this;cases this
   rw [SE.eq hl.2.2 hm.2.2 λz=>?_]
   have hz:=h z;simp only [nb,aF,aG] at hz;by_cases e:z=p.1
   . subst e;exact ⟨λq=>absurd q (hne hl),λq=>absurd q (hne hm)⟩
   . simp only [e,false_or] at hz;exact hz
theorem F0d {A B P:Type}(f:P->A->A):∀ (l:List P) (a:A),E5D (B:=B) (λp a=>some (.inl (f p a))) l a=some (.inl (l.foldl (λa p=>f p a) a))
 | [],_=>rfl
 | p::r,a=>by
   simp only [E5D,ai,vh,jM];exact F0d f r (f p a)
theorem E80 {A B P:Type}(c:P->A->Bool)(b:B)(a:A)(f:P->A->Option (A ⊕ B))(hf:∀ p,f p a=if c p a then some (.inr b) else some (.inl a)):∀ (l:List P),E5D f l a=some (if l.any (c · a) then .inr b else .inl a)
 | []=>rfl
 | p::r=>by
   simp only [E5D,hf p];by_cases h:c p a=true
   . simp [h]
   . have h:c p a=false:=by simpa using h
     simp only [h,aI,if_false,ai,vh];rw [E80 c b a f hf r];simp [h]
def E6O (m l:fb):fb:=l.foldl (λa p=>D8N eqS ltS p.1 true a) m
theorem SE.union:∀ {l m:fb},SE m->SE (E6O m l)
 | [],_,h=>h
 | p::r,m,h=>by
   show SE (E6O (D8N eqS ltS p.1 true m) r);exact SE.union h.put
theorem E7f {z:Txt}:∀ {l m:fb},SE m->(z∈nb (E6O m l)↔z∈nb m∨z∈nb l)
 | [],_,h=>by simp [E6O,nb]
 | p::r,m,h=>by
   show z∈nb (E6O (D8N eqS ltS p.1 true m) r)↔_;rw [E7f h.put,F0p h];simp only [nb,aF,aG];constructor
   . rintro ((h | h) | h)<;>simp [h]
   . rintro (h | h | h)<;>simp [h]
theorem F2J {l l' m:fb}(h:SE m)(hp:l'.Perm l):E6O m l'=E6O m l:=by
 refine SE.eq h.union h.union λz=>?_
 rw [E7f h,E7f h]
 have:z∈nb l'↔z∈nb l:=(hp.map _).mem_iff
 rw [this]
theorem F1q {α:Type}{l l':List α}(hp:l'.Perm l)(c:α->Bool):l'.any c=l.any c:=by
 rw [c6];simp only [fV,hp.mem_iff]
end Go.Mid
namespace Go.Mid
theorem F6e (s:ByteArray):ei s.toList=bq s:=by
 show bq ⟨s.toList.toArray⟩=_;rw [avG]
theorem F6E {w:World}{b off:Nat}{zs:List ByteArray}(h:ym bq w b off zs.toArray):ym ei w b off (zs.map ea).toArray:=by
 intro j hj;have Dy:j<zs.length:=by simpa using hj
 obtain ⟨h1,h2⟩:=h j (by simpa using Dy)
 refine ⟨?_,h2⟩;rw [h1];have e1:zs.toArray[j]! =zs[j]:=by simp [Dy]
 have e2:(zs.map ea).toArray[j]! =zs[j].toList:=by simp [Dy]
 rw [e1,e2,F6e]
theorem F6z (w:World)(b off:Nat)(zs:List ByteArray):fq ei w b off (zs.map ea).toArray=fq bq w b off zs.toArray:=by
 unfold fq;congr 1;funext c;unfold Sort.putCells;apply Array.ext_getElem?;intro k;rw [avt,avt];cases c[k]? with
 | none=>rfl
 | some x =>
   simp only [ak,List.size_toArray,aB,aa];by_cases h:off<=k∧k<off+zs.length
   . rw [if_pos h,if_pos h];have eC:k-off<zs.length:=by omega
     have e1:zs.toArray[k-off]! =zs[k-off]:=by simp [eC]
     have e2:(zs.map ea).toArray[k-off]! =zs[k-off].toList:=by simp [eC]
     rw [e1,e2,F6e]
   . rw [if_neg h,if_neg h]
theorem F6b {α:Type}(r:α->α->Prop)(aRs:∀ a b,r a b->r b a->a=b):∀ {l m:List α},l.Perm m->l.Pairwise r->m.Pairwise r->l=m
 | [],m,h,_,_=>h.nil_eq
 | a::l,[],h,_,_=>by have:=h.length_eq;simp at this
 | a::l,b::m,h,hl,hm=>by
   have zj:=bN.1 hl;have xM:=bN.1 hm;have uO:a=b:=by
    have h1:a∈b::m:=h.mem_iff.1 (by simp)
    have h2:b∈a::l:=h.mem_iff.2 (by simp)
    rcases aG.1 h1 with e | e
    . exact e
    . rcases aG.1 h2 with e2 | e2
      . exact e2.symm
      . exact aRs a b (zj.1 b e2) (xM.1 a e)
   subst uO;rw [F6b r aRs (List.perm_cons a |>.1 h) zj.2 xM.2]
def s7 (x y:List UInt8):Prop:=lP y x=false
theorem F6Q (x y:List UInt8)(h:s7 x y)(k:s7 y x):x=y:=by
 apply Classical.byContradiction;intro hne
 have:=F3t x y hne k
 unfold s7 at h;rw [h] at this;cases this
theorem F6i {x y z:List UInt8}(h:s7 x y)(k:s7 y z):s7 x z:=by
 unfold s7 at *
 rw [aSQ];intro hzx;by_cases e:x=y
 . subst e;rw [k] at hzx;cases hzx
 . have xL:lP x y=true:=F3t y x (λq=>e q.symm) h
   have:=F1p hzx xL
   rw [k] at this;cases this
theorem F6j (x y:List UInt8):s7 x y∨s7 y x:=by
 unfold s7;cases h:lP y x with
 | false=>exact .inl rfl
 | true =>
   right;rw [aSQ];intro k
   have:=F1p h k
   rw [F0F] at this;cases this
theorem F54 {x y:List UInt8}:decide (x<=y)=true↔s7 x y:=by
 rw [decide_eq_true_iff];unfold s7;rw [Go.Proofs.bytesLess_eq,decide_eq_false_iff_not];exact Iff.rfl
theorem F57 (x:ByteArray):∀ l:List ByteArray,(F4Z x l).Perm (x::l)
 | []=>.refl _
 | y::r=>by
   simp only [F4Z];split
   . exact ((F57 x r).cons y).trans (List.Perm.swap x y r)
   . exact .refl _
theorem F55:∀ l:List ByteArray,(F10 l).Perm l
 | []=>.refl _
 | x::r=>(F57 x _).trans ((F55 r).cons x)
theorem F6A (x:ByteArray):∀ l:List ByteArray,l.Pairwise (λa b=>s7 a.toList b.toList)->(F4Z x l).Pairwise (λa b=>s7 a.toList b.toList)
 | [],_=>by simp [F4Z]
 | y::r,h=>by
   have h':=bN.1 h;simp only [F4Z];split
   . rename_i eC;refine bN.2 ⟨λz hz=>?_,F6A x r h'.2⟩
     rcases aG.1 ((F57 x r).mem_iff.1 hz) with rfl | hz
     . rcases F6j y.toList z.toList with q | q
       . exact q
       . unfold s7 at q;rw [q] at eC;cases eC
     . exact h'.1 z hz
   . rename_i eC;have xL:s7 x.toList y.toList:=by simpa [s7] using eC
     refine bN.2 ⟨λz hz=>?_,h⟩
     rcases aG.1 hz with rfl | hz
     . exact xL
     . exact F6i xL (h'.1 z hz)
theorem F56:∀ l:List ByteArray,(F10 l).Pairwise (λa b=>s7 a.toList b.toList)
 | []=>.nil
 | x::r=>F6A x _ (F56 r)
theorem F6p (l:List ByteArray):(l.map ea).mergeSort (λx y=>decide (x<=y))=(F10 l).map ea:=by
 refine F6b s7 F6Q ((List.mergeSort_perm _ _).trans ((F55 l).map _).symm) ?_ ?_
 . have:=List.pairwise_mergeSort (le:=λx y:List UInt8=>decide (x<=y)) (λa b c h1 h2=>F54.2 (F6i (F54.1 h1) (F54.1 h2))) (λa b=>by
    rw [cn];exact (F6j a b).imp F54.2 F54.2) (l.map ea)
   exact this.imp λh=>F54.1 h
 . rw [List.pairwise_map];exact F56 l
theorem F6J {P:Program}{f:Nat}(h:∀ (blk off cap:Nat) (ss:List (List UInt8)) (w:World),ym ei w blk off ss.toArray->blk<w.heap.size->ss.length<4611686018427387904->
 Calls P f #[.slice (some ⟨blk,off,none⟩) ss.length cap] w λe w'=>e=.returned (.tuple #[])∧∃ n os,w'=Sort.grow (fq ei (Sort.ahead w n) blk off (ss.mergeSort λx y=>decide (x<=y)).toArray) os):F6r P f:=by
 intro b off cap zs w h1 h2 h3
 have:=h b off cap (zs.map ea) w (F6E h1) h2 (by simpa using h3)
 rw [aB] at this;refine this.mono ?_;rintro e w' ⟨he,n,os,hw⟩;refine ⟨he,n,os,?_⟩;rw [hw,F6p,F6z]
end Go.Mid
namespace Go.Mid
theorem E9h {a b:ByteArray}:Lv a b=eqS a b:=rfl
theorem F2K (a b:ByteArray):Lv a b=Lv b a:=by
 rw [c6,E9h,E9h,E5z,E5z];exact ⟨Eq.symm,Eq.symm⟩
def E4Y (l:List ByteArray)(a:ByteArray):Bool:=l.any λb=>Lv b a
theorem E5Q {l:List ByteArray}{a:ByteArray}:E4Y l a=true↔a∈l:=by
 simp only [E4Y,fV,E9h,E5z];exact ⟨λ⟨x,h,e⟩=>e ▸ h,λh=>⟨a,h,rfl⟩⟩
theorem E9i (l:List ByteArray)(a:ByteArray)(hl:l.length<=9223372036854775807):E4F (l,a)=some (E4Y l a):=by
 unfold E4F E5L E4Y
 have:=Ma (f:=E4L) l (λi=>(l,a,(l.length:Int),(i:Int))) (λ_ b=>Lv b a) (λi=>.inl (i:Int)) (.inr ()) (λi hi=>by
  have hi':(i:Int)<l.length:=by omega
  simp only [E4L,hi',decide_true,cond_true,aq,ar,ah hi,ai,F2K a,iQ (show i<9223372036854775807 by omega)]
  cases Lv l[i] a<;>rfl) (by
  simp only [E4L,ba,decide_false,cond_false])
 simp only [av] at this;rw [this,← Qm (λb=>Lv b a) l 0]
 cases tm (λ_ b=>Lv b a) l 0 with
 | none=>rfl
 | some i=>simp
abbrev E5b:=ByteArray×Int×Int×ByteArray
abbrev tI:=ByteArray×List E5b
def E7K (k:Int)(i:Nat):Bool:=pL cG (jK cG k (i:Int)) (1:Int)==(1:Int)
def E81 (head:List ByteArray)(k:Int)(i:Nat)(s:fb×fb)(u:E5b):fb×fb :=
 bif Lv u.1 { data:=#[] } then s else bif E4Y head u.1 then s else
  (bif E7K k i then D8N eqS ltS u.1 true s.1 else s.1,D8N eqS ltS u.1 true s.2)
theorem F1T (keys:List (ByteArray×Int))(n:Nat)(k:Int)(ats:List tI)(c d:Int)(terms:List E5b)(head:List ByteArray)(at2:List tI)(out:List (fb×fb))(hh:head.length<=9223372036854775807)(ht:terms.length<=1000000)(s:fb×fb) :
 A0d E6q ((keys,n,k,ats,c,d,terms,(terms.length:Int),(0:Int)),(head,at2),out,s.1,s.2) =
  some ((λr:fb×fb=>((keys,n,ats,c,d),(head,at2),out,r.1,r.2)) ((terms.zipIdx).foldl (λs x=>E81 head k x.2 s x.1) s)):=by
 refine F0a (f:=E6q) terms (λi s=>((keys,n,k,ats,c,d,terms,(terms.length:Int),(i:Int)),(head,at2),out,s.1,s.2)) (λi s u=>E81 head k i s u) (λr:fb×fb=>((keys,n,ats,c,d),(head,at2),out,r.1,r.2)) (λi hi s=>?_) (λs=>?_) s
 . have hi':(i:Int)<terms.length:=by omega
   simp only [E6q,hi',decide_true,cond_true,aq,ar,ah hi,ai,E9i head _ hh,iQ (show i<9223372036854775807 by omega),E81]
   cases Lv terms[i].1 { data:=#[] }
   . cases E4Y head terms[i].1
     . have hb:(pL cG (jK cG k (i:Int)) (1:Int)==(1:Int))=E7K k i:=rfl;rw [hb];cases E7K k i<;>rfl
     . rfl
   . rfl
 . simp only [E6q,ba,decide_false,cond_false]
structure AtS (head:List ByteArray)(k:Int)(terms:List E5b)(n:Nat)(s:fb×fb):Prop where
 ok1:SE s.1
 ok2:SE s.2
 GG:∀ z,z∈nb s.1↔∃ i u,i<n∧terms[i]?=some u∧u.1=z∧z≠{ data:=#[] }∧z∉head∧E7K k i=true
 aEE:∀ z,z∈nb s.2↔∃ i u,i<n∧terms[i]?=some u∧u.1=z∧z≠{ data:=#[] }∧z∉head
theorem AtS.step {head:List ByteArray}{k:Int}{terms:List E5b}{n:Nat}{s:fb×fb}(h:AtS head k terms n s){u:E5b}(hu:terms[n]?=some u):AtS head k terms (n+1) (E81 head k n s u):=by
 have aGb:∀ z,(∃ i v,i<n+1∧terms[i]?=some v∧v.1=z∧z≠{ data:=#[] }∧z∉head∧E7K k i=true)↔((∃ i v,i<n∧terms[i]?=some v∧v.1=z∧z≠{ data:=#[] }∧z∉head∧E7K k i=true)∨(u.1=z∧z≠{ data:=#[] }∧z∉head∧E7K k n=true)):=by
  intro z;constructor
  . rintro ⟨i,v,hi,h1,h2⟩;rcases mV.1 hi with hi | rfl
    . exact .inl ⟨i,v,hi,h1,h2⟩
    . rw [hu,aa] at h1;subst h1;exact .inr h2
  . rintro (⟨i,v,hi,h1⟩ | h1)
    . exact ⟨i,v,by omega,h1⟩
    . exact ⟨n,u,by omega,hu,h1⟩
 have aGc:∀ z,(∃ i v,i<n+1∧terms[i]?=some v∧v.1=z∧z≠{ data:=#[] }∧z∉head)↔((∃ i v,i<n∧terms[i]?=some v∧v.1=z∧z≠{ data:=#[] }∧z∉head)∨(u.1=z∧z≠{ data:=#[] }∧z∉head)):=by
  intro z;constructor
  . rintro ⟨i,v,hi,h1,h2⟩;rcases mV.1 hi with hi | rfl
    . exact .inl ⟨i,v,hi,h1,h2⟩
    . rw [hu,aa] at h1;subst h1;exact .inr h2
  . rintro (⟨i,v,hi,h1⟩ | h1)
    . exact ⟨i,v,by omega,h1⟩
    . exact ⟨n,u,by omega,hu,h1⟩
 have same:(u.1={ data:=#[] }∨u.1∈head)->AtS head k terms (n+1) s:=by
  intro hn;refine ⟨h.ok1,h.ok2,λz=>?_,λz=>?_⟩
  . rw [aGb,h.GG];refine ⟨.inl,λq=>q.elim id ?_⟩
    rintro ⟨rfl,q1,q2,_⟩;exact (hn.elim q1 q2).elim
  . rw [aGc,h.aEE];refine ⟨.inl,λq=>q.elim id ?_⟩
    rintro ⟨rfl,q1,q2⟩;exact (hn.elim q1 q2).elim
 unfold E81;by_cases he:u.1={ data:=#[] }
 . rw [show Lv u.1 { data:=#[] }=true from E5z.2 he,cond_true];exact same (.inl he)
 . rw [show Lv u.1 { data:=#[] }=false from aSQ.2 λe=>he (E5z.1 e),cond_false]
   by_cases hh:u.1∈head
   . rw [E5Q.2 hh,cond_true];exact same (.inr hh)
   . rw [show E4Y head u.1=false from aSQ.2 λe=>hh (E5Q.1 e),cond_false]
     refine ⟨?_,h.ok2.put,λz=>?_,λz=>?_⟩
     . cases E7K k n
       . exact h.ok1
       . exact h.ok1.put
     . rw [aGb];cases hb:E7K k n
       . simp only [cond_false];rw [h.GG];simp
       . simp only [cond_true];rw [F0p h.ok1,h.GG];constructor
         . rintro (rfl | q)
           . exact .inr ⟨rfl,he,hh,trivial⟩
           . exact .inl q
         . rintro (q | ⟨q,_⟩)
           . exact .inr q
           . exact .inl q.symm
     . rw [aGc];show z∈nb (D8N eqS ltS u.1 true s.2)↔_;rw [F0p h.ok2,h.aEE];constructor
       . rintro (rfl | q)
         . exact .inr ⟨rfl,he,hh⟩
         . exact .inl q
       . rintro (q | ⟨q,_⟩)
         . exact .inr q
         . exact .inl q.symm
end Go.Mid
namespace Go.Mid
def E5O (keys:List (ByteArray×Int))(name:ByteArray):Int×Bool:=match keys.findIdx? (λp=>Lv p.1 name) with
 | some i=>((keys[i]?.getD ({ data:=#[] },0)).2,true)
 | none=>(0,false)
theorem F1r (keys:List (ByteArray×Int))(name:ByteArray)(hl:keys.length<=1000000):E7s (keys,name)=some (E5O keys name):=by
 unfold E7s E4O
 have:=Ma (f:=E4w) keys (λi=>(keys,name,(keys.length:Int),(i:Int))) (λ_ p=>Lv p.1 name) (λi=>.inl (i:Int)) (.inr ()) (λi hi=>by
  have hi':(i:Int)<keys.length:=by omega
  simp only [E4w,E8q,hi',decide_true,cond_true,aq,ar,ah hi,ai,iQ (show i<9223372036854775807 by omega)]
  cases Lv keys[i].1 name<;>rfl) (by
  simp only [E4w,ba,decide_false,cond_false])
 simp only [av] at this;rw [this,D86];unfold E5O;cases h:keys.findIdx? (λp=>Lv p.1 name) with
 | none=>rfl
 | some i =>
   have hi:i<keys.length:=by
    have:=aSV.1 h
    omega
   have h1:decide ((i:Int)<0)=false:=by simp
   have h2:decide ((0:Int)<=(i:Int))=true:=by simp
   simp only [ak,Nat.add_zero,ai,vh,h1,cond_false,h2,cond_true,ar,ah hi,Option.getD_some]
theorem AtS.fold {head:List ByteArray}{k:Int}{terms:List E5b}:∀ (r:List E5b) (n:Nat) (s:fb×fb),terms.drop n=r->AtS head k terms n s->AtS head k terms (n+r.length) ((r.zipIdx n).foldl (λs x=>E81 head k x.2 s x.1) s)
 | [],n,s,_,h=>h
 | u::r,n,s,hd,h=>by
   have hu:terms[n]?=some u:=by
    have:=congrArg (·[0]?) hd
    simpa using this
   have N9:terms.drop (n+1)=r:=by
    rw [← List.drop_drop,hd];rfl
   have:=AtS.fold r (n+1) _ N9 (h.step hu)
   rw [List.zipIdx_cons,jM,bf];have e:n+(r.length+1)=n+1+r.length:=by omega
   rw [e];exact this
def E6K (keys:List (ByteArray×Int))(head:List ByteArray)(a:tI):fb×fb:=(a.2.zipIdx).foldl (λs x=>E81 head (E5O keys a.1).1 x.2 s x.1) ([],[])
theorem E9V (keys:List (ByteArray×Int))(head:List ByteArray)(a:tI):AtS head (E5O keys a.1).1 a.2 a.2.length (E6K keys head a):=by
 have h0:AtS head (E5O keys a.1).1 a.2 0 ([],[]):=⟨trivial,trivial,λz=>by simp [nb],λz=>by simp [nb]⟩
 have:=AtS.fold a.2 0 ([],[]) rfl h0
 rw [bS] at this;exact this
theorem F3T (keys:List (ByteArray×Int))(head:List ByteArray)(ats:List tI)(hk:keys.length<=1000000)(hh:head.length<=1000000)(ha:ats.length<=1000000)(ht:∀ a∈ats,a.2.length<=1000000) :
 E6D (keys,head,ats)=some (ats.map (E6K keys head)):=by
 have key:=F0a (f:=E6r) (S:=Nat×List (fb×fb)) ats
  (λi s=>((keys,i,ats,(ats.length:Int),(i:Int)),(head,ats),(ats.take i).map (E6K keys head))) (λi s u=>s) (λ_=>(ats.length,ats.map (E6K keys head))) (λi hi s=>?_) (λs=>?_) (0,[])
 . unfold E6D;have k2:A0d E6r ((keys,(0:Nat),ats,(ats.length:Int),(0:Int)),(head,ats),[])=some (ats.length,ats.map (E6K keys head)):=key;refine (congrArg (λo=>bc o _) k2).trans ?_
   simp only [ai,aB,Nat.ble_eq,ay,cond_true];rw [show cQ ats.length ats.length=true from auP (ay _),cond_true];rw [a6 (by simp)]
 . have hi':(i:Int)<ats.length:=by omega
   have CT:=F1T keys i (E5O keys ats[i].1).1 ats (ats.length:Int) (i:Int) ats[i].2 head ats ((ats.take i).map (E6K keys head)) (by omega) (ht _ (aM hi)) ([],[])
   simp only [E6r,hi',decide_true,cond_true,aq,ar,ah hi,ai,F1r keys _ hk];refine (congrArg (λo=>bc o _) CT).trans ?_
   have hlen:((ats.take i).map (E6K keys head)).length=i:=by simp;omega
   have b1:cQ i ((ats.take i).map (E6K keys head)).length=true:=by rw [hlen];exact auP (ay _)
   have b2:cQ ((i+1)*16) 140737488355328=true:=auP (by omega)
   simp only [ai,b1,b2,cond_true,iQ (show i<9223372036854775807 by omega)]
   have e1:aP i ((ats.take i).map (E6K keys head))=(ats.take i).map (E6K keys head):=a6 (by rw [hlen];exact ay _)
   have e2:(ats.take (i+1)).map (E6K keys head)=(ats.take i).map (E6K keys head)++[E6K keys head ats[i]]:=by
    rw [List.take_add_one,List.map_append,ah hi];rfl
   rw [e1,e2];rfl
 . simp only [E6r,ba,decide_false,cond_false,dM]
end Go.Mid
namespace Go.Mid
theorem E5K {a b:ByteArray}:Lv a b=true↔a=b:=by
 unfold Lv;rw [beq_iff_eq,avG,avG];constructor
 . intro h;cases a;cases b;congr 1;exact aSY.1 h
 . intro h;rw [h]
theorem E9j (a b:ByteArray):Lv a b=decide (a=b):=by
 by_cases h:a=b
 . rw [decide_eq_true h,E5K.2 h]
 . rw [decide_eq_false h];cases he:Lv a b with
   | false=>rfl
   | true=>exact absurd (E5K.1 he) h
theorem F0e (a b:ByteArray):Lv a b=Lv b a:=by
 rw [E9j,E9j,decide_eq_decide];exact ⟨Eq.symm,Eq.symm⟩
abbrev F0q:=Int×Int×ByteArray
abbrev F2L:=Int×List F0q
abbrev E4Z:=ByteArray×List ByteArray×List F2L
def E4N (x:F0q):Bool :=
 bif x.1==0 then bif x.2.1==0 then Lv x.2.2 ⟨#[]⟩ else false
 else bif x.1==1 then Lv x.2.2 ⟨#[]⟩
 else bif x.1==2 then bif x.2.1==0 then decide ((x.2.2.size:Int)<=200) else false
 else bif x.1==3 then bif decide (x.2.1 ≥ 1) then Lv x.2.2 ⟨#[]⟩ else false else false
theorem E8N (x:F0q):E7y x=some (E4N x):=by
 unfold E7y E4N;cases (x.1==0)<;>cases (x.1==1)<;>cases (x.1==2)<;>cases (x.1==3)<;>cases (x.2.1==0)<;>cases decide (x.2.1 ≥ 1)<;>rfl
theorem E9k (x:F0q):E54 x=some (E4N x):=by
 unfold E54 E4N;cases (x.1==0)<;>cases (x.1==1)<;>cases (x.1==2)<;>cases (x.1==3)<;>cases (x.2.1==0)<;>cases decide (x.2.1 ≥ 1)<;>rfl
theorem F3u (l:List F0q)(hl:l.length<=9223372036854775807):E6A l=some (l.all E4N):=by
 unfold E6A
 have:=wo (f:=E5W) l (λi=>(l,(i:Int))) (λv=>!E4N v) (.inl false) (.inr ()) (λi hi=>by
  have hi':(i:Int)<l.length:=by omega
  simp only [E5W,hi',decide_true,cond_true,aq,ar,ah hi,ai,E9k,iQ (show i<9223372036854775807 by omega)]
  cases E4N l[i]<;>rfl) (by
  simp only [E5W,ba,decide_false,cond_false])
 simp only [av] at this;rw [this]
 have:l.any (λv=>!E4N v)=!l.all E4N:=by rw [gm];simp
 rw [this];cases l.all E4N<;>rfl
theorem F0r (l:List F0q)(hl:l.length<=9223372036854775807):E6z l=some (l.all E4N):=by
 unfold E6z E4x E4z
 have:=Ma (f:=E4l) l (λi=>(l,(),(l.length:Int),(i:Int))) (λ_ v=>!E4N v) (λi=>.inl (i:Int)) (.inr ()) (λi hi=>by
  have hi':(i:Int)<l.length:=by omega
  simp only [E4l,E6Q,hi',decide_true,cond_true,aq,ar,ah hi,ai,E8N,iQ (show i<9223372036854775807 by omega)]
  cases E4N l[i]<;>rfl) (by
  simp only [E4l,ba,decide_false,cond_false])
 simp only [av] at this;rw [this];have h2:l.any (λv=>!E4N v)=!l.all E4N:=by rw [gm];simp
 rw [← aBD (l.all E4N),← h2,← Qm (λv=>!E4N v) l 0]
 cases tm (λ_ v=>!E4N v) l 0 with
 | none=>rfl
 | some i=>simp
def E4S (c:UInt8):Bool:=(decide (97<=c.toNat)&&decide (c.toNat<=122)) || (decide (65<=c.toNat)&&decide (c.toNat<=90)) || decide (c.toNat=95)
def E5s (c:UInt8):Bool:=decide (48<=c.toNat)&&decide (c.toNat<=57)
def E82:ByteArray:=ir #[110,117,108,108]
def E47 (s:ByteArray):Bool:=!Lv s ⟨#[]⟩&&decide (s.size<=24) && !Lv s E82&&(match s.data.toList with | []=>false | c::r=>E4S c&&r.all λc=>E4S c || E5s c)
theorem E9l (c:UInt8):E5T (c.toNat:Int)=some (E4S c):=by
 unfold E5T E4S;by_cases h1:97<=c.toNat<;>by_cases h2:c.toNat<=122<;>by_cases h3:65<=c.toNat<;>by_cases h4:c.toNat<=90 <;>
  simp [h1,h2,h3,h4,Int.ofNat_le,show ((c.toNat:Int) ≥ 97)↔97<=c.toNat by omega,show ((c.toNat:Int)<=122)↔c.toNat<=122 by omega,show ((c.toNat:Int) ≥ 65)↔65<=c.toNat by omega,show ((c.toNat:Int)<=90)↔c.toNat<=90 by omega] <;>
  (rw [c6];simp;omega)
theorem E78 (s:ByteArray):s.size=s.data.toList.length:=by rw [Array.length_toList];rfl
theorem E9W (s:ByteArray)(i:Nat)(h:i<s.data.toList.length):s.data[i]?=some s.data.toList[i]:=by
 rw [← ah h,kB]
theorem F3v (s:ByteArray)(i:Nat)(h:i<s.data.toList.length)(hl:s.data.toList.length<=24):E6n (s,(s.data.toList.length:Int),(i:Int)) =
 if (!E4S s.data.toList[i]&&(decide (i=0) || !E5s s.data.toList[i])) then some (.inr (.inl false)) else some (.inl (s,(s.data.toList.length:Int),((i+1:Nat):Int))):=by
 have hi':(i:Int)<s.data.toList.length:=by omega
 simp only [E6n,hi',decide_true,cond_true,aq,ar,E9W s i h,ai,iQ (show i<9223372036854775807 by omega)]
 generalize s.data.toList[i]=c;unfold E4S E5s;have e0:((i:Int)==0)=decide (i=0):=by rw [c6];simp
 have e5:((c.toNat:Int)==95)=decide (c.toNat=95):=by rw [c6];simp;omega
 simp only [e0,e5,ge_iff_le,gt_iff_lt,show (97:Int)<=c.toNat↔97<=c.toNat by omega,show ((c.toNat:Int)<=122)↔c.toNat<=122 by omega,show ((65:Int)<=c.toNat)↔65<=c.toNat by omega,show ((c.toNat:Int)<=90)↔c.toNat<=90 by omega,
  show ((c.toNat:Int)<48)↔¬ 48<=c.toNat by omega,show ((57:Int)<c.toNat)↔¬ c.toNat<=57 by omega,decide_not]
 cases decide (97<=c.toNat)<;>cases decide (c.toNat<=122)<;>cases decide (65<=c.toNat)<;>cases decide (c.toNat<=90)<;>cases decide (c.toNat=95)<;>cases decide (i=0)<;>cases decide (48<=c.toNat)<;>cases decide (c.toNat<=57)<;>rfl
theorem F0H (s:ByteArray):E7c s=some (E47 s):=by
 unfold E7c E47;rw [E78];show (bif Lv s ⟨#[]⟩ then _ else bif _ then _ else bif Lv s E82 then _ else _)=_
 cases h1:Lv s ⟨#[]⟩
 case true=>rfl
 simp only [cond_false,auI,dm,gt_iff_lt];by_cases h2:(24:Int)<(s.data.toList.length:Int)
 . have:¬ s.data.toList.length<=24:=by omega
   simp only [h2,this,decide_true,decide_false,cond_true,sS]
 have hl:s.data.toList.length<=24:=by omega
 simp only [h2,decide_false,cond_false,hl,decide_true,dm];cases h3:Lv s E82
 case true=>rfl
 simp only [cond_false,auI,dm]
 have:=Ma (f:=E6n) s.data.toList (λi=>(s,(s.data.toList.length:Int),(i:Int))) (λi c=>!E4S c&&(decide (i=0) || !E5s c)) (λ_=>.inl false) (.inr ()) (λi hi=>F3v s i hi hl) (by
  simp only [E6n,ba,decide_false,cond_false])
 simp only [av] at this;rw [this];generalize hL:s.data.toList=L;have hne:L ≠ []:=by
  intro h0;rw [h0] at hL
  have:s=⟨#[]⟩:=by cases s;congr 1;exact aSY.1 hL
  rw [E5K.2 this] at h1;cases h1
 cases L with
 | nil=>exact absurd rfl hne
 | cons c r =>
   simp only [tm,decide_true,tB,fQ];cases hc:E4S c
   . simp
   . simp only [bO,aI,if_false,dm];have key:∀ (r:List UInt8) (k:Nat),0<k->(tm (λi c=>!E4S c&&(decide (i=0) || !E5s c)) r k).isNone=r.all λc=>E4S c || E5s c:=by
      intro r
      induction r with
      | nil=>intro k _;rfl
      | cons a r ih =>
        intro k hk;have hk0:decide (k=0)=false:=decide_eq_false (by omega)
        simp only [tm,hk0,gL,List.all_cons];cases ha:E4S a<;>cases hd:E5s a<;>simp [ih (k+1) (by omega)]
     have:=key r (0+1) (by omega)
     rw [← this];cases tm (λi c=>!E4S c&&(decide (i=0) || !E5s c)) r (0+1)<;>rfl
theorem E83 (s:ByteArray):E5M s=some (E47 s):=by
 unfold E5M E47;rw [E78];generalize hL:s.data.toList=L;cases L with
 | nil =>
   have:s=⟨#[]⟩:=by cases s;congr 1;exact aSY.1 hL
   rw [E5K.2 this];rfl
 | cons c r =>
   have hne:Lv s ⟨#[]⟩=false:=by
    cases h:Lv s ⟨#[]⟩ with
    | false=>rfl
    | true=>rw [E5K.1 h] at hL;cases hL
   have e0:(((c::r).length:Int)==0)=false:=by rw [beq_eq_false_iff_ne];simp only [bf];omega
   have hd:s.data[0]?=some c:=by rw [← kB,hL];rfl
   simp only [e0,cond_false,hne,auI,dm,gt_iff_lt,hd,ai,E9l];by_cases h2:(24:Int)<((c::r).length:Int)
   . have:¬ (c::r).length<=24:=by omega
     simp only [h2,this,decide_true,decide_false,cond_true,sS]
   have hl:(c::r).length<=24:=by omega
   simp only [h2,decide_false,cond_false,hl,decide_true,dm];cases hc:E4S c
   . simp
   simp only [bO,cond_false,dm];show (bif Lv s E82 then _ else _)=_
   cases h3:Lv s E82
   case true=>rfl
   simp only [cond_false,auI,dm];rw [← hL] at hl
   have:=wo (f:=E6t) s.data.toList (λi=>(s,(i:Int))) (λc=>!(E4S c || E5s c)) (.inl false) (.inr ()) (λi hi=>by
    have hi':(i:Int)<s.size:=by rw [E78];omega
    simp only [E6t,hi',decide_true,cond_true,aq,ar,E9W s i hi,ai,E9l,iQ (show i<9223372036854775807 by omega)]
    generalize s.data.toList[i]=c;unfold E5s;simp only [gt_iff_lt,show ((c.toNat:Int)<48)↔¬ 48<=c.toNat by omega,show ((57:Int)<c.toNat)↔¬ c.toNat<=57 by omega,decide_not]
    cases E4S c<;>cases decide (48<=c.toNat)<;>cases decide (c.toNat<=57)<;>rfl) (by
    simp only [E6t,E78,ba,decide_false,cond_false])
   simp only [av] at this;rw [this,hL];simp only [aS6,hc,tB,bO,gL];have h2:r.any (λc=>!(E4S c || E5s c))=!r.all (λc=>E4S c || E5s c):=by rw [gm];simp
   rw [h2];cases r.all (λc=>E4S c || E5s c)<;>rfl
def E5m (l:List ByteArray)(a:ByteArray):Bool:=l.any λb=>Lv b a
theorem F0f (l:List ByteArray)(a:ByteArray)(hl:l.length<=9223372036854775807):E4F (l,a)=some (E5m l a):=by
 unfold E4F E5L E5m
 have:=Ma (f:=E4L) l (λi=>(l,a,(l.length:Int),(i:Int))) (λ_ b=>Lv b a) (λi=>.inl (i:Int)) (.inr ()) (λi hi=>by
  have hi':(i:Int)<l.length:=by omega
  simp only [E4L,hi',decide_true,cond_true,aq,ar,ah hi,ai,F0e a,iQ (show i<9223372036854775807 by omega)]
  cases Lv l[i] a<;>rfl) (by
  simp only [E4L,ba,decide_false,cond_false])
 simp only [av] at this;rw [this,← Qm (λb=>Lv b a) l 0]
 cases tm (λ_ b=>Lv b a) l 0 with
 | none=>rfl
 | some i=>simp
theorem E8O (l:List ByteArray)(a:ByteArray)(hl:l.length<=9223372036854775807):E48 (l,a)=some (match l.findIdx? λb=>Lv b a with | some i=>(i:Int) | none=>-1):=by
 unfold E48
 have:=Ma (f:=E6m) l (λi=>(l,a,(i:Int))) (λ_ b=>Lv b a) (λi=>.inl (i:Int)) (.inr ()) (λi hi=>by
  have hi':(i:Int)<l.length:=by omega
  simp only [E6m,hi',decide_true,cond_true,aq,ar,ah hi,ai,iQ (show i<9223372036854775807 by omega)]
  cases Lv l[i] a<;>rfl) (by
  simp only [E6m,ba,decide_false,cond_false])
 simp only [av] at this;rw [this,D86];cases l.findIdx? (λb=>Lv b a)<;>simp
theorem E7z (l:List ByteArray)(a:ByteArray):E5m l a=decide ((match l.findIdx? λb=>Lv b a with | some i=>(i:Int) | none=>-1) ≥ 0):=by
 unfold E5m;rw [← Qm (λb=>Lv b a) l 0,D86]
 cases l.findIdx? (λb=>Lv b a)<;>simp
def E7M:List ByteArray->List ByteArray->Bool
 | _,[]=>true
 | p,a::r=>E47 a && !E5m p a&&E7M (p++[a]) r
theorem F0g {B:Type}(bad aGg:B)(L:List ByteArray):∀ (l:List ByteArray) (i:Nat),L.drop i=l->i<=L.length->
 Fu (S:=Unit) (λi _ a=>if (!E47 a || E5m (L.take i) a)=true then some (.inr bad) else some (.inl ())) (λ_=>some aGg) l i ()=some (if E7M (L.take i) l then aGg else bad):=by
 intro l
 induction l with
 | nil=>intro i _ _;rfl
 | cons a r ih =>
   intro i hd hi;have hi':i<L.length:=by
    have:=congrArg cz hd
    simp at this;omega
   have hx:L[i]=a∧L.drop (i+1)=r:=by
    rw [bY hi'] at hd;exact List.cons.inj hd
   have ht:L.take (i+1)=L.take i++[a]:=by rw [auR hi',hx.1]
   simp only [Fu,E7M];rcases nv (E47 a) with h1 | h1<;>rcases nv (E5m (L.take i) a) with h2 | h2<;>simp only [h1,h2,bO,auI,Bool.or_true,Bool.or_false,fQ,Bool.and_false,dm,sS,aI,if_true,if_false]
   rw [ih (i+1) hx.2 hi',ht]
theorem F3U (L:List ByteArray)(hl:L.length<=9223372036854775807):E6G L=some (E7M [] L):=by
 unfold E6G
 have:=C7j (S:=Unit) (f:=E57) L (λi _=>(L,(i:Int))) (λi _ a=>if (!E47 a || E5m (L.take i) a)=true then some (.inr (.inl false)) else some (.inl ())) (λ_=>some (.inr ())) (λi hi _=>by
  have hi':(i:Int)<L.length:=by omega
  have hb:i.ble L.length=true:=auP (by omega)
  have ha:=E8O (L.take i) L[i] (by rw [aW];omega)
  have hh:=E7z (L.take i) L[i];simp only [E57,hi',decide_true,cond_true,aq,ar,ah hi,ai,E83,hb,ha,← hh,iQ (show i<9223372036854775807 by omega)]
  cases E47 L[i]<;>cases E5m (L.take i) L[i]<;>rfl) (λ_=>by
  simp only [E57,ba,decide_false,cond_false];rfl) ()
 simp only [av] at this;rw [this,F0g (B:=Bool ⊕ PUnit) (.inl false) (.inr ()) L L 0 rfl (dg _)];simp only [ff];rcases nv (E7M [] L) with h | h<;>simp [h]
def E8k (n:Nat):Int->List F2L->Int
 | _,[]=>0
 | p,r::l=>if r.1<=p then 1 else if r.2.length≠n then 6 else if r.2.all E4N then E8k n r.1 l else 1
def E8b (t:E4Z):Int:=if E47 t.1 then (if t.2.1.length>16 then 3 else if t.2.2.length>1000 then 3 else if E7M [] t.2.1 then E8k t.2.1.length 0 t.2.2 else 1) else 1
def F0s (t:E4Z):Prop:=∀ r∈t.2.2,r.2.length<=9223372036854775807
theorem F0I {B:Type}(b:Int->B)(n:Nat):∀ (l:List F2L) (i:Nat) (p:Int),
 Fu (S:=Int) (λ_ p r=>if r.1<=p then some (.inr (b 1)) else if r.2.length≠n then some (.inr (b 6)) else if r.2.all E4N then some (.inl r.1) else some (.inr (b 1))) (λ_=>some (b 0)) l i p=some (b (E8k n p l)):=by
 intro l
 induction l with
 | nil=>intro i p;rfl
 | cons r l ih =>
   intro i p;simp only [Fu,E8k];by_cases h1:r.1<=p
   . simp [h1]
   by_cases h2:r.2.length≠n
   . simp [h1,h2]
   by_cases h3:r.2.all E4N=true
   . simp only [h1,h2,h3,if_false,if_true,ih]
   . simp only [h1,h2,h3,if_false];rfl
theorem F3w (a b:Nat):((a:Int) != (b:Int))=decide (a≠b):=by
 rw [c6];simp;omega
theorem F0t (t:E4Z)(h:F0s t):E71 t=some (E8b t):=by
 obtain ⟨nm,kh,rs⟩:=t;unfold E71 E8b;simp only [F0H,ai,gt_iff_lt];cases hn:E47 nm
 . rfl
 simp only [bO,cond_false,if_true];by_cases h1:(16:Int)<(kh.length:Int)
 . have:16<kh.length:=by omega
   simp [h1,this]
 have vR:¬ 16<kh.length:=by omega
 by_cases h2:(1000:Int)<(rs.length:Int)
 . have:1000<rs.length:=by omega
   simp [h1,h2,vR,this]
 have sA:¬ 1000<rs.length:=by omega
 simp only [h1,h2,vR,sA,decide_false,cond_false,if_false];have e1:=C7j (S:=Unit) (f:=E7p) kh (λi _=>((kh,(kh.length:Int),(i:Int)),nm,kh,rs)) (λi _ a=>if (!E47 a || E5m (kh.take i) a)=true then some (.inr (.inl 1)) else some (.inl ())) (λ_=>some (.inr (nm,kh,rs))) (λi hi _=>by
  have hi':(i:Int)<kh.length:=by omega
  have hb:i.ble kh.length=true:=auP (by omega)
  have ha:=F0f (kh.take i) kh[i] (by rw [aW];omega)
  simp only [E7p,hi',decide_true,cond_true,aq,ar,ah hi,ai,F0H,hb,ha,iQ (show i<9223372036854775807 by omega)]
  cases E47 kh[i]<;>cases E5m (kh.take i) kh[i]<;>rfl) (λ_=>by
  simp only [E7p,ba,decide_false,cond_false];rfl) ()
 have e2:=C7j (S:=Int) (f:=E7q) rs (λi p=>((p,rs,(rs.length:Int),(i:Int)),nm,kh,rs)) (λ_ p r=>if r.1<=p then some (.inr (.inl 1)) else if r.2.length≠kh.length then some (.inr (.inl 6)) else if r.2.all E4N then some (.inl r.1) else some (.inr (.inl 1))) (λ_=>some (.inr ())) (λi hi p=>by
  have hi':(i:Int)<rs.length:=by omega
  have hr:=h rs[i] (aM hi);simp only [E7q,hi',decide_true,cond_true,aq,ar,ah hi,ai,F0r _ hr,F3w,iQ (show i<9223372036854775807 by omega)]
  by_cases c1:(rs[i]).1<=p
  . simp [c1]
  by_cases c2:(rs[i]).2.length≠kh.length
  . simp [c1,c2]
  cases c3:(rs[i]).2.all E4N<;>simp [c1,c2,c3]) (λp=>by
  simp only [E7q,ba,decide_false,cond_false];rfl) 0
 simp only [av] at e1 e2;rw [e1,F0g (B:=Int ⊕ E4Z) (.inl 1) (.inr (nm,kh,rs)) kh kh 0 rfl (dg _)];simp only [ff];by_cases nu:E7M [] kh=true
 case neg=>simp [nu]
 simp only [nu,if_true,ai,lS];rw [e2]
 have:=F0I (B:=Int ⊕ PUnit) (λe=>if e=0 then .inr () else .inl e) kh.length rs 0 0
 simp only [show (1:Int)≠0 by decide,show (6:Int)≠0 by decide,if_false,if_true] at this
 rw [this];by_cases h0:E8k kh.length 0 rs=0
 . simp [h0]
 . simp [h0]
theorem E9m (t:E4Z)(h:F0s t):E6H t=some (E8b t):=by
 obtain ⟨nm,kh,rs⟩:=t;unfold E6H E8b;simp only [E83,ai,gt_iff_lt];cases hn:E47 nm
 . rfl
 simp only [bO,cond_false,if_true];by_cases h1:(16:Int)<(kh.length:Int)
 . have:16<kh.length:=by omega
   simp [h1,this]
 have vR:¬ 16<kh.length:=by omega
 by_cases h2:(1000:Int)<(rs.length:Int)
 . have:1000<rs.length:=by omega
   simp [h1,h2,vR,this]
 have sA:¬ 1000<rs.length:=by omega
 simp only [h1,h2,vR,sA,decide_false,cond_false,if_false];rw [F3U kh (by omega)]
 simp only [ai];cases E7M [] kh
 . rfl
 simp only [if_true,bO,cond_false];have e2:=C7j (S:=Int) (f:=E58) rs (λi p=>((p,(i:Int)),nm,kh,rs)) (λ_ p r=>if r.1<=p then some (.inr (.inl 1)) else if r.2.length≠kh.length then some (.inr (.inl 6)) else if r.2.all E4N then some (.inl r.1) else some (.inr (.inl 1))) (λ_=>some (.inr ())) (λi hi p=>by
  have hi':(i:Int)<rs.length:=by omega
  have hr:=h rs[i] (aM hi);simp only [E58,hi',decide_true,cond_true,aq,ar,ah hi,ai,F3u _ hr,F3w,iQ (show i<9223372036854775807 by omega)]
  by_cases c1:(rs[i]).1<=p
  . simp [c1]
  by_cases c2:(rs[i]).2.length≠kh.length
  . simp [c1,c2]
  cases c3:(rs[i]).2.all E4N<;>simp [c1,c2,c3]) (λp=>by
  simp only [E58,ba,decide_false,cond_false];rfl) 0
 simp only [av] at e2;rw [e2]
 have:=F0I (B:=Int ⊕ PUnit) (λe=>if e=0 then .inr () else .inl e) kh.length rs 0 0
 simp only [show (1:Int)≠0 by decide,show (6:Int)≠0 by decide,if_false,if_true] at this
 rw [this];by_cases h0:E8k kh.length 0 rs=0
 . simp [h0]
 . simp [h0]
end Go.Mid
namespace Go.Mid
section
variable {A B:Type}{f:A->Option (A ⊕ B)}
theorem tQ (n:Nat)(T:Nat->A)(b:B)(h1:∀ i,i<n->f (T i)=some (.inl (T (i+1))))(h2:f (T n)=some (.inr b)):A0d f (T 0)=some b:=by
 have:∀ k i,i+k=n->A0d f (T i)=some b:=by
  intro k
  induction k with
  | zero=>intro i hi;obtain rfl:i=n:=by omega
          exact qc h2
  | succ k ih=>intro i hi;rw [vw (h1 i (by omega))];exact ih (i+1) (by omega)
 exact this n 0 (by omega)
end
theorem jE {a b:Nat}(h:a<=b):a.ble b=true:=auP h
theorem lB {a b:Nat}(h:a<b):a.blt b=true:=auP h
theorem pN {α:Type}(l:List α):l.take l.length=l:=dM
theorem vz {α:Type}{l:List α}{i:Nat}(h:i<l.length):l.take (i+1)=l.take i++[l[i]]:=auR h
section
variable {α β:Type}
end
end Go.Mid
namespace Go.Mid
theorem F2e (l:List (ByteArray×Int))(a:ByteArray)(hl:l.length<=9223372036854775807):E5g (l,a)=some (match l.findIdx? λb=>Lv b.1 a with | some i=>(i:Int) | none=>-1):=by
 unfold E5g
 have:=Ma (f:=E6v) l (λi=>(l,a,(i:Int))) (λ_ b=>Lv b.1 a) (λi=>.inl (i:Int)) (.inr ()) (λi hi=>by
  have hi':(i:Int)<l.length:=by omega
  simp only [E6v,hi',decide_true,cond_true,aq,ar,ah hi,ai,iQ (show i<9223372036854775807 by omega)]
  cases Lv l[i].1 a<;>rfl) (by
  simp only [E6v,ba,decide_false,cond_false])
 simp only [av] at this;rw [this,D86];cases l.findIdx? (λb=>Lv b.1 a)<;>simp
theorem E7T (l:List ByteArray)(a:ByteArray)(hl:l.length<=9223372036854775807):E4R (l,a)=some (E4Y l a):=by
 unfold E4R;rw [E8O l a hl,ai];exact congrArg some (E7z l a).symm
structure Lst (l:List ByteArray)(P:ByteArray->Prop):Prop where
 nd:l.Nodup
 mem:∀ z,z∈l↔P z
theorem Lst.snoc {l:List ByteArray}{P:ByteArray->Prop}(h:Lst l P){a:ByteArray}(ha:E4Y l a=false):Lst (l++[a]) (λz=>P z∨z=a) where
 nd:=by
  have:a∉l:=λm=>by rw [E5Q.2 m] at ha;cases ha
  rw [List.nodup_append];refine ⟨h.nd,by simp,?_⟩
  rintro x hx y hy rfl;simp at hy;subst hy;exact this hx
 mem:=λz=>by simp [h.mem]
theorem Lst.aBn {l:List ByteArray}{P Q:ByteArray->Prop}(h:Lst l P)(e:∀ z,P z↔Q z):Lst l Q:=⟨h.nd,λz=>by rw [h.mem,e]⟩
theorem Lst.has {l:List ByteArray}{P:ByteArray->Prop}(h:Lst l P)(a:ByteArray):E4Y l a=true↔P a:=by rw [E5Q,h.mem]
theorem Lst.not {l:List ByteArray}{P:ByteArray->Prop}(h:Lst l P){a:ByteArray}(e:E4Y l a=false):¬ P a:=λq=>by rw [(h.has a).2 q] at e;cases e
theorem F4L {a b:List ByteArray}(ha:a.Nodup)(hl:a.length<=1000000)(hb:b.length<=1000000):∃ c,E65 (a,b)=some c∧Lst c (λz=>z∈a∨z∈b)∧c.length<=a.length+b.length:=by
 have key:=V4 (f:=E5I) (S:=List ByteArray) b.length (λi s=>((b,s.length,(i:Int)),s)) (λi s=>Lst s (λz=>z∈a∨∃ j,j<i∧b[j]?=some z)∧s.length<=a.length+i)
  (λr=>∃ s,r=(s.length,s)∧Lst s (λz=>z∈a∨∃ j,j<b.length∧b[j]?=some z)∧s.length<=a.length+b.length) a ⟨⟨ha,λz=>by simp⟩,by omega⟩ (λi s hi hs=>?_) (λs hs=>?_)
 . obtain ⟨r,h1,s,rfl,h3,h4⟩:=key;refine ⟨s,?_,h3.aBn λz=>?_,h4⟩
   . unfold E65;have e1:a.length*16<=140737488355328:=by omega
     simp only [jE (ay 0),jE e1,cond_true,List.take_nil,List.nil_append,bS];refine (congrArg (λo=>bc o _) h1).trans ?_
     simp only [ai,jE (ay _),cond_true,pN]
   . rw [aBk (l:=b)];constructor
     . rintro (h | ⟨j,_,h⟩)
       . exact .inl h
       . exact .inr ⟨j,h⟩
     . rintro (h | ⟨j,h⟩)
       . exact .inl h
       . exact .inr ⟨j,(aJ.1 h).1,h⟩
 . left;obtain ⟨h1,h2⟩:=hs;have hi':(i:Int)<b.length:=by omega
   have hh:=E7T s b[i] (by omega)
   have succ:∀ z,(z∈a∨∃ j,j<i+1∧b[j]?=some z)↔((z∈a∨∃ j,j<i∧b[j]?=some z)∨z=b[i]):=by
    intro z;constructor
    . rintro (h | ⟨j,hj,h⟩)
      . exact .inl (.inl h)
      . rcases mV.1 hj with hj | rfl
        . exact .inl (.inr ⟨j,hj,h⟩)
        . rw [ah hi] at h;exact .inr (s8 h).symm
    . rintro ((h | ⟨j,hj,h⟩) | rfl)
      . exact .inl h
      . exact .inr ⟨j,by omega,h⟩
      . exact .inr ⟨i,by omega,ah hi⟩
   cases js:E4Y s b[i] with
   | true =>
     refine ⟨s,?_,h1.aBn λz=>?_,by omega⟩
     . simp only [E5I,hi',decide_true,cond_true,aq,ar,ah hi,ai,jE (ay _),pN,hh,js,bO,cond_false,iQ (show i<9223372036854775807 by omega)]
     . rw [succ];refine ⟨.inl,λq=>q.elim id ?_⟩
       rintro rfl;exact (h1.has _).1 js
   | false =>
     refine ⟨s++[b[i]],?_,(h1.snoc js).aBn λz=>(succ z).symm,by simp;omega⟩
     simp only [E5I,hi',decide_true,cond_true,aq,ar,ah hi,ai,jE (ay _),pN,hh,js,auI,jE (show (s.length+1)*16<=140737488355328 by omega),iQ (show i<9223372036854775807 by omega),aR,bf,cM]
 . refine ⟨_,?_,s,rfl,hs⟩;simp only [E5I,ba,decide_false,cond_false]
theorem F0J {a b:List ByteArray}(hl:a.length<=1000000)(hb:b.length<=1000000):E5U (a,b)=some (a.all (E4Y b)):=by
 unfold E5U
 have:=wo (f:=E5X) a (λi=>(a,b,(i:Int))) (λz=>!E4Y b z) (.inl false) (.inr ()) (λi hi=>by
  have hi':(i:Int)<a.length:=by omega
  simp only [E5X,hi',decide_true,cond_true,aq,ar,ah hi,ai,E7T b a[i] (by omega),iQ (show i<9223372036854775807 by omega)]
  cases E4Y b a[i]<;>rfl) (by
  simp only [E5X,ba,decide_false,cond_false])
 simp only [av] at this;rw [this,ai];have e:(a.any λz=>!E4Y b z)=!(a.all (E4Y b)):=by
  rw [gm,aBD]
 rw [e];cases a.all (E4Y b)<;>rfl
theorem D87 {a b:List ByteArray}{P Q:ByteArray->Prop}(ha:Lst a P)(hb:Lst b Q):a.all (E4Y b)=true↔∀ z,P z->Q z:=by
 rw [bB];exact ⟨λh z hz=>(hb.has z).1 (h z ((ha.mem z).2 hz)),λh z hz=>(hb.has z).2 (h z ((ha.mem z).1 hz))⟩
end Go.Mid
namespace Go.Mid
abbrev w32:Nat:=4294967296
theorem F1s {x:Int}(h1:0<=x)(h2:x<4294967296):cG.wrap x=x:=by
 simp only [IntKind.wrap,IntKind.bits,IntKind.signed];simp;omega
theorem E9n {n:Nat}(h:n<w32):cG.wrap (n:Int)=(n:Int):=F1s (by omega) (by unfold w32 at h;omega)
theorem E8z (m:Nat):b8 32 (m:Int)=BitVec.ofNat 32 m:=by simp
theorem F2f {m n:Nat}(hm:m<w32)(hn:n<w32):pL .u32 (m:Int) (n:Int)=((m &&& n:Nat):Int):=by
 have h:(b8 cG.bits (m:Int) &&& b8 cG.bits (n:Int)).toNat=m &&& n:=by
  show (b8 32 (m:Int) &&& b8 32 (n:Int)).toNat=_;rw [E8z,E8z,BitVec.toNat_and,iu,iu,aSU (by exact hm),aSU (by exact hn)]
 unfold pL;rw [h];exact E9n (Nat.lt_of_le_of_lt Nat.and_le_left hm)
theorem F5y {m n:Nat}(hm:m<w32)(hn:n<w32):uS .u32 (m:Int) (n:Int)=((m ||| n:Nat):Int):=by
 have h:(b8 cG.bits (m:Int) ||| b8 cG.bits (n:Int)).toNat=m ||| n:=by
  show (b8 32 (m:Int) ||| b8 32 (n:Int)).toNat=_;rw [E8z,E8z,BitVec.toNat_or,iu,iu,aSU (by exact hm),aSU (by exact hn)]
 unfold uS;rw [h];exact E9n (Nat.or_lt_two_pow (n:=32) hm hn)
theorem F4M {m i:Nat}(hi:i<=32):jK .u32 (m:Int) (i:Int)=((m >>> i:Nat):Int):=by
 unfold jK;have e:min ((i:Int).toNat) cG.bits=i:=by
  show min i 32=i;omega
 rw [e,Nat.shiftRight_eq_div_pow]
 have:((2:Int) ^ i)=((2 ^ i:Nat):Int):=by simp
 rw [this];exact Int.ofNat_fdiv m (2 ^ i) |>.symm
end Go.Mid
namespace Go.Mid
theorem F4N (i:Nat):(2 ^ i-1) ||| 2 ^ i=2 ^ (i+1)-1:=by
 apply Nat.eq_of_testBit_eq;intro j;rw [Nat.testBit_or,iJ,iJ,Nat.testBit_two_pow];by_cases h1:j<i
 . simp [h1,Nat.lt_succ_of_lt h1]
 . by_cases h2:i=j
   . subst h2;simp
   . have:¬ j<i+1:=by omega
     simp [h1,h2,this]
theorem F4O {i:Nat}(hi:i<32):qZ cG 1 (i:Int)=((2 ^ i:Nat):Int):=by
 unfold qZ;have e:min ((i:Int).toNat) cG.bits=i:=by
  show min i 32=i;omega
 rw [e,Int.one_mul]
 have:((2:Int) ^ i)=((2 ^ i:Nat):Int):=by simp
 rw [this];exact E9n (oM (by decide) hi)
theorem F1t {i:Nat}(hi:i<=32):2 ^ i<=w32:=Nat.pow_le_pow_right (show 2>0 by decide) hi
theorem F2g {n:Nat}(hn:n<32):E6l (n:Int)=some ((2 ^ n-1:Nat):Int):=by
 unfold E6l
 have:A0d E5E ((n:Int),0,0)=some ((2 ^ n-1:Nat):Int):=tQ (f:=E5E) n (λi=>((n:Int),((2 ^ i-1:Nat):Int),(i:Int))) ((2 ^ n-1:Nat):Int) (λi hi=>by
  have hi':(i:Int)<n:=by omega
  have h32:(i:Int)<32:=by omega
  have hp:=F1t (show i<=32 by omega)
  have JR:2 ^ i<w32:=oM (by decide) (show i<32 by omega)
  have tK:0<2 ^ i:=Nat.two_pow_pos i;simp only [E5E,hi',h32,decide_true,cond_true,aq,F4O (show i<32 by omega),F5y (show 2 ^ i-1<w32 by omega) JR,F4N,iQ (show i<9223372036854775807 by omega)]) (by
  simp only [E5E,ba,decide_false,cond_false])
 rw [this];rfl
end Go.Mid
namespace Go.Mid
def E4I {α:Type}(e:Nat->α->Int):List α->Nat->Int
 | [],_=>0
 | x::r,i=>if e i x=0 then E4I e r (i+1) else e i x
theorem E5R {A B α:Type}{f:A->Option (A ⊕ B)}(l:List α)(st:Nat->A)(e:Nat->α->Int)(mk:Int->B)(fin:B)
 (h1:∀ i (h:i<l.length),f (st i)=if e i l[i]=0 then some (.inl (st (i+1))) else some (.inr (mk (e i l[i])))) (h2:f (st l.length)=some (.inr fin)) :
 A0d f (st 0)=some (if E4I e l 0=0 then fin else mk (E4I e l 0)):=by
 rw [C7j (S:=Unit) (f:=f) l (λi _=>st i) (λi _ x=>if e i x=0 then some (.inl ()) else some (.inr (mk (e i x)))) (λ_=>some fin) (λi h _=>by rw [h1 i h];split<;>rfl) (λ_=>by rw [h2];rfl) ()]
 have:∀ (r:List α) (i:Nat),Fu (S:=Unit) (λi _ x=>if e i x=0 then some (.inl ()) else some (.inr (mk (e i x)))) (λ_=>some fin) r i ()=some (if E4I e r i=0 then fin else mk (E4I e r i)):=by
  intro r
  induction r with
  | nil=>intro i;rfl
  | cons x r ih =>
    intro i;simp only [Fu,E4I];by_cases h:e i x=0
    . simp only [h,if_true];exact ih (i+1)
    . simp only [h,if_false]
 exact this l 0
theorem E7A {α:Type}{e:Nat->α->Int}:∀ {l:List α} {i:Nat},E4I e l i=0↔∀ j (h:j<l.length),e (i+j) l[j]=0
 | [],i=>by simp [E4I]
 | x::r,i=>by
   simp only [E4I];constructor
   . intro h j hj;split at h
     . rename_i h0;cases j with
       | zero=>exact h0
       | succ j =>
         have:=E7A.1 h j (by simpa using hj)
         rw [show i+1+j=i+(j+1) by omega] at this
         exact this
     . rename_i h0;exact (h0 h).elim
   . intro h;rw [if_pos (show e i x=0 from h 0 (by simp))]
     exact E7A.2 λj hj=>by
      have:=h (j+1) (by simpa using hj)
      rw [show i+1+j=i+(j+1) by omega]
      exact this
theorem E9K {α:Type}{e:Nat->α->Int}{P:Int->Prop}(h0:P 0)(h:∀ i x,P (e i x)):∀ (l:List α) (i:Nat),P (E4I e l i)
 | [],_=>h0
 | x::r,i=>by
   simp only [E4I];split
   . exact E9K h0 h r (i+1)
   . exact h i x
def E6S (l:List E4Z)(a:ByteArray):Option Nat:=l.findIdx? λt=>Lv t.1 a
def E9o (o:Option Nat):Int:=match o with | some i=>(i:Int) | none=>-1
theorem F1u (l:List E4Z)(a:ByteArray)(hl:l.length<=1000000):E51 (l,a)=some (E9o (E6S l a)):=by
 unfold E51 E4C
 have:=Ma (f:=E4q) l (λi=>(l,a,(l.length:Int),(i:Int))) (λ_ t=>Lv t.1 a) (λi=>.inl (i:Int)) (.inr ()) (λi hi=>by
  have hi':(i:Int)<l.length:=by omega
  simp only [E4q,E7G,hi',decide_true,cond_true,aq,ar,ah hi,ai,iQ (show i<9223372036854775807 by omega)]
  cases Lv l[i].1 a<;>rfl) (by
  simp only [E4q,ba,decide_false,cond_false])
 simp only [av] at this;rw [this,D86];unfold E6S E9o;cases l.findIdx? (λt=>Lv t.1 a)<;>simp
theorem E9p (l:List E4Z)(a:ByteArray)(hl:l.length<=1000000):E5y (l,a)=some (E9o (E6S l a)):=by
 unfold E5y
 have:=Ma (f:=E59) l (λi=>(l,a,(i:Int))) (λ_ t=>Lv t.1 a) (λi=>.inl (i:Int)) (.inr ()) (λi hi=>by
  have hi':(i:Int)<l.length:=by omega
  simp only [E59,hi',decide_true,cond_true,aq,ar,ah hi,ai,iQ (show i<9223372036854775807 by omega)]
  cases Lv l[i].1 a<;>rfl) (by
  simp only [E59,ba,decide_false,cond_false])
 simp only [av] at this;rw [this,D86];unfold E6S E9o;cases l.findIdx? (λt=>Lv t.1 a)<;>simp
def E9X (l:List E4Z)(i:Nat)(t:E4Z):Int:=if E8b t=0 then (if (E6S (l.take i) t.1).isSome then 5 else 0) else E8b t
def dbE (l:List E4Z):Int:=if l.length>50 then 3 else E4I (E9X l) l 0
theorem F2h (o:Option Nat):decide (E9o o ≥ 0)=o.isSome:=by
 cases o with
 | none=>rfl
 | some i=>simp [E9o]
theorem E8P {l:List E4Z}(h:dbE l=0):l.length<=50:=by
 unfold dbE at h;split at h
 . cases h
 . omega
theorem F3x (l:List E4Z)(h:∀ t∈l,F0s t):E6U l=some (dbE l):=by
 unfold E6U dbE;by_cases h50:l.length>50
 . have:(l.length:Int)>50:=by omega
   simp only [this,decide_true,cond_true,if_pos h50]
 . have h51:¬ (l.length:Int)>50:=by omega
   simp only [h51,decide_false,cond_false,if_neg h50]
   have:=E5R (f:=E6o) l (λi=>((l,(l.length:Int),(i:Int)),l)) (E9X l) .inl (.inr ()) (λi hi=>by
    have hi':(i:Int)<l.length:=by omega
    have ht:=F0t l[i] (h _ (aM hi));have hf:=F1u (l.take i) l[i].1 (by rw [aW];omega)
    simp only [E6o,hi',decide_true,cond_true,aq,ar,ah hi,ai,ht,jE (fH hi),hf,F2h,iQ (show i<9223372036854775807 by omega),E9X]
    by_cases h0:E8b l[i]=0
    . simp only [h0,bne_self_eq_false,cond_false,if_true];cases (E6S (l.take i) l[i].1).isSome<;>rfl
    . simp only [bne_iff_ne.2 h0,cond_true,if_neg h0]) (by
    simp only [E6o,ba,decide_false,cond_false])
   simp only [av] at this;rw [this,ai];split
   . rename_i h0;rw [h0];rfl
   . rfl
theorem F5z (l:List E4Z)(h:∀ t∈l,F0s t):E6a l=some (dbE l):=by
 unfold E6a dbE;by_cases h50:l.length>50
 . have:(l.length:Int)>50:=by omega
   simp only [this,decide_true,cond_true,if_pos h50]
 . have h51:¬ (l.length:Int)>50:=by omega
   simp only [h51,decide_false,cond_false,if_neg h50]
   have:=E5R (f:=E5A) l (λi=>((i:Int),l)) (E9X l) .inl (.inr ()) (λi hi=>by
    have hi':(i:Int)<l.length:=by omega
    have ht:=E9m l[i] (h _ (aM hi));have hf:=E9p (l.take i) l[i].1 (by rw [aW];omega)
    simp only [E5A,hi',decide_true,cond_true,aq,ar,ah hi,ai,ht,jE (fH hi),hf,F2h,iQ (show i<9223372036854775807 by omega),E9X]
    by_cases h0:E8b l[i]=0
    . simp only [h0,bne_self_eq_false,cond_false,if_true];cases (E6S (l.take i) l[i].1).isSome<;>rfl
    . simp only [bne_iff_ne.2 h0,cond_true,if_neg h0]) (by
    simp only [E5A,ba,decide_false,cond_false])
   simp only [av] at this;rw [this,ai];split
   . rename_i h0;rw [h0];rfl
   . rfl
theorem F0u {l:List E4Z}(h:dbE l=0){t:E4Z}(ht:t∈l):E8b t=0:=by
 unfold dbE at h;split at h
 . cases h
 . obtain ⟨j,hj,rfl⟩:=pd ht
   have:=E7A.1 h j hj
   unfold E9X at this;split at this
   . assumption
   . rename_i h0;exact (h0 this).elim
theorem E9q {t:E4Z}(h:E8b t=0):E47 t.1=true∧t.2.1.length<=16:=by
 unfold E8b at h;split at h
 . rename_i h1;split at h
   . cases h
   . exact ⟨h1,by omega⟩
 . cases h
theorem F3V (l:List E4Z)(h:dbE l≠0):dbE l≠4:=by
 unfold dbE at *
 split
 . omega
 . refine E9K (P:=λx=>x≠4) (by omega) (λi t=>?_) l 0
   unfold E9X;split
   . split<;>omega
   . have hr:∀ (n:Nat) (r:List F2L) (p:Int),E8k n p r≠4:=by
      intro n r
      induction r with
      | nil=>intro p;simp [E8k]
      | cons x r ih =>
        intro p;unfold E8k;split
        . omega
        . split
          . omega
          . split
            . exact ih _
            . omega
     unfold E8b;split
     . split
       . omega
       . split
         . omega
         . split
           . exact hr _ _ _
           . omega
     . omega
theorem F2M:E47 (ir #[])=false:=by
 unfold E47;rw [show Lv (ir #[]) (ir #[])=true from E5K.2 rfl];rfl
theorem F1v (l:List E4Z)(h:∀ t∈l,F0s t):E6V (l,(ir #[]),[],(ir #[]),[])=some (if dbE l=0 then 4 else dbE l):=by
 unfold E6V;simp only [F3x l h,ai];by_cases h0:dbE l=0
 . have hn:E6S l (ir #[])=none:=by
    unfold E6S;rw [List.findIdx?_eq_none_iff];intro t ht;have h1:=(E9q (F0u h0 ht)).1;rw [aSQ];intro e;rw [E5K.1 e,F2M] at h1;cases h1
   have hl:=E8P h0;have hf:=F1u l (ir #[]) (by omega)
   rw [hn] at hf;simp only [h0,bne_self_eq_false,cond_false,if_true];unfold E7V;simp only [hf,ai];rfl
 . simp only [bne_iff_ne.2 h0,cond_true,if_neg h0]
end Go.Mid
namespace Go.Mid
def occ (ts:List E5b)(n:Nat)(z:ByteArray):Prop:=z≠{ data:=#[] }∧∃ k u,k<n∧ts[k]?=some u∧u.1=z
theorem E9Y {ts:List E5b}{n:Nat}{u:E5b}(hu:ts[n]?=some u)(z:ByteArray):occ ts (n+1) z↔(occ ts n z∨(z≠{ data:=#[] }∧z=u.1)):=by
 constructor
 . rintro ⟨h0,k,v,hk,h1,h2⟩;rcases mV.1 hk with hk | rfl
   . exact .inl ⟨h0,k,v,hk,h1,h2⟩
   . rw [hu,aa] at h1;subst h1;exact .inr ⟨h0,h2.symm⟩
 . rintro (⟨h0,k,v,hk,h1,h2⟩ | ⟨h0,h1⟩)
   . exact ⟨h0,k,v,by omega,h1,h2⟩
   . exact ⟨h0,n,u,by omega,hu,h1.symm⟩
theorem F2N {l:List tI}{i:Nat}(hi:i<l.length)(ht:l[i].2.length<=1000){P:ByteArray->Prop}{s0:List ByteArray}(h0:Lst s0 P)(hs:s0.length<=1000000) :
 ∃ s,A0d E4Q ((l,s0.length,(i:Int),(0:Int)),s0)=some ((l,s.length,(i:Int)),s)∧Lst s (λz=>P z∨occ l[i].2 l[i].2.length z)∧s.length<=s0.length+l[i].2.length:=by
 have key:=V4 (f:=E4Q) (S:=List ByteArray) l[i].2.length (λk s=>((l,s.length,(i:Int),(k:Int)),s)) (λk s=>Lst s (λz=>P z∨occ l[i].2 k z)∧s.length<=s0.length+k)
  (λr=>∃ s,r=((l,s.length,(i:Int)),s)∧Lst s (λz=>P z∨occ l[i].2 l[i].2.length z)∧s.length<=s0.length+l[i].2.length) s0 ⟨h0.aBn λz=>⟨.inl,λq=>q.elim id (λ⟨_,k,u,hk,_⟩=>by omega)⟩,by omega⟩ (λk s hk hs=>?_) (λs hs=>?_)
 . obtain ⟨r,h1,s,rfl,h3⟩:=key;exact ⟨s,h1,h3⟩
 . left;obtain ⟨h1,h2⟩:=hs;have nq:(k:Int)<l[i].2.length:=by omega
   have hu:l[i].2[k]?=some l[i].2[k]:=ah hk;by_cases he:l[i].2[k].1={ data:=#[] }
   . refine ⟨s,?_,h1.aBn λz=>?_,by omega⟩
     . simp only [E4Q,aq,decide_true,cond_true,ar,ah hi,ai,nq,hu,show Lv l[i].2[k].1 { data:=#[] }=true from E5z.2 he,bO,cond_false,iQ (show k<9223372036854775807 by omega)]
     . rw [E9Y hu];refine ⟨λq=>q.elim .inl λq=>.inr (.inl q),?_⟩
       rintro (q | q | ⟨q,rfl⟩)
       . exact .inl q
       . exact .inr q
       . exact (q he).elim
   . have hne:Lv l[i].2[k].1 { data:=#[] }=false:=aSQ.2 λe=>he (E5z.1 e)
     have ha:=E8O s l[i].2[k].1 (by omega)
     have Nt:=E7z s l[i].2[k].1;have eC:∀ x:Int,decide (x<0)=!decide (x ≥ 0):=λx=>by
      by_cases h:x<0
      . rw [decide_eq_true h,decide_eq_false (by omega)];rfl
      . rw [decide_eq_false h,decide_eq_true (by omega)];rfl
     cases hh:E4Y s l[i].2[k].1 with
     | true =>
       refine ⟨s,?_,h1.aBn λz=>?_,by omega⟩
       . simp only [E4Q,aq,decide_true,cond_true,ar,ah hi,ai,nq,hu,hne,auI,jE (ay _),pN,ha,eC,← Nt,show E5m s l[i].2[k].1=true from hh,bO,cond_false,iQ (show k<9223372036854775807 by omega)]
       . rw [E9Y hu];refine ⟨λq=>q.elim .inl λq=>.inr (.inl q),?_⟩
         rintro (q | q | ⟨q,rfl⟩)
         . exact .inl q
         . exact .inr q
         . exact (h1.has _).1 hh
     | false =>
       refine ⟨s++[l[i].2[k].1],?_,(h1.snoc hh).aBn λz=>?_,by simp;omega⟩
       . simp only [E4Q,aq,decide_true,cond_true,ar,ah hi,ai,nq,hu,hne,auI,jE (ay _),pN,ha,eC,← Nt,show E5m s l[i].2[k].1=false from hh,jE (show (s.length+1)*16<=140737488355328 by omega),iQ (show k<9223372036854775807 by omega),aR,bf,cM]
       . rw [E9Y hu];constructor
         . rintro ((q | q) | rfl)
           . exact .inl q
           . exact .inr (.inl q)
           . exact .inr (.inr ⟨he,rfl⟩)
         . rintro (q | q | ⟨_,q⟩)
           . exact .inl (.inl q)
           . exact .inl (.inr q)
           . exact .inr q
 . refine ⟨_,?_,s,rfl,hs⟩;simp only [E4Q,aq,decide_true,cond_true,ar,ah hi,ai,ba,decide_false,cond_false]
def E9Z (l:List tI)(n:Nat)(z:ByteArray):Prop:=∃ j a,j<n∧l[j]?=some a∧occ a.2 a.2.length z
theorem E8r {l:List tI}(hl:l.length<=1000)(ht:∀ a∈l,a.2.length<=1000):∃ s,E40 l=some s∧Lst s (E9Z l l.length)∧s.length<=l.length*1000:=by
 have key:=V4 (f:=E5o) (S:=List ByteArray) l.length (λi s=>((l,s.length,(i:Int)),s)) (λi s=>Lst s (E9Z l i)∧s.length<=i*1000)
  (λr=>∃ s,r=(s.length,s)∧Lst s (E9Z l l.length)∧s.length<=l.length*1000) [] ⟨⟨gV,λz=>by simp [E9Z]⟩,by simp⟩ (λi s hi hs=>?_) (λs hs=>?_)
 . obtain ⟨r,h1,s,rfl,h3⟩:=key;refine ⟨s,?_,h3⟩;unfold E40;refine (congrArg (λo=>bc o _) h1).trans ?_
   simp only [ai,jE (ay _),cond_true,pN]
 . left;obtain ⟨h1,h2⟩:=hs;have hi':(i:Int)<l.length:=by omega
   have Ge:=ht _ (aM hi);obtain ⟨t,e,t1,t2⟩:=F2N hi Ge h1 (by omega)
   refine ⟨t,?_,t1.aBn λz=>?_,by omega⟩
   . simp only [E5o,hi',decide_true,cond_true];refine (congrArg (λo=>bc o _) e).trans ?_
     simp only [ai,iQ (show i<9223372036854775807 by omega)]
   . constructor
     . rintro (⟨j,a,hj,h⟩ | h)
       . exact ⟨j,a,by omega,h⟩
       . exact ⟨i,l[i],by omega,ah hi,h⟩
     . rintro ⟨j,a,hj,ha,h⟩;rcases mV.1 hj with hj | rfl
       . exact .inl ⟨j,a,hj,ha,h⟩
       . rw [ah hi,aa] at ha;subst ha;exact .inr h
 . refine ⟨_,?_,s,rfl,hs⟩;simp only [E5o,ba,decide_false,cond_false]
theorem F4P {head:List ByteArray}{l:List tI}{i:Nat}(hi:i<l.length)(hl:l.length<=1000)(hh:head.length<=1000000)(ht:∀ a∈l,a.2.length<=1000) :
 ∃ s,E5h ((head,l),(i:Int))=some s∧Lst s (λz=>occ l[i].2 l[i].2.length z∧z∉head)∧s.length<=1000:=by
 have dK:List.drop i (aP (i+1) l)=[l[i]]:=by
  rw [vz hi,List.drop_append,List.drop_take_self];simp [aW,Nat.min_eq_left (fH hi)]
 obtain ⟨v,e,v1,v2⟩:=E8r (l:=[l[i]]) (by simp) (λa ha=>by rw [List.mem_singleton] at ha;subst ha;exact ht _ (aM hi))
 have v1:Lst v (occ l[i].2 l[i].2.length):=v1.aBn λz=>by
  constructor
  . rintro ⟨j,a,hj,ha,h⟩
    have:j=0:=by simpa using hj
    subst this;simp at ha;subst ha;exact h
  . exact λh=>⟨0,l[i],by simp,rfl,h⟩
 have v2:v.length<=1000:=by simpa using v2
 have key:=V4 (f:=E5H) (S:=List ByteArray) v.length (λk s=>((s.length,v,(k:Int)),(head,l),s)) (λk s=>Lst s (λz=>(∃ j,j<k∧v[j]?=some z)∧z∉head)∧s.length<=k)
  (λr=>∃ s,r=(s.length,s)∧Lst s (λz=>(∃ j,j<v.length∧v[j]?=some z)∧z∉head)∧s.length<=v.length) [] ⟨⟨gV,λz=>by simp⟩,by simp⟩ (λk s hk hs=>?_) (λs hs=>?_)
 . obtain ⟨r,h1,s,rfl,h3,h4⟩:=key;refine ⟨s,?_,h3.aBn λz=>?_,by omega⟩
   . unfold E5h;simp only [iQ (show i<9223372036854775807 by omega),aq,decide_true,cond_true,ar,jE (show i+1<=l.length by omega),jE (Nat.le_succ i),dK,e,ai]
     refine (congrArg (λo=>bc o _) h1).trans ?_
     simp only [ai,jE (ay _),cond_true,pN]
   . rw [← v1.mem z,aBk (l:=v)];constructor
     . rintro ⟨⟨j,_,h⟩,g⟩;exact ⟨⟨j,h⟩,g⟩
     . rintro ⟨⟨j,h⟩,g⟩;exact ⟨⟨j,(aJ.1 h).1,h⟩,g⟩
 . left;obtain ⟨h1,h2⟩:=hs;have nq:(k:Int)<v.length:=by omega
   have hu:v[k]?=some v[k]:=ah hk;have hha:=E7T head v[k] (by omega)
   have succ:∀ z,((∃ j,j<k+1∧v[j]?=some z)∧z∉head)↔(((∃ j,j<k∧v[j]?=some z)∧z∉head)∨(z=v[k]∧z∉head)):=by
    intro z;constructor
    . rintro ⟨⟨j,hj,h⟩,g⟩;rcases mV.1 hj with hj | rfl
      . exact .inl ⟨⟨j,hj,h⟩,g⟩
      . rw [hu] at h;exact .inr ⟨(s8 h).symm,g⟩
    . rintro (⟨⟨j,hj,h⟩,g⟩ | ⟨rfl,g⟩)
      . exact ⟨⟨j,by omega,h⟩,g⟩
      . exact ⟨⟨k,by omega,hu⟩,g⟩
   cases hb:E4Y head v[k] with
   | true =>
     refine ⟨s,?_,h1.aBn λz=>?_,by omega⟩
     . simp only [E5H,nq,decide_true,cond_true,aq,ar,hu,ai,hha,hb,bO,cond_false,iQ (show k<9223372036854775807 by omega)]
     . rw [succ];refine ⟨.inl,λq=>q.elim id ?_⟩
       rintro ⟨rfl,g⟩;exact (g (E5Q.1 hb)).elim
   | false =>
     have hn:v[k]∉head:=λm=>by rw [E5Q.2 m] at hb;cases hb
     have xH:E4Y s v[k]=false:=aSQ.2 λm=>by
      obtain ⟨⟨j,hj,h⟩,_⟩:=(h1.has _).1 m;have CA:j<v.length:=by omega
      rw [ah CA,aa] at h;exact (List.pairwise_iff_getElem.1 v1.nd j k CA hk hj) h
     refine ⟨s++[v[k]],?_,(h1.snoc xH).aBn λz=>?_,by simp;omega⟩
     . simp only [E5H,nq,decide_true,cond_true,aq,ar,hu,ai,hha,hb,auI,jE (ay _),pN,jE (show (s.length+1)*16<=140737488355328 by omega),iQ (show k<9223372036854775807 by omega),aR,bf,cM]
     . rw [succ];refine ⟨λq=>q.elim .inl λe=>.inr ⟨e,e ▸ hn⟩,λq=>q.elim .inl λe=>.inr e.1⟩
 . refine ⟨_,?_,s,rfl,hs⟩;simp only [E5H,ba,decide_false,cond_false]
end Go.Mid
namespace Go.Mid
theorem E9r (c:UInt8):E7P (c.toNat:Int)=some (E4S c):=E9l c
theorem F2O (s:ByteArray):E7Q s=some (E47 s):=by
 unfold E7Q E47;rw [E78];show (bif Lv s ⟨#[]⟩ then _ else bif _ then _ else bif Lv s E82 then _ else _)=_
 cases h1:Lv s ⟨#[]⟩
 case true=>rfl
 simp only [cond_false,auI,dm,gt_iff_lt];by_cases h2:(24:Int)<(s.data.toList.length:Int)
 . have:¬ s.data.toList.length<=24:=by omega
   simp only [h2,this,decide_true,decide_false,cond_true,sS]
 have hl:s.data.toList.length<=24:=by omega
 simp only [h2,decide_false,cond_false,hl,decide_true,dm];cases h3:Lv s E82
 case true=>rfl
 simp only [cond_false,auI,dm]
 have:=wo (f:=E6W) s.data.toList (λi=>(s,(s.data.toList.length:Int),(i:Int))) (λc=>!(E4S c || E5s c)) (.inl false) (.inr ()) (λi hi=>by
  have hi':(i:Int)<s.data.toList.length:=by omega
  simp only [E6W,hi',decide_true,cond_true,aq,ar,E9W s i hi,ai,E9r,iQ (show i<9223372036854775807 by omega)]
  generalize s.data.toList[i]=c;unfold E5s E8H;simp only [ge_iff_le,show ((48:Int)<=(c.toNat:Int))↔48<=c.toNat by omega,show ((c.toNat:Int)<=57)↔c.toNat<=57 by omega]
  cases E4S c<;>cases decide (48<=c.toNat)<;>cases decide (c.toNat<=57)<;>rfl) (by
  simp only [E6W,ba,decide_false,cond_false])
 simp only [av] at this;have hx:∀ b:Bool,(if b=true then (aC false:Bool ⊕ PUnit) else .inr ())=bif b then .inl false else .inr ():=λb=>by cases b<;>rfl
 rw [this,hx];generalize hL:s.data.toList=L;cases L with
 | nil =>
   have:s=⟨#[]⟩:=by cases s;congr 1;exact aSY.1 hL
   rw [E5K.2 this] at h1;cases h1
 | cons c r =>
   have hd:s.data[0]?=some c:=by rw [← kB,hL];rfl
   simp only [hd,ai,E9r,aS6];cases hc:E4S c
   . simp
   . simp only [bO,cond_false,tB,gL,dm];have h2:r.any (λc=>!(E4S c || E5s c))=!r.all (λc=>E4S c || E5s c):=by rw [gm];simp
     rw [h2];cases r.all (λc=>E4S c || E5s c)<;>rfl
def E5t (u:E5b):Bool:=bif Lv u.1 ⟨#[]⟩ then E4N u.2 else E47 u.1&&(u.2.1==0&&(u.2.2.1==0&&Lv u.2.2.2 ⟨#[]⟩))
theorem F1w (u:E5b):E6X u=some (E5t u):=by
 unfold E6X E5t;rw [F2O,E8N];cases Lv u.1 ⟨#[]⟩
 . simp only [auI,cond_true,cond_false,ai];cases E47 u.1<;>rfl
 . rfl
theorem F2P (u:E5b):E62 u=some (E5t u):=by
 unfold E62 E5t;rw [E83,E9k];cases Lv u.1 ⟨#[]⟩
 . simp only [auI,cond_true,cond_false,ai];cases E47 u.1<;>rfl
 . rfl
theorem F1U (l:List E5b)(hl:l.length<=9223372036854775807):E4v (l,())=some (!l.all E5t):=by
 unfold E4v E4J
 have:=Ma (f:=E4u) l (λi=>(l,(),(l.length:Int),(i:Int))) (λ_ u=>!E5t u) (λi=>.inl (i:Int)) (.inr ()) (λi hi=>by
  have hi':(i:Int)<l.length:=by omega
  simp only [E4u,E8a,hi',decide_true,cond_true,aq,ar,ah hi,ai,F1w,iQ (show i<9223372036854775807 by omega)]
  cases E5t l[i]<;>rfl) (by
  simp only [E4u,ba,decide_false,cond_false])
 simp only [av] at this;rw [this,show (!l.all E5t)=l.any (λu=>!E5t u) by rw [gm,aBD],← Qm (λu=>!E5t u) l 0]
 cases tm (λ_ u=>!E5t u) l 0 with
 | none=>rfl
 | some i=>simp
theorem F1V (a:tI)(hl:a.2.length<=9223372036854775807):E6I a=some (a.2.all E5t):=by
 unfold E6I
 have:=wo (f:=E6b) a.2 (λi=>((i:Int),a)) (λu=>!E5t u) (.inl false) (.inr ()) (λi hi=>by
  have hi':(i:Int)<a.2.length:=by omega
  simp only [E6b,hi',decide_true,cond_true,aq,ar,ah hi,ai,F2P,iQ (show i<9223372036854775807 by omega)]
  cases E5t a.2[i]<;>rfl) (by
  simp only [E6b,ba,decide_false,cond_false])
 simp only [av] at this;rw [this,ai,gm];cases a.2.any (λu=>!E5t u)<;>rfl
theorem F3W (l:List E4Z)(a:ByteArray)(hl:l.length<=1000000):E8j (l,a)=some (match l.find? (λt=>Lv t.1 a) with | some t=>(t,true) | none=>((⟨#[]⟩,[],[]),false)):=by
 unfold E8j;have key:∀ (r:List E4Z) (i:Nat),l.drop i=r->A0d E6N ((a,l,(l.length:Int),(i:Int)),(ir #[]),([],0),[],0)=some (match r.find? (λt=>Lv t.1 a) with | some t=>.inl (true,t) | none=>.inr ((ir #[]),([],0),[],0)):=by
  intro r
  induction r with
  | nil =>
    intro i hd;have hi:¬ (i:Int)<(l.length:Int):=by
     have:=congrArg cz hd
     simp at this;omega
    exact qc (by simp only [E6N,hi,decide_false,cond_false,List.find?_nil])
  | cons t r ih =>
    intro i hd;have hi:i<l.length:=by
     have:=congrArg cz hd
     simp at this;omega
    have hx:l[i]=t∧l.drop (i+1)=r:=by
     rw [bY hi] at hd;exact List.cons.inj hd
    have hi':(i:Int)<(l.length:Int):=by omega
    rw [iz];cases hs:Lv t.1 a with
    | true=>exact qc (by simp only [E6N,hi',decide_true,cond_true,aq,ar,ah hi,ai,hx.1,hs])
    | false =>
      rw [← ih (i+1) hx.2];exact vw (by simp only [E6N,hi',decide_true,cond_true,aq,ar,ah hi,ai,hx.1,hs,cond_false,iQ (show i<9223372036854775807 by omega)])
 have k0:=key l 0 rfl;simp only [av] at k0;refine (congrArg (λo=>bc o _) k0).trans ?_
 cases l.find? (λt=>Lv t.1 a)<;>rfl
theorem E9s (l:List E4Z)(a:ByteArray):l.find? (λt=>Lv t.1 a)=(E6S l a).bind λi=>l[i]?:=by
 unfold E6S
 induction l with
 | nil=>rfl
 | cons t r ih =>
   rw [iz,List.findIdx?_cons];cases Lv t.1 a with
   | true=>rfl
   | false =>
     rw [ih];cases r.findIdx? (λt=>Lv t.1 a)<;>rfl
theorem F0v {l:List E4Z}{a:ByteArray}{i:Nat}(h:E6S l a=some i):i<l.length:=by
 unfold E6S at h
 have:=aSV.1 h
 omega
def E84 (aSP:List E4Z)(_:Nat)(a:tI):Int:=match aSP.find? (λt=>Lv t.1 a.1) with
 | none=>4
 | some t=>bif t.2.1.length==a.2.length then (bif a.2.all E5t then 0 else 1) else 6
theorem F2i (ts:List E5b)(v:ByteArray):occ ts ts.length v↔(v≠⟨#[]⟩∧ts.any (λu=>Lv u.1 v)=true):=by
 unfold occ;rw [fV];constructor
 . rintro ⟨h0,k,u,hk,hu,e⟩;exact ⟨h0,u,bH hu,by rw [E5K];exact e⟩
 . rintro ⟨h0,u,hu,e⟩;obtain ⟨k,hk,e2⟩:=pd hu;exact ⟨h0,k,u,hk,by rw [← e2];exact ah hk,E5K.1 e⟩
def E9t (ats:List tI)(v:ByteArray):Bool:=ats.any λa=>a.2.any λu=>Lv u.1 v
theorem F3X (ats:List tI)(v:ByteArray):E9Z ats ats.length v↔(v≠⟨#[]⟩∧E9t ats v=true):=by
 unfold E9Z E9t;rw [fV];constructor
 . rintro ⟨j,a,hj,ha,h⟩;obtain ⟨h0,h1⟩:=(F2i a.2 v).1 h;exact ⟨h0,a,bH ha,h1⟩
 . rintro ⟨h0,a,ha,h1⟩;obtain ⟨j,hj,e⟩:=pd ha;exact ⟨j,a,hj,by rw [← e];exact ah hj,(F2i a.2 v).2 ⟨h0,h1⟩⟩
theorem F4Q (l:List E5b)(v:ByteArray)(hl:l.length<=9223372036854775807):E4n (l,v)=some (l.any λu=>Lv u.1 v):=by
 unfold E4n E4A
 have:=Ma (f:=E4m) l (λi=>(l,v,(l.length:Int),(i:Int))) (λ_ u=>Lv u.1 v) (λi=>.inl (i:Int)) (.inr ()) (λi hi=>by
  have hi':(i:Int)<l.length:=by omega
  simp only [E4m,E6R,hi',decide_true,cond_true,aq,ar,ah hi,ai,iQ (show i<9223372036854775807 by omega)]
  cases Lv l[i].1 v<;>rfl) (by
  simp only [E4m,ba,decide_false,cond_false])
 simp only [av] at this;rw [this,← Qm (λu:E5b=>Lv u.1 v) l 0]
 cases tm (λ_ (u:E5b)=>Lv u.1 v) l 0 with
 | none=>rfl
 | some i=>simp
theorem F5A (l:List tI)(v:ByteArray)(hl:l.length<=1000)(ht:∀ a∈l,a.2.length<=1000):E4p (l,v)=some (E9t l v):=by
 unfold E4p E4B
 have:=Ma (f:=E4o) l (λi=>(l,v,(l.length:Int),(i:Int))) (λ_ a=>a.2.any λu=>Lv u.1 v) (λi=>.inl (i:Int)) (.inr ()) (λi hi=>by
  have hi':(i:Int)<l.length:=by omega
  have Ge:=ht _ (aM hi);simp only [E4o,E7u,hi',decide_true,cond_true,aq,ar,ah hi,ai,F4Q _ _ (show l[i].2.length<=9223372036854775807 by omega),iQ (show i<9223372036854775807 by omega)]
  cases l[i].2.any (λu=>Lv u.1 v)<;>rfl) (by
  simp only [E4o,ba,decide_false,cond_false])
 simp only [av] at this;rw [this];unfold E9t;rw [← Qm (λa:tI=>a.2.any λu=>Lv u.1 v) l 0]
 cases tm (λ_ (a:tI)=>a.2.any λu=>Lv u.1 v) l 0 with
 | none=>rfl
 | some i=>simp
theorem E6P {α:Type}{x:Int}{A B:α}:(if x=0 then A else B)=bif x==0 then A else B:=by
 by_cases h:x=0
 . rw [if_pos h,h];rfl
 . rw [if_neg h,beq_false_of_ne h];rfl
def E8s (head:List ByteArray)(ats:List tI)(i:Nat)(v:ByteArray):Int:=bif Lv v ⟨#[]⟩ || E4Y (head.take i) v || !E9t ats v then 1 else 0
theorem F3Y (head:List ByteArray)(l:List tI)(hh:head.length<=1000000)(hl:l.length<=1000)(ht:∀ a∈l,a.2.length<=1000):E6Y (head,l)=some (decide (E4I (E8s head l) head 0=0)):=by
 unfold E6Y
 have:=E5R (f:=E6p) head (λi=>((head,(head.length:Int),(i:Int)),(head,l))) (E8s head l) (λ_=>.inl false) (.inr ()) (λi hi=>by
  have hi':(i:Int)<head.length:=by omega
  have hc:=E9i (head.take i) head[i] (by rw [aW];omega)
  rw [E6P];simp only [E6p,hi',decide_true,cond_true,aq,ar,ah hi,ai,jE (fH hi),hc,F5A l head[i] hl ht,iQ (show i<9223372036854775807 by omega),E8s]
  cases Lv head[i] ⟨#[]⟩<;>cases E4Y (head.take i) head[i]<;>cases E9t l head[i]<;>rfl) (by
  simp only [E6p,ba,decide_false,cond_false])
 simp only [av] at this;rw [this,ai];by_cases h:E4I (E8s head l) head 0=0
 . rw [if_pos h,decide_eq_true h];rfl
 . rw [if_neg h,decide_eq_false h];rfl
theorem F3Z (head:List ByteArray)(l:List tI)(hh:head.length<=1000000)(hl:l.length<=1000)(ht:∀ a∈l,a.2.length<=1000):E63 (head,l)=some (decide (E4I (E8s head l) head 0=0)):=by
 unfold E63;obtain ⟨s,e,s1,s2⟩:=E8r hl ht
 have:=E5R (f:=E6u) head (λi=>((s,(i:Int)),(head,l))) (E8s head l) (λ_=>.inl false) (.inr ()) (λi hi=>by
  have hi':(i:Int)<head.length:=by omega
  have ha:=E8O s head[i] (by omega)
  have Ml:=E8O (head.take i) head[i] (by rw [aW];omega)
  have hx:=E7z s head[i];have hx2:=E7z (head.take i) head[i];have eC:∀ x:Int,decide (x<0)=!decide (x ≥ 0):=λx=>by
   by_cases h:x<0
   . rw [decide_eq_true h,decide_eq_false (by omega)];rfl
   . rw [decide_eq_false h,decide_eq_true (by omega)];rfl
  have hv:E5m s head[i]=(!Lv head[i] ⟨#[]⟩&&E9t l head[i]):=by
   rw [c6,show E5m s head[i]=E4Y s head[i] from rfl,s1.has,F3X,aj,Bool.not_eq_true',aSQ,ne_eq,ne_eq,E5K]
  rw [E6P];simp only [E6u,hi',decide_true,cond_true,aq,ar,ah hi,ai,jE (fH hi),ha,Ml,eC,← hx,← hx2,hv,iQ (show i<9223372036854775807 by omega),E8s,show E5m (head.take i) head[i]=E4Y (head.take i) head[i] from rfl]
  cases Lv head[i] ⟨#[]⟩<;>cases E4Y (head.take i) head[i]<;>cases E9t l head[i]<;>rfl) (by
  simp only [E6u,ba,decide_false,cond_false])
 simp only [av] at this;simp only [e,ai,this];by_cases h:E4I (E8s head l) head 0=0
 . rw [if_pos h,decide_eq_true h];rfl
 . rw [if_neg h,decide_eq_false h];rfl
def E7g (aSP:List E4Z)(head:List ByteArray)(ats:List tI):Int :=
 if dbE aSP=0 then (if ats.length<1∨6<ats.length then 1 else if E4I (E84 aSP) ats 0=0 then (if E4I (E8s head ats) head 0=0 then 0 else 1) else E4I (E84 aSP) ats 0) else dbE aSP
structure Sz (aSP:List E4Z)(keys:List (ByteArray×Int))(head:List ByteArray)(ats:List tI):Prop where
 tb:∀ t∈aSP,F0s t∧t.2.1.length<=1000000
 nk:keys.length<=1000000
 kr:∀ k∈keys,0<=k.2∧k.2<4294967296
 nh:head.length<=1000000
 na:ats.length<=1000
 nt:∀ a∈ats,a.2.length<=1000
section
variable {aSP:List E4Z}{keys:List (ByteArray×Int)}{head:List ByteArray}{ats:List tI}(z:Sz aSP keys head ats)
include z
theorem F3y:E72 (aSP,head,ats)=some (E7g aSP head ats):=by
 have hna:=z.na;unfold E72 E7g;simp only [F1v aSP (λt ht=>(z.tb t ht).1),ai]
 by_cases h0:dbE aSP=0
 . have hl:=E8P h0;rw [if_pos h0,if_pos h0];simp only [bne_self_eq_false,cond_false];by_cases h1:ats.length<1
   . have:(ats.length:Int)<1:=by omega
     simp only [this,decide_true,cond_true,if_pos (Or.inl h1:ats.length<1∨6<ats.length)]
   . by_cases h2:6<ats.length
     . have a1:¬ (ats.length:Int)<1:=by omega
       have a2:(ats.length:Int)>6:=by omega
       simp only [a1,a2,decide_true,decide_false,cond_true,cond_false,if_pos (Or.inr h2:ats.length<1∨6<ats.length)]
     . have a1:¬ (ats.length:Int)<1:=by omega
       have a2:¬ (ats.length:Int)>6:=by omega
       have a3:¬ (ats.length<1∨6<ats.length):=by omega
       simp only [a1,a2,decide_false,cond_false,if_neg a3]
       have:=E5R (f:=E7r) ats (λi=>((ats,(ats.length:Int),(i:Int)),aSP,(head,ats))) (E84 aSP) .inl (.inr (head,ats)) (λi hi=>by
        have hi':(i:Int)<ats.length:=by omega
        have Ge:=z.nt _ (aM hi);rw [E6P];simp only [E7r,hi',decide_true,cond_true,aq,ar,ah hi,ai,F3W aSP _ (show aSP.length<=1000000 by omega),F1U _ (show ats[i].2.length<=9223372036854775807 by omega),iQ (show i<9223372036854775807 by omega),E84]
        cases aSP.find? (λt=>Lv t.1 ats[i].1) with
        | none=>rfl
        | some t =>
          simp only [bO,cond_false];by_cases hlen:t.2.1.length=ats[i].2.length
          . have:((t.2.1.length:Int) != (ats[i].2.length:Int))=false:=by rw [hlen,bne_self_eq_false]
            simp only [hlen,bne_self_eq_false,cond_false,beq_self_eq_true,cond_true];cases ats[i].2.all E5t<;>rfl
          . have:((t.2.1.length:Int) != (ats[i].2.length:Int))=true:=by rw [bne_iff_ne];omega
            simp only [this,cond_true,beq_false_of_ne hlen,cond_false];rfl) (by
        simp only [E7r,ba,decide_false,cond_false])
       simp only [av] at this;simp only [this,ai];by_cases he:E4I (E84 aSP) ats 0=0
       . rw [if_pos he,if_pos he];simp only [lS,F3Y head ats z.nh z.na z.nt,ai];by_cases hh:E4I (E8s head ats) head 0=0
         . rw [if_pos hh,decide_eq_true hh];rfl
         . rw [if_neg hh,decide_eq_false hh];rfl
       . rw [if_neg he,if_neg he];rfl
 . rw [if_neg h0,if_neg h0];simp only [bne_iff_ne.2 (F3V aSP h0),cond_true]
theorem F3z:E6J (aSP,head,ats)=some (E7g aSP head ats):=by
 have hna:=z.na;unfold E6J E7g;simp only [F5z aSP (λt ht=>(z.tb t ht).1),ai]
 by_cases h0:dbE aSP=0
 . have hl:=E8P h0;rw [if_pos h0];simp only [h0,bne_self_eq_false,cond_false];by_cases h1:ats.length<1
   . have:(ats.length:Int)<1:=by omega
     simp only [this,decide_true,cond_true,if_pos (Or.inl h1:ats.length<1∨6<ats.length)]
   . by_cases h2:6<ats.length
     . have a1:¬ (ats.length:Int)<1:=by omega
       have a2:(ats.length:Int)>6:=by omega
       simp only [a1,a2,decide_true,decide_false,cond_true,cond_false,if_pos (Or.inr h2:ats.length<1∨6<ats.length)]
     . have a1:¬ (ats.length:Int)<1:=by omega
       have a2:¬ (ats.length:Int)>6:=by omega
       have a3:¬ (ats.length<1∨6<ats.length):=by omega
       simp only [a1,a2,decide_false,cond_false,if_neg a3]
       have:=E5R (f:=E6c) ats (λi=>((i:Int),aSP,(head,ats))) (E84 aSP) .inl (.inr (head,ats)) (λi hi=>by
        have hi':(i:Int)<ats.length:=by omega
        have Ge:=z.nt _ (aM hi);rw [E6P];simp only [E6c,hi',decide_true,cond_true,aq,ar,ah hi,ai,E9p aSP _ (show aSP.length<=1000000 by omega),F1V _ (show ats[i].2.length<=9223372036854775807 by omega),iQ (show i<9223372036854775807 by omega),E84,E9s]
        cases hx:E6S aSP ats[i].1 with
        | none=>rfl
        | some k =>
          have hk:=F0v hx;have n1:¬ ((k:Int)<0):=by omega
          simp only [E9o,n1,decide_false,cond_false,aq,decide_true,cond_true,ar,ah hk,ai];by_cases hlen:aSP[k].2.1.length=ats[i].2.length
          . have:((ats[i].2.length:Int) != (aSP[k].2.1.length:Int))=false:=by rw [hlen,bne_self_eq_false]
            simp only [hlen,bne_self_eq_false,cond_false,beq_self_eq_true,cond_true];cases ats[i].2.all E5t<;>rfl
          . have:((ats[i].2.length:Int) != (aSP[k].2.1.length:Int))=true:=by rw [bne_iff_ne];omega
            simp only [this,cond_true,beq_false_of_ne hlen,cond_false];rfl) (by
        simp only [E6c,ba,decide_false,cond_false])
       simp only [av] at this;simp only [this,ai];by_cases he:E4I (E84 aSP) ats 0=0
       . rw [if_pos he,if_pos he];simp only [lS,F3Z head ats z.nh z.na z.nt,ai];by_cases hh:E4I (E8s head ats) head 0=0
         . rw [if_pos hh,decide_eq_true hh];rfl
         . rw [if_neg hh,decide_eq_false hh];rfl
       . rw [if_neg he,if_neg he];rfl
 . rw [if_neg h0];simp only [bne_iff_ne.2 h0,cond_true]
end
end Go.Mid
namespace Go.Mid
theorem E7B (a b:fb):E4K (a,b)=some (b.all λp=>D8V eqS p.1 false a):=by
 have h1:∀ p,E6h p a=if (λ(p:Txt×Bool) (a:fb)=>!D8V eqS p.1 false a) p a then some (.inr false) else some (.inl a):=by
  intro p;have key:∀ c:Bool,cond (!c) (some (aA false):Option (fb ⊕ Bool)) (some (aC a))=if (!c)=true then some (aA false) else some (aC a):=λc=>by cases c<;>rfl
  exact key (D8V eqS p.1 false a)
 have h2:(E7F b λy=>(E5D E6h y a).bind λz=>bT (λu=>some (aC (β:=Bool) ())) (λv=>some (aA v)) z)=some (if b.any (λp=>!D8V eqS p.1 false a) then .inr false else .inl ()):=by
  rw [E7U];intro l' hl;rw [E80 (λ(p:Txt×Bool) (a:fb)=>!D8V eqS p.1 false a) false a _ h1,F1q hl]
  cases b.any (λp=>!D8V eqS p.1 false a)<;>rfl
 simp only [E4K];rw [h2];have h3:b.all (λp=>D8V eqS p.1 false a)=!b.any (λp=>!D8V eqS p.1 false a):=by
  rw [List.not_any_eq_all_not];simp
 rw [h3];cases b.any (λp=>!D8V eqS p.1 false a)<;>rfl
theorem E9u {a b:fb}(ha:SE a):E4K (a,b)=some true↔∀ z∈nb b,z∈nb a:=by
 rw [E7B,aa,bB];constructor
 . intro h z hz;obtain ⟨p,hp,rfl⟩:=bp.1 hz;exact (E7J ha).1 (h p hp)
 . intro h p hp;exact (E7J ha).2 (h p.1 (dY hp))
end Go.Mid
namespace Go.Mid
inductive Cl (L:List (fb×fb)) (v:fb) (but:Int):Txt->Prop
 | base {z:Txt} (h:z∈nb v):Cl L v but z
 | step {z:Txt} (i:Nat) (a:fb×fb) (hi:L[i]?=some a) (hb:(i:Int)≠but) (hk:∀ x∈nb a.1,Cl L v but x) (hz:z∈nb a.2):Cl L v but z
theorem F0h {C:Type}(c:C):∀ (l:fb) (m:fb),l.foldl (λ(a:C×fb) p=>(a.1,D8N eqS ltS p.1 true a.2)) (c,m)=(c,E6O m l)
 | [],_=>rfl
 | p::r,m=>F0h c r _
theorem E9L {C B R:Type}(f:Txt×Bool->C×fb->Option ((C×fb) ⊕ B))(hf:∀ p a,f p a=some (.inl (a.1,D8N eqS ltS p.1 true a.2)))(g:(C×fb) ⊕ B->Option R)(r:C×fb->R)(hg:∀ a,g (.inl a)=some (r a))(c:C){m l:fb}(hm:SE m) :
 (E7F l λy=>(E5D f y (c,m)).bind g)=some (r (c,E6O m l)):=by
 have hff:f=λp a=>some (.inl (a.1,D8N eqS ltS p.1 true a.2)):=by funext p a;exact hf p a
 subst hff;rw [E7U];intro l' hl;have h1:E5D (B:=B) (λ(p:Txt×Bool) (a:C×fb)=>some (.inl (a.1,D8N eqS ltS p.1 true a.2))) l' (c,m)=some (.inl (l'.foldl (λ(a:C×fb) p=>(a.1,D8N eqS ltS p.1 true a.2)) (c,m))) :=
  F0d (λ(p:Txt×Bool) (a:C×fb)=>(a.1,D8N eqS ltS p.1 true a.2)) l' (c,m)
 rw [h1,F0h,F2J hm hl];exact hg _
section
variable {L:List (fb×fb)}{v:fb}{but:Int}
abbrev stI (L:List (fb×fb)) (but:Int) (i:Nat) (s:Bool×fb):(List (fb×fb)×Int×Bool×List (fb×fb)×Int×Int)×fb:=((L,but,s.1,L,(L.length:Int),(i:Int)),s.2)
def inB (a b:fb):Bool:=b.all λp=>D8V eqS p.1 false a
theorem E9E {a b:fb}(ha:SE a):inB a b=true↔∀ z∈nb b,z∈nb a:=by
 have:=E9u (b:=b) ha
 rw [E7B,aa] at this;exact this
theorem F2Q (hL:L.length<1000000){i:Nat}(hi:i<L.length)(ag:Bool){out:fb}(ho:SE out) :
 E5k (stI L but i (ag,out))=some (.inl (stI L but (i+1) (if ((i:Int) != but&&inB out L[i].1 && !inB out L[i].2)=true then (true,E6O out L[i].2) else (ag,out)))):=by
 have hw:IntKind.i64.wrap ((i:Int)+1)=((i+1:Nat):Int):=iQ (by omega)
 have h1:decide ((i:Int)<(L.length:Int))=true:=by simp;omega
 have h2:decide ((0:Int)<=(i:Int))=true:=by simp
 have h3:L[(i:Int).toNat]?=some L[i]:=by simp [hi]
 have c1:E4K (out,L[i].1)=some (inB out L[i].1):=E7B out L[i].1;have c2:E4K (out,L[i].2)=some (inB out L[i].2):=E7B out L[i].2;have hr:=E9L (C:=List (fb×fb)×Int×Bool×List (fb×fb)×Int×Int) (B:=PUnit) E8e (λ_ _=>rfl)
  (λt=>bT (λy1=>some ((y1.1.1,y1.1.2.1,y1.1.2.2.1,y1.1.2.2.2.1,y1.1.2.2.2.2.1,y1.1.2.2.2.2.2),y1.2)) (λ_=>none) t) (λa=>a) (λ_=>rfl) (L,but,true,L,(L.length:Int),(i:Int)) (m:=out) (l:=L[i].2) ho
 simp only [E5k,h1,h2,h3,cond_true,ai,c1,c2];cases hb:((i:Int) != but)
 . simp only [cond_false,sS,aI,if_false,hw]
 . simp only [cond_true,dm];cases q1:inB out L[i].1
   . simp only [cond_false,sS,aI,if_false,hw]
   . simp only [cond_true,dm];cases q2:inB out L[i].2
     . simp only [auI,cond_true,if_true];refine (congrArg (λo=>bc o _) hr).trans ?_
       simp only [ai,hw]
     . simp only [bO,cond_false,aI,if_false,hw]
end
end Go.Mid
