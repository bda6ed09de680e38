/- graph.Reach: the plain form. -/
import Derived.Test.YtdohjmmogbefmaaGreatP2
import Derived.Test.YtdohjmmogbefmaaGreatM9
set_option linter.unusedSimpArgs false
set_option linter.unusedVariables false
open Bool renaming and_self → fR, not_true → bO, not_false → auI, eq_iff_iff → c6
open Go.IntKind renaming u32 → cG
open Int renaming natCast_nonneg → aq, toNat_natCast → ar, lt_irrefl → ba, natCast_zero → av, eq_ofNat_of_zero_le → eB
open List renaming getElem?_eq_getElem → ah, any_eq_true → fV, replicate → au, append_nil → bD, filter_append → eR, drop_drop → kp, length_set → iy, length_take → aW, length_replicate → fZ, length_append → aR, append_assoc → bg, range → bA, mem_filter → cZ, mem_range → cu, mem_map → bp, length_map → aB, length_filter_le → dt, mem_filterMap → dr, range_succ → jO, map_append → b9, take_nil → gH
open Nat renaming le_refl → ay, le_trans → dF, mul_le_mul → aSZ
open Option renaming bind_some → ai, bind → bc
open Option.some renaming injEq → aa
namespace Go.Mid
def HL (n:Int)(e:Int×Int):Bool:=decide (e.1<0) || decide (e.1 ≥ n) || decide (e.2<0) || decide (e.2 ≥ n)
def JK (n:Int)(l:List (Int×Int)):Int:=if n>1000 then 3 else if (l.length:Int)>20000 then 3 else if n<0 then 1 else if l.any (HL n) then 1 else 0
theorem D5Q:Nat.blt 0 2=true:=rfl
theorem D5R:Nat.blt 1 2=true:=rfl
theorem XD {n:Int}{e:Int×Int}:HL n e=true↔e.1<0∨e.1 ≥ n∨e.2<0∨e.2 ≥ n:=by
 simp [HL,or_assoc]
theorem C0t (n:Int)(l:List (Int×Int)):MG (n,l)=some (JK n l):=by
 unfold MG JK;simp only [gt_iff_lt];by_cases h1:1000<n
 . simp [h1]
 by_cases h2:(20000:Int)<l.length
 . simp [h1,h2]
 by_cases h3:n<0
 . simp [h1,h2,h3]
 simp only [h1,h2,h3,decide_false,cond_false,if_false]
 have:=wo (f:=QI) l (λi=>(n,l,(l.length:Int),(i:Int))) (HL n) (.inl 1) (.inr ()) (λi hi=>by
  have hi':(i:Int)<l.length:=by omega
  simp only [QI,hi',decide_true,cond_true,aq,ar,ah hi,ai,D5Q,D5R,iQ (show i<9223372036854775807 by omega)]
  generalize l[i]=e;by_cases hb:HL n e=true
  . rw [if_pos hb];rw [XD] at hb;by_cases c1:(if e.2<e.1 then e.2 else e.1)<0
    . simp only [c1,decide_true,cond_true]
    . have c2:(if e.2>e.1 then e.2 else e.1) ≥ n:=by
       split at c1<;>split<;>omega
      simp only [c1,c2,decide_true,decide_false,cond_true,cond_false]
  . rw [if_neg hb];rw [XD] at hb;have c1:¬ (if e.2<e.1 then e.2 else e.1)<0:=by split<;>omega
    have c2:¬ (if e.2>e.1 then e.2 else e.1) ≥ n:=by split<;>omega
    simp only [c1,c2,decide_false,cond_false]) (by
  simp only [QI,ba,decide_false,cond_false])
 simp only [av] at this;rw [this];by_cases h4:l.any (HL n)=true
 . simp [h4]
 . simp only [h4];rfl
theorem F22 {n:Int}{l:List (Int×Int)}(h:JK n l=0):∃ m:Nat,n=(m:Int)∧m<=1000∧l.length<=20000∧Ej m l:=by
 unfold JK at h;split at h
 . cases h
 split at h
 . cases h
 split at h
 . cases h
 split at h
 . cases h
 rename_i h1 h2 h3 h4;obtain ⟨m,rfl⟩:=eB (show 0<=n by omega)
 refine ⟨m,rfl,by omega,by omega,λe he=>?_⟩
 have:¬ HL m e=true:=λhb=>h4 (fV.2 ⟨e,he,hb⟩)
 rw [XD] at this;omega
theorem F4c {n:Nat}{Q:Int->Prop}{next:List (List Int)}(hN:NB n next)(hQ:∀ v:Nat,(hv:v<next.length)->Q v->∀ w∈next[v],Q w){s:Nat}(hs:s<n)(hq:Q s) :
 ∃ out:List Int,E6j (next,(s:Int))=some (out.length,A0K out)∧out.length<=n∧out.Nodup∧(∀ v∈out,0<=v∧v<n)∧(∀ v∈out,Q v)∧(s:Int)∈out∧∀ v∈out,∀ (hv:v.toNat<next.length),∀ w∈next[v.toNat],w∈out:=by
 have hsm:=hN.small;have h0:VI n Q ((au n false).set s true) [(s:Int)]:=by
  have:VI n Q (au n false) []:={
   sl:=by simp
   nd:=by simp
   mem:=by
    intro v hv;simp [hv]
   yd:=by simp
   q:=by simp
   cnt:=by simp [List.count_replicate] }
  exact this.add hs (by simp [hs]) hq
 obtain ⟨out,e,⟨sn,hv⟩,hp,hc⟩:=F1X hN hQ _ _ h0;have hle:=hv.le;refine ⟨out,?_,hle,hv.nd,hv.yd,hv.q,hp.subset (by simp),hc⟩
 have hg:(au n false)[s]?=some false:=by simp [hs]
 have e':A0d E5x ((next,n,1,0),(au n false).set s true,[]++[(s:Int)])=some (out.length,out):=e
 have ho:A1x out none (A0K out)=A0K out:=by
  unfold A1x;simp only;rw [Hv,List.drop_length,bD]
 unfold E6j;simp only [hN.len,aq,Int.le_refl,decide_true,cond_true,ar,jE (show n*1<=140737488355328 by omega),lB hs,hg,ai,e']
 unfold QM;simp only [jE (ay out.length),pN,cond_true,lB (show out.length<4611686018427387904 by omega),ho,ai]
structure aDp (n:Nat)(E:oW)(s:Nat)(out:List Int):Prop where
 asc:out.Pairwise (· < ·)
 len:out.length<=n
 yd:∀ v∈out,0<=v∧v<n
 st:(s:Int)∈out
 cl:∀ u∈out,∀ w,(u,w)∈E->w∈out
 min:∀ Q:Int->Prop,Q s->(∀ u w,Q u->(u,w)∈E->Q w)->∀ v∈out,Q v
theorem E9F {n:Nat}{E:oW}(hn:n<=1000)(hr:Ej n E)(hE:E.length<=1000){s:Nat}(hs:s<n):∃ out,E6j (A2U n E,(s:Int))=some (out.length,out)∧aDp n E s out:=by
 have hN:=D1c hn hr hE;obtain ⟨out,e,h0,h1,h2,h3,h4,h5⟩:=F4c (Q:=λv=>∀ Q:Int->Prop,Q s->(∀ u w,Q u->(u,w)∈E->Q w)->Q v) hN (λv hv hq w hw Q q1 q2=>q2 v w (hq Q q1 q2) ((C9p hv).1 hw)) hs (λQ q1 _=>q1)
 refine ⟨A0K out,by rw [e,Hv],C9l h1,by rw [Hv];exact h0,λv hv=>h2 v (Rn.1 hv),Rn.2 h4,λu hu w hw=>?_,λQ q1 q2 v hv=>h3 v (Rn.1 hv) Q q1 q2⟩
 have hu:=Rn.1 hu;have hur:=h2 u hu;obtain ⟨k,rfl⟩:=eB hur.1;have hk:((k:Int)).toNat<(A2U n E).length:=by rw [XC,ar];omega
 refine Rn.2 (h5 _ hu hk w ?_);simp only [ar];exact (C9p (by simpa using hk)).2 hw
theorem E8C (n v:Int):WE (n,v)=some (decide (0<=v)&&decide (v<n)):=by
 unfold WE;by_cases h:(0:Int)<=v<;>simp [h]
theorem F0y {n:Nat}{E:oW}{s:Nat}(h:JK n E=0)(hs:s<n)(hE:E.length<=1000):∃ out,E9J ((n:Int),E,(s:Int))=some (out,0)∧E7D ((n:Int),E,(s:Int))=some ((out.length,0),out)∧aDp n E s out:=by
 obtain ⟨m,e,hm,_,hr⟩:=F22 h
 have:n=m:=by omega
 subst this;obtain ⟨out,e1,h1⟩:=E9F hm hr hE hs;have h2:(s:Int)<n:=by omega
 refine ⟨out,?_,?_,h1⟩
 . unfold E9J;simp only [C0t,ai,h,E8C,aq,h2,decide_true,fR,bne_self_eq_false,cond_false,bO,C1W hm hr hE,e1];rw [jE (ay _),pN];rfl
 . unfold E7D;simp only [C0t,ai,h,E8C,aq,h2,decide_true,fR,bne_self_eq_false,cond_false,bO,C1W hm hr hE,e1]
end Go.Mid
namespace Go.Mid
theorem F1C (l:List Int)(a:Int)(hl:l.length<=1000000):E4D (l,a)=some (match l.findIdx? (λx=>x==a) with | some i=>(i:Int) | none=>-1):=by
 unfold E4D
 have:=Ma (f:=E4y) l (λi=>(l,a,(l.length:Int),(i:Int))) (λ_ b=>b==a) (λi=>.inl (i:Int)) (.inr ()) (λi hi=>by
  have hi':(i:Int)<l.length:=by omega
  simp only [E4y,E5l,hi',decide_true,cond_true,aq,ar,ah hi,ai,iQ (show i<9223372036854775807 by omega)]
  cases l[i]==a<;>rfl) (by
  simp only [E4y,ba,decide_false,cond_false])
 simp only [av] at this;rw [this,D86];cases l.findIdx? (λb=>b==a)<;>simp
def E7E (a:Int)(l:List Int):List Int:=l.filter λx=>x != a
theorem F1Y {l:List Int}{a:Int}(hl:l.length<=1000000){y:Nat}(hy:y<l.length)(hya:l[y]=a)(hb:∀ x∈l.take y,x≠a) :
 ∃ (u:List Int) (w:Nat),A0d E4E ((l.length,(y:Int),((y+1:Nat):Int)),l,a)=some ((l.length,(w:Int)),u,a)∧u.length=l.length∧w<=l.length∧u.take w=E7E a l:=by
 have hk0:E7E a (l.take y)=l.take y:=List.filter_eq_self.2 λx hx=>bne_iff_ne.2 (hb x hx)
 have Ic:E7E a (l.take (y+1))=l.take y:=by
  unfold E7E;rw [vz hy,eR,hya];simp only [List.filter_cons,bne_self_eq_false,Bool.false_eq_true,if_false,List.filter_nil,bD];exact hk0
 have key:=C3H (f:=E4E) (S:=List Int×Nat) l.length (λj s=>((l.length,(s.2:Int),(j:Int)),s.1,a))
  (λj s=>y<j∧s.1.length=l.length∧s.2<j∧s.1.take s.2=E7E a (l.take j)∧s.1.drop j=l.drop j)
  (λo=>∃ u w,o=((l.length,((w:Nat):Int)),u,a)∧u.length=l.length∧w<=l.length∧u.take w=E7E a l) (λj s hj hs=>?_) (λs hs=>?_) (l.length-(y+1)) (y+1) (l,y) (by omega) ⟨by omega,rfl,by simp,Ic.symm,rfl⟩
 . obtain ⟨o,h1,u,w,rfl,h2⟩:=key;exact ⟨u,w,h1,h2⟩
 . left;obtain ⟨h0,h1,h2,h3,h4⟩:=hs;have Dy:(j:Int)<l.length:=by omega
   have hju:j<s.1.length:=by omega
   have hwu:s.2<s.1.length:=by omega
   have hg:s.1[j]=l[j]:=by
    have:=congrArg (·[0]?) h4
    simp only [List.getElem?_drop,Nat.add_zero,ah hj,ah hju,aa] at this;exact this
   have N9:s.1.drop (j+1)=l.drop (j+1):=by
    rw [← kp,h4,kp]
   have ht:E7E a (l.take (j+1))=E7E a (l.take j)++(if l[j]=a then [] else [l[j]]):=by
    unfold E7E;rw [vz hj,eR];congr 1;by_cases e:l[j]=a
    . simp [e]
    . simp [e]
   by_cases e:l[j]=a
   . refine ⟨(s.1,s.2),?_,by omega,h1,by omega,by rw [ht,if_pos e,bD,h3],N9⟩
     simp only [E4E,Dy,decide_true,cond_true,aq,ar,lB hj,ah hju,ai,E5l,hg,e,beq_self_eq_true,bO,cond_false,iQ (show j<9223372036854775807 by omega)]
   . have hbe:(l[j]==a)=false:=beq_eq_false_iff_ne.2 e;refine ⟨(s.1.set s.2 l[j],s.2+1),?_,by omega,by rw [iy];exact h1,by omega,?_,?_⟩
     . simp only [E4E,Dy,decide_true,cond_true,aq,ar,lB hj,ah hju,ai,E5l,hg,hbe,auI,lB (show s.2<l.length by omega),ah hwu,iQ (show j<9223372036854775807 by omega),iQ (show s.2<9223372036854775807 by omega)]
     . rw [ht,if_neg e,← h3];have eC:s.2<(s.1.set s.2 l[j]).length:=by rw [iy];exact hwu
       show (s.1.set s.2 l[j]).take (s.2+1)=_;rw [vz eC,List.getElem_set_self,List.take_set_of_le (ay _)]
     . show (s.1.set s.2 l[j]).drop (j+1)=_;rw [List.drop_set_of_lt (by omega),N9]
 . obtain ⟨h0,h1,h2,h3,h4⟩:=hs;refine ⟨_,?_,s.1,s.2,rfl,h1,by omega,by rw [h3,pN]⟩
   simp only [E4E,ba,decide_false,cond_false]
theorem F0T {l:List Int}{a:Int}(hl:l.length<=1000000)(ha:a∈l) :
 ∃ (u:List Int) (w:Nat),E46 (l.length,l,a)=some (w,u,a)∧w<=u.length∧u.take w=E7E a l:=by
 have hs:(l.findIdx? λx=>x==a).isSome=true:=by
  rw [List.findIdx?_isSome,fV];exact ⟨a,ha,by simp⟩
 obtain ⟨y,hy⟩:=Option.isSome_iff_exists.1 hs;obtain ⟨hyl,hya,hyb⟩:=List.findIdx?_eq_some_iff_getElem.1 hy;obtain ⟨u,w,h1,h2,h3,h4⟩:=F1Y (a:=a) hl hyl (by simpa using hya) (λx hx=>by
  obtain ⟨j,hj,rfl⟩:=List.getElem_of_mem hx;rw [aW] at hj
  have:=hyb j (by omega)
  rw [List.getElem_take];simpa using this)
 refine ⟨A1x u (some w) (au (l.length-w) 0),w,?_,?_,?_⟩
 . unfold E46;have hi:=F1C l a hl;rw [hy] at hi;have hne:((y:Int)==(-1:Int))=false:=by rw [beq_eq_false_iff_ne];omega
   simp only [jE (ay _),pN,cond_true,hi,ai,hne,cond_false,iQ (show y<9223372036854775807 by omega)]
   refine (congrArg (λo=>bc o _) h1).trans ?_
   simp only [ai,aq,decide_true,cond_true,ar,jE h3];rw [jE (by rw [fZ,h2];omega)]
   rfl
 . unfold A1x;simp only [aR,aW,fZ,List.length_drop];omega
 . unfold A1x;simp only;rw [bg,List.take_append_of_le_length (by rw [aW];omega),List.take_take,Nat.min_self,h4]
end Go.Mid
namespace Go.Mid
section
variable {keys:List (ByteArray×Int)}{head:List ByteArray}{l:List tI}(q:QV keys head l)
noncomputable def E91 (keys:List (ByteArray×Int))(head:List ByteArray)(l:List tI)(i:Nat):List Nat:=by
 classical exact (bA l.length).filter λk=>decide (E8J keys head l i k)
noncomputable def E7j (keys:List (ByteArray×Int))(head:List ByteArray)(l:List tI)(i:Nat):List Int:=(E91 keys head l i).map λk:Nat=>(k:Int)
theorem F1D {i k:Nat}:k∈E91 keys head l i↔E8J keys head l i k:=by
 classical
 unfold E91;rw [cZ,cu,decide_eq_true_eq];exact ⟨λh=>h.2,λh=>⟨h.2.1,h⟩⟩
theorem E92 {i:Nat}{x:Int}:x∈E7j keys head l i↔∃ k:Nat,x=(k:Int)∧E8J keys head l i k:=by
 unfold E7j;rw [bp];exact ⟨λ⟨k,h,e⟩=>⟨k,e.symm,F1D.1 h⟩,λ⟨k,e,h⟩=>⟨k,F1D.2 h,e.symm⟩⟩
theorem F4d (i:Nat):(E91 keys head l i).Pairwise (· < ·):=by
 classical
 unfold E91;exact List.Pairwise.filter _ List.pairwise_lt_range
theorem F4e (i:Nat):(E7j keys head l i).Pairwise (· < ·):=by
 unfold E7j;rw [List.pairwise_map];exact (F4d i).imp λh=>by omega
theorem E93 (i:Nat):(E7j keys head l i).length<=l.length:=by
 unfold E7j E91;rw [aB];exact dF (dt ..) (by simp)
theorem F4f:∀ s∈E4j keys head l,SE s.2:=λs hs=>by
 unfold E4j at hs;obtain ⟨a,_,rfl⟩:=bp.1 hs;exact (E9V keys head a).ok2
theorem F0Q {z:fb}(hz:SE z){a b:Nat}(ha:a<l.length)(hb:b<l.length):E76 (E4j keys head l) z a b=true↔∃ x,E50 (E4j keys head l) a x∧E50 (E4j keys head l) b x∧x∉nb z:=by
 have ha':a<(E4j keys head l).length:=by rw [E79];exact ha
 have js:b<(E4j keys head l).length:=by rw [E79];exact hb
 obtain ⟨t,h1,h2⟩:=F2S ha' js F4f hz;rw [E9v,aa] at h1;rw [← h2,← h1];unfold E76;simp only [ah ha',ah js]
theorem E88 {z:fb}{N:Nat}(hN:(E4j keys head l).length=N){u w:Int}:(u,w)∈E5j (E4j keys head l) z N↔∃ a b:Nat,u=(a:Int)∧w=(b:Int)∧a<N∧b<N∧E76 (E4j keys head l) z a b=true:=by
 unfold E5j E7i;rw [List.mem_flatMap];constructor
 . rintro ⟨a,ha,h⟩;obtain ⟨b,hb,h⟩:=dr.1 h;split at h
   . rename_i hl;simp only [aa,Prod.mk.injEq] at h;exact ⟨a,b,h.1.symm,h.2.symm,cu.1 ha,by rw [← hN];exact cu.1 hb,hl⟩
   . cases h
 . rintro ⟨a,b,rfl,rfl,ha,hb,hl⟩;refine ⟨a,cu.2 ha,dr.2 ⟨b,cu.2 (by rw [hN];exact hb),?_⟩⟩
   rw [if_pos hl]
include q in
theorem E9O {i:Nat}(hi:i<l.length):E6s (E4j keys head l,(i:Int))=some (E7j keys head l i):=by
 have hna:=q.na;have hL:=E79 (keys:=keys) (head:=head) (l:=l);have hiL:i<(E4j keys head l).length:=by rw [hL];exact hi
 obtain ⟨z,e1,z1,z2⟩:=F4S (l:=E4j keys head l) (by omega) hiL
 have aGp:=F21 (L:=E4j keys head l) (o:=z) (by omega) (i:Int)
 have aM6:=E87 (E4j keys head l) z (E4j keys head l).length;have aKd:(E5j (E4j keys head l) z (E4j keys head l).length).length<=36:=by
  have:(E4j keys head l).length*(E4j keys head l).length<=6*6:=aSZ (by omega) (by omega)
  omega
 have CT:∀ e∈E5j (E4j keys head l) z (E4j keys head l).length,HL ((E4j keys head l).length:Int) e=false:=by
  rintro ⟨u,w⟩ he;obtain ⟨a,b,rfl,rfl,ha,hb,_⟩:=(E88 rfl).1 he;rw [Bool.eq_false_iff];intro He;rw [XD] at He;simp only at He;omega
 have hvalid:JK ((E4j keys head l).length:Int) (E5j (E4j keys head l) z (E4j keys head l).length)=0:=by
  unfold JK;rw [if_neg (by omega),if_neg (by omega),if_neg (by omega),if_neg]
  rw [fV];rintro ⟨e,he,hb⟩;rw [CT e he] at hb;cases hb
 obtain ⟨out,_,e2,r⟩:=F0y hvalid hiL (by omega)
 have aKe:∀ x:Int,x∈out↔∃ k:Nat,x=(k:Int)∧k<l.length∧F1A keys head l i k:=by
  intro x;constructor
  . intro hx;refine r.min (λx=>∃ k:Nat,x=(k:Int)∧k<l.length∧F1A keys head l i k) ⟨i,rfl,hi,.refl⟩ ?_ x hx
    rintro u w ⟨a,rfl,ha,hr⟩ he;obtain ⟨a',b,h1,rfl,_,hb,hl⟩:=(E88 rfl).1 he
    have:a'=a:=by omega
    subst this;rw [hL] at hb;obtain ⟨y,y1,y2,y3⟩:=(F0Q z1 ha hb).1 hl;exact ⟨b,rfl,hb,.step hr hb y y1 y2 λm=>y3 ((z2 y).2 (by rw [hL];exact m))⟩
  . rintro ⟨k,rfl,hk,hr⟩
    induction hr with
    | refl=>exact r.st
    | step h hb y y1 y2 y3 ih =>
      rename_i a b;have ha:a<l.length:=by
       obtain ⟨s,h1,_⟩:=y1
       have:=F4j h1
       rw [hL] at this;exact this
      refine r.cl _ (ih ha) _ ((E88 rfl).2 ⟨a,b,rfl,rfl,by omega,by omega,(F0Q z1 ha hb).2 ⟨y,y1,y2,λm=>y3 ?_⟩⟩)
      have:=(z2 y).1 m
      rw [hL] at this;exact this
 have aM7:=r.len;obtain ⟨u,w,e3,w1,w2⟩:=F0T (l:=out) (a:=(i:Int)) (by omega) r.st
 have aKf:E7E (i:Int) out=E7j keys head l i:=by
  refine F5D (List.Pairwise.filter _ r.asc) (F4e i) λx=>?_
  rw [E92,show E7E (i:Int) out=out.filter (λx=>x != (i:Int)) from rfl,cZ,aKe,bne_iff_ne]
  constructor
  . rintro ⟨⟨k,rfl,hk,hr⟩,hne⟩;exact ⟨k,rfl,hi,hk,by omega,hr⟩
  . rintro ⟨k,rfl,h⟩;have YP:=h.2.1;have hne:=h.2.2.1;exact ⟨⟨k,rfl,h.2.1,h.2.2.2⟩,by omega⟩
 unfold E6s;simp only [aq,decide_true,cond_true,ar,ah hiL,ai,e1];refine (congrArg (λo=>bc o _) aGp).trans ?_
 simp only [ai,jE (ay _),cond_true,pN,e2,e3,jE w1,w2,aKf]
noncomputable def E6y (keys:List (ByteArray×Int))(head:List ByteArray)(l:List tI)(n:Nat):List (Int×Int):=(bA n).flatMap λi=>(E7j keys head l i).map λk=>((i:Int),k)
theorem E8K (n:Nat):E6y keys head l (n+1)=E6y keys head l n++(E7j keys head l n).map λk=>((n:Int),k):=by
 unfold E6y;rw [jO,List.flatMap_append];simp
theorem E8n:∀ n,(E6y keys head l n).length<=n*l.length
 | 0=>by simp [E6y]
 | n+1=>by
   rw [E8K,aR,aB,Nat.succ_mul]
   have:=E8n n
   have:=E93 (keys:=keys) (head:=head) (l:=l) n
   omega
noncomputable abbrev E8c (keys:List (ByteArray×Int)) (head:List ByteArray) (l:List tI):List (Int×Int):=E6y keys head l l.length
theorem F1E (hna:l.length<=6):(E8c keys head l).length<=36:=by
 have h1:=E8n (keys:=keys) (head:=head) (l:=l) l.length
 have:l.length*l.length<=6*6:=aSZ (by omega) (by omega)
 exact dF h1 (by omega)
theorem F5G {L:List (fb×fb)}(y:List Int)(hy:y.length<=1000)(i n m:Int)(E:List (Int×Int))(hE:E.length<=1000) :
 A0d E5r ((L,E.length,i,n,m,y,(y.length:Int),(0:Int)),E)=some ((L,(E++y.map λk=>(i,k)).length,n,m),E++y.map λk=>(i,k)):=by
 have key:=V4 (f:=E5r) (S:=List (Int×Int)) y.length (λj s=>((L,s.length,i,n,m,y,(y.length:Int),(j:Int)),s)) (λj s=>s=E++(y.take j).map λk=>(i,k))
  (λb=>b=((L,(E++y.map λk=>(i,k)).length,n,m),E++y.map λk=>(i,k))) E (by simp) (λj s hj hs=>?_) (λs hs=>?_)
 . obtain ⟨b,h1,h2⟩:=key;rw [h2] at h1;exact h1
 . left;refine ⟨_,?_,rfl⟩;have Dy:(j:Int)<y.length:=by omega
   have hlen:s.length<=2000:=by rw [hs];simp;omega
   simp only [E5r,Dy,decide_true,cond_true,aq,ar,ah hj,ai,jE (ay _),jE (show (s.length+1)*16<=140737488355328 by omega),pN,iQ (show j<9223372036854775807 by omega)]
   have e:E++(y.take (j+1)).map (λk=>(i,k))=s++[(i,y[j])]:=by
    rw [hs,vz hj,b9,bg];rfl
   rw [e];simp
 . rw [pN] at hs;subst hs;refine ⟨_,?_,rfl⟩;simp only [E5r,ba,decide_false,cond_false]
include q in
theorem F1F:E6F (E4j keys head l)=some ((E8c keys head l).length,E8c keys head l):=by
 have hna:=q.na;have hL:=E79 (keys:=keys) (head:=head) (l:=l);have key:=V4 (f:=E56) (S:=List (Int×Int)) l.length (λi s=>((E4j keys head l,s.length,((E4j keys head l).length:Int),(i:Int)),s)) (λi s=>s=E6y keys head l i)
  (λb=>b=((E8c keys head l).length,E8c keys head l)) [] (by simp [E6y]) (λi s hi hs=>?_) (λs hs=>?_)
 . obtain ⟨b,h1,h2⟩:=key;rw [h2] at h1;unfold E6F;refine (congrArg (λo=>bc o _) h1).trans ?_
   rfl
 . left;refine ⟨_,?_,rfl⟩;subst hs;have hi':(i:Int)<((E4j keys head l).length:Int):=by rw [hL];omega
   have Aw:=E93 (keys:=keys) (head:=head) (l:=l) i;have Wn:(E6y keys head l i).length<=36:=by
    have:=E8n (keys:=keys) (head:=head) (l:=l) i
    have:i*l.length<=6*6:=aSZ (by omega) (by omega)
    omega
   have hr:=F5G (L:=E4j keys head l) (E7j keys head l i) (by omega) (i:Int) ((E4j keys head l).length:Int) (i:Int) (E6y keys head l i) (by omega)
   simp only [E56,hi',decide_true,cond_true,E9O q hi,ai];refine (congrArg (λo=>bc o _) hr).trans ?_
   simp only [ai,iQ (show i<9223372036854775807 by omega),E8K]
 . subst hs;refine ⟨_,?_,rfl⟩;simp only [E56,hL,ba,decide_false,cond_false]
theorem F4X {M:List (List Bool)}(hM:aEN keys head l M){i:Nat}(hi:i<l.length)(hna:l.length<=6)(E:List (Int×Int))(hE:E.length<=1000) :
 A0d E43 ((M,E.length,(i:Int),(0:Int)),E)=some ((M,(E++(E7j keys head l i).map λk=>((i:Int),k)).length,(i:Int)),E++(E7j keys head l i).map λk=>((i:Int),k)):=by
 classical
 have hiM:i<M.length:=by rw [hM.len];exact hi
 have hr:=hM.row i M[i] (ah hiM)
 let F:Nat->List (Int×Int):=λn=>((bA n).filter λk=>decide (E8J keys head l i k)).map λk:Nat=>((i:Int),(k:Int))
 have hF:F l.length=(E7j keys head l i).map λk=>((i:Int),k):=by
  simp only [F,E7j,E91,List.map_map];rfl
 have Fs:∀ n,F (n+1)=F n++(if E8J keys head l i n then [((i:Int),(n:Int))] else []):=by
  intro n;simp only [F];rw [jO,eR,b9];congr 1;by_cases h:E8J keys head l i n
  . simp [h]
  . simp [h]
 have key:=V4 (f:=E43) (S:=List (Int×Int)) l.length (λk s=>((M,s.length,(i:Int),(k:Int)),s)) (λk s=>s=E++F k)
  (λb=>b=((M,(E++F l.length).length,(i:Int)),E++F l.length)) E (by simp [F]) (λk s hk hs=>?_) (λs hs=>?_)
 . obtain ⟨b,h1,h2⟩:=key;rw [h2,hF] at h1;exact h1
 . left;refine ⟨_,?_,rfl⟩;have nq:(k:Int)<(M.length:Int):=by rw [hM.len];omega
   have hkr:k<M[i].length:=by rw [hr.len];exact hk
   have hlF:(F k).length<=k:=by
    simp only [F,aB];exact dF (dt ..) (by simp)
   have hlen:s.length<=2000:=by rw [hs,aR];omega
   rw [Fs];cases hb:M[i][k] with
   | false =>
     have hn:¬ E8J keys head l i k:=λh=>by
      have:=(hr.att k).2 h
      rw [ah hkr,hb] at this;cases this
     simp only [E43,nq,decide_true,cond_true,aq,ar,ah hiM,ah hkr,ai,hb,cond_false,iQ (show k<9223372036854775807 by omega),if_neg hn,bD,hs]
   | true =>
     have hp:E8J keys head l i k:=(hr.att k).1 (by rw [ah hkr,hb])
     simp only [E43,nq,decide_true,cond_true,aq,ar,ah hiM,ah hkr,ai,hb,jE (ay _),jE (show (s.length+1)*16<=140737488355328 by omega),pN,iQ (show k<9223372036854775807 by omega),if_pos hp]
     rw [hs,bg];simp;omega
 . subst hs;refine ⟨_,?_,rfl⟩;simp only [E43,hM.len,ba,decide_false,cond_false]
theorem F4g {M:List (List Bool)}(hM:aEN keys head l M)(hna:l.length<=6):A0d E5e ((M,0,(0:Int)),[])=some ((E8c keys head l).length,E8c keys head l):=by
 have key:=V4 (f:=E5e) (S:=List (Int×Int)) l.length (λi s=>((M,s.length,(i:Int)),s)) (λi s=>s=E6y keys head l i)
  (λb=>b=((E8c keys head l).length,E8c keys head l)) [] (by simp [E6y]) (λi s hi hs=>?_) (λs hs=>?_)
 . obtain ⟨b,h1,h2⟩:=key;rw [h2] at h1;exact h1
 . left;refine ⟨_,?_,rfl⟩;subst hs;have hi':(i:Int)<(M.length:Int):=by rw [hM.len];omega
   have Wn:(E6y keys head l i).length<=36:=by
    have:=E8n (keys:=keys) (head:=head) (l:=l) i
    have:i*l.length<=6*6:=aSZ (by omega) (by omega)
    omega
   have hr:=F4X hM hi hna (E6y keys head l i) (by omega)
   simp only [E5e,hi',decide_true,cond_true];refine (congrArg (λo=>bc o _) hr).trans ?_
   simp only [ai,iQ (show i<9223372036854775807 by omega),E8K]
 . subst hs;refine ⟨_,?_,rfl⟩;simp only [E5e,hM.len,ba,decide_false,cond_false]
abbrev F4k (keys:List (ByteArray×Int)) (head:List ByteArray) (l:List tI):Nat->Nat->Prop:=AG.aJU l.length (E5S (E4j keys head l)) (E50 (E4j keys head l))
include q in
theorem F4Y {i k:Nat}(hi:i<l.length)(hk:k<l.length):∃ t,E73 (E4j keys head l,(i:Int),(k:Int))=some t∧E67 (keys,(head,l),(i:Int),(k:Int))=some t∧(t=true↔F4k keys head l i k):=by
 have hna:=q.na;have hL:=E79 (keys:=keys) (head:=head) (l:=l);have hiL:i<(E4j keys head l).length:=by rw [hL];exact hi
 have hkL:k<(E4j keys head l).length:=by rw [hL];exact hk
 have kA:∀ {j:Nat} (hj:j<(E4j keys head l).length) (z:ByteArray),z∈nb (E4j keys head l)[j].1↔E5S (E4j keys head l) j z:=λ{j} hj z=>by
  unfold E5S;rw [ah hj];exact ⟨λh=>⟨_,rfl,h⟩,λ⟨a,e,h⟩=>by rw [aa] at e;subst e;exact h⟩
 obtain ⟨s,e1,s1,s2⟩:=F0i (L:=E4j keys head l) (v:=(E4j keys head l)[i].1) (but:=(-1:Int)) (by omega)
 have eS:(λz=>z∈nb (E4j keys head l)[i].1)=E5S (E4j keys head l) i:=by
  funext z;exact propext (kA hiL z)
 have s3:∀ z,z∈nb s↔AG.D l.length (E5S (E4j keys head l)) (E50 (E4j keys head l)) none (E5S (E4j keys head l) i) z:=λz=>by
  rw [s2,F5B F1z,hL,eS]
 obtain ⟨ki,f1,i1,i2⟩:=E8A q hi;obtain ⟨kk,f2,k1,k2⟩:=E8A q hk;obtain ⟨t,f3,t1,t2⟩:=E9a q F1z i1.nd (by omega)
 have eT:(λz=>z∈ki)=E5S (E4j keys head l) i:=by
  funext z;exact propext (i1.mem z)
 rw [eT] at t1;have hw:=D87 k1 t1;refine ⟨kk.all (E4Y t),?_,?_,hw⟩
 . unfold E73;simp only [aq,decide_true,cond_true,ar,ah hiL,ah hkL,ai,e1];have hc:=E9u (a:=s) (b:=(E4j keys head l)[k].1) s1;rw [E7B] at hc ⊢;rw [ai];refine congrArg some ?_;rw [c6,hw];rw [aa] at hc;rw [hc];exact ⟨λh z hz=>(s3 z).1 (h z ((kA hkL z).2 hz)),λh z hz=>(s3 z).2 (h z ((kA hkL z).1 hz))⟩
 . unfold E67;simp only [f1,f2,f3,ai,F0J (show kk.length<=1000000 by omega) (show t.length<=1000000 by omega)]
end
end Go.Mid
namespace Go.Mid
theorem F5H {c:E8l}(ok:OkC c)(h4:c.1.length<=4)(hf:F36 c){hd:List ByteArray}(h5:hd.length<=5):Sz (E5p c.1 c.1.length) (E5f c.1 c.1.length) hd (E4P c.1 c.1.length) where
 tb:=λt ht=>by
  unfold E5p at ht;obtain ⟨i,hi,rfl⟩:=bp.1 ht;refine ⟨λr hr=>(by cases hr),?_⟩
  have:aB0.length=4:=rfl
  simp only [aW];omega
 nk:=by rw [E9z];omega
 kr:=λk hk=>by
  unfold E5f at hk;obtain ⟨i,hi,rfl⟩:=bp.1 hk;have hi:=cu.1 hi;have h1:=(ok.1 _ (List.getElem_mem hi)).2;rw [F2j hi] at h1;have hfi:=hf i hi;have hw:cG.wrap (atC c.1 i).2=(atC c.1 i).2:=F1s h1.1 (by omega)
  obtain ⟨m,hm⟩:=eB h1.1;have hp:2 ^ (atC c.1 i).1.length<=2 ^ 4:=Nat.pow_le_pow_right (by omega) hfi
  show 0<=pL cG (cG.wrap (atC c.1 i).2) _∧pL cG (cG.wrap (atC c.1 i).2) _<4294967296;rw [hw,hm,F2f (by unfold w32;omega) (by unfold w32;omega)]
  have:=@Nat.and_le_left m (2 ^ (atC c.1 i).1.length-1)
  omega
 nh:=by omega
 na:=by rw [E8m];omega
 nt:=λa ha=>by
  unfold E4P at ha;obtain ⟨i,hi,rfl⟩:=bp.1 ha
  have:=hf i (cu.1 hi)
  simp only [aB];omega
theorem F1G {keys:List (ByteArray×Int)}{head:List ByteArray}{ats:List tI}(q:QV keys head ats):E6D (keys,head,ats)=some (E4j keys head ats) :=
 F3T keys head ats q.nk q.nh (by have:=q.na;omega) λa ha=>by have:=q.nt a ha;omega
section
variable {aSP:List E4Z}{keys:List (ByteArray×Int)}{head:List ByteArray}{ats:List tI}(z:Sz aSP keys head ats)
include z
theorem F23:E7t (aSP,keys,head,ats)=some (if E7w aSP keys head ats=0 then (E8c keys head ats,0) else ([],E7w aSP keys head ats)):=by
 unfold E7t;simp only [F0N z,ai];by_cases h:E7w aSP keys head ats=0
 . have q:=F2T z h;have hl:=F1E (keys:=keys) (head:=head) q.na;rw [if_pos h];simp only [h,bne_self_eq_false,cond_false,F1G q,ai,F1F q,jE (ay _),cond_true,pN]
 . rw [if_neg h];simp only [bne_iff_ne.2 h,cond_true,show Nat.ble 0 0=true from rfl,gH]
theorem F0U:E6x (aSP,keys,head,ats)=some (if E7w aSP keys head ats=0 then (E8c keys head ats,0) else ([],E7w aSP keys head ats)):=by
 unfold E6x;simp only [E9M z,ai];by_cases h:E7w aSP keys head ats=0
 . have q:=F2T z h;obtain ⟨M,e,hM⟩:=F0P q;rw [if_pos h];simp only [h,bne_self_eq_false,cond_false,e,ai];refine (congrArg (λo=>bc o _) (F4g hM q.na)).trans ?_
   simp only [ai,jE (ay _),cond_true,pN]
 . rw [if_neg h];simp only [bne_iff_ne.2 h,cond_true,show Nat.ble 0 0=true from rfl,gH]
end
theorem F1H (l:List Int)(a:Int)(hl:l.length<=1000000):A7r (l,a)=some (l.any λb=>a==b):=by
 unfold A7r MJ
 have:=Ma (f:=QL) l (λi=>(l,a,(l.length:Int),(i:Int))) (λ_ b=>a==b) (λi=>.inl (i:Int)) (.inr ()) (λi hi=>by
  have hi':(i:Int)<l.length:=by omega
  simp only [QL,hi',decide_true,cond_true,aq,ar,ah hi,ai,iQ (show i<9223372036854775807 by omega)]
  cases a==l[i]<;>rfl) (by
  simp only [QL,ba,decide_false,cond_false])
 simp only [av] at this;rw [this,← Qm (λb=>a==b) l 0]
 cases tm (λ_ b=>a==b) l 0 with
 | none=>rfl
 | some i=>simp
section
variable {aSP:List E4Z}{keys:List (ByteArray×Int)}{head:List ByteArray}{ats:List tI}(z:Sz aSP keys head ats)
include z
theorem F3F (i k:Int):∃ w:Bool×Int,E74 (aSP,keys,(head,ats),i,k)=some w∧E68 (aSP,keys,(head,ats),i,k)=some w ∧
 ∀ a b:Nat,i=(a:Int)->k=(b:Int)->E7w aSP keys head ats=0->E8J keys head ats a b->w.2=0∧(w.1=true↔F4k keys head ats a b):=by
 unfold E74 E68;simp only [F0N z,E9M z,ai];by_cases h:E7w aSP keys head ats=0
 . have q:=F2T z h;have hna:=q.na;simp only [h,bne_self_eq_false,cond_false];by_cases hr:0<=i∧i<ats.length∧0<=k∧k<ats.length
   . obtain ⟨a,rfl⟩:=eB hr.1;obtain ⟨b,rfl⟩:=eB hr.2.2.1;have ha:a<ats.length:=by omega
     have hb:b<ats.length:=by omega
     have n1:¬ ((a:Int)<0):=by omega
     have n2:¬ ((a:Int) ≥ (ats.length:Int)):=by omega
     have n3:¬ ((b:Int)<0):=by omega
     have n4:¬ ((b:Int) ≥ (ats.length:Int)):=by omega
     obtain ⟨M,e,hM⟩:=F0P q;have haM:a<M.length:=by rw [hM.len];exact ha
     have hrow:=hM.row a M[a] (ah haM);have hbM:b<M[a].length:=by rw [hrow.len];exact hb
     obtain ⟨t,w1,w2,w3⟩:=F4Y q ha hb;have hlen:=E93 (keys:=keys) (head:=head) (l:=ats) a;have hc:=F1H (E7j keys head ats a) (b:Int) (by omega)
     have hm:((E7j keys head ats a).any λx=>(b:Int)==x)=M[a][b]:=by
      rw [c6,fV];have h1:=hrow.att b;rw [ah hbM,aa] at h1;rw [h1];constructor
      . rintro ⟨x,hx,e⟩;obtain ⟨k,rfl,hk⟩:=E92.1 hx
        have:b=k:=by have:=beq_iff_eq.1 e;omega
        subst this;exact hk
      . exact λhk=>⟨(b:Int),E92.2 ⟨b,rfl,hk⟩,by simp⟩
     simp only [n1,n2,n3,n4,decide_false,cond_false,F1G q,ai,E9O q ha,hc,hm,e,aq,decide_true,cond_true,ar,ah haM,ah hbM,w1,w2];refine ⟨bif !M[a][b] then (false,4) else (t,0),?_,?_,λa' b' ea eb _ aDP=>?_⟩
     . cases M[a][b]<;>rfl
     . cases M[a][b]<;>rfl
     have:a'=a:=by omega
     subst this
     have:b'=b:=by omega
     subst this;have h1:=(hrow.att b').2 aDP;rw [ah hbM,aa] at h1;simp only [h1,bO,cond_false];exact ⟨trivial,w3⟩
   . refine ⟨(false,7),?_,?_,λa b ea eb _ aDP=>?_⟩
     . by_cases h1:i<0
       . simp only [h1,decide_true,cond_true]
       . by_cases h2:i ≥ (ats.length:Int)
         . simp only [h1,h2,decide_true,decide_false,cond_true,cond_false]
         . by_cases h3:k<0
           . simp only [h1,h2,h3,decide_true,decide_false,cond_true,cond_false]
           . have h4:k ≥ (ats.length:Int):=by omega
             simp only [h1,h2,h3,h4,decide_true,decide_false,cond_true,cond_false]
     . by_cases h1:i<0
       . simp only [h1,decide_true,cond_true]
       . by_cases h3:k<0
         . simp only [h1,h3,decide_true,decide_false,cond_true,cond_false]
         . by_cases h2:i ≥ (ats.length:Int)
           . simp only [h1,h2,h3,decide_true,decide_false,cond_true,cond_false]
           . have h4:k ≥ (ats.length:Int):=by omega
             simp only [h1,h2,h3,h4,decide_true,decide_false,cond_true,cond_false]
     . have h1:=aDP.1;have h2:=aDP.2.1;omega
 . simp only [bne_iff_ne.2 h,cond_true];exact ⟨_,rfl,rfl,λ_ _ _ _ h0=>(h h0).elim⟩
end
theorem F1Z (l:List (Int×Int))(hl:l.length<=1000000):E5i (l,l)=some true:=by
 unfold E5i;simp only [bne_self_eq_false,cond_false]
 have:=wo (f:=E5a) l (λi=>(l,l,(l.length:Int),(i:Int))) (λ_=>false) (.inl false) (.inr ()) (λi hi=>by
  have hi':(i:Int)<l.length:=by omega
  simp only [E5a,hi',decide_true,cond_true,aq,ar,ah hi,ai,iQ (show i<9223372036854775807 by omega)]
  simp) (by
  simp only [E5a,ba,decide_false,cond_false])
 simp only [av] at this;rw [this];simp
theorem F5R {c:E8l}(ok:OkC c)(i k:Int):E5P (c,i,k)=some true:=by
 unfold E5P;rcases F5F ok with ⟨r,e,hr⟩ | ⟨h1,h4,hf,hd,e,hn,h5,hs⟩
 . simp only [e,ai,hr,bO,auI,cond_true,cond_false]
 . have z:=F5H ok h4 hf h5;obtain ⟨w,w1,w2,_⟩:=F3F z i k;simp only [e,ai,bO,cond_false,F23 z,F0U z,w1,w2,beq_self_eq_true,cond_true];have hlen:(if E7w (E5p c.1 c.1.length) (E5f c.1 c.1.length) hd (E4P c.1 c.1.length)=0 then (E8c (E5f c.1 c.1.length) hd (E4P c.1 c.1.length),(0:Int)) else ([],E7w (E5p c.1 c.1.length) (E5f c.1 c.1.length) hd (E4P c.1 c.1.length))).1.length<=1000000:=by
    split
    . have:=F1E (keys:=E5f c.1 c.1.length) (head:=hd) (l:=E4P c.1 c.1.length) (by rw [E8m];omega)
      exact dF this (by omega)
    . simp
   rw [F1Z _ hlen];rfl
end Go.Mid
