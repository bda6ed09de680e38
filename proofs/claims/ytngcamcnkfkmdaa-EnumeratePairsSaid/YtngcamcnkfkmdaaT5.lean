/- The conflict graphs of the program: searches in ascending lists, independent and maximal sets. -/
import Derived.Test.YtngcamcnkfkmdaaT2
import Derived.Test.YtngcamcnkfkmdaaT4
set_option linter.unusedSimpArgs false
set_option linter.unusedVariables false
open Bool renaming and_eq_true → aj, false_eq_true → aI, eq_iff_iff → c6, false_or → gL, not_true → bO, true_and → dm, not_false → ej, beq_comm → au0
open Go.IntKind renaming i64 → af, u64 → aK, wrap → ie, bits → gu, signed → fe, u8 → dp, u32 → cG
open Int renaming natCast_nonneg → aq, toNat_natCast → ar, not_lt → yn, lt_irrefl → ba, natCast_mul → r8, le_trans → azG, eq_ofNat_of_zero_le → eB
open List renaming length_tail → kT, getElem_tail → mR, getD_eq_getElem?_getD → bh, getElem?_eq_getElem → ah, getElem?_eq_none_iff → mC, mem_iff_getElem → eA, getElem_mem → aM, filter_append → s8, map_append → b9, length_take → aW, length_map → aB, length_filter_le → dt, any_cons → gK, length_zip → sd, drop_eq_getElem_cons → bY, length_pos_iff → gQ, any_eq_false → gA, getElem?_map → aL, any_eq_true → fV, foldl_append → iK, length_append → aR, take_of_length_le → a6, range → bA, length_range → ku, length_singleton → dN, map_cons → aF, map_nil → cr, nil_append → a7, append_assoc → bg, ext_getElem? → fy, getElem?_eq_none → bJ, take → aP, drop → uC, replicate → au, map_congr_left → eJ, take_nil → gH, take_length → dM, map → fp, map_id → wR, cons_append → aS, mem_filter → cZ, map_set → gw, range_succ → jO
open Nat renaming zero_add → bS, sub_zero → gv, lt_or_eq_of_le → mg, le_refl → ay, min_eq_left → cX, le_trans → dF, pow_le_pow_right → ez, le_of_eq → aDL, zero_testBit → eT, eq_of_testBit_eq → jc, or_lt_two_pow → fA, two_pow_pos → fD, one_shiftLeft → mQ, mod_lt → aDF, testBit_shiftLeft → auP, testBit_two_pow_sub_one → iJ, blt → cP, ble → cQ, add_zero → dG, lt_of_le_of_lt → eU, mul_comm → azF, testBit_or → fj, mod_eq_of_lt → eQ
open Option renaming getD_some → bI, bind_some → ai
open Option.some renaming injEq → aa
open Sum renaming elim_inr → lS
namespace Go.Mid
open Go.Hg (asc A0A free A5O A09)
theorem Av {n:Nat}(h:1<=n)(h':n<=9223372036854775807):af.wrap ((n:Int)-1)=((n-1:Nat):Int):=by rw[E1h (by omega) (by omega)];omega
theorem C5U {l:List Int}:asc l=true↔∀j (h:j+1<l.length),l[j]<l[j+1]:=by
 constructor
 . intro h j hj;exact Go.Hg.jF h (Nat.lt_succ_self j) hj
 . intro h
   induction l with
   |nil=>rfl
   |cons a r ih =>
     cases r with
     |nil=>rfl
     |cons b r =>
       simp only[asc,aj,decide_eq_true_eq];refine⟨h 0 (by simp),ih λj hj=>?_⟩
       have:=h (j+1) (by simpa using hj)
       simpa only[List.getElem_cons_succ] using this
theorem C35 {f:List Int×Int->Option (List Int×Int ⊕ Bool ⊕ PUnit)}(l:List Int)
 (hs:∀i (h:i+1<l.length),f (l,((i+1:Nat):Int))=if decide (l[i+1]<=l[i]) then some (.inr (.inl false)) else some (.inl (l,((i+2:Nat):Int))))
 (he:∀i:Nat,l.length<=i->f (l,(i:Int))=some (.inr (.inr ()))) :
 ((dk f (l,(1:Int))).bind λu=>Sum.elim (λv=>some v) (λ_=>some true) u)=some (asc l):=by
 have key:=Ma (f:=f) l.tail (λi=>(l,((i+1:Nat):Int))) (λi x=>decide (x<=l.getD i 0)) (λ_=>.inl false) (.inr ()) (λi hi=>by
  have eg:i+1<l.length:=by rw[kT] at hi;omega
  have e1:l.tail[i]=l[i+1]:=by rw[mR]
  have e2:l.getD i 0=l[i]:=by rw[bh,ah (by omega)];rfl
  rw[hs i eg,e1,e2]) (he _ (by rw[kT];omega))
 have key:dk f (l,(1:Int))=_:=key;rw[key];cases hf:tm (λi x=>decide (x<=l.getD i 0)) l.tail 0 with
 |none =>
   rw[V5] at hf
   have:asc l=true:=C5U.2 λj hj=>by
    have h1:=hf j (by rw[kT];omega)
    rw[mR,bS,bh,ah (by omega)] at h1
    simpa using h1
   rw[this];rfl
 |some k =>
   obtain⟨_,h2,⟨h3,h4⟩,_⟩:=V6 hf
   have:asc l=false:=by
    cases hc:asc l with
    |false=>rfl
    |true =>
      have hk:k+1<l.length:=by rw[kT] at h2;omega
      have h5:=C5U.1 hc k hk;simp only[gv,mR,bh,ah (show k<l.length by omega),bI,decide_eq_true_eq] at h4
      omega
   rw[this];rfl
theorem Xl {l:List Int}(hl:l.length<=1000000):Jg l=some (asc l):=by
 unfold Jg;refine C35 l (λi h=>?_) (λi h=>?_)
 . have h':((i+1:Nat):Int)<(l.length:Int):=by omega
   simp only [Wu,h',decide_true,cond_true,aq,ar,ah h,ai,Av (show 1<=i+1 by omega) (by omega),
    Nat.add_sub_cancel,ah (show i<l.length by omega),iQ (show i+1<9223372036854775807 by omega)]
   by_cases c:l[i+1]<=l[i]
   . simp only[c,decide_true,cond_true,if_true]
   . simp only[c,decide_false,cond_false,aI,if_false]
 . have h':¬ ((i:Int)<(l.length:Int)):=by omega
   simp only[Wu,h',decide_false,cond_false]
theorem D02 {n:Nat}(h:n<9223372036854775808):af.wrap (jK .u64 (aK.wrap (af.wrap (n:Int))) 1)=((n / 2:Nat):Int):=by
 have e1:af.wrap (n:Int)=n:=Qn (by omega)
 have e2:aK.wrap (n:Int)=n:=by simp only[ie,gu,fe];simp;omega
 have e3:jK .u64 (n:Int) 1=(n:Int).fdiv 2:=rfl;rw[e1,e2,e3,Int.fdiv_eq_ediv_of_nonneg _ (by omega),show ((n:Int) / 2)=((n / 2:Nat):Int) by omega,Qn (by omega)]
theorem D6C (x y:Int):Qu (x,y)=some (decide (x<y)):=by
 simp[Qu,HB]
theorem D03 {i j:Nat}(h:i+j<9223372036854775808):af.wrap (jK .u64 (aK.wrap (af.wrap ((i:Int)+(j:Int)))) 1)=(((i+j) / 2:Nat):Int):=by
 rw[←D02 h];rfl
structure Place (l:List Int)(y:Int)(i:Nat):Prop where
 le:i<=l.length
 lo:∀k (h:k<l.length),k<i->l[k]<y
 hi:∀k (h:k<l.length),i<=k->y<=l[k]
theorem C4U {l:List Int}(ha:asc l=true)(hl:l.length<=1000000)(y:Int):∃i:Nat,dk Mo (l,y,(l.length:Int),0,(l.length:Int))=some (l,y,(l.length:Int),(i:Int))∧Place l y i:=by
 obtain ⟨b,hb,i,rfl,hp⟩:=C8K (f:=Mo)
  (λa=>∃i j:Nat,a=(l,y,(l.length:Int),(i:Int),(j:Int))∧i<=j∧j<=l.length∧(∀k (h:k<l.length),k<i->l[k]<y)∧(∀k (h:k<l.length),j<=k->y<=l[k]))
  (λb=>∃i:Nat,b=(l,y,(l.length:Int),(i:Int))∧Place l y i) (λa=>(a.2.2.2.2-a.2.2.2.1).toNat) (by
    rintro a ⟨i,j,rfl,gM,hj,h1,h2⟩;by_cases c:i<j
    . left;have c':(i:Int)<(j:Int):=by omega
      have hm:(i+j) / 2<l.length:=by omega
      simp only[Mo,c',decide_true,cond_true,D03 (show i+j<9223372036854775808 by omega),aq,ar,ah hm,ai,D6C]
      by_cases d:l[(i+j) / 2]<y
      . simp only [d,decide_true,cond_true,iQ (show (i+j) / 2<9223372036854775807 by omega)]
        refine⟨_,rfl,⟨(i+j) / 2+1,j,rfl,by omega,hj,λk hk Dp=>?_,h2⟩,by show ((j:Int)-(((i+j) / 2+1:Nat):Int)).toNat<((j:Int)-(i:Int)).toNat;omega⟩
        rcases mg (Nat.le_of_lt_succ Dp) with h | h
        . exact Int.lt_trans (Go.Hg.jF ha h hm) d
        . subst h;exact d
      . simp only [d,decide_false,cond_false];refine ⟨_,rfl,⟨i,(i+j) / 2,rfl,by omega,by omega,h1,λk hk Dp=>?_⟩,by show ((((i+j) / 2:Nat):Int)-(i:Int)).toNat<((j:Int)-(i:Int)).toNat;omega⟩
        rcases mg Dp with h | h
        . exact Int.le_of_lt (Int.lt_of_le_of_lt (yn.1 d) (Go.Hg.jF ha h hk))
        . subst h;exact yn.1 d
    . right;have c':¬ ((i:Int)<(j:Int)):=by omega
      obtain rfl:i=j:=by omega
      simp only[Mo,c',decide_false,cond_false];exact⟨_,rfl,i,rfl,hj,h1,h2⟩) (l,y,(l.length:Int),0,(l.length:Int)) ⟨0,l.length,rfl,by omega,ay _,λk _ hk=>by omega,λk h hk=>by omega⟩
 exact⟨i,hb,hp⟩
theorem Place.found {l:List Int}{y:Int}{i:Nat}(ha:asc l=true)(hp:Place l y i):l.contains y=(match l[i]? with | some x=>x==y | none=>false):=by
 cases hc:l[i]? with
 |none =>
   have hi:l.length<=i:=mC.1 hc
   have:¬y∈l:=λhm=>by
    obtain⟨k,hk,rfl⟩:=eA.1 hm
    have:=hp.lo k hk (by omega);omega
   simp[this]
 |some x =>
   obtain⟨hi,rfl⟩:=List.getElem?_eq_some_iff.1 hc;apply c6.2;rw[List.contains_iff_mem,beq_iff_eq];constructor
   . intro hm;obtain ⟨k,hk,rfl⟩:=eA.1 hm;have h1:¬ k<i:=λh=>by have:=hp.lo k hk h;omega
     by_cases h2:k=i
     . subst h2;rfl
     . have h3:=hp.hi i hi (ay _);have h4:=Go.Hg.jF ha (show i<k by omega) hk
       omega
   . intro e;rw[←e];exact aM hi
theorem Xm {l:List Int}(ha:asc l=true)(hl:l.length<=1000000)(y:Int):∃i:Nat,Jh (l,y)=some ((i:Int),l.contains y)∧Place l y i:=by
 obtain⟨i,h1,hp⟩:=C4U ha hl y;refine⟨i,?_,hp⟩;rw[hp.found ha];unfold Jh;simp only;rw[h1];simp only[ai];by_cases c:i<l.length
 . have c':(i:Int)<(l.length:Int):=by omega
   simp only[c',decide_true,cond_true,aq,ar,ah c,ai];by_cases d:l[i]=y
   . simp[d]
   . have d':(l[i]==y)=false:=by simpa using d
     simp only[d',cond_false,Qv,ai,bne_self_eq_false]
 . have c':¬ (i:Int)<(l.length:Int):=by omega
   simp only[c',decide_false,cond_false,mC.2 (Nat.not_lt.1 c)]
theorem Rh {l part:List Int}(ha:asc l=true)(hl:l.length<=1000000)(hp:part.length<=1000000):HC (l,part)=some (A0A part l):=by
 have key:=wo (f:=Qw) part (λi=>(l,part,(part.length:Int),(i:Int))) (λy=>!l.contains y) (.inl false) (.inr ()) (λi hi=>by
  have eg:(i:Int)<(part.length:Int):=by omega
  obtain⟨j,h1,_⟩:=Xm ha hl part[i];simp only[Qw,eg,decide_true,cond_true,aq,ar,ah hi,ai,h1,iQ (show i<9223372036854775807 by omega)]
  cases l.contains part[i]<;>rfl) (by
  simp only[Qw,ba,decide_false,cond_false])
 simp only[Int.natCast_zero] at key;unfold HC;simp only;rw[key];unfold A0A;have e:(part.all λx=>l.contains x)=!(part.any λy=>!l.contains y):=by rw[List.not_any_eq_all_not];simp
 rw[e];cases part.any λy=>!l.contains y<;>rfl
end Go.Mid
namespace Go.Mid
open Go.Hg (asc A0A free A5O A09 before bef A4q)
theorem C9c {v:List Int}{i:Nat}(hi:i<v.length)(b:Nat):Go.Hg.idsP (v.take (i+1)) b=Go.Hg.idsP (v.take i) b++if b.testBit i then[v[i]] else[]:=by
 unfold Go.Hg.idsP;rw[vz hi,List.zipIdx_append,s8,b9];congr 1;simp only[List.zipIdx_singleton,aW,bS,cX (Nat.le_of_lt hi)];cases hb:b.testBit i<;>simp[hb]
theorem D05 (v:List Int)(b:Nat):(Go.Hg.idsP v b).length<=v.length:=by
 unfold Go.Hg.idsP;rw[aB];refine dF (dt _ _) ?_;simp
section
variable {v:List Int}{es:List (List Int)}(nv:v.length<=20)(ne:es.length<=1000000)(el:∀e∈es,e.length<=1000000)
end
end Go.Mid
namespace Go.Mid
open Go.Hg (asc A0A free A5O A09 before PrV nbB A6j A4L A2B A2a A2l Run)
section
variable {A B α β:Type}{f:A->Option (A ⊕ B)}
end
theorem C9d:∀ {a b:List Int},a.length=b.length->((a.zip b).any λx=>x.1 != x.2)=!decide (a=b)
 | [],[],_=>rfl
 | [],_::_,h=>by simp at h
 |_::_,[],h=>by simp at h
 |x::a,y::b,h=>by
   have:=C9d (a:=a) (b:=b) (by simpa using h)
   simp only[List.zip_cons_cons,gK,this];by_cases c:x=y
   . simp[c]
   . simp[c]
theorem C7z {a b:List Int}(ha:a.length<=1000000):JA (a,b)=some (decide (a=b)):=by
 unfold JA;simp only;by_cases hn:a.length=b.length
 . have rV:((a.length:Int) != (b.length:Int))=false:=by simp [hn]
   rw[rV,cond_false];have key:=wo (f:=M0) (a.zip b) (λi=>(a,b,(i:Int))) (λx=>x.1 != x.2) (.inl false) (.inr ()) (λi hi=>by
    rw[sd] at hi;have Eg:i<a.length:=by omega
    have ot:i<b.length:=by omega
    have eg:(i:Int)<(a.length:Int):=by omega
    simp only[M0,eg,decide_true,cond_true,aq,ar,ah Eg,ah ot,ai,iQ (show i<9223372036854775807 by omega),List.getElem_zip]
    cases a[i] != b[i]<;>rfl) (by
    have:¬(((a.zip b).length:Int)<(a.length:Int)):=by rw[sd];omega
    simp only[M0,this,decide_false,cond_false])
   have key:dk M0 (a,b,0)=_:=key;rw[key];have e:=C9d hn;rw[e];cases decide (a=b)<;>rfl
 . have rV:((a.length:Int) != (b.length:Int))=true:=by
    rw[bne_iff_ne];omega
   rw[rV,cond_true]
   have:¬a=b:=λe=>hn (by rw[e])
   simp[this]
end Go.Mid
namespace Go.Mid
open Go.Hg (asc A0A free A5O A09 before bef A5Q A3W validH)
theorem D4V (x y:Int):Qx (x,y)=some (if x<y then -1 else if x>y then 1 else 0):=by
 unfold Qx HB;simp only[ai,bne_self_eq_false,cond_false];by_cases h1:x<y
 . simp[h1]
 . by_cases h2:x>y
   . simp[h1,h2]
   . simp[h1,h2]
theorem C7B {a b:List Int}(ha:a.length<=1000000):∃c:Int,Qy (a,b)=some c∧decide (c ≥ 0)=!before a b:=by
 have main:∀ (k i:Nat),a.length-i=k->i<=a.length->(∃ c:Int,dk Au (a,b,a,(a.length:Int),(i:Int))=some (.inl c)∧decide (c ≥ 0)=!(match bef (a.drop i) (b.drop i) with | some t=>t | none=>decide (a.length<b.length))) ∨
  (dk Au (a,b,a,(a.length:Int),(i:Int))=some (.inr (a,b))∧bef (a.drop i) (b.drop i)=none):=by
  intro k
  induction k with
  |zero =>
    intro i hk hi;obtain rfl:i=a.length:=by omega
    right;refine⟨qc ?_,by rw[List.drop_length];rfl⟩
    simp only[Au,ba,decide_false,cond_false]
  |succ k ih =>
    intro i hk hi;have h1:i<a.length:=by omega
    have vR:(i:Int)<(a.length:Int):=by omega
    rw[bY h1];by_cases h2:i<b.length
    . have sA:¬ (i:Int) ≥ (b.length:Int):=by omega
      rw[bY h2];simp only[bef];by_cases c:a[i]=b[i]
      . have st:Au (a,b,a,(a.length:Int),(i:Int))=some (.inl (a,b,a,(a.length:Int),((i+1:Nat):Int))):=by
         simp only[Au,vR,sA,decide_true,decide_false,cond_true,cond_false,aq,ar,ah h1,ah h2,ai,iQ (show i<9223372036854775807 by omega),D4V]
         simp[c]
        rw[vw st,if_pos c];exact ih (i+1) (by omega) (by omega)
      . left;have st:Au (a,b,a,(a.length:Int),(i:Int))=some (.inr (.inl (if a[i]<b[i] then -1 else 1))):=by
         simp only[Au,vR,sA,decide_true,decide_false,cond_true,cond_false,aq,ar,ah h1,ah h2,ai,D4V];by_cases d:a[i]<b[i]
         . simp[d]
         . have d2:a[i]>b[i]:=by omega
           simp[d,d2]
        refine⟨_,qc st,?_⟩;rw[if_neg c];by_cases d:a[i]<b[i]<;>simp[d]
    . left;have sA:(i:Int) ≥ (b.length:Int):=by omega
      have e:b.drop i=[]:=List.drop_eq_nil_of_le (by omega)
      have st:Au (a,b,a,(a.length:Int),(i:Int))=some (.inr (.inl 1)):=by
       simp only[Au,vR,sA,decide_true,cond_true,aq,ar,ah h1,ai]
      refine⟨1,qc st,?_⟩;rw[e];simp only[bef]
      have:¬a.length<b.length:=by omega
      simp[this]
 unfold Qy before;simp only;rcases main a.length 0 (by omega) (Nat.zero_le _) with⟨c,h1,h2⟩ | ⟨h1,h2⟩
 . have h1:dk Au (a,b,a,(a.length:Int),0)=_:=h1;rw[h1];exact⟨c,rfl,h2⟩
 . have h1:dk Au (a,b,a,(a.length:Int),0)=_:=h1;rw [h1];simp only [List.drop_zero] at h2;rw [h2];by_cases d:a.length<b.length
   . refine⟨-1,by simp[d],by simp[d]⟩
   . refine⟨0,by simp[d],by simp[d]⟩
theorem B9o {α:Type}(p:Nat->α->Bool):∀ (l:List α) (i:Nat),(tm p l i).isSome=(l.zipIdx i).any λx=>p x.2 x.1
 | [],_=>rfl
 |x::r,i=>by
   simp only[tm,List.zipIdx_cons,gK];by_cases h:p i x=true
   . simp[h]
   . simp only[h,if_false,aI,gL];exact B9o p r (i+1)
theorem Nq {A B α:Type}{f:A->Option (A ⊕ B)}(l:List α)(st:Nat->A)(p:Nat->α->Bool)(b e:B)
 (h1:∀i (h:i<l.length),f (st i)=if p i l[i] then some (.inr b) else some (.inl (st (i+1)))) (h2:f (st l.length)=some (.inr e)) :
 dk f (st 0)=some (if(l.zipIdx.any λx=>p x.2 x.1) then b else e):=by
 rw[Ma l st p (λ_=>b) e h1 h2,←B9o p l 0]
 cases tm p l 0<;>rfl
section
variable {v:List Int}{es:List (List Int)}(nv:v.length<=1000000)(el:∀e∈es,e.length<=1000000)
include nv el
theorem B6w:Ms (v,es)=some (validH v es):=by
 unfold Ms validH;simp only[Xl nv,ai];cases ha:asc v with
 |false=>rfl
 |true =>
   simp only[bO,cond_false,dm];by_cases hn:es.length<=20000
   . have rV:¬ (es.length:Int)>20000:=by omega
     simp only[hn,rV,decide_true,decide_false,cond_false,dm];have k0:=Nq (f:=Mp) es (λi=>((es,(es.length:Int),(i:Int)),v,es)) (λi e=>!A5Q v es i e) (.inl false) (.inr (v,es)) (λi hi=>by
      have eg:(i:Int)<(es.length:Int):=by omega
      have hle:=el _ (aM hi);simp only[Mp,eg,decide_true,cond_true,aq,ar,ah hi,ai,Xl hle,Rh ha nv hle,iQ (show i<9223372036854775807 by omega)]
      unfold A5Q;by_cases h0:es[i]=[]
      . simp[h0]
      . have Db:((es[i].length:Int)==0)=false:=by
         rw[beq_eq_false_iff_ne]
         have:=gQ.2 h0
         omega
        have HJ:es[i].isEmpty=false:=by cases hc:es[i] with | nil=>exact absurd hc h0 | cons _ _=>rfl
        rw[Db,cond_false,HJ];cases asc es[i] with
        |false=>rfl
        |true =>
          cases A0A es[i] v with
          |false=>rfl
          |true =>
            simp only[bO,cond_false,ej,dm];by_cases hz:i=0
            . subst hz;simp
            . have hp:(i:Int)>0:=by omega
              have Co:(i==0)=false:=by simpa using hz
              obtain ⟨c,h1,h2⟩:=C7B (a:=es[i-1]) (b:=es[i]) (el _ (aM _));simp only [hp,decide_true,cond_true,Av (show 1<=i by omega) (by omega),aq,ar,ah (show i-1<es.length by omega),ai,h1,h2,Co,gL,
               bh,bI]
              cases before es[i-1] es[i]<;>simp) (by
      simp only[Mp,ba,decide_false,cond_false])
     have k0:dk Mp ((es,(es.length:Int),0),v,es)=_:=k0;rw[k0];cases hb:es.zipIdx.any λx=>!A5Q v es x.2 x.1 with
     |true=>rfl
     |false =>
       have kN:∀i (h:i<es.length),A5Q v es i es[i]=true:=by
        intro i hi
        have:=gA.1 hb (es[i],i) (Go.Hg.kY.2 ⟨hi,rfl⟩)
        simpa using this
       have q0:∀i (h:i<es.length),asc es[i]=true:=by
        intro i hi
        have:=kN i hi
        unfold A5Q at this;simp only[aj] at this;exact this.1.1.2
       have k2:∀i (h:i<es.length),dk Mq (((i:Int),es[i],es,(es.length:Int),(i:Int),es,(es.length:Int),0),v,es)=some (if A3W es i es[i] then .inl false else .inr ((es,(es.length:Int),(i:Int)),v,es)):=by
        intro i hi;have k:=Nq (f:=Mq) es (λk=>(((i:Int),es[i],es,(es.length:Int),(i:Int),es,(es.length:Int),(k:Int)),v,es)) (λk y=>k != i&&A0A y es[i]) (.inl false) (.inr ((es,(es.length:Int),(i:Int)),v,es)) (λk hk=>by
         have nq:(k:Int)<(es.length:Int):=by omega
         simp only[Mq,nq,decide_true,cond_true,aq,ar,ah hk,ai,Rh (q0 i hi) (el _ (aM hi)) (el _ (aM hk)),iQ (show k<9223372036854775807 by omega)]
         by_cases c:k=i
         . subst c;simp
         . have c':((i:Int) != (k:Int))=true:=by rw [bne_iff_ne];omega
           have c2:(k != i)=true:=by simpa using c
           rw[c',c2,cond_true];cases A0A es[k] es[i]<;>rfl) (by
         simp only[Mq,ba,decide_false,cond_false])
        exact k
       have k1:=Nq (f:=Mr) es (λi=>((es,(es.length:Int),(i:Int)),v,es)) (λi e=>A3W es i e) (.inl false) (.inr ()) (λi hi=>by
        have eg:(i:Int)<(es.length:Int):=by omega
        simp only[Mr,eg,decide_true,cond_true,aq,ar,ah hi,ai,k2 i hi,iQ (show i<9223372036854775807 by omega)]
        cases A3W es i es[i] with
        |true=>rfl
        |false=>simp[iQ (show i<9223372036854775807 by omega)]) (by
        simp only[Mr,ba,decide_false,cond_false])
       have k1:dk Mr ((es,(es.length:Int),0),v,es)=_:=k1;simp only[if_false,aI,ai,lS];rw[k1];cases es.zipIdx.any λx=>A3W es x.2 x.1<;>rfl
   . have rV:(es.length:Int)>20000:=by omega
     simp[hn,rV]
end
end Go.Mid
namespace Go.Mid
open Go.Hg (asc A0A A09 B3h less A2w E1F A0t idsP C2g C3X C3Y E1s D01 D4P B9j validH HOk)
def jG (l:List Nat):List Int:=l.map λ(n:Nat)=>(n:Int)
@[simp] theorem CW (l:List Nat):(jG l).length=l.length:=by simp[jG]
theorem FF {l:List Nat}{i:Nat}(h:i<l.length):(jG l)[i]?=some ((l[i]:Nat):Int):=by
 unfold jG;rw[aL,ah h];rfl
theorem D06 (a b:List Nat):jG (a++b)=jG a++jG b:=by simp[jG]
theorem D7J {α:Type}(q:α->Bool):∀ (l:List α) (i:Nat),tm (λ_ x=>q x) l i=Go.Hg.idx q l i
 | [],_=>rfl
 |x::r,i=>by
   simp only[tm,Go.Hg.idx,D7J q r]
theorem D8W {v:List Int}(nv:v.length<=1000000){z:Int}(hz:z∈v):B28 (v,z)=some ((A0t v z:Nat):Int):=by
 have key:=Ma (f:=B1k) v (λi=>(v,z,(v.length:Int),(i:Int))) (λ_ x=>x==z) (λi=>.inl (i:Int)) (.inr ()) (λi hi=>by
  have eg:(i:Int)<(v.length:Int):=by omega
  simp only[B1k,eg,decide_true,cond_true,aq,ar,ah hi,ai,iQ (show i<9223372036854775807 by omega)]
  rw[au0];cases v[i]==z<;>rfl) (by
  simp only[B1k,ba,decide_false,cond_false])
 have key:dk B1k (v,z,(v.length:Int),0)=_:=key;unfold B28;simp only;rw[key];have h2:=Go.Hg.auM (· == z) v 0;have h3:v.any (· == z)=true:=fV.2 ⟨z,hz,by simp⟩
 rw[h3] at h2;rw[D7J (λx=>x==z)]
 unfold A0t;cases hk:Go.Hg.idx (λx=>x==z) v 0 with
 |none=>rw[hk] at h2;cases h2
 |some k=>rfl
theorem C4a {v e:List Int}(he:∀y∈e,y∈v):A2w v e<2 ^ v.length:=Go.Hg.xZ λi hi=>Go.Hg.wu he i hi
theorem D7r {m n:Nat}(h:m<2 ^ n)(hn:n<=40):m<2 ^ aK.bits:=Nat.lt_of_lt_of_le h (ez (by decide) (show n<=64 by omega))
theorem D78 {i:Nat}(hi:i<=40):qZ .u64 1 (i:Int)=((1 <<< i:Nat):Int):=D4T (k:=.u64) rfl (m:=1) (show i<=64 by omega) (xq (show i<64 by omega))
theorem D8S {v:List Int}(nv:v.length<=40){e:List Int}(he:∀ y∈e,y∈v)(hl:e.length<=1000000)(VL:List (List Int))(q1 q2:Int)(es:List (List Int))(X:Int×(List Int×Nat)×PUnit)(Y:Int×List Int×Nat)(Z:List Int×Nat)(m:Int) :
 dk B1l ((0,VL,q1,q2,e,(e.length:Int),0),(v,es),X,Y,Z,m)=some ((((A2w v e:Nat):Int),VL,q1,q2),(v,es),X,Y,Z,m):=by
 have key:=tQ (f:=B1l) e.length (λi=>((((A2w v (e.take i):Nat):Int),VL,q1,q2,e,(e.length:Int),(i:Int)),(v,es),X,Y,Z,m)) ((((A2w v e:Nat):Int),VL,q1,q2),(v,es),X,Y,Z,m) (λi hi=>by
  have eg:(i:Int)<(e.length:Int):=by omega
  have hm:=he _ (aM hi);have hp:=Go.Hg.iV hm;have hb:=D7r (C4a (v:=v) (e:=e.take i) λy hy=>he y (List.mem_of_mem_take hy)) nv
  have e1:A2w v (e.take (i+1))=A2w v (e.take i) ||| 1 <<< A0t v e[i]:=by
   unfold A2w E1F;rw[vz hi,iK];rfl
  have e2:=HI (k:=.u64) rfl hb (xq (show A0t v e[i]<64 by omega))
  simp only [B1l,eg,decide_true,cond_true,aq,ar,ah hi,ai,D8W (show v.length<=1000000 by omega) hm,D78 (show A0t v e[i]<=40 by omega),e1,e2,
   iQ (show i<9223372036854775807 by omega)]) (by
  simp only[B1l,ba,decide_false,cond_false,pN])
 exact key
theorem D8m {v:List Int}{es:List (List Int)}(nv:v.length<=40)(ne:es.length<=1000000)(el:∀ e∈es,e.length<=1000000)(bc:∀ e∈es,∀ y∈e,y∈v)(o:List Int)(k:Nat)(m:Int) :
 B29 ((v,es),(o,k),m)=some (((v.length:Int),jG (es.map (A2w v))),(o,k),m):=by
 have key:=tQ (f:=B1m) es.length (λi=>((es,(es.length:Int),(i:Int)),(v,es),((0:Int),(([]:List Int),0),()),((v.length:Int),jG ((es.take i).map (A2w v)),i),(o,k),m))
  (((0:Int),(([]:List Int),0),()),((v.length:Int),jG (es.map (A2w v)),es.length),(o,k),m) (λi hi=>by
  have eg:(i:Int)<(es.length:Int):=by omega
  have hl:(jG ((es.take i).map (A2w v))).length=i:=by simp;omega
  have Wn:(jG ((es.take i).map (A2w v))++[((A2w v es[i]:Nat):Int)]).length=i+1:=by rw[aR,hl];rfl
  have e1:jG ((es.take (i+1)).map (A2w v))=jG ((es.take i).map (A2w v))++[((A2w v es[i]:Nat):Int)]:=by
   rw[vz hi,b9,D06];rfl
  simp only [B1m,eg,decide_true,cond_true,aq,ar,ah hi,ai,D8S nv (bc _ (aM hi)) (el _ (aM hi)),beq_self_eq_true,hl,
   jE (ay _),jE (show (i+1)*8<=140737488355328 by omega),a6 (aDL hl),Wn,iQ (show i<9223372036854775807 by omega),e1]) (by
  simp only[B1m,ba,decide_false,cond_false,pN])
 unfold B29;have key:dk B1m ((es,(es.length:Int),0),(v,es),(0,([],0),()),((v.length:Int),[],0),(o,k),m)=_:=key;simp only;rw[key];have hl:(jG (es.map (A2w v))).length=es.length:=by simp
 simp only[ai,hl,jE (ay _),cond_true,a6 (aDL hl)]
theorem D72 (a b:Nat):((less a b:Nat)==0)=B3h a b:=by
 apply c6.2;rw[beq_iff_eq,Go.Hg.auG];constructor
 . intro h i hi;have h1:=Go.Hg.qs a b i;rw[h,eT,hi] at h1;simpa using h1
 . intro h;apply jc;intro i;rw [Go.Hg.qs,eT];cases ha:a.testBit i with
   |false=>rfl
   |true=>rw[h i ha];rfl
theorem C9f (n:Nat):(((n:Nat):Int)==0)=(n==0):=by
 cases n with
 |zero=>rfl
 |succ n=>rfl
theorem D8y {n e u bc lat:Nat}(hn:n<=40)(he:e<2 ^ n)(hu:u<n)(hi:bc<2 ^ n)(hl:lat<2 ^ n):B0i ((e:Int),(u:Int),(bc:Int),(lat:Int))=some (e.testBit u&&B3h (less e (1 <<< u)) (bc ||| lat)):=by
 unfold B0i;simp only [aq,decide_true,cond_true,D4U (k:=.u64) rfl (show u<=64 by omega) (by decide) (D7r he hn),D78 (show u<=40 by omega),
  C5T (k:=.u64) rfl (D7r he hn) (xq (show u<64 by omega)),HI (k:=.u64) rfl (D7r hi hn) (D7r hl hn),C5T (k:=.u64) rfl (Xk (D7r he hn)) (fA (D7r hi hn) (D7r hl hn)),C9f,D72]
 cases e.testBit u<;>rfl
theorem D8K {n:Nat}{E:List Nat}(hn:n<=40)(hE:∀ e∈E,e<2 ^ n)(nE:E.length<=1000000){u bc lat:Nat}(hu:u<n)(hi:bc<2 ^ n)(hl:lat<2 ^ n)(a:Int)(o:List Int)(m:Int) :
 A6e ((a,jG E,o,m),(u:Int),(bc:Int),(lat:Int))=some (C3X E u (bc ||| lat)):=by
 have key:=Ma (f:=A3w) E (λi=>(jG E,((u:Int),(bc:Int),(lat:Int)),(E.length:Int),(i:Int))) (λ_ e=>e.testBit u&&B3h (less e (1 <<< u)) (bc ||| lat)) (λi=>.inl (i:Int)) (.inr ()) (λi eg=>by
  have h':(i:Int)<(E.length:Int):=by omega
  simp only[A3w,h',decide_true,cond_true,aq,ar,FF eg,ai,D8y hn (hE _ (aM eg)) hu hi hl,iQ (show i<9223372036854775807 by omega)]
  cases E[i].testBit u&&B3h (less E[i] (1 <<< u)) (bc ||| lat)<;>rfl) (by
  simp only[A3w,ba,decide_false,cond_false])
 have key:dk A3w (jG E,((u:Int),(bc:Int),(lat:Int)),(E.length:Int),0)=_:=key;unfold A6e A3x A31;simp only[CW];rw[key];have ha:=Qm (λe=>e.testBit u&&B3h (less e (1 <<< u)) (bc ||| lat)) E 0
 unfold C3X;rw[←ha];cases tm (λ_ e=>e.testBit u&&B3h (less e (1 <<< u)) (bc ||| lat)) E 0<;>simp
theorem D89 {n:Nat}{E:List Nat}(hn:n<=40)(hE:∀ e∈E,e<2 ^ n)(nE:E.length<=1000000){s:Nat}(hs:s<2 ^ n) :
 A33 (jG E,(s:Int))=some (C3Y E s):=by
 have key:=Ma (f:=A32) E (λi=>(jG E,(s:Int),(E.length:Int),(i:Int))) (λ_ e=>B3h e s) (λi=>.inl (i:Int)) (.inr ()) (λi eg=>by
  have h':(i:Int)<(E.length:Int):=by omega
  simp only [A32,B1x,h',decide_true,cond_true,aq,ar,FF eg,ai,C5T (k:=.u64) rfl (D7r (hE _ (aM eg)) hn) (D7r hs hn),C9f,D72,
   iQ (show i<9223372036854775807 by omega)]
  cases B3h E[i] s<;>rfl) (by
  simp only[A32,ba,decide_false,cond_false])
 have key:dk A32 (jG E,(s:Int),(E.length:Int),0)=_:=key;unfold A33 A4p;simp only[CW];rw[key];have ha:=Qm (λe=>B3h e s) E 0
 unfold C3Y;rw[←ha];cases tm (λ_ e=>B3h e s) E 0<;>simp
theorem D8X {k v n:Nat}(h:v+k=n):E1s k v<2 ^ n:=Nat.lt_pow_two_of_testBit _ λi hi=>by
 rw[Go.Hg.auU];simp;omega
theorem D8n {n k v:Nat}(hn:n<=40)(h:v+k=n):pL .u64 (qZ .u64 18446744073709551615 (v:Int)) (aK.wrap (qZ .u64 1 (n:Int)-1))=((E1s k v:Nat):Int):=by
 have w64:∀m:Nat,aK.wrap (m:Int)=((m%2 ^ 64:Nat):Int):=λm=>by
  simp only[ie,gu,fe];simp
 have e1:qZ .u64 18446744073709551615 (v:Int)=((((2 ^ 64-1) <<< v)%2 ^ 64:Nat):Int):=by
  unfold qZ;have e:min ((v:Int).toNat) aK.bits=v:=by rw[ar];show min v 64=v;omega
  rw[e,←w64,Nat.shiftLeft_eq];congr 1
 have hp:0<2 ^ n:=fD n;have e2:aK.wrap (qZ .u64 1 (n:Int)-1)=((2 ^ n-1:Nat):Int):=by
  rw[D78 (by omega),mQ]
  have:(((2 ^ n:Nat):Int)-1)=((2 ^ n-1:Nat):Int):=by omega
  rw[this];exact HH (k:=.u64) rfl (D7r (show 2 ^ n-1<2 ^ n by omega) hn)
 rw[e1,e2,Nn (k:=.u64) (m:=((2 ^ 64-1) <<< v)%2 ^ 64) rfl (aDF _ (by decide)) (D7r (show 2 ^ n-1<2 ^ n by omega) hn)]
 congr 1;apply jc;intro i;rw[Nat.testBit_and,Go.Hg.auU,Nat.testBit_mod_two_pow,auP,iJ,iJ];by_cases h1:i<n
 . have h2:i<64:=by omega
   have h3:i-v<64:=by omega
   have h4:i<v+k:=by omega
   simp[h1,h2,h3,h4]
 . have h4:¬ i<v+k:=by omega
   simp[h1,h4]
section
variable {n:Nat}{E:List Nat}(hn:n<=40)(hE:∀e∈E,e<2 ^ n)(nE:E.length<=1000000)
include hn hE nE
theorem D8D {k v bc out:Nat}(hv:v+k=n)(hi:bc<2 ^ n)(ho:out<2 ^ n)(o:List Int)(l:Nat)(m:Int) :
 dk B0j (((v:Int),(bc:Int),(out:Int),((E1s k v:Nat):Int),(v:Int),0),((n:Int),jG E),(o,l),m) =
  some (if D01 E k v bc out then .inl (true,(o,l),m) else .inr (((v:Int),(bc:Int),(out:Int)),((n:Int),jG E),(o,l),m)):=by
 have key:=wo (f:=B0j) (bA v) (λu=>(((v:Int),(bc:Int),(out:Int),((E1s k v:Nat):Int),(v:Int),(u:Int)),((n:Int),jG E),(o,l),m)) (λu=>out.testBit u && !C3X E u (bc ||| E1s k v))
  (.inl (true,(o,l),m)) (.inr (((v:Int),(bc:Int),(out:Int)),((n:Int),jG E),(o,l),m)) (λu hu=>by
  rw[ku] at hu;have nT:(u:Int)<(v:Int):=by omega
  rw[List.getElem_range];simp only[B0j,nT,decide_true,cond_true,aq,D4U (k:=.u64) rfl (show u<=64 by omega) (by decide) (D7r ho hn),D8K hn hE nE (show u<n by omega) hi (D8X hv),ai,iQ (show u<9223372036854775807 by omega)]
  cases out.testBit u<;>cases C3X E u (bc ||| E1s k v)<;>rfl) (by
  rw[ku];simp only[B0j,ba,decide_false,cond_false])
 exact key
theorem D7T {m:Nat}(hm:m<=1000000):∀ (k v bc out f:Nat) (o:List Int),v+k=n->bc<2 ^ n->out<2 ^ n->k<f->o.length+(C2g E k v bc out).length<=m->
 A69 f ((((n:Int),jG E),(v:Int),(bc:Int),(out:Int)),(o,o.length),(m:Int))=some (true,(o++jG (C2g E k v bc out),(o++jG (C2g E k v bc out)).length),(m:Int))
 |k,v,bc,out,0,o,hv,hi,ho,hf,hl=>by omega
 |0,v,bc,out,f+1,o,hv,hi,ho,hf,hl=>by
   show B0E _ _=_;unfold B0E;simp only[aq,decide_true,cond_true,D8n hn hv,D8D hn hE nE hv hi ho,ai];unfold C2g at hl ⊢;cases hc:D01 E 0 v bc out with
   |true=>simp[jG]
   |false =>
     have hvn:v=n:=by omega
     rw[hc] at hl;simp only[if_false,aI,dN] at hl;have Wn:(o++[(bc:Int)]).length=o.length+1:=by simp
     have hle:(((o.length+1:Nat):Int)<=(m:Int)):=by omega
     subst hvn;simp only[if_false,aI,lS,beq_self_eq_true,cond_true,B5I,jE (ay _),jE (show (o.length+1)*8<=140737488355328 by omega),pN,Wn,hle,decide_true,ai,jG,aF,cr]
 |k+1,v,bc,out,f+1,o,hv,hi,ho,hf,hl=>by
   show B0E (A69 f) _=_;unfold B0E;simp only[aq,decide_true,cond_true,D8n hn hv,D8D hn hE nE hv hi ho,ai];unfold C2g at hl ⊢;cases hc:D01 E (k+1) v bc out with
   |true=>simp[jG]
   |false =>
     rw[hc] at hl;simp only[if_false,aI] at hl ⊢;have hb:1 <<< v<2 ^ n:=xq (by omega)
     have rX:bc ||| 1 <<< v<2 ^ n:=fA hi hb;have ho2:out ||| 1 <<< v<2 ^ n:=fA ho hb;have hvn:((v:Int)==(n:Int))=false:=by rw[beq_eq_false_iff_ne];omega
     simp only[lS,hvn,cond_false,D78 (show v<=40 by omega),HI (k:=.u64) rfl (D7r hi hn) (D7r hb hn),HI (k:=.u64) rfl (D7r ho hn) (D7r hb hn),D89 hn hE nE rX,ai,iQ (show v<9223372036854775807 by omega)]
     cases he:C3Y E (bc ||| 1 <<< v) with
     |true =>
       rw[he] at hl;simp only[if_true,a7] at hl;simp only[bO,cond_false,if_true,a7,aq,decide_true,cond_true,D7T hm k (v+1) bc (out ||| 1 <<< v) f o (by omega) hi ho2 (by omega) hl,ai]
     |false =>
       rw[he] at hl;simp only[if_false,aI,aR] at hl;have h1:=D7T hm k (v+1) (bc ||| 1 <<< v) out f o (by omega) rX ho (by omega) (by omega)
       have h2:=D7T hm k (v+1) bc (out ||| 1 <<< v) f (o++jG (C2g E k (v+1) (bc ||| 1 <<< v) out)) (by omega) hi ho2 (by omega) (by rw[aR,CW];omega)
       simp only[ej,aq,decide_true,cond_true,h1,ai,bO,cond_false,h2,if_false,aI,D06,bg]
end
section
variable {v:List Int}{es:List (List Int)}(H:HOk v es)(el:∀e∈es,e.length<=1000000)
include H el
theorem D9a (hlen:(D4P v es).length<=100000):C0j ((v,es),100000)=some (jG (D4P v es),true):=by
 have nE:(es.map (A2w v)).length<=1000000:=by rw[aB];have:=H.ne;omega
 have hE:∀e∈es.map (A2w v),e<2 ^ v.length:=by
  intro e he;obtain⟨x,hx,rfl⟩:=List.mem_map.1 he;exact C4a (H.bc x hx)
 have hlen:(C2g (es.map (A2w v)) v.length 0 0 0).length<=100000:=hlen;have hw:B1y ((((v.length:Int),jG (es.map (A2w v))),0,0,0),([],0),100000)=some (true,(jG (D4P v es),(jG (D4P v es)).length),100000):=by
  unfold B1y;refine C5G (v.length+1) λf hf=>?_
  exact D7T (m:=100000) H.nv hE nE (by decide) v.length 0 0 0 f [] (by omega) (fD _) (fD _) (by omega) (by simpa using hlen)
 unfold C0j;have hne:=H.ne;simp only[D8m H.nv (show es.length<=1000000 by omega) el H.bc,ai,hw,jE (ay _),cond_true,pN]
theorem E1Z (hv:validH v es=true):B9g (v,es)=some 0:=by
 have hn:=H.nv;unfold B9g
 have:¬(v.length:Int)>40:=by omega
 simp only[B6w (show v.length<=1000000 by omega) el,ai,hv,bO,cond_false,this,decide_false]
end
end Go.Mid
namespace Go.Mid
open Go.Hg (asc A0A A5O A09 before A4q idsP pick A7d A06 hEs A75 A4b A4S A5P PrV nbB A4L)
section
variable {ls:List (List Int)}(nl:ls.length<=1000)(el:∀e∈ls,e.length<=100000)
end
end Go.Mid
namespace Go.Mid
open Go.Hg (asc GOk A0t rt un unT unS E0J)
def E00 (n:Nat)(f:Nat->Nat):List Int:=(bA n).map λi=>((f i:Nat):Int)
theorem E1N (n:Nat)(f:Nat->Nat):(E00 n f).length=n:=by simp[E00]
theorem E1v {n j:Nat}{f:Nat->Nat}(h:j<n):(E00 n f)[j]?=some ((f j:Nat):Int):=by simp[E00,h]
theorem E2F {n v c:Nat}{f:Nat->Nat}(h:v<n):(E00 n f).set v (c:Int)=E00 n (λi=>if i=v then c else f i):=by
 apply fy;intro i;rw[List.getElem?_set,E1N];by_cases e:v=i
 . subst e;rw[if_pos rfl,if_pos h,E1v h];simp
 . rw [if_neg e];by_cases hi:i<n
   . rw[E1v hi,E1v hi,if_neg (λq=>e q.symm)]
   . rw[bJ (by rw[E1N];omega),bJ (by rw[E1N];omega)]
theorem E1P (n:Nat)(f:Nat->Nat):aP n (E00 n f)=E00 n f:=by
 rw[a6];rw[E1N];exact ay _
theorem E2b {n:Nat}{f:Nat->Nat}(D:∀i,f i<=i):∀i,i<n->E0Q ((i:Int),E00 n f)=some ((rt f i:Nat):Int):=by
 have key:∀i,i<n->dk E04 ((i:Int),E00 n f)=some ((rt f i:Nat):Int):=by
  intro i
  induction i using Nat.strongRecOn with
  |ind i ih =>
    intro hi;have hd:=D i;rw[Go.Hg.ov D];by_cases h:f i=i
    . rw[if_pos h,qc (r:=((i:Nat):Int))];simp only[E04,aq,decide_true,cond_true,ar,E1v hi,ai,h,bne_self_eq_false,cond_false]
    . have hne:(((f i:Nat):Int) != (i:Int))=true:=by rw [bne_iff_ne];omega
      rw[if_neg h,vw (b:=(((f i:Nat):Int),E00 n f))]
      . exact ih (f i) (by omega) (by omega)
      . simp only[E04,aq,decide_true,cond_true,ar,E1v hi,ai,hne]
 intro i hi;unfold E0Q;simp only[key i hi,ai]
section
variable {v:List Int}{es:List (List Int)}(ha:asc v=true)(hl:v.length<=1000000)
include ha hl
theorem E2d {y:Int}(hy:y∈v):E0S (y,v,es)=some ((A0t v y:Nat):Int):=by
 obtain⟨i,h1,hp⟩:=Xm ha hl y;have h2:=Go.Hg.iV hy;have h3:=Go.Hg.gn hy;rw[ah h2,aa] at h3;have hi:i=A0t v y:=by
  rcases Nat.lt_trichotomy i (A0t v y) with h | h | h
  . have h4:i<v.length:=by omega
    have h5:=hp.hi i h4 (ay _);have h6:=Go.Hg.jF ha h h2;omega
  . exact h
  . have:=hp.lo _ h2 h;omega
 unfold E0S;simp only[h1,ai,hi]
theorem E3L {l:List Int}(hne:l ≠ [])(CT:∀ y∈l,y∈v)(Dv:l.length<=1000000)(X:List (List Int))(nX iX:Int)(f0:Nat->Nat)(D0:∀ i,f0 i<=i) :
 dk E0X ((l,X,nX,iX,uC 1 l,((uC 1 l).length:Int),0),(v,es),E00 v.length f0,v.length)=some ((X,nX,iX),(v,es),E00 v.length (unT (A0t v) (l.headD 0) (l.drop 1) f0),v.length):=by
 have hh:l[0]?=some (l.headD 0):=by cases l with | nil=>exact absurd rfl hne | cons x r=>rfl
 have hhm:l.headD 0∈v:=by cases l with | nil=>exact absurd rfl hne | cons x r=>exact CT x (by simp)
 have Mb:=Go.Hg.iV hhm;have D:∀k,∀i,unT (A0t v) (l.headD 0) ((l.drop 1).take k) f0 i<=i:=λk=>(Go.Hg.azu (A0t v) (l.headD 0) _ f0 D0).1
 have key:=tQ (f:=E0X) (l.drop 1).length (λk=>((l,X,nX,iX,uC 1 l,((uC 1 l).length:Int),(k:Int)),(v,es),E00 v.length (unT (A0t v) (l.headD 0) ((l.drop 1).take k) f0),v.length))
  ((X,nX,iX),(v,es),E00 v.length (unT (A0t v) (l.headD 0) (l.drop 1) f0),v.length) (λk hk=>by
  have nq:(k:Int)<((uC 1 l).length:Int):=by omega
  have hx:(uC 1 l)[k]∈v:=CT _ (List.mem_of_mem_drop (aM hk));have JR:=Go.Hg.iV hx;have zq:k<1000000:=by rw[List.length_drop] at hk;omega
  have r0:=Go.Hg.azt (D k) (A0t v (l.headD 0));have r1:=Go.Hg.azt (D k) (A0t v (uC 1 l)[k]);have e1:unT (A0t v) (l.headD 0) ((l.drop 1).take (k+1)) f0=un (unT (A0t v) (l.headD 0) ((l.drop 1).take k) f0) (rt (unT (A0t v) (l.headD 0) ((l.drop 1).take k) f0) (A0t v (l.headD 0))) (rt (unT (A0t v) (l.headD 0) ((l.drop 1).take k) f0) (A0t v (uC 1 l)[k])):=by
   rw[vz hk];unfold unT;rw[iK];rfl
  have Dk:=D k;generalize unT (A0t v) (l.headD 0) ((l.drop 1).take k) f0=g at *
  simp only[E0X,nq,decide_true,cond_true,aq,ar,ah hk,ai,hh,E2d ha hl hhm,E2d ha hl hx,E1P,E2b Dk _ Mb,E2b Dk _ JR,iQ (show k<9223372036854775807 by omega),e1]
  generalize rt g (A0t v (l.headD 0))=a at *
  generalize rt g (A0t v (uC 1 l)[k])=b at *
  have RY:(if((b:Nat):Int)>((a:Nat):Int) then((b:Nat):Int) else((a:Nat):Int))=((max a b:Nat):Int):=by
   by_cases h:(b:Int)>(a:Int)
   . rw[if_pos h,Nat.max_eq_right (by omega)]
   . rw[if_neg h,Nat.max_eq_left (by omega)]
  have hmn:(if((b:Nat):Int)<((a:Nat):Int) then((b:Nat):Int) else((a:Nat):Int))=((min a b:Nat):Int):=by
   by_cases h:(b:Int)<(a:Int)
   . rw[if_pos h,Nat.min_eq_right (by omega)]
   . rw[if_neg h,cX (by omega)]
  have eC:max a b<v.length:=by omega
  have hb:cP (max a b) v.length=true:=lB eC;simp only[RY,hmn,aq,decide_true,cond_true,ar,hb,E1v eC,ai,E2F eC];rfl) (by
  simp only[E0X,ba,decide_false,cond_false,pN])
 exact key
theorem E3M (hne:∀ e∈es,e ≠ [])(CT:∀ e∈es,∀ y∈e,y∈v)(ia:∀ e∈es,e.length<=1000000)(VW:es.length<=1000000) :
 dk E0Y ((es,(es.length:Int),0),(v,es),E00 v.length id,v.length)=some ((v,es),E00 v.length (E0J v es),v.length):=by
 have key:=tQ (f:=E0Y) es.length (λk=>((es,(es.length:Int),(k:Int)),(v,es),E00 v.length (unS (A0t v) (es.take k) id),v.length))
  ((v,es),E00 v.length (E0J v es),v.length) (λk hk=>by
  have nq:(k:Int)<(es.length:Int):=by omega
  have hm:=aM hk;have D:∀i,unS (A0t v) (es.take k) id i<=i:=(Go.Hg.LL (A0t v) (es.take k) id λ_=>ay _).1
  have Wn:=E3L (es:=es) ha hl (hne _ hm) (CT _ hm) (ia _ hm) es (es.length:Int) (k:Int) _ D;have h1:cQ 1 es[k].length=true:=jE (gQ.2 (hne _ hm));have e1:unS (A0t v) (es.take (k+1)) id=unT (A0t v) (es[k].headD 0) (es[k].drop 1) (unS (A0t v) (es.take k) id):=by
   rw[vz hk];unfold unS;rw[iK];simp only[List.foldl_cons,List.foldl_nil,List.drop_one]
  simp only[E0Y,nq,decide_true,cond_true,aq,ar,ah hk,ai,h1,Wn,iQ (show k<9223372036854775807 by omega),e1]) (by
  simp only[E0Y,ba,decide_false,cond_false,pN];rfl)
 exact key
omit ha hl in
theorem E3N (n:Nat)(hn:n<=1000000)(x:List Int×List (List Int)):dk E0W (((n:Int),0),x,au n 0,n)=some (x,E00 n id,n):=by
 have e0:au n (0:Int)=E00 n (λi=>if i<0 then i else 0):=by
  apply fy;intro i;by_cases h:i<n
  . rw[E1v h];simp[h]
  . rw[bJ (by simp;omega),bJ (by rw[E1N];omega)]
 have key:=tQ (f:=E0W) n (λk=>(((n:Int),(k:Int)),x,E00 n (λi=>if i<k then i else 0),n)) (x,E00 n id,n) (λk hk=>by
  have nq:(k:Int)<(n:Int):=by omega
  have hb:cP k n=true:=lB hk;simp only[E0W,nq,decide_true,cond_true,aq,ar,hb,E1v hk,ai,E2F hk,iQ (show k<9223372036854775807 by omega)]
  have:(λi=>if i=k then k else if i<k then i else 0)=λi=>if i<k+1 then i else 0:=by
   funext i;by_cases h1:i=k
   . subst h1;simp
   . rw [if_neg h1];by_cases h2:i<k
     . rw[if_pos h2,if_pos (by omega)]
     . rw[if_neg h2,if_neg (by omega)]
  rw[this]) (by
  simp only[E0W,ba,decide_false,cond_false];congr 4;simp only[E00];refine eJ λi hi=>?_
  have:=List.mem_range.1 hi
  rw[if_pos this];rfl)
 rw[e0];exact key
end
end Go.Mid
namespace Go.Mid
open Go.Hg (asc GOk A0t rt un unT unS E0J E0M E0E E0I E4k E4l E1p E0T E1g E0L)
theorem E2n (x y:Int):eqK (.int .i64) x y=(x==y):=rfl
section
variable {v:List Int}{es:List (List Int)}(ha:asc v=true)(hl:v.length<=1000000)
theorem E35 {α:Type}{c d:Bool}{a b:α}(h:c=d):cond c a b=cond d a b:=by rw[h]
theorem E36 {α β:Type}{x y:Option α}{f:α->Option β}(h:x=y):x.bind f=y.bind f:=by rw[h]
attribute [local congr] E35 E36
theorem E4h (f:Nat->Nat){r k:Nat}(hr:f r=r):E1H (eqK (TD.int af)) ((r:Nat):Int) (E1p f k)=decide (r<k):=Go.Hg.azS f E2n hr
theorem E3u (f:Nat->Nat){r k:Nat}(hr:f r=r)(h:r<k):E0C (eqK (TD.int af)) ((r:Nat):Int) (0:Int) (E1p f k)=((E0M f r:Nat):Int):=Go.Hg.azR f E2n hr h
theorem E4i (f:Nat->Nat){k:Nat}(hr:f k=k):E0D (eqK (TD.int af)) ((k:Nat):Int) ((E0M f k:Nat):Int) (E1p f k)=E1p f (k+1):=Go.Hg.azT f E2n hr
theorem E2R {l:List Int}(h:l.length<=1000000):E1R 8 l=some l:=by
 unfold E1R;rw[jE (by omega),cond_true]
theorem E2K (f:Nat->Nat)(k:Nat):E0M f k<=k:=by
 unfold E0M;exact dF List.countP_le_length (by simp)
include hl
theorem E3O:dk E0R ((0,v,(v.length:Int),0),(v,es),(E00 v.length (E0J v es),v.length),[],[]) =
 some (E0I v es,(v,es),(E00 v.length (E0J v es),v.length),E0L (E0I v es) (E4k v es) (λ_=>[]),E1p (E0J v es) v.length):=by
 have key:=tQ (f:=E0R) v.length (λk=>((E0M (E0J v es) k,v,(v.length:Int),(k:Int)),(v,es),(E00 v.length (E0J v es),v.length),E0L (E0M (E0J v es) k) (E0T v es k) (λ_=>[]),E1p (E0J v es) k))
  (E0I v es,(v,es),(E00 v.length (E0J v es),v.length),E0L (E0I v es) (E4k v es) (λ_=>[]),E1p (E0J v es) v.length) (λk hk=>by
  have nq:(k:Int)<(v.length:Int):=by omega
  have D:=Go.Hg.zl v es;have hr:=E2b D k hk;have hrl:=E2K (E0J v es) k;have hw:=iQ (show k<9223372036854775807 by omega)
  have hm:=E4h (E0J v es) (k:=k) (Go.Hg.aDB D k);have ot:cQ ((E0M (E0J v es) k+1)*48) 140737488355328=true:=jE (by omega)
  have He:cP (E0M (E0J v es) k) (E0M (E0J v es) k+1)=true:=lB (by omega)
  by_cases h:rt (E0J v es) k=k
  . have hf:E0J v es k=k:=by rw [← h];exact Go.Hg.aDB D k
    have eN:=E4i (E0J v es) hf;have TL:=E3u (E0J v es) hf (show k<k+1 by omega)
    have hs:E0M (E0J v es) (k+1)=E0M (E0J v es) k+1:=by rw[Go.Hg.vc,if_pos hf]
    have hn:E0E v es k=E0M (E0J v es) k:=by unfold E0E;rw[h]
    have hu:=Go.Hg.azv v es hk;rw[hn,Go.Hg.azA] at hu;have ht:E0L (E0M (E0J v es) k) (E0T v es k) (λ_=>[])++[([],[])]=E0L (E0M (E0J v es) k+1) (E0T v es k) (λ_=>[]):=Go.Hg.azU (Go.Hg.azA v es) rfl
    rw[h] at hr hm;rw[show decide (k<k)=false by simp] at hm
    have OI:aP (E0M (E0J v es) k) (E0L (E0M (E0J v es) k) (E0T v es k) (λ_=>[]))=E0L (E0M (E0J v es) k) (E0T v es k) (λ_=>[]):=a6 (by rw[Go.Hg.c0];exact ay _)
    have hx:(E0L (E0M (E0J v es) k+1) (E0T v es k) (λ_=>[])).set (E0M (E0J v es) k) ([v[k]],[])=E0L (E0M (E0J v es) (k+1)) (E0T v es (k+1)) (λ_=>[]):=by
     rw[Go.Hg.azz (E:=λ_=>[]),hs,hu];rfl
    simp only[E0R,nq,decide_true,cond_true,aq,ar,ah hk,ai,E1P,hr,hm,ej,eN,TL,Go.Hg.c0,OI,ot,He,jE (ay _),ht,hw,Nat.beq_refl];simp only[cQ,Nat.beq,cond_true,beq_self_eq_true,bS,Nat.one_mul,gH,a7,hx];rw[hs];exact congrArg (λz=>some (Sum.inl ((E0M (E0J v es) k+1,v,(v.length:Int),((k+1:Nat):Int)),(v,es),(E00 v.length (E0J v es),v.length),E0L (E0M (E0J v es) k+1) (E0T v es (k+1)) (λ_=>[]),z))) eN
  . have hf0:=Go.Hg.aDB D k;have hle:=Go.Hg.azt D k;have eC:rt (E0J v es) k<k:=by omega
    have hfk:E0J v es k≠k:=λq=>h (Go.Hg.azB q)
    have TL:=E3u (E0J v es) hf0 eC;have hs:E0M (E0J v es) (k+1)=E0M (E0J v es) k:=by rw[Go.Hg.vc,if_neg hfk,dG]
    have hn:E0E v es k=E0M (E0J v es) (rt (E0J v es) k):=rfl;have hc:=Go.Hg.LV hf0 eC;rw[←hn] at hc TL;have hu:=Go.Hg.azv v es hk;have zr:=Go.Hg.az3 (E0J v es) hfk;rw[show decide (rt (E0J v es) k<k)=true by simp[eC]] at hm
    have OI:aP (E0M (E0J v es) k) (E0L (E0M (E0J v es) k) (E0T v es k) (λ_=>[]))=E0L (E0M (E0J v es) k) (E0T v es k) (λ_=>[]):=a6 (by rw[Go.Hg.c0];exact ay _)
    have hx:(E0L (E0M (E0J v es) k) (E0T v es k) (λ_=>[])).set (E0E v es k) (E0T v es k (E0E v es k)++[v[k]],[])=E0L (E0M (E0J v es) (k+1)) (E0T v es (k+1)) (λ_=>[]):=by
     rw[Go.Hg.azz (E:=λ_=>[]),hs,hu]
    have hg:=Go.Hg.kh (V:=E0T v es k) (E:=λ_=>[]) hc
    have hbc:=lB hc;have Ds:(E0T v es k (E0E v es k)).length<=v.length:=by
     unfold E0T;rw[aB];refine dF (dt _ _) ?_;rw[aW,List.length_zipIdx];omega
    have PY:cQ (((E0T v es k (E0E v es k)).length+1)*8) 140737488355328=true:=jE (by omega)
    simp only[E0R,nq,decide_true,cond_true,aq,ar,ah hk,ai,E1P,hr,hm,bO,cond_false,TL,Go.Hg.c0,OI,hbc,hg,hw];simp only[jE (ay _),beq_self_eq_true,cond_true,PY,dM,hx,zr,aR,dN];rw[hs]) (by
  simp only[E0R,ba,decide_false,cond_false];rw[Go.Hg.azW];rfl)
 have e0:E0L (E0M (E0J v es) 0) (E0T v es 0) (λ_=>[])=[]:=rfl
 have e1:E1p (E0J v es) 0=[]:=rfl;have e2:E0M (E0J v es) 0=0:=rfl;simp only[e0,e1,e2] at key;exact key
include ha
theorem E3P (hne:∀ e∈es,e ≠ [])(CT:∀ e∈es,∀ y∈e,y∈v)(ia:∀ e∈es,e.length<=1000000)(VW:es.length<=1000000) :
 dk E0Z ((E0I v es,es,(es.length:Int),0),(v,es),(E00 v.length (E0J v es),v.length),E0L (E0I v es) (E4k v es) (λ_=>[]),E1p (E0J v es) v.length) =
 some (E0I v es,E0L (E0I v es) (E4k v es) (E4l v es)):=by
 have key:=tQ (f:=E0Z) es.length (λk=>((E0I v es,es,(es.length:Int),(k:Int)),(v,es),(E00 v.length (E0J v es),v.length),E0L (E0I v es) (E4k v es) (E1g v es k),E1p (E0J v es) v.length))
  (E0I v es,E0L (E0I v es) (E4k v es) (E4l v es)) (λk hk=>by
  have nq:(k:Int)<(es.length:Int):=by omega
  have hm:=aM hk;have D:=Go.Hg.zl v es;have hw:=iQ (show k<9223372036854775807 by omega)
  have hh:es[k][0]?=some (es[k].headD 0):=by
   have:=hne _ hm
   generalize es[k]=l at *
   cases l with | nil=>exact absurd rfl this | cons x r=>rfl
  have hhm:es[k].headD 0∈v:=by
   have h1:=hne _ hm;have h2:=CT _ hm;generalize es[k]=l at *
   cases l with | nil=>exact absurd rfl h1 | cons x r=>exact h2 x (by simp)
  have hp:=Go.Hg.iV hhm;have hr:=E2b D _ hp;have hf0:=Go.Hg.aDB D (A0t v (es[k].headD 0));have eC:rt (E0J v es) (A0t v (es[k].headD 0))<v.length:=eU (Go.Hg.azt D _) hp;have TL:=E3u (E0J v es) hf0 eC;have hc:E0E v es (A0t v (es[k].headD 0))<E0I v es:=Go.Hg.LV hf0 eC;have hn:E0M (E0J v es) (rt (E0J v es) (A0t v (es[k].headD 0)))=E0E v es (A0t v (es[k].headD 0)):=rfl;rw[hn] at TL;have hu:=Go.Hg.azM v es hk;have hx:(E0L (E0I v es) (E4k v es) (E1g v es k)).set (E0E v es (A0t v (es[k].headD 0))) (E4k v es (E0E v es (A0t v (es[k].headD 0))),E1g v es k (E0E v es (A0t v (es[k].headD 0)))++[es[k]])=E0L (E0I v es) (E4k v es) (E1g v es (k+1)):=by
   rw[Go.Hg.azV,hu]
  have hg:=Go.Hg.kh (V:=E4k v es) (E:=E1g v es k) hc;have hbc:=lB hc;have Ds:(E1g v es k (E0E v es (A0t v (es[k].headD 0)))).length<=es.length:=by
   unfold E1g;refine dF (dt _ _) ?_;rw[aW];omega
  have PY:cQ (((E1g v es k (E0E v es (A0t v (es[k].headD 0)))).length+1)*24) 140737488355328=true:=jE (by omega)
  have GI:=E2R (ia _ hm);simp only[E0Z,nq,decide_true,cond_true,aq,ar,ah hk,ai,hh,E2d ha hl hhm,E1P,hr,TL,Go.Hg.c0,hbc,hg,hw,GI];simp only[jE (ay _),beq_self_eq_true,cond_true,PY,dM,hx,aR,dN]) (by
  simp only[E0Z,ba,decide_false,cond_false];rw[Go.Hg.azX])
 rw[Go.Hg.azL] at key;exact key
theorem E2r (hne:∀ e∈es,e ≠ [])(CT:∀ e∈es,∀ y∈e,y∈v)(ia:∀ e∈es,e.length<=1000000)(VW:es.length<=1000000) :
 E0V (v,es)=some (E0L (E0I v es) (E4k v es) (E4l v es)):=by
 have hb:cQ (v.length*8) 140737488355328=true:=jE (by omega)
 have aBx:∀l:List (List Int×List (List Int)),fp (uR (Ty.agg [Ty.vec (1:Nat) (Ty.int af),Ty.vec (1:Nat) (Ty.int af).sl])) l=l:=by
  intro l
  have:∀x:List Int×List (List Int),uR (Ty.agg [Ty.vec (1:Nat) (Ty.int af),Ty.vec (1:Nat) (Ty.int af).sl]) x=x:=by
   intro x;have e1:uR (Ty.agg [Ty.vec (1:Nat) (Ty.int af),Ty.vec (1:Nat) (Ty.int af).sl]) x=(fp (uR (Ty.int .i64)) x.1,fp (uR ((Ty.int .i64).sl)) x.2):=rfl;have h1:fp (uR (Ty.int .i64)) x.1=x.1:=wR _;have h2:fp (uR ((Ty.int .i64).sl)) x.2=x.2:=wR _;exact e1.trans (Prod.ext h1 h2)
  exact(eJ λx _=>this x).trans (wR l)
 have OI:aP (E0I v es) (E0L (E0I v es) (E4k v es) (E4l v es))=E0L (E0I v es) (E4k v es) (E4l v es):=a6 (by rw[Go.Hg.c0];exact ay _)
 simp only[E0V,aq,decide_true,cond_true,Int.le_refl,ar,hb,List.length_replicate,jE (ay _),E3N v.length hl,ai,E3M ha hl hne CT ia VW,E3O hl,E3P ha hl hne CT ia VW,Go.Hg.c0,OI];exact congrArg some ((congrArg _ OI).trans (aBx _))
end
end Go.Mid
namespace Go.Mid
open Go.Hg (asc GOk A0t rt E0J E0M E0E E0I E4k E4l E0L HOk D4P E0H)
theorem E16 (a b:List (List Nat)):E0H (a++b)=E0H a*E0H b:=by
 induction a with
 |nil=>simp[E0H]
 |cons x r ih=>simp only[aS,E0H,ih,Nat.mul_assoc]
structure PB (v:List Int)(es:List (List Int)):Prop where
 H:HOk v es
 G:GOk v es
 el:∀e∈es,e.length<=1000000
 sm:∀k,k<E0I v es->(D4P (E4k v es k) (E4l v es k)).length<=100000
 pr:∀j,E0H ((Go.Hg.partL (E0I v es) (E4k v es) (E4l v es)).take j)<=1000000000000000
abbrev cb (v:List Int) (es:List (List Int)):List (List Nat):=Go.Hg.partL (E0I v es) (E4k v es) (E4l v es)
theorem E1n (v:List Int)(es:List (List Int)):(cb v es).length=E0I v es:=by simp[cb,Go.Hg.partL]
theorem E10 {v:List Int}{es:List (List Int)}{k:Nat}(h:k<E0I v es):(cb v es)[k]?=some (D4P (E4k v es k) (E4l v es k)):=by
 simp[cb,Go.Hg.partL,h]
theorem E17 (v:List Int)(es:List (List Int))(k:Nat):(E4k v es k).length<=v.length:=by
 unfold E4k;rw[aB];exact dF (dt _ _) (by simp)
section
variable {v:List Int}{es:List (List Int)}(B:PB v es)
include B
theorem PB.part {k:Nat}(hk:k<E0I v es):HOk (E4k v es k) (E4l v es k) where
 nv:=dF (E17 v es k) B.H.nv
 ne:=dF (dt _ _) B.H.ne
 el:=λe he=>B.H.el e ((cZ.1 he).1)
 bc:=λe he=>((Go.Hg.iE B.G).sub k hk e he).2
theorem PB.aBA {k:Nat}(hk:k<E0I v es):C0j ((E4k v es k,E4l v es k),100000)=some (jG (D4P (E4k v es k) (E4l v es k)),true) :=
 D9a (B.part hk) (λe he=>B.el e ((cZ.1 he).1)) (B.sm k hk)
theorem PB.cnt:E0I v es<=40:=dF (E2K _ _) B.H.nv
theorem PB.comp:E0V (v,es)=some (E0L (E0I v es) (E4k v es) (E4l v es)) :=
 E2r B.G.av (by have:=B.H.nv;omega) B.G.ne B.G.bc B.el (by have:=B.H.ne;omega)
theorem E2j {k:Nat}(hk:k<E0I v es) :
 E01 ((E0L (E0I v es) (E4k v es) (E4l v es),k,((E0H ((cb v es).take k):Nat):Int),E0L (E0I v es) (E4k v es) (E4l v es),(E0I v es:Int),(k:Int)),((cb v es).take k).map jG) =
 some (.inl ((E0L (E0I v es) (E4k v es) (E4l v es),k+1,((E0H ((cb v es).take (k+1)):Nat):Int),E0L (E0I v es) (E4k v es) (E4l v es),(E0I v es:Int),((k+1:Nat):Int)),((cb v es).take (k+1)).map jG)):=by
 have nq:(k:Int)<(E0I v es:Int):=by omega
 have h40:=B.cnt;have zq:k<(cb v es).length:=by rw[E1n];exact hk
 have yG:(cb v es)[k]=D4P (E4k v es k) (E4l v es k):=by
  have:=E10 hk
  rw[ah zq,aa] at this;exact this
 have ht:(cb v es).take (k+1)=(cb v es).take k++[D4P (E4k v es k) (E4l v es k)]:=by rw[vz zq,yG]
 have hp:E0H ((cb v es).take (k+1))=E0H ((cb v es).take k)*(D4P (E4k v es k) (E4l v es k)).length:=by
  rw[ht,E16];simp[E0H]
 have v8:=B.pr (k+1);have hpm:((E0H ((cb v es).take k):Nat):Int)*((D4P (E4k v es k) (E4l v es k)).length:Int)=((E0H ((cb v es).take (k+1)):Nat):Int):=by rw[hp];simp
 have hpw:af.wrap ((E0H ((cb v es).take (k+1)):Nat):Int)=((E0H ((cb v es).take (k+1)):Nat):Int):=E1h (by omega) (by
  have:E0H ((cb v es).take (k+1))<=1000000000000000:=v8
  omega)
 have ZD:¬(((E0H ((cb v es).take (k+1)):Nat):Int)>1000000000000000):=by
  have:E0H ((cb v es).take (k+1))<=1000000000000000:=v8
  omega
 have htl:((cb v es).take k).length=k:=by rw[aW];omega
 have hb:cQ ((k+1)*24) 140737488355328=true:=jE (by omega)
 have hw:=iQ (show k<9223372036854775807 by omega)
 have OI:aP k (((cb v es).take k).map jG)=((cb v es).take k).map jG:=a6 (by rw[aB,htl];exact ay _)
 simp only[E01,nq,decide_true,cond_true,aq,ar,Go.Hg.kh hk,ai,B.aBA hk,bO,cond_false,aB,htl,jE (ay _),hb,CW,hpm,hpw,ZD,decide_false,hw,OI];rw[ht,b9];rfl
theorem E3v:E1q (v,es)=some (E0L (E0I v es) (E4k v es) (E4l v es),(cb v es).map jG,((E0H (cb v es):Nat):Int),0):=by
 have key:=tQ (f:=E01) (E0I v es) (λk=>((E0L (E0I v es) (E4k v es) (E4l v es),k,((E0H ((cb v es).take k):Nat):Int),E0L (E0I v es) (E4k v es) (E4l v es),(E0I v es:Int),(k:Int)),((cb v es).take k).map jG)) (.inr ((E0L (E0I v es) (E4k v es) (E4l v es),E0I v es,((E0H (cb v es):Nat):Int)),(cb v es).map jG)) (λk hk=>E2j B hk) (by
  have e:aP (E0I v es) (cb v es)=cb v es:=a6 (by rw[E1n];exact ay _)
  simp only[E01,ba,decide_false,cond_false,e])
 have hl:((cb v es).map jG).length=E0I v es:=by rw[aB,E1n]
 have OI:aP (E0I v es) ((cb v es).map jG)=(cb v es).map jG:=a6 (by rw[hl];exact ay _)
 have VX:dk E01 ((E0L (E0I v es) (E4k v es) (E4l v es),0,(1:Int),E0L (E0I v es) (E4k v es) (E4l v es),(E0I v es:Int),(0:Int)),[])=_:=key;simp only[E1q,B.comp,ai,Go.Hg.c0,VX,lS,hl,jE (ay _),cond_true,OI]
theorem E2G {k:Nat}(hk:k<E0I v es) :
 E05 ((E0L (E0I v es) (E4k v es) (E4l v es),k,((E0H ((cb v es).take k):Nat):Int),E0L (E0I v es) (E4k v es) (E4l v es),(E0I v es:Int),(k:Int)),((cb v es).take k).map jG) =
 some (.inl ((E0L (E0I v es) (E4k v es) (E4l v es),k+1,((E0H ((cb v es).take (k+1)):Nat):Int),E0L (E0I v es) (E4k v es) (E4l v es),(E0I v es:Int),((k+1:Nat):Int)),((cb v es).take (k+1)).map jG)) :=
 E2j B hk
theorem E11:E1i (v,es)=some ((E0L (E0I v es) (E4k v es) (E4l v es),E0I v es,((E0H (cb v es):Nat):Int),0),(cb v es).map jG):=by
 have key:=tQ (f:=E05) (E0I v es) (λk=>((E0L (E0I v es) (E4k v es) (E4l v es),k,((E0H ((cb v es).take k):Nat):Int),E0L (E0I v es) (E4k v es) (E4l v es),(E0I v es:Int),(k:Int)),((cb v es).take k).map jG)) (.inr ((E0L (E0I v es) (E4k v es) (E4l v es),E0I v es,((E0H (cb v es):Nat):Int)),(cb v es).map jG)) (λk hk=>E2G B hk) (by
  have e:aP (E0I v es) (cb v es)=cb v es:=a6 (by rw[E1n];exact ay _)
  simp only[E05,ba,decide_false,cond_false,e])
 have VX:dk E05 ((E0L (E0I v es) (E4k v es) (E4l v es),0,(1:Int),E0L (E0I v es) (E4k v es) (E4l v es),(E0I v es:Int),(0:Int)),[])=_:=key;simp only[E1i,B.comp,ai,Go.Hg.c0,VX,lS]
theorem E3w (hv:Go.Hg.validH v es=true):E1r (v,es)=some (((D4P v es).length:Int),0):=by
 have hc:E0H (cb v es)=(D4P v es).length:=(Go.Hg.iE B.G).count B.G;simp only[E1r,E1Z B.H B.el hv,ai,bne_self_eq_false,cond_false,E3v B,hc]
end
end Go.Mid
namespace Go.Mid
open Go.Hg (asc GOk A0t rt E0J E0M E0E E0I E4k E4l E0L HOk D4P E0H E0O E0P E08 E1a atS AtI idsP tst)
theorem E2S {v:List Int}(nv:v.length<=1000000){z:Int}(hz:z∉v):B28 (v,z)=some (-1):=by
 have key:=Ma (f:=B1k) v (λi=>(v,z,(v.length:Int),(i:Int))) (λ_ x=>x==z) (λi=>.inl (i:Int)) (.inr ()) (λi hi=>by
  have eg:(i:Int)<(v.length:Int):=by omega
  simp only[B1k,eg,decide_true,cond_true,aq,ar,ah hi,ai,iQ (show i<9223372036854775807 by omega)]
  rw[au0];cases v[i]==z<;>rfl) (by
  simp only[B1k,ba,decide_false,cond_false])
 have key:dk B1k (v,z,(v.length:Int),0)=_:=key;unfold B28;simp only;rw[key];have h2:=Go.Hg.auM (· == z) v 0;have h3:v.any (· == z)=false:=by
  rw[gA];intro x hx e;exact hz (by rw[←beq_iff_eq.1 e];exact hx)
 rw[h3] at h2;rw[D7J (λx=>x==z)]
 cases hk:Go.Hg.idx (λx=>x==z) v 0 with
 |none=>rfl
 |some k=>rw[hk] at h2;cases h2
theorem E2H {v:List Int}(nv:v.length<=1000000)(z:Int):E06 (v,z)=some (v.contains z):=by
 unfold E06;by_cases h:z∈v
 . simp[D8W nv h,h]
 . simp[E2S nv h,h]
section
variable {v:List Int}{es:List (List Int)}(B:PB v es)
include B
theorem E3x {j:Nat}(hj:j<v.length):E0K (E0L (E0I v es) (E4k v es) (E4l v es),v[j])=some ((E0E v es j:Nat):Int):=by
 have D:=Go.Hg.iE B.G;have hk:=D.kkm j hj;have h40:=B.cnt;have hn:=B.H.nv;have key:=Ma (f:=E0G) (E0L (E0I v es) (E4k v es) (E4l v es)) (λi=>(E0L (E0I v es) (E4k v es) (E4l v es),v[j],((E0L (E0I v es) (E4k v es) (E4l v es)).length:Int),(i:Int))) (λ_ x=>x.1.contains v[j]) (λi=>.inl (i:Int)) (.inr ()) (λi hi=>by
  have CU:i<E0I v es:=by rwa [Go.Hg.c0] at hi
  have eg:(i:Int)<((E0L (E0I v es) (E4k v es) (E4l v es)).length:Int):=by omega
  have hl:(E4k v es i).length<=1000000:=by have:=E17 v es i;omega
  have e1:(E0L (E0I v es) (E4k v es) (E4l v es))[i]=(E4k v es i,E4l v es i):=by
   have:=Go.Hg.kh (V:=E4k v es) (E:=E4l v es) CU
   rw[ah hi,aa] at this;exact this
  simp only[E0G,eg,decide_true,cond_true,aq,ar,ah hi,ai,e1,E1E,E2H hl,iQ (show i<9223372036854775807 by omega)]
  cases (E4k v es i).contains v[j]<;>rfl) (by
  simp only[E0G,ba,decide_false,cond_false])
 have key:dk E0G (E0L (E0I v es) (E4k v es) (E4l v es),v[j],((E0L (E0I v es) (E4k v es) (E4l v es)).length:Int),0)=_:=key;unfold E0K;simp only;rw[key];rw[D7J (λx:List Int×List (List Int)=>x.1.contains v[j])]
 have pE:v[j]∈E4k v es (E0E v es j):=(D.vs _ hk _).2 ⟨j,hj,rfl,rfl⟩;have hg:=Go.Hg.kh (V:=E4k v es) (E:=E4l v es) hk;have h2:=Go.Hg.auM (λx:List Int×List (List Int)=>x.1.contains v[j]) (E0L (E0I v es) (E4k v es) (E4l v es)) 0
 have h3:(E0L (E0I v es) (E4k v es) (E4l v es)).any (λx=>x.1.contains v[j])=true:=fV.2 ⟨_,List.mem_of_getElem? hg,by simpa using pE⟩
 rw[h3] at h2;cases hx:Go.Hg.idx (λx:List Int×List (List Int)=>x.1.contains v[j]) (E0L (E0I v es) (E4k v es) (E4l v es)) 0 with
 |none=>rw[hx] at h2;cases h2
 |some k =>
   obtain⟨_,h5,⟨h6,h7⟩,_⟩:=Go.Hg.IH hx;have YP:k<E0I v es:=by rw[Go.Hg.c0] at h5;omega
   have hg2:=Go.Hg.kh (V:=E4k v es) (E:=E4l v es) YP;simp only[gv] at h6 h7;rw[ah h6,aa] at hg2;rw[hg2] at h7
   have:k=E0E v es j:=D.one YP hk B.G.av (by simpa using h7) pE
   rw[this];rfl
end
theorem E37 {T:List (List Int×List (List Int))}{q:List Nat}{n p:Nat}(hq:q.length<=1000000)(hn:n<=40)(hb:∀ x∈q,x<2 ^ n)(hp:p<=40)(idx:Int)(m:Nat)(tot:Int)(no:Nat)(vk:Int)(v:List Int)(nv j:Int)(out:List Int)(u:Int)(ls:List (List Int)) :
 dk E1b ((idx,T,m,tot,no,vk,(p:Int),0,0,v,nv,j,jG q,(q.length:Int),0),out,u,[],[],ls) =
 some ((idx,T,m,tot,no,vk,(q.filter (·.testBit p)).length,(q.filter (λx=>!x.testBit p)).length,v,nv,j),out,u,jG (q.filter (·.testBit p)),jG (q.filter (λx=>!x.testBit p)),ls):=by
 have key:=tQ (f:=E1b) q.length (λk=>((idx,T,m,tot,no,vk,(p:Int),((q.take k).filter (·.testBit p)).length,((q.take k).filter (λx=>!x.testBit p)).length,v,nv,j,jG q,(q.length:Int),(k:Int)),out,u,jG ((q.take k).filter (·.testBit p)),jG ((q.take k).filter (λx=>!x.testBit p)),ls))
  ((idx,T,m,tot,no,vk,(q.filter (·.testBit p)).length,(q.filter (λx=>!x.testBit p)).length,v,nv,j),out,u,jG (q.filter (·.testBit p)),jG (q.filter (λx=>!x.testBit p)),ls) (λk hk=>by
  have nq:(k:Int)<(q.length:Int):=by omega
  have hx:=D7r (hb _ (aM hk)) hn;have h1:((q.take k).filter (·.testBit p)).length<=k:=dF (dt _ _) (by rw[aW];omega)
  have h2:((q.take k).filter (λx=>!x.testBit p)).length<=k:=dF (dt _ _) (by rw[aW];omega)
  have b1:cQ ((((q.take k).filter (·.testBit p)).length+1)*8) 140737488355328=true:=jE (by omega)
  have b2:cQ ((((q.take k).filter (λx=>!x.testBit p)).length+1)*8) 140737488355328=true:=jE (by omega)
  have t1:aP ((q.take k).filter (·.testBit p)).length (jG ((q.take k).filter (·.testBit p)))=jG ((q.take k).filter (·.testBit p)):=a6 (by rw[CW];exact ay _)
  have t2:aP ((q.take k).filter (λx=>!x.testBit p)).length (jG ((q.take k).filter (λx=>!x.testBit p)))=jG ((q.take k).filter (λx=>!x.testBit p)):=a6 (by rw[CW];exact ay _)
  have XX:=D4U (k:=.u64) rfl (show p<=64 by omega) (by decide) hx
  cases hc:q[k].testBit p with
  |true =>
    rw[hc] at XX;simp only[E1b,nq,decide_true,cond_true,if_true,beq_self_eq_true,aq,ar,FF hk,ai,XX,CW,jE (ay _),b1,t1,iQ (show k<9223372036854775807 by omega)]
    rw[vz hk,s8,s8];simp[hc,jG]
  |false =>
    rw[hc] at XX;simp only[E1b,nq,decide_true,cond_true,cond_false,aq,ar,FF hk,ai,XX,CW,jE (ay _),b2,t2,iQ (show k<9223372036854775807 by omega)]
    rw[vz hk,s8,s8];simp[hc,jG]) (by
  simp only[E1b,CW,ba,decide_false,cond_false,pN])
 exact key
end Go.Mid
namespace Go.Mid
open Go.Hg (asc GOk A0t rt E0J E0M E0E E0I E4k E4l E0L HOk D4P E0H E0O E0P E08 E1a atS AtI idsP tst)
abbrev atQ (v:List Int) (es:List (List Int)) (j:Nat) (x:List (List Nat)×Nat×Nat):(Int×List (List Int×List (List Int))×Nat×Int×Nat×List Int×Int×Int)×List Int×List (List Int) :=
 (((x.2.1:Int),E0L (E0I v es) (E4k v es) (E4l v es),E0I v es,((E0H x.1:Nat):Int),(idsP (v.take j) x.2.2).length,v,(v.length:Int),(j:Int)),idsP (v.take j) x.2.2,x.1.map jG)
theorem E3g {v:List Int}{kk:Nat->Nat}{V:Nat->List Int}{j:Nat}(hj:j<v.length)(L:List (List Nat)):(L.getD (kk j) []).filter (·.testBit (A0t (V (kk j)) v[j]))=E0P kk (tst v kk V) L j:=by
 unfold E0P tst;have h0:v.getD j 0=v[j]:=by rw[bh,ah hj,bI]
 rw[h0]
theorem E3h {v:List Int}{kk:Nat->Nat}{V:Nat->List Int}{j:Nat}(hj:j<v.length)(L:List (List Nat)):(L.getD (kk j) []).filter (λx=>!x.testBit (A0t (V (kk j)) v[j]))=E08 kk (tst v kk V) L j:=by
 unfold E08 tst;have h0:v.getD j 0=v[j]:=by rw[bh,ah hj,bI]
 rw[h0]
section
variable {v:List Int}{es:List (List Int)}(B:PB v es)
include B
theorem E3Q {j:Nat}(hj:j<v.length){x:List (List Nat)×Nat×Nat}(I:AtI v.length (cb v es) x)(hs:x.2.2<2 ^ j) :
 E1c (atQ v es j x)=some (.inl (atQ v es (j+1) (E1a (E0E v es) (tst v (E0E v es) (E4k v es)) x j))):=by
 have D:=Go.Hg.iE B.G;have hk:=D.kkm j hj;have h40:=B.cnt;have hn:=B.H.nv;have Dy:(j:Int)<(v.length:Int):=by omega
 have hkx:E0E v es j<x.1.length:=by rw[I.len,E1n];exact hk
 have pE:v[j]∈E4k v es (E0E v es j):=(D.vs _ hk _).2 ⟨j,hj,rfl,rfl⟩;have Ds:=E17 v es (E0E v es j);have hp:=Go.Hg.iV pE;have Ct:=D8W (show (E4k v es (E0E v es j)).length<=1000000 by omega) pE
 have dK:=I.sub (E0E v es j);have aAR:(cb v es).getD (E0E v es j) []=D4P (E4k v es (E0E v es j)) (E4l v es (E0E v es j)):=by
  rw[bh,E10 hk];rfl
 rw[aAR] at dK;have hql:(x.1.getD (E0E v es j) []).length<=1000000:=by
  have h1:=dK.length_le;have h2:=B.sm _ hk;omega
 have hqb:∀y∈x.1.getD (E0E v es j) [],y<2 ^ (E4k v es (E0E v es j)).length:=λy hy=>((Go.Hg.auX (D.gok B.G hk)).1 (dK.subset hy)).1
 have Aw:=E37 (T:=E0L (E0I v es) (E4k v es) (E4l v es)) hql (show (E4k v es (E0E v es j)).length<=40 by omega) hqb (show A0t (E4k v es (E0E v es j)) v[j]<=40 by omega)
 have Tv:(x.1.map jG)[E0E v es j]?=some (jG (x.1.getD (E0E v es j) [])):=by
  rw[aL,bh,ah hkx];rfl
 have ou:=Go.Hg.iv x.1 (E0E v es j) hkx;have tK:=I.lt;have hle:=I.le;have aDi:E0H (cb v es)<=1000000000000000:=by
  have:=B.pr (cb v es).length
  rwa [dM] at this
 have hq0:0<(x.1.getD (E0E v es j) []).length:=by
  rcases Nat.eq_zero_or_pos (x.1.getD (E0E v es j) []).length with h | h
  . rw[h,Nat.zero_mul] at ou;omega
  . exact h
 have hdiv:((E0H x.1:Nat):Int).tdiv ((x.1.getD (E0E v es j) []).length:Int)=((E0O x.1 (E0E v es j):Nat):Int):=by
  rw[ou,r8];exact Int.mul_tdiv_cancel_left _ (by omega)
 have hws:=Go.Hg.vb (E0E v es) (tst v (E0E v es) (E4k v es)) x.1 j;have hrl:E0O x.1 (E0E v es j)<=1000000000000000:=by
  have:1*E0O x.1 (E0E v es j)<=E0H x.1:=by rw[ou];exact Nat.mul_le_mul_right _ hq0
  omega
 have TU:E0H x.1=(E0P (E0E v es) (tst v (E0E v es) (E4k v es)) x.1 j).length*E0O x.1 (E0E v es j)+(E08 (E0E v es) (tst v (E0E v es) (E4k v es)) x.1 j).length*E0O x.1 (E0E v es j):=by rw[ou,←hws,Nat.add_mul]
 have HN:(((x.1.getD (E0E v es j) []).length:Int) != 0)=true:=by rw[bne_iff_ne];omega
 have w1:af.wrap ((E0O x.1 (E0E v es j):Nat):Int)=((E0O x.1 (E0E v es j):Nat):Int):=E1h (by omega) (by omega)
 have w2:af.wrap (((E0O x.1 (E0E v es j):Nat):Int)*((E0P (E0E v es) (tst v (E0E v es) (E4k v es)) x.1 j).length:Int))=(((E0P (E0E v es) (tst v (E0E v es) (E4k v es)) x.1 j).length*E0O x.1 (E0E v es j):Nat):Int):=by
  rw[←r8,azF];exact E1h (azG (by decide) (aq _)) (by omega)
 have w3:af.wrap (((E0O x.1 (E0E v es j):Nat):Int)*((E08 (E0E v es) (tst v (E0E v es) (E4k v es)) x.1 j).length:Int))=(((E08 (E0E v es) (tst v (E0E v es) (E4k v es)) x.1 j).length*E0O x.1 (E0E v es j):Nat):Int):=by
  rw[←r8,azF];exact E1h (azG (by decide) (aq _)) (by omega)
 have wj:=iQ (show j<9223372036854775807 by omega)
 have Kk:(idsP (v.take j) x.2.2).length<=40:=by
  have:=D05 (v.take j) x.2.2
  rw[aW] at this;omega
 have Tx:cQ (((idsP (v.take j) x.2.2).length+1)*8) 140737488355328=true:=jE (by omega)
 have OI:∀l:List Int,aP l.length l=l:=λl=>dM
 have Ov:∀l:List Nat,aP l.length (jG l)=jG l:=λl=>a6 (by rw[CW];exact ay _)
 simp only[E1c,atQ,Dy,decide_true,cond_true,aq,ar,ah hj,ai,E3x B hj,Go.Hg.kh hk,Ct,lB hk,Tv,CW,Aw,HN,hdiv,E3g hj,E3h hj,w1,w2,w3,jE (ay _),wj,OI,Ov,Tx,Kk];have aBD:=Go.Hg.aDx x.1 (E0E v es j) (E0P (E0E v es) (tst v (E0E v es) (E4k v es)) x.1 j) hkx;have aBE:=Go.Hg.aDx x.1 (E0E v es j) (E08 (E0E v es) (tst v (E0E v es) (E4k v es)) x.1 j) hkx;have aAi:∀b,idsP (v.take (j+1)) b=idsP (v.take j) b++if b.testBit j then[v[j]] else[]:=C9c hj
 have Sc:x.2.2.testBit j=false:=Nat.testBit_lt_two_pow hs;by_cases c:x.2.1<(E0P (E0E v es) (tst v (E0E v es) (E4k v es)) x.1 j).length*E0O x.1 (E0E v es j)
 . have c':((x.2.1:Nat):Int)<(((E0P (E0E v es) (tst v (E0E v es) (E4k v es)) x.1 j).length*E0O x.1 (E0E v es j):Nat):Int):=by omega
   have e:E1a (E0E v es) (tst v (E0E v es) (E4k v es)) x j=(x.1.set (E0E v es j) (E0P (E0E v es) (tst v (E0E v es) (E4k v es)) x.1 j),x.2.1,x.2.2 ||| 1 <<< j):=by unfold E1a;rw[if_pos c]
   have e2:idsP (v.take (j+1)) (x.2.2 ||| 1 <<< j)=idsP (v.take j) x.2.2++[v[j]]:=by
    rw[aAi]
    have:(x.2.2 ||| 1 <<< j).testBit j=true:=by simp[fj,auP]
    rw[this,if_pos rfl];congr 1;refine Go.Hg.azN λi hi=>?_
    rw[aW] at hi
    have:i≠j:=by omega
    have h2:(1 <<< j).testBit i=false:=by
     rw[mQ,Nat.testBit_two_pow_of_ne (Ne.symm this)]
    rw[fj,h2,Bool.or_false]
   simp only[c',decide_true,cond_true,e,e2,aBD,gw,aR,dN]
 . have c':¬ ((x.2.1:Nat):Int)<(((E0P (E0E v es) (tst v (E0E v es) (E4k v es)) x.1 j).length*E0O x.1 (E0E v es j):Nat):Int):=by omega
   have e:E1a (E0E v es) (tst v (E0E v es) (E4k v es)) x j=(x.1.set (E0E v es j) (E08 (E0E v es) (tst v (E0E v es) (E4k v es)) x.1 j),x.2.1-(E0P (E0E v es) (tst v (E0E v es) (E4k v es)) x.1 j).length*E0O x.1 (E0E v es j),x.2.2):=by unfold E1a;rw[if_neg c]
   have e2:idsP (v.take (j+1)) x.2.2=idsP (v.take j) x.2.2:=by
    rw[aAi,Sc];simp
   have w4:af.wrap (((x.2.1:Nat):Int)-(((E0P (E0E v es) (tst v (E0E v es) (E4k v es)) x.1 j).length*E0O x.1 (E0E v es j):Nat):Int))=((x.2.1-(E0P (E0E v es) (tst v (E0E v es) (E4k v es)) x.1 j).length*E0O x.1 (E0E v es j):Nat):Int):=by
    rw[←Int.ofNat_sub (by omega)]
    exact E1h (by omega) (by omega)
   simp only[c',decide_false,cond_false,e,e2,aBE,gw,w4]
theorem E3R {i:Nat}(hi:i<(D4P v es).length):∃ s,(D4P v es)[i]?=some s ∧
 dk E1c (((i:Int),E0L (E0I v es) (E4k v es) (E4l v es),E0I v es,((E0H (cb v es):Nat):Int),0,v,(v.length:Int),0),[],(cb v es).map jG)=some ((idsP v s).length,idsP v s):=by
 have D:=Go.Hg.iE B.G;have hc:E0H (cb v es)=(D4P v es).length:=D.count B.G;have hkk:∀j,j<v.length->E0E v es j<(cb v es).length:=λj hj=>by rw[E1n];exact D.kkm j hj
 have hII:=Go.Hg.aAg (E0E v es) (tst v (E0E v es) (E4k v es)) (n:=v.length) (L0:=cb v es) (i:=i) (by rw[hc];exact hi) hkk
 have kV:=D.at_ B.G hi;rw [Go.Hg.aAa] at kV;refine ⟨_,kV,?_⟩;have key:=tQ (f:=E1c) v.length (λj=>atQ v es j (atS (E0E v es) (tst v (E0E v es) (E4k v es)) (cb v es) i j))
  ((idsP v (atS (E0E v es) (tst v (E0E v es) (E4k v es)) (cb v es) i v.length).2.2).length,idsP v (atS (E0E v es) (tst v (E0E v es) (E4k v es)) (cb v es) i v.length).2.2) (λj hj=>by
  have hs:=E3Q B hj (hII j (by omega)) (Go.Hg.azI (n:=v.length) _ _ j)
  rw[hs,Go.Hg.azw]) (by
  simp only[E1c,atQ,ba,decide_false,cond_false,dM])
 exact key
theorem E38 (hv:Go.Hg.validH v es=true)(i:Int):E1l ((v,es),i)=if h:0<=i∧i.toNat<(D4P v es).length then some (idsP v ((D4P v es)[i.toNat]'h.2),0) else some ([],7):=by
 have D:=Go.Hg.iE B.G;have hc:E0H (cb v es)=(D4P v es).length:=D.count B.G;by_cases h:0<=i∧i.toNat<(D4P v es).length
 . rw [dif_pos h];obtain ⟨n,rfl⟩:∃ n:Nat,i=(n:Int):=⟨i.toNat,by omega⟩
   have hn:n<(D4P v es).length:=by simpa using h.2
   obtain⟨s,hs,hl⟩:=E3R B hn;rw[ah hn,aa] at hs;have n1:¬((n:Int)<0):=by omega
   have n2:¬((n:Int) ≥ ((E0H (cb v es):Nat):Int)):=by omega
   simp only[E1l,E1Z B.H B.el hv,ai,bne_self_eq_false,cond_false,E11 B,n1,n2,decide_false,hl,jE (ay _),cond_true,dM,ar,hs]
 . rw [dif_neg h];by_cases h0:i<0
   . simp only[E1l,E1Z B.H B.el hv,ai,bne_self_eq_false,cond_false,E11 B,h0,decide_true,cond_true,jE (ay _),gH]
   . have n2:i ≥ ((E0H (cb v es):Nat):Int):=by omega
     simp only[E1l,E1Z B.H B.el hv,ai,bne_self_eq_false,cond_false,E11 B,h0,n2,decide_false,decide_true,cond_true,jE (ay _),gH]
end
end Go.Mid
namespace Go.Mid
open Go.Hg (asc GOk HOk D4P E0H E0O idsP D4Q B9j validH A06 hEs E0I)
theorem E3i {x:Int}(h:(Lit.int .u8 x).wf=true):0<=x∧x<=255:=by
 simp only[Lit.wf,aj,decide_eq_true_eq] at h;have h1:dp.min=0:=rfl;have h2:dp.max=255:=rfl;rw[h1,h2] at h;exact h
end Go.Mid
namespace Go.Mid
open Go.Hg (asc GOk HOk D4P E0H idsP validH E0I E4k E4l vP eP E4o E4r E4p E4t)
theorem E4S {m i:Nat}(hi:i<=64)(hm:m<9223372036854775808):pL .i64 (jK .i64 (m:Int) (i:Int)) 1=if m.testBit i then 1 else 0:=by
 rw[D4S (k:=.i64) hi];have h1:m >>> i<=m:=Nat.shiftRight_le m i;have hb:(2:Nat) ^ af.bits=18446744073709551616:=by decide
 have key:pL .i64 ((m >>> i:Nat):Int) ((1:Nat):Int)=af.wrap (((m >>> i) &&& 1:Nat):Int):=by
  unfold pL;rw[JI,JI,BitVec.toNat_and,BitVec.toNat_ofNat,BitVec.toNat_ofNat,eQ (show m >>> i<2 ^ af.bits by omega),eQ (show 1<2 ^ af.bits by omega)]
 have key:pL .i64 ((m >>> i:Nat):Int) 1=_:=key;rw[key,C5S,Nat.testBit_shiftRight,dG];cases m.testBit i<;>rfl
theorem E4M (i:Nat):vP (i+1)=vP i++[2*(i:Int)+1,2*(i:Int)+2]:=by
 unfold vP;rw[show 2*(i+1)=2*i+1+1 by omega,jO,jO,b9,b9]
 simp only[aF,cr,bg,aS,a7];congr 3
theorem E4N (i:Nat):eP (i+1)=eP i++[[2*(i:Int)+1,2*(i:Int)+2]]:=by
 simp[eP,jO]
theorem E4s (n a c:Nat):(E4p n a c).length=c:=by simp[E4p]
theorem E4C {n a:Nat}(hn:n<22)(ha:a<4294967296) :
 dk E4m (((n:Int),0,(a:Int),(n:Int),0),(([],0),[],0),[])=some (((n:Int),n,(a:Int)),((vP n,2*n),eP n,n),E4p n a n):=by
 have key:=tQ (f:=E4m) n (λi=>(((n:Int),i,(a:Int),(n:Int),(i:Int)),((vP i,2*i),eP i,i),E4p n a i)) (((n:Int),n,(a:Int)),((vP n,2*n),eP n,n),E4p n a n) (λi hi=>by
  have eg:(i:Int)<(n:Int):=by omega
  have w0:af.wrap ((2:Int)*(i:Int))=2*(i:Int):=E1h (by omega) (by omega)
  have w1:af.wrap (2*(i:Int)+1)=2*(i:Int)+1:=E1h (by omega) (by omega)
  have w2:af.wrap (2*(i:Int)+2)=2*(i:Int)+2:=E1h (by omega) (by omega)
  have w3:af.wrap ((n:Int)-1)=((n-1:Nat):Int):=by rw[E1h (by omega) (by omega)];omega
  have w4:af.wrap (((n-1:Nat):Int)-(i:Int))=((n-1-i:Nat):Int):=by rw[E1h (by omega) (by omega)];omega
  have w5:af.wrap (2*(i:Int)+1+if a.testBit (n-1-i) then 1 else 0)=2*(i:Int)+1+if a.testBit (n-1-i) then 1 else 0:=by
   cases a.testBit (n-1-i)
   . simp only[aI,if_false];exact E1h (by omega) (by omega)
   . simp only[if_true];exact E1h (by omega) (by omega)
  have w6:=iQ (show i<9223372036854775807 by omega)
  have hb:=E4S (m:=a) (i:=n-1-i) (by omega) (by omega)
  have b1:cQ ((2*i+2)*8) 140737488355328=true:=jE (by omega)
  have b2:cQ ((i+1)*24) 140737488355328=true:=jE (by omega)
  have b3:cQ ((i+1)*8) 140737488355328=true:=jE (by omega)
  have t1:aP (2*i) (vP i)=vP i:=a6 (by rw[E4o];exact ay _)
  have t2:aP i (eP i)=eP i:=a6 (by rw[E4r];exact ay _)
  have t3:aP i (E4p n a i)=E4p n a i:=a6 (by rw[E4s];exact ay _)
  simp only[E4m,eg,decide_true,cond_true,beq_self_eq_true,E4o,E4r,E4s,jE (ay _),b1,b2,b3,t1,t2,t3,w0,w1,w2,w3,w4,w5,w6,hb,aq,aR,List.length_cons,List.length_nil,←E4M,←E4N,←E4t,Nat.mul_add,Nat.mul_one,bS,Nat.reduceAdd]) (by
  simp only[E4m,ba,decide_false,cond_false])
 exact key
theorem BP {n:Nat}(hn:n<=20):PB (vP n) (eP n) where
 H:=Go.Hg.HP hn
 G:=Go.Hg.GP n
 el:=λe he=>by rw[Go.Hg.aDW he];omega
 sm:=λk hk=>by
  rw[Go.Hg.aDR] at hk;rw[Go.Hg.aDO hk,Go.Hg.aDS hk,Go.Hg.aDT];decide
 pr:=λj=>by
  rw[Go.Hg.aDG,List.take_replicate,Go.Hg.aDH];exact dF (ez (by decide) (show min j n<=20 by omega)) (by decide)
theorem E4B:B9g (vP 21,eP 21)=some 3:=by
 unfold B9g;have h:(((vP 21).length:Int)>40):=by rw[E4o];decide
 simp only[B6w (v:=vP 21) (es:=eP 21) (by rw[E4o];decide) (λe he=>by rw[Go.Hg.aDW he];omega),ai,Go.Hg.aDQ 21 (by decide),bO,cond_false,h,decide_true,cond_true]
theorem D9y {K A:Nat}(hK:K<256)(hA:A<4294967296):E4n ((K:Int),(A:Int))=some true:=by
 have hn:K%22<22:=aDF _ (by decide)
 have e1:((K:Int)).tmod 22=((K%22:Nat):Int):=rfl;have e2:af.wrap ((K%22:Nat):Int)=((K%22:Nat):Int):=E1h (by omega) (by omega)
 unfold E4n;simp only[e1,e2];generalize K%22=n at *
 have hp:(2:Nat) ^ n<=2 ^ 21:=ez (by decide) (by omega)
 have Mb:=fD n;have e3:qZ .i64 1 (n:Int)=((2 ^ n:Nat):Int):=by
  have:=D81 (m:=1) (i:=n) (by omega) (by rw[mQ];exact eU hp (by decide))
  rw[mQ] at this;exact this
 have e4:af.wrap (A:Int)=(A:Int):=E1h (by omega) (by omega)
 have e5:((A:Int)).tmod ((2 ^ n:Nat):Int)=((A%2 ^ n:Nat):Int):=rfl;have e6:(((2 ^ n:Nat):Int) != 0)=true:=by rw[bne_iff_ne];omega
 have ha:A%2 ^ n<2 ^ n:=aDF _ Mb;simp only[ai,bO,cond_false,aq,decide_true,cond_true,e3,e4,e5,e6];generalize A%2 ^ n=a at *
 have Ml:a<4294967296:=by
  have:(2:Nat) ^ 21=2097152:=by decide
  omega
 have t1:aP (2*n) (vP n)=vP n:=a6 (by rw[E4o];exact ay _)
 have t2:aP n (eP n)=eP n:=a6 (by rw[E4r];exact ay _)
 have t3:aP n (E4p n a n)=E4p n a n:=a6 (by rw[E4s];exact ay _)
 simp only[E4C hn Ml,ai,E4o,E4r,jE (ay _),cond_true,t1,t2,aq,decide_true,e3];by_cases h:n<=20
 . have B:=BP h;have hv:=Go.Hg.aDQ n hn;have hc:=Go.Hg.aDU n;have g1:¬ ((n:Int)>20):=by omega
   obtain⟨s,hs,hw⟩:=Go.Hg.aD5 ha;have eC:a<(D4P (vP n) (eP n)).length:=by rw[hc];exact ha
   rw[ah eC,aa] at hs;have p1:(0:Int)<=(a:Int)∧((a:Int)).toNat<(D4P (vP n) (eP n)).length:=⟨by omega,eC⟩
   have p2:¬((0:Int)<=((2 ^ n:Nat):Int)∧(((2 ^ n:Nat):Int)).toNat<(D4P (vP n) (eP n)).length):=by rw[hc,ar];omega
   have q1:=E38 B hv (a:Int);rw[dif_pos p1] at q1;have q2:=E38 B hv ((2 ^ n:Nat):Int);rw[dif_neg p2] at q2;have e7:idsP (vP n) ((D4P (vP n) (eP n))[((a:Int)).toNat]'p1.2)=E4p n a n:=by
    have:(D4P (vP n) (eP n))[((a:Int)).toNat]'p1.2=s:=hs
    rw[this];exact hw
   rw[e7] at q1;simp only[E3w B hv,q1,q2,hc,ai,g1,decide_false,cond_false,beq_self_eq_true,cond_true,E4s,jE (ay _),t3,C7z (show (E4p n a n).length<=1000000 by rw[E4s];omega),decide_true]
 . have:n=21:=by omega
   subst this;have c1:E1r (vP 21,eP 21)=some (0,3):=by
    simp only[E1r,E4B,ai];rfl
   have c2:∀i:Int,E1l ((vP 21,eP 21),i)=some ([],3):=λi=>by
    simp only[E1l,E4B,ai];rfl
   simp only[c1,c2,ai];rfl
theorem E4O {x:Int}(h:(Lit.int .u32 x).wf=true):0<=x∧x<=4294967295:=by
 simp only[Lit.wf,aj,decide_eq_true_eq] at h;have h1:cG.min=0:=rfl;have h2:cG.max=4294967295:=rfl;rw[h1,h2] at h;exact h
theorem E4G (k i:Int)(h1:(Lit.int .u8 k).wf=true)(h2:(Lit.int .u32 i).wf=true):E4n (k,i)=some true:=by
 have hk:=E3i h1;have hi:=E4O h2;obtain⟨K,rfl⟩:=eB hk.1;obtain⟨A,rfl⟩:=eB hi.1;exact D9y (by omega) (by omega)
end Go.Mid
