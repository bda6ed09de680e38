/- The conflict graphs of the program: searches in ascending lists, independent and maximal sets. -/
import Derived.Test.YtngcamcnkfkmdaaT2
import Derived.Test.YtngcamcnkfkmdaaT4
set_option linter.unusedSimpArgs false
set_option linter.unusedVariables false
open Bool renaming and_eq_true → aj, false_eq_true → aI, eq_iff_iff → c6, beq_comm → au0, not_true → bO, true_and → dm, false_or → gL, not_false → ej
open Go.IntKind renaming i64 → af, u64 → aK, wrap → ie, bits → gu, signed → fe, u32 → cG, u8 → dp
open Int renaming natCast_nonneg → aq, toNat_natCast → ar, not_lt → yn, lt_irrefl → ba, natCast_zero → b7, natCast_mul → r8, le_trans → azG, eq_ofNat_of_zero_le → eB
open List renaming length_tail → kT, getElem_tail → mR, getD_eq_getElem?_getD → bh, getElem?_eq_getElem → ah, getElem?_eq_none_iff → mC, mem_iff_getElem → eA, getElem_mem → aM, not_any_eq_all_not → j0, take_nil → gH, nil_append → a7, take_length → dM, take_of_length_le → a6, drop_length → eS, drop_eq_getElem_cons → bY, drop_eq_nil_of_le → nP, drop_zero → fh, mem_or_eq_of_mem_set → bx, zipIdx_append → p8, filter_append → s8, map_append → b9, length_take → aW, length_map → aB, length_filter_le → dt, mem_of_getElem? → bH, range → bA, foldl_append → iK, mem_append → az, mem_singleton → aX, getElem?_set_ne → fg, any_cons → gK, length_zip → sd, zipIdx_cons → ji, length_pos_iff → gQ, any_eq_false → gA, getElem?_map → aL, any_eq_true → fV, length_append → aR, length_range → ku, length_singleton → dN, map_cons → aF, map_nil → cr, foldl_cons → jM, ext_getElem? → fy, getElem?_eq_none → bJ, take → aP, drop → uC, replicate → au, map_congr_left → eJ, map → fp, map_id → wR, mem_filter → cZ, map_set → gw
open Nat renaming zero_add → bS, sub_zero → gv, add_sub_cancel → dT, lt_or_eq_of_le → mg, le_refl → ay, mod_eq_of_lt → eQ, add_zero → dG, le_of_eq → e7, zero_le → dg, min_eq_left → cX, le_of_lt → fH, le_trans → dF, pow_le_pow_right → ez, one_shiftLeft → mQ, zero_testBit → eT, eq_of_testBit_eq → jc, or_lt_two_pow → fA, two_pow_pos → fD, testBit_shiftLeft → auP, testBit_two_pow_sub_one → iJ, min_eq_right → jk, blt → cP, ble → cQ, mul_comm → azF, testBit_or → fj, mul_zero → azH, le_mul_of_pos_right → gW, pos_of_ne_zero → ew
open Option renaming getD_some → bI, bind_some → ai
open Option.some renaming injEq → aa
open Sum renaming elim_inr → lS
namespace Go.Mid
open Go.Hg (asc A0A free A5O A09)
theorem Av {n:Nat}(h:1<=n)(h':n<=9223372036854775807):af.wrap ((n:Int)-1)=((n-1:Nat):Int):=by rw[E1h (by omega) (by omega)];omega
theorem C5U {l:List Int}:asc l=true↔∀j (h:j+1<l.length),l[j]<l[j+1]:=by
 constructor
 . intro h j hj;exact Go.Hg.jF h (Nat.lt_succ_self j) hj
 . intro h
   induction l with
   |nil=>rfl
   |cons a r ih =>
     cases r with
     |nil=>rfl
     |cons b r =>
       simp only[asc,aj,decide_eq_true_eq];refine⟨h 0 (by simp),ih λj hj=>?_⟩
       have:=h (j+1) (by simpa using hj)
       simpa only[List.getElem_cons_succ] using this
theorem C35 {f:List Int×Int->Option (List Int×Int ⊕ Bool ⊕ PUnit)}(l:List Int)
 (hs:∀i (h:i+1<l.length),f (l,((i+1:Nat):Int))=if decide (l[i+1]<=l[i]) then some (.inr (.inl false)) else some (.inl (l,((i+2:Nat):Int))))
 (he:∀i:Nat,l.length<=i->f (l,(i:Int))=some (.inr (.inr ()))) :
 ((dk f (l,(1:Int))).bind λu=>Sum.elim (λv=>some v) (λ_=>some true) u)=some (asc l):=by
 have key:=Ma (f:=f) l.tail (λi=>(l,((i+1:Nat):Int))) (λi x=>decide (x<=l.getD i 0)) (λ_=>.inl false) (.inr ()) (λi hi=>by
  have eg:i+1<l.length:=by rw[kT] at hi;omega
  have e1:l.tail[i]=l[i+1]:=by rw[mR]
  have e2:l.getD i 0=l[i]:=by rw[bh,ah (by omega)];rfl
  rw[hs i eg,e1,e2]) (he _ (by rw[kT];omega))
 have key:dk f (l,(1:Int))=_:=key;rw[key];cases hf:tm (λi x=>decide (x<=l.getD i 0)) l.tail 0 with
 |none =>
   rw[V5] at hf
   have:asc l=true:=C5U.2 λj hj=>by
    have h1:=hf j (by rw[kT];omega)
    rw[mR,bS,bh,ah (by omega)] at h1
    simpa using h1
   rw[this];rfl
 |some k =>
   obtain⟨_,h2,⟨h3,h4⟩,_⟩:=V6 hf
   have:asc l=false:=by
    cases hc:asc l with
    |false=>rfl
    |true =>
      have hk:k+1<l.length:=by rw[kT] at h2;omega
      have h5:=C5U.1 hc k hk;simp only[gv,mR,bh,ah (show k<l.length by omega),bI,decide_eq_true_eq] at h4
      omega
   rw[this];rfl
theorem Xl {l:List Int}(hl:l.length<=1000000):Jg l=some (asc l):=by
 unfold Jg;refine C35 l (λi h=>?_) (λi h=>?_)
 . have h':((i+1:Nat):Int)<(l.length:Int):=by omega
   simp only [Wu,h',decide_true,cond_true,aq,ar,ah h,ai,Av (show 1<=i+1 by omega) (by omega),
    dT,ah (show i<l.length by omega),iQ (show i+1<9223372036854775807 by omega)]
   by_cases c:l[i+1]<=l[i]
   . simp only[c,decide_true,cond_true,if_true]
   . simp only[c,decide_false,cond_false,aI,if_false]
 . have h':¬ ((i:Int)<(l.length:Int)):=by omega
   simp only[Wu,h',decide_false,cond_false]
theorem D02 {n:Nat}(h:n<9223372036854775808):af.wrap (jK .u64 (aK.wrap (af.wrap (n:Int))) 1)=((n / 2:Nat):Int):=by
 have e1:af.wrap (n:Int)=n:=Qn (by omega)
 have e2:aK.wrap (n:Int)=n:=by simp only[ie,gu,fe];simp;omega
 have e3:jK .u64 (n:Int) 1=(n:Int).fdiv 2:=rfl;rw[e1,e2,e3,Int.fdiv_eq_ediv_of_nonneg _ (by omega),show ((n:Int) / 2)=((n / 2:Nat):Int) by omega,Qn (by omega)]
theorem D6C (x y:Int):Qu (x,y)=some (decide (x<y)):=by
 simp[Qu,HB]
theorem D03 {i j:Nat}(h:i+j<9223372036854775808):af.wrap (jK .u64 (aK.wrap (af.wrap ((i:Int)+(j:Int)))) 1)=(((i+j) / 2:Nat):Int):=by
 rw[←D02 h];rfl
structure Place (l:List Int)(y:Int)(i:Nat):Prop where
 le:i<=l.length
 lo:∀k (h:k<l.length),k<i->l[k]<y
 hi:∀k (h:k<l.length),i<=k->y<=l[k]
theorem C4U {l:List Int}(ha:asc l=true)(hl:l.length<=1000000)(y:Int):∃i:Nat,dk Mo (l,y,(l.length:Int),0,(l.length:Int))=some (l,y,(l.length:Int),(i:Int))∧Place l y i:=by
 obtain ⟨b,hb,i,rfl,hp⟩:=C8K (f:=Mo)
  (λa=>∃i j:Nat,a=(l,y,(l.length:Int),(i:Int),(j:Int))∧i<=j∧j<=l.length∧(∀k (h:k<l.length),k<i->l[k]<y)∧(∀k (h:k<l.length),j<=k->y<=l[k]))
  (λb=>∃i:Nat,b=(l,y,(l.length:Int),(i:Int))∧Place l y i) (λa=>(a.2.2.2.2-a.2.2.2.1).toNat) (by
    rintro a ⟨i,j,rfl,gM,hj,h1,h2⟩;by_cases c:i<j
    . left;have c':(i:Int)<(j:Int):=by omega
      have hm:(i+j) / 2<l.length:=by omega
      simp only[Mo,c',decide_true,cond_true,D03 (show i+j<9223372036854775808 by omega),aq,ar,ah hm,ai,D6C]
      by_cases d:l[(i+j) / 2]<y
      . simp only [d,decide_true,cond_true,iQ (show (i+j) / 2<9223372036854775807 by omega)]
        refine⟨_,rfl,⟨(i+j) / 2+1,j,rfl,by omega,hj,λk hk Dp=>?_,h2⟩,by show ((j:Int)-(((i+j) / 2+1:Nat):Int)).toNat<((j:Int)-(i:Int)).toNat;omega⟩
        rcases mg (Nat.le_of_lt_succ Dp) with h | h
        . exact Int.lt_trans (Go.Hg.jF ha h hm) d
        . subst h;exact d
      . simp only [d,decide_false,cond_false];refine ⟨_,rfl,⟨i,(i+j) / 2,rfl,by omega,by omega,h1,λk hk Dp=>?_⟩,by show ((((i+j) / 2:Nat):Int)-(i:Int)).toNat<((j:Int)-(i:Int)).toNat;omega⟩
        rcases mg Dp with h | h
        . exact Int.le_of_lt (Int.lt_of_le_of_lt (yn.1 d) (Go.Hg.jF ha h hk))
        . subst h;exact yn.1 d
    . right;have c':¬ ((i:Int)<(j:Int)):=by omega
      obtain rfl:i=j:=by omega
      simp only[Mo,c',decide_false,cond_false];exact⟨_,rfl,i,rfl,hj,h1,h2⟩) (l,y,(l.length:Int),0,(l.length:Int)) ⟨0,l.length,rfl,by omega,ay _,λk _ hk=>by omega,λk h hk=>by omega⟩
 exact⟨i,hb,hp⟩
theorem Place.found {l:List Int}{y:Int}{i:Nat}(ha:asc l=true)(hp:Place l y i):l.contains y=(match l[i]? with | some x=>x==y | none=>false):=by
 cases hc:l[i]? with
 |none =>
   have hi:l.length<=i:=mC.1 hc
   have:¬y∈l:=λhm=>by
    obtain⟨k,hk,rfl⟩:=eA.1 hm
    have:=hp.lo k hk (by omega);omega
   simp[this]
 |some x =>
   obtain⟨hi,rfl⟩:=List.getElem?_eq_some_iff.1 hc;apply c6.2;rw[List.contains_iff_mem,beq_iff_eq];constructor
   . intro hm;obtain ⟨k,hk,rfl⟩:=eA.1 hm;have h1:¬ k<i:=λh=>by have:=hp.lo k hk h;omega
     by_cases h2:k=i
     . subst h2;rfl
     . have h3:=hp.hi i hi (ay _);have h4:=Go.Hg.jF ha (show i<k by omega) hk
       omega
   . intro e;rw[←e];exact aM hi
theorem Xm {l:List Int}(ha:asc l=true)(hl:l.length<=1000000)(y:Int):∃i:Nat,Jh (l,y)=some ((i:Int),l.contains y)∧Place l y i:=by
 obtain⟨i,h1,hp⟩:=C4U ha hl y;refine⟨i,?_,hp⟩;rw[hp.found ha];unfold Jh;simp only;rw[h1];simp only[ai];by_cases c:i<l.length
 . have c':(i:Int)<(l.length:Int):=by omega
   simp only[c',decide_true,cond_true,aq,ar,ah c,ai];by_cases d:l[i]=y
   . simp[d]
   . have d':(l[i]==y)=false:=by simpa using d
     simp only[d',cond_false,Qv,ai,bne_self_eq_false]
 . have c':¬ (i:Int)<(l.length:Int):=by omega
   simp only[c',decide_false,cond_false,mC.2 (Nat.not_lt.1 c)]
theorem Rh {l part:List Int}(ha:asc l=true)(hl:l.length<=1000000)(hp:part.length<=1000000):HC (l,part)=some (A0A part l):=by
 have key:=wo (f:=Qw) part (λi=>(l,part,(part.length:Int),(i:Int))) (λy=>!l.contains y) (.inl false) (.inr ()) (λi hi=>by
  have eg:(i:Int)<(part.length:Int):=by omega
  obtain⟨j,h1,_⟩:=Xm ha hl part[i];simp only[Qw,eg,decide_true,cond_true,aq,ar,ah hi,ai,h1,iQ (show i<9223372036854775807 by omega)]
  cases l.contains part[i]<;>rfl) (by
  simp only[Qw,ba,decide_false,cond_false])
 simp only[b7] at key;unfold HC;simp only;rw[key];unfold A0A;have e:(part.all λx=>l.contains x)=!(part.any λy=>!l.contains y):=by rw[j0];simp
 rw[e];cases part.any λy=>!l.contains y<;>rfl
end Go.Mid
namespace Go.Mid
open Go.Hg (asc A0A free A5O A09 before bef A4q)
theorem E34 {m i:Nat}(hi:i<=64)(hm:m<9223372036854775808):(pL .i64 (jK .i64 (m:Int) (i:Int)) 1==1)=m.testBit i:=by
 rw[D4S (k:=.i64) hi];have h1:m >>> i<=m:=Nat.shiftRight_le m i;have hb:(2:Nat) ^ af.bits=18446744073709551616:=by decide
 have key:pL .i64 ((m >>> i:Nat):Int) ((1:Nat):Int)=af.wrap (((m >>> i) &&& 1:Nat):Int):=by
  unfold pL;rw[JI,JI,BitVec.toNat_and,BitVec.toNat_ofNat,BitVec.toNat_ofNat,eQ (show m >>> i<2 ^ af.bits by omega),eQ (show 1<2 ^ af.bits by omega)]
 have key:pL .i64 ((m >>> i:Nat):Int) 1=_:=key;rw[key,C5S,Nat.testBit_shiftRight,dG];cases m.testBit i<;>rfl
theorem Xn {α:Type}(l:List α)(p:α->Bool):(l.all p)=!(l.any λx=>!p x):=by rw[j0];simp
theorem Xo {l:List Int}(hl:l.length<=1000000):JC l=some (asc l):=by
 unfold JC;refine C35 l (λi h=>?_) (λi h=>?_)
 . have h':((i+1:Nat):Int)<(l.length:Int):=by omega
   simp only [WJ,h',decide_true,cond_true,aq,ar,ah h,ai,Av (show 1<=i+1 by omega) (by omega),
    dT,ah (show i<l.length by omega),iQ (show i+1<9223372036854775807 by omega)]
   by_cases c:l[i+1]<=l[i]
   . simp only[c,decide_true,cond_true,if_true]
   . simp only[c,decide_false,cond_false,aI,if_false]
 . have h':¬ ((i:Int)<(l.length:Int)):=by omega
   simp only[WJ,h',decide_false,cond_false]
theorem B9l {l:List Int}(hl:l.length<=1000000)(y:Int):Jj (l,y)=some (l.contains y):=by
 have key:=wo (f:=QB) l (λi=>(l,y,(i:Int))) (λx=>x==y) (.inl true) (.inr ()) (λi hi=>by
  have eg:(i:Int)<(l.length:Int):=by omega
  simp only[QB,eg,decide_true,cond_true,aq,ar,ah hi,ai,iQ (show i<9223372036854775807 by omega)]
  cases l[i]==y<;>rfl) (by
  simp only[QB,ba,decide_false,cond_false])
 simp only[b7] at key;unfold Jj;simp only;rw[key];have e:(l.any λx=>x==y)=l.contains y:=by rw[List.contains_eq_any_beq];congr 1;funext x;exact au0
 rw[e];cases l.contains y<;>rfl
theorem B9m {l:List Int}(hl:l.length<=1000000)(y:Int):Mt (l,y)=some (l.contains y):=by
 unfold Mt;simp only[B9l hl,ai]
theorem A6P {a b:List Int}(ha:a.length<=1000000)(hb:b.length<=1000000):Fy (a,b)=some (A0A a b):=by
 have key:=wo (f:=QC) a (λi=>(a,b,(i:Int))) (λx=>!b.contains x) (.inl false) (.inr ()) (λi hi=>by
  have eg:(i:Int)<(a.length:Int):=by omega
  simp only[QC,eg,decide_true,cond_true,aq,ar,ah hi,ai,B9m hb,iQ (show i<9223372036854775807 by omega)]
  cases b.contains a[i]<;>rfl) (by
  simp only[QC,ba,decide_false,cond_false])
 simp only[b7] at key;unfold Fy;simp only;rw[key];unfold A0A;rw[Xn];cases a.any λy=>!b.contains y<;>rfl
theorem B6Z {v:List Int}{es:List (List Int)}{l:List Int}(ne:es.length<=1000000)(el:∀e∈es,e.length<=1000000)(hl:l.length<=1000000):Nd ((v,es),l)=some (free es l):=by
 have key:=wo (f:=Q5) es (λi=>((l,(i:Int)),v,es)) (λe=>A0A e l) (.inl false) (.inr ()) (λi hi=>by
  have eg:(i:Int)<(es.length:Int):=by omega
  simp only[Q5,eg,decide_true,cond_true,aq,ar,ah hi,ai,A6P (el _ (aM hi)) hl,iQ (show i<9223372036854775807 by omega)]
  cases A0A es[i] l<;>rfl) (by
  simp only[Q5,ba,decide_false,cond_false])
 simp only[b7] at key;unfold Nd;simp only;rw[key];unfold free;cases es.any λe=>A0A e l<;>rfl
theorem B5S {v:List Int}{es:List (List Int)}{l:List Int}(nv:v.length<=1000000)(ne:es.length<=1000000)(el:∀ e∈es,e.length<=1000000)(hl:l.length<=1000000) :
 Q6 ((v,es),l)=some (A5O v es l):=by
 unfold Q6 A5O;simp only[Xo hl,ai,A6P hl nv,B6Z ne el hl];cases asc l<;>cases A0A l v<;>rfl
theorem C0o {v:List Int}{es:List (List Int)}{l:List Int}(nv:v.length<=100000)(ne:es.length<=1000000)(el:∀ e∈es,e.length<=1000000)(hl:l.length<=100000) :
 Nf ((v,es),l)=some (A09 v es l):=by
 unfold Nf A09;simp only[B5S (show v.length<=1000000 by omega) ne el (show l.length<=1000000 by omega),ai]
 cases hi:A5O v es l with
 |false=>rfl
 |true =>
   simp only[bO,cond_false,dm];have key:=wo (f:=Q7) v (λi=>((l,(i:Int)),v,es)) (λx=>!(l.contains x || !free es (l++[x]))) (.inl false) (.inr ()) (λi hi=>by
    have eg:(i:Int)<(v.length:Int):=by omega
    have hlen:(l++[v[i]]).length=l.length+1:=by simp
    simp only [Q7,eg,decide_true,cond_true,aq,ar,ah hi,ai,B9m (show l.length<=1000000 by omega),iQ (show i<9223372036854775807 by omega),
     bS,gH,a7,jE (ay _),jE (show l.length*8<=140737488355328 by omega),jE (show (l.length+1)*8<=140737488355328 by omega),dM,hlen,
     a6 (e7 hlen),B6Z ne el (show (l++[v[i]]).length<=1000000 by omega)]
    cases l.contains v[i]<;>cases free es (l++[v[i]])<;>rfl) (by
    simp only[Q7,ba,decide_false,cond_false])
   simp only[b7] at key;rw[key,Xn];cases v.any λx=>!(l.contains x || !free es (l++[x]))<;>rfl
theorem B4z {a b:List Int}(ha:a.length<=1000000):Jl (a,b)=some (before a b):=by
 have main:∀(k i:Nat),a.length-i=k->i<=a.length->dk Jk (a,b,(i:Int))=some (match bef (a.drop i) (b.drop i) with | some t=>.inl t | none=>.inr (a,b)):=by
  intro k
  induction k with
  |zero =>
    intro i hk hi;obtain rfl:i=a.length:=by omega
    refine qc ?_;simp only[Jk,ba,decide_false,cond_false,eS,bef]
  |succ k ih =>
    intro i hk hi;have h1:i<a.length:=by omega
    have vR:(i:Int)<(a.length:Int):=by omega
    rw[bY h1];by_cases h2:i<b.length
    . have sA:(i:Int)<(b.length:Int):=by omega
      rw[bY h2];simp only[bef];have st:Jk (a,b,(i:Int))=if a[i]=b[i] then some (.inl (a,b,((i+1:Nat):Int))) else some (.inr (.inl (decide (a[i]<b[i])))):=by
       simp only[Jk,vR,sA,decide_true,cond_true,aq,ar,ah h1,ah h2,ai,iQ (show i<9223372036854775807 by omega)]
       by_cases c:a[i]=b[i]
       . simp[c]
       . have c':(a[i] != b[i])=true:=by simpa using c
         simp only[c',cond_true,c,if_false]
      by_cases c:a[i]=b[i]
      . rw[if_pos c] at st;rw[vw st,ih (i+1) (by omega) (by omega),if_pos c]
      . rw[if_neg c] at st;rw[qc st,if_neg c]
    . have sA:¬ (i:Int)<(b.length:Int):=by omega
      have e:b.drop i=[]:=nP (by omega)
      rw[e];simp only[bef];refine qc ?_;simp only[Jk,vR,sA,decide_true,decide_false,cond_true,cond_false]
 have key:=main a.length 0 (by omega) (dg _)
 simp only[b7,fh] at key;unfold Jl before;simp only;rw[key];cases bef a b with
 |some t=>rfl
 |none=>simp
theorem D70 {X:Type}(x0:X)(n b:Nat)(c:Int){f:(Nat×Int×Int)×X×List (List Int)->Option ((Nat×Int×Int)×X×List (List Int) ⊕ (Nat×Int)×X×List (List Int))}
 (hf:∀k out,out.length=n->(∀x∈out,x.length<=1000000)->∀(h:k+1<out.length),f ((n,c,((k+1:Nat):Int)),x0,out)=if before out[k+1] out[k] then some (.inl ((n,c,(k:Int)),x0,(out.set (k+1) out[k]).set k out[k+1])) else some (.inr ((n,c),x0,out)))
 (h0:∀out,f ((n,c,0),x0,out)=some (.inr ((n,c),x0,out))):∀(k:Nat) (out:List (List Int)),k<out.length->out.length=n->(∀x∈out,x.length<=1000000)->dk f ((n,c,(k:Int)),x0,out)=some ((n,c),x0,A4q k out)
 |0,out,_,_,_=>by
   refine qc ?_;exact h0 out
 |k+1,out,hk,hn,hb=>by
   have e1:out[k+1]?=some out[k+1]:=ah hk;have e2:out[k]?=some out[k]:=ah (by omega)
   have st:=hf k out hn hb hk;unfold A4q;simp only[e1,e2];by_cases c:before out[k+1] out[k]=true
   . rw [if_pos c] at st;rw [if_pos c,vw st];refine D70 x0 n b _ hf h0 k _ (by simp;omega) (by simpa using hn) ?_
     intro x hx;rcases bx hx with h | h
     . rcases bx h with h | h
       . exact hb x h
       . rw[h];exact hb _ (aM _)
     . rw[h];exact hb _ (aM _)
   . rw[if_neg c] at st;rw[if_neg c,qc st]
theorem B9n {A B:Type}{f:A->Option (A ⊕ B)}(st:Nat->List (List Int)->A)(fin:List (List Int)->B)(n:Nat)
 (hf:∀k out,out.length=n->(∀x∈out,x.length<=1000000)->∀(h:k+1<out.length),f (st (k+1) out)=if before out[k+1] out[k] then some (.inl (st k ((out.set (k+1) out[k]).set k out[k+1]))) else some (.inr (fin out)))
 (h0:∀out,f (st 0 out)=some (.inr (fin out))):∀(k:Nat) (out:List (List Int)),k<out.length->out.length=n->(∀x∈out,x.length<=1000000)->dk f (st k out)=some (fin (A4q k out))
 |0,out,_,_,_=>qc (h0 out)
 |k+1,out,hk,hn,hb=>by
   have e1:out[k+1]?=some out[k+1]:=ah hk;have e2:out[k]?=some out[k]:=ah (by omega)
   have Ri:=hf k out hn hb hk;unfold A4q;simp only[e1,e2];by_cases c:before out[k+1] out[k]=true
   . rw [if_pos c] at Ri;rw [if_pos c,vw Ri];refine B9n st fin n hf h0 k _ (by simp;omega) (by simpa using hn) ?_
     intro x hx;rcases bx hx with h | h
     . rcases bx h with h | h
       . exact hb x h
       . rw[h];exact hb _ (aM _)
     . rw[h];exact hb _ (aM _)
   . rw[if_neg c] at Ri;rw[if_neg c,qc Ri]
theorem C9c {v:List Int}{i:Nat}(hi:i<v.length)(b:Nat):Go.Hg.idsP (v.take (i+1)) b=Go.Hg.idsP (v.take i) b++if b.testBit i then[v[i]] else[]:=by
 unfold Go.Hg.idsP;rw[vz hi,p8,s8,b9];congr 1;simp only[List.zipIdx_singleton,aW,bS,cX (fH hi)];cases hb:b.testBit i<;>simp[hb]
theorem D05 (v:List Int)(b:Nat):(Go.Hg.idsP v b).length<=v.length:=by
 unfold Go.Hg.idsP;rw[aB];refine dF (dt _ _) ?_;simp
theorem C36 (k:Nat)(out:List (List Int)):(A4q k out).length=out.length:=Go.Hg.oB k out
theorem C37:∀ (k:Nat) (out:List (List Int)) (x:List Int),x∈A4q k out->x∈out
 |0,out,x,h=>h
 |k+1,out,x,h=>by
   unfold A4q at h;split at h
   . rename_i y z h1 h2;split at h
     . have:=C37 k _ x h
       rcases bx this with h | h
       . rcases bx h with h | h
         . exact h
         . rw[h];exact bH h2
       . rw[h];exact bH h1
     . exact h
   . exact h
section
variable {v:List Int}{es:List (List Int)}(nv:v.length<=20)(ne:es.length<=1000000)(el:∀e∈es,e.length<=1000000)
def D7l (v:List Int)(es:List (List Int))(b:Nat):List (List Int):=(bA b).foldl (Go.Hg.auN v es) []
theorem D7I (b:Nat):D7l v es (b+1)=Go.Hg.auN v es (D7l v es b) b:=by
 unfold D7l;rw[List.range_succ,iK];rfl
theorem D8I (b:Nat):(D7l v es b).length<=b∧∀x∈D7l v es b,x.length<=v.length:=by
 induction b with
 |zero=>exact⟨ay _,λx hx=>by cases hx⟩
 |succ b ih =>
   rw[D7I];unfold Go.Hg.auN;split
   . refine ⟨by rw [C36];simp;omega,λx hx=>?_⟩
     rcases az.1 (C37 _ _ x hx) with h | h
     . exact ih.2 x h
     . simp only[aX] at h;subst h;exact D05 v b
   . exact⟨by omega,ih.2⟩
include nv in
theorem D88 (c:Nat)(b:Nat)(kE:b<9223372036854775808)(out:List (List Int)):dk E02 ((c,(b:Int),0,0),(v,es),out,[])=some ((c,(b:Int),(Go.Hg.idsP v b).length),(v,es),out,Go.Hg.idsP v b):=by
 have key:=tQ (f:=E02) v.length (λi=>((c,(b:Int),(Go.Hg.idsP (v.take i) b).length,(i:Int)),(v,es),out,Go.Hg.idsP (v.take i) b)) ((c,(b:Int),(Go.Hg.idsP v b).length),(v,es),out,Go.Hg.idsP v b) (λi hi=>by
  have eg:(i:Int)<(v.length:Int):=by omega
  have hl:=D05 (v.take i) b;rw [aW] at hl;simp only [E02,eg,decide_true,cond_true,aq,ar,E34 (show i<=64 by omega) kE,ah hi,ai,iQ (show i<9223372036854775807 by omega),C9c hi,
   jE (ay _),jE (show ((Go.Hg.idsP (v.take i) b).length+1)*8<=140737488355328 by omega),pN]
  cases b.testBit i<;>simp) (by
  simp only[E02,ba,decide_false,cond_false,pN])
 exact key
include nv ne el in
theorem D7W:E09 (v,es)=some (Go.Hg.refR v es):=by
 have hp:(2:Nat) ^ v.length<=2 ^ 20:=ez (by decide) nv
 have h20:(2:Nat) ^ 20=1048576:=by decide
 have key:=tQ (f:=E03) (2 ^ v.length) (λb=>(((D7l v es b).length,(b:Int)),(v,es),D7l v es b)) ((D7l v es (2 ^ v.length)).length,D7l v es (2 ^ v.length)) (λb hb=>by
  have hs:qZ .i64 1 (v.length:Int)=((2 ^ v.length:Nat):Int):=by
   have:=D81 (m:=1) (i:=v.length) (by omega) (by rw[mQ];omega)
   rw[mQ] at this;exact this
  have gm:(b:Int)<((2 ^ v.length:Nat):Int):=by omega
  have hr:=D8I (v:=v) (es:=es) b;have Ef:=D05 v b;simp only [E03,aq,decide_true,cond_true,hs,gm,D88 nv _ _ (show b<9223372036854775808 by omega),ai,jE (ay _),pN,C0o (show v.length<=100000 by omega) ne el (show (Go.Hg.idsP v b).length<=100000 by omega),
   iQ (show b<9223372036854775807 by omega),D7I]
  unfold Go.Hg.auN;cases hm:A09 v es (Go.Hg.idsP v b) with
  |false=>simp
  |true =>
    have Aw:(D7l v es b++[Go.Hg.idsP v b]).length=(D7l v es b).length+1:=by simp
    have hw:af.wrap ((((D7l v es b).length+1:Nat):Int)-1)=((D7l v es b).length:Int):=by
     rw[Av (by omega) (by omega)];rfl
    have sk:=D70 (f:=E1d) (v,es) ((D7l v es b).length+1) 0 (b:Int) (λk out hn hx h=>by
     have Ic:((k+1:Nat):Int)>0:=by omega
     have e1:k+1<(D7l v es b).length+1:=by omega
     have e2:k<(D7l v es b).length+1:=by omega
     have e3:k<out.length:=by omega
     simp only [E1d,Ic,decide_true,cond_true,aq,ar,lB e1,lB e2,ah h,ah e3,ai,Av (show 1<=k+1 by omega) (by omega),dT,
      B4z (hx _ (aM h))]
     have e4:(out.set (k+1) out[k])[k]?=some out[k]:=by rw[fg (by omega),ah e3]
     rw[e4];cases before out[k+1] out[k]<;>simp) (λout=>by
     simp only[E1d,gt_iff_lt,ba,decide_false,cond_false]) (D7l v es b).length (D7l v es b++[Go.Hg.idsP v b]) (by rw[Aw];omega) Aw (λx hx=>by
     rcases az.1 hx with h | h
     . have:=hr.2 x h;omega
     . simp only[aX] at h;subst h;omega)
    simp only[bO,cond_false,cond_true,if_true,jE (show ((D7l v es b).length+1)*24<=140737488355328 by omega),hw,sk,ai,iQ (show b<9223372036854775807 by omega),C36,Aw]) (by
  have hs:qZ .i64 1 (v.length:Int)=((2 ^ v.length:Nat):Int):=by
   have:=D81 (m:=1) (i:=v.length) (by omega) (by rw[mQ];omega)
   rw[mQ] at this;exact this
  simp only[E03,aq,decide_true,cond_true,hs,ba,decide_false,cond_false])
 unfold E09;have key:dk E03 ((0,0),(v,es),[])=_:=key;rw[key];simp only[ai,jE (ay _),cond_true,pN];rfl
end
end Go.Mid
namespace Go.Mid
open Go.Hg (asc A0A free A5O A09 before PrV nbB A6j A4L A2B A2a A2l Run)
section
variable {A B α β:Type}{f:A->Option (A ⊕ B)}
end
theorem C9d:∀ {a b:List Int},a.length=b.length->((a.zip b).any λx=>x.1 != x.2)=!decide (a=b)
 | [],[],_=>rfl
 | [],_::_,h=>by simp at h
 |_::_,[],h=>by simp at h
 |x::a,y::b,h=>by
   have:=C9d (a:=a) (b:=b) (by simpa using h)
   simp only[List.zip_cons_cons,gK,this];by_cases c:x=y
   . simp[c]
   . simp[c]
theorem C7z {a b:List Int}(ha:a.length<=1000000):JA (a,b)=some (decide (a=b)):=by
 unfold JA;simp only;by_cases hn:a.length=b.length
 . have rV:((a.length:Int) != (b.length:Int))=false:=by simp [hn]
   rw[rV,cond_false];have key:=wo (f:=M0) (a.zip b) (λi=>(a,b,(i:Int))) (λx=>x.1 != x.2) (.inl false) (.inr ()) (λi hi=>by
    rw[sd] at hi;have Eg:i<a.length:=by omega
    have ot:i<b.length:=by omega
    have eg:(i:Int)<(a.length:Int):=by omega
    simp only[M0,eg,decide_true,cond_true,aq,ar,ah Eg,ah ot,ai,iQ (show i<9223372036854775807 by omega),List.getElem_zip]
    cases a[i] != b[i]<;>rfl) (by
    have:¬(((a.zip b).length:Int)<(a.length:Int)):=by rw[sd];omega
    simp only[M0,this,decide_false,cond_false])
   have key:dk M0 (a,b,0)=_:=key;rw[key];have e:=C9d hn;rw[e];cases decide (a=b)<;>rfl
 . have rV:((a.length:Int) != (b.length:Int))=true:=by
    rw[bne_iff_ne];omega
   rw[rV,cond_true]
   have:¬a=b:=λe=>hn (by rw[e])
   simp[this]
end Go.Mid
namespace Go.Mid
open Go.Hg (asc A0A free A5O A09 before bef A5Q A3W validH)
theorem D4V (x y:Int):Qx (x,y)=some (if x<y then -1 else if x>y then 1 else 0):=by
 unfold Qx HB;simp only[ai,bne_self_eq_false,cond_false];by_cases h1:x<y
 . simp[h1]
 . by_cases h2:x>y
   . simp[h1,h2]
   . simp[h1,h2]
theorem C7B {a b:List Int}(ha:a.length<=1000000):∃c:Int,Qy (a,b)=some c∧decide (c ≥ 0)=!before a b:=by
 have main:∀ (k i:Nat),a.length-i=k->i<=a.length->(∃ c:Int,dk Au (a,b,a,(a.length:Int),(i:Int))=some (.inl c)∧decide (c ≥ 0)=!(match bef (a.drop i) (b.drop i) with | some t=>t | none=>decide (a.length<b.length))) ∨
  (dk Au (a,b,a,(a.length:Int),(i:Int))=some (.inr (a,b))∧bef (a.drop i) (b.drop i)=none):=by
  intro k
  induction k with
  |zero =>
    intro i hk hi;obtain rfl:i=a.length:=by omega
    right;refine⟨qc ?_,by rw[eS];rfl⟩
    simp only[Au,ba,decide_false,cond_false]
  |succ k ih =>
    intro i hk hi;have h1:i<a.length:=by omega
    have vR:(i:Int)<(a.length:Int):=by omega
    rw[bY h1];by_cases h2:i<b.length
    . have sA:¬ (i:Int) ≥ (b.length:Int):=by omega
      rw[bY h2];simp only[bef];by_cases c:a[i]=b[i]
      . have st:Au (a,b,a,(a.length:Int),(i:Int))=some (.inl (a,b,a,(a.length:Int),((i+1:Nat):Int))):=by
         simp only[Au,vR,sA,decide_true,decide_false,cond_true,cond_false,aq,ar,ah h1,ah h2,ai,iQ (show i<9223372036854775807 by omega),D4V]
         simp[c]
        rw[vw st,if_pos c];exact ih (i+1) (by omega) (by omega)
      . left;have st:Au (a,b,a,(a.length:Int),(i:Int))=some (.inr (.inl (if a[i]<b[i] then -1 else 1))):=by
         simp only[Au,vR,sA,decide_true,decide_false,cond_true,cond_false,aq,ar,ah h1,ah h2,ai,D4V];by_cases d:a[i]<b[i]
         . simp[d]
         . have d2:a[i]>b[i]:=by omega
           simp[d,d2]
        refine⟨_,qc st,?_⟩;rw[if_neg c];by_cases d:a[i]<b[i]<;>simp[d]
    . left;have sA:(i:Int) ≥ (b.length:Int):=by omega
      have e:b.drop i=[]:=nP (by omega)
      have st:Au (a,b,a,(a.length:Int),(i:Int))=some (.inr (.inl 1)):=by
       simp only[Au,vR,sA,decide_true,cond_true,aq,ar,ah h1,ai]
      refine⟨1,qc st,?_⟩;rw[e];simp only[bef]
      have:¬a.length<b.length:=by omega
      simp[this]
 unfold Qy before;simp only;rcases main a.length 0 (by omega) (dg _) with⟨c,h1,h2⟩ | ⟨h1,h2⟩
 . have h1:dk Au (a,b,a,(a.length:Int),0)=_:=h1;rw[h1];exact⟨c,rfl,h2⟩
 . have h1:dk Au (a,b,a,(a.length:Int),0)=_:=h1;rw [h1];simp only [fh] at h2;rw [h2];by_cases d:a.length<b.length
   . refine⟨-1,by simp[d],by simp[d]⟩
   . refine⟨0,by simp[d],by simp[d]⟩
theorem B9o {α:Type}(p:Nat->α->Bool):∀ (l:List α) (i:Nat),(tm p l i).isSome=(l.zipIdx i).any λx=>p x.2 x.1
 | [],_=>rfl
 |x::r,i=>by
   simp only[tm,ji,gK];by_cases h:p i x=true
   . simp[h]
   . simp only[h,if_false,aI,gL];exact B9o p r (i+1)
theorem Nq {A B α:Type}{f:A->Option (A ⊕ B)}(l:List α)(st:Nat->A)(p:Nat->α->Bool)(b e:B)
 (h1:∀i (h:i<l.length),f (st i)=if p i l[i] then some (.inr b) else some (.inl (st (i+1)))) (h2:f (st l.length)=some (.inr e)) :
 dk f (st 0)=some (if(l.zipIdx.any λx=>p x.2 x.1) then b else e):=by
 rw[Ma l st p (λ_=>b) e h1 h2,←B9o p l 0]
 cases tm p l 0<;>rfl
section
variable {v:List Int}{es:List (List Int)}(nv:v.length<=1000000)(el:∀e∈es,e.length<=1000000)
include nv el
theorem B6w:Ms (v,es)=some (validH v es):=by
 unfold Ms validH;simp only[Xl nv,ai];cases ha:asc v with
 |false=>rfl
 |true =>
   simp only[bO,cond_false,dm];by_cases hn:es.length<=20000
   . have rV:¬ (es.length:Int)>20000:=by omega
     simp only[hn,rV,decide_true,decide_false,cond_false,dm];have k0:=Nq (f:=Mp) es (λi=>((es,(es.length:Int),(i:Int)),v,es)) (λi e=>!A5Q v es i e) (.inl false) (.inr (v,es)) (λi hi=>by
      have eg:(i:Int)<(es.length:Int):=by omega
      have hle:=el _ (aM hi);simp only[Mp,eg,decide_true,cond_true,aq,ar,ah hi,ai,Xl hle,Rh ha nv hle,iQ (show i<9223372036854775807 by omega)]
      unfold A5Q;by_cases h0:es[i]=[]
      . simp[h0]
      . have Db:((es[i].length:Int)==0)=false:=by
         rw[beq_eq_false_iff_ne]
         have:=gQ.2 h0
         omega
        have HJ:es[i].isEmpty=false:=by cases hc:es[i] with | nil=>exact absurd hc h0 | cons _ _=>rfl
        rw[Db,cond_false,HJ];cases asc es[i] with
        |false=>rfl
        |true =>
          cases A0A es[i] v with
          |false=>rfl
          |true =>
            simp only[bO,cond_false,ej,dm];by_cases hz:i=0
            . subst hz;simp
            . have hp:(i:Int)>0:=by omega
              have Co:(i==0)=false:=by simpa using hz
              obtain ⟨c,h1,h2⟩:=C7B (a:=es[i-1]) (b:=es[i]) (el _ (aM _));simp only [hp,decide_true,cond_true,Av (show 1<=i by omega) (by omega),aq,ar,ah (show i-1<es.length by omega),ai,h1,h2,Co,gL,
               bh,bI]
              cases before es[i-1] es[i]<;>simp) (by
      simp only[Mp,ba,decide_false,cond_false])
     have k0:dk Mp ((es,(es.length:Int),0),v,es)=_:=k0;rw[k0];cases hb:es.zipIdx.any λx=>!A5Q v es x.2 x.1 with
     |true=>rfl
     |false =>
       have kN:∀i (h:i<es.length),A5Q v es i es[i]=true:=by
        intro i hi
        have:=gA.1 hb (es[i],i) (Go.Hg.kY.2 ⟨hi,rfl⟩)
        simpa using this
       have q0:∀i (h:i<es.length),asc es[i]=true:=by
        intro i hi
        have:=kN i hi
        unfold A5Q at this;simp only[aj] at this;exact this.1.1.2
       have k2:∀i (h:i<es.length),dk Mq (((i:Int),es[i],es,(es.length:Int),(i:Int),es,(es.length:Int),0),v,es)=some (if A3W es i es[i] then .inl false else .inr ((es,(es.length:Int),(i:Int)),v,es)):=by
        intro i hi;have k:=Nq (f:=Mq) es (λk=>(((i:Int),es[i],es,(es.length:Int),(i:Int),es,(es.length:Int),(k:Int)),v,es)) (λk y=>k != i&&A0A y es[i]) (.inl false) (.inr ((es,(es.length:Int),(i:Int)),v,es)) (λk hk=>by
         have nq:(k:Int)<(es.length:Int):=by omega
         simp only[Mq,nq,decide_true,cond_true,aq,ar,ah hk,ai,Rh (q0 i hi) (el _ (aM hi)) (el _ (aM hk)),iQ (show k<9223372036854775807 by omega)]
         by_cases c:k=i
         . subst c;simp
         . have c':((i:Int) != (k:Int))=true:=by rw [bne_iff_ne];omega
           have c2:(k != i)=true:=by simpa using c
           rw[c',c2,cond_true];cases A0A es[k] es[i]<;>rfl) (by
         simp only[Mq,ba,decide_false,cond_false])
        exact k
       have k1:=Nq (f:=Mr) es (λi=>((es,(es.length:Int),(i:Int)),v,es)) (λi e=>A3W es i e) (.inl false) (.inr ()) (λi hi=>by
        have eg:(i:Int)<(es.length:Int):=by omega
        simp only[Mr,eg,decide_true,cond_true,aq,ar,ah hi,ai,k2 i hi,iQ (show i<9223372036854775807 by omega)]
        cases A3W es i es[i] with
        |true=>rfl
        |false=>simp[iQ (show i<9223372036854775807 by omega)]) (by
        simp only[Mr,ba,decide_false,cond_false])
       have k1:dk Mr ((es,(es.length:Int),0),v,es)=_:=k1;simp only[if_false,aI,ai,lS];rw[k1];cases es.zipIdx.any λx=>A3W es x.2 x.1<;>rfl
   . have rV:(es.length:Int)>20000:=by omega
     simp[hn,rV]
theorem C0p:Q3 (v,es)=some (validH v es):=by
 unfold Q3 validH;simp only[Xo nv,ai];cases ha:asc v with
 |false=>rfl
 |true =>
   simp only[bO,cond_false,dm];by_cases hn:es.length<=20000
   . have rV:¬ (es.length:Int)>20000:=by omega
     simp only[hn,rV,decide_true,decide_false,cond_false,dm];have k1:∀i (h:i<es.length),dk JD (((i:Int),0),v,es)=some (if A3W es i es[i] then .inl false else .inr ((i:Int),v,es)):=by
      intro i hi;have k:=Nq (f:=JD) es (λk=>(((i:Int),(k:Int)),v,es)) (λk y=>k != i&&A0A y es[i]) (.inl false) (.inr ((i:Int),v,es)) (λk hk=>by
       have nq:(k:Int)<(es.length:Int):=by omega
       simp only[JD,nq,decide_true,cond_true,aq,ar,ah hk,ah hi,ai,A6P (el _ (aM hk)) (el _ (aM hi)),iQ (show k<9223372036854775807 by omega)]
       by_cases c:k=i
       . subst c;simp
       . have c':((k:Int) != (i:Int))=true:=by rw [bne_iff_ne];omega
         have c2:(k != i)=true:=by simpa using c
         rw[c',c2,cond_true];cases A0A es[k] es[i]<;>rfl) (by
       simp only[JD,ba,decide_false,cond_false])
      exact k
     have k0:=Nq (f:=M6) es (λi=>((i:Int),v,es)) (λi e=>!A5Q v es i e || A3W es i e) (.inl false) (.inr ()) (λi hi=>by
      have eg:(i:Int)<(es.length:Int):=by omega
      have hle:=el _ (aM hi);simp only[M6,eg,decide_true,cond_true,aq,ar,ah hi,ai,Xo hle,A6P hle nv,k1 i hi,iQ (show i<9223372036854775807 by omega)]
      unfold A5Q;by_cases h0:es[i]=[]
      . simp[h0]
      . have Db:((es[i].length:Int)==0)=false:=by
         rw[beq_eq_false_iff_ne]
         have:=gQ.2 h0
         omega
        have HJ:es[i].isEmpty=false:=by cases hc:es[i] with | nil=>exact absurd hc h0 | cons _ _=>rfl
        rw[Db,cond_false,HJ];cases asc es[i] with
        |false=>rfl
        |true =>
          cases A0A es[i] v with
          |false=>rfl
          |true =>
            simp only[bO,cond_false,ej,dm];by_cases hz:i=0
            . subst hz;cases A3W es 0 es[0]<;>simp[iQ (show 0<9223372036854775807 by omega)]
            . have hp:(i:Int)>0:=by omega
              have Co:(i==0)=false:=by simpa using hz
              simp only [hp,decide_true,cond_true,Av (show 1<=i by omega) (by omega),aq,ar,ah (show i-1<es.length by omega),ai,B4z (el _ (aM (show i-1<es.length by omega))),Co,gL,
               bh,bI]
              cases before es[i-1] es[i] with
              |false=>rfl
              |true=>cases A3W es i es[i]<;>simp[iQ (show i<9223372036854775807 by omega)]) (by
      simp only[M6,ba,decide_false,cond_false])
     have k0:dk M6 (0,v,es)=_:=k0;rw[k0];have e:(es.zipIdx.any λx=>!A5Q v es x.2 x.1 || A3W es x.2 x.1)=((es.zipIdx.any λx=>!A5Q v es x.2 x.1) || (es.zipIdx.any λx=>A3W es x.2 x.1)):=by
      generalize es.zipIdx=L
      induction L with
      |nil=>rfl
      |cons x r ih =>
        simp only[gK,ih];cases A5Q v es x.2 x.1<;>cases A3W es x.2 x.1<;>simp
     rw[e];cases es.zipIdx.any λx=>!A5Q v es x.2 x.1<;>cases es.zipIdx.any λx=>A3W es x.2 x.1<;>rfl
   . have rV:(es.length:Int)>20000:=by omega
     simp[hn,rV]
end
end Go.Mid
namespace Go.Mid
open Go.Hg (asc A0A A09 B3h less A2w E1F A0t idsP C2g C3X C3Y E1s D01 D4P B9j validH HOk)
def jG (l:List Nat):List Int:=l.map λ(n:Nat)=>(n:Int)
@[simp] theorem CW (l:List Nat):(jG l).length=l.length:=by simp[jG]
theorem FF {l:List Nat}{i:Nat}(h:i<l.length):(jG l)[i]?=some ((l[i]:Nat):Int):=by
 unfold jG;rw[aL,ah h];rfl
theorem D06 (a b:List Nat):jG (a++b)=jG a++jG b:=by simp[jG]
theorem D7J {α:Type}(q:α->Bool):∀ (l:List α) (i:Nat),tm (λ_ x=>q x) l i=Go.Hg.idx q l i
 | [],_=>rfl
 |x::r,i=>by
   simp only[tm,Go.Hg.idx,D7J q r]
theorem D8W {v:List Int}(nv:v.length<=1000000){z:Int}(hz:z∈v):B28 (v,z)=some ((A0t v z:Nat):Int):=by
 have key:=Ma (f:=B1k) v (λi=>(v,z,(v.length:Int),(i:Int))) (λ_ x=>x==z) (λi=>.inl (i:Int)) (.inr ()) (λi hi=>by
  have eg:(i:Int)<(v.length:Int):=by omega
  simp only[B1k,eg,decide_true,cond_true,aq,ar,ah hi,ai,iQ (show i<9223372036854775807 by omega)]
  rw[au0];cases v[i]==z<;>rfl) (by
  simp only[B1k,ba,decide_false,cond_false])
 have key:dk B1k (v,z,(v.length:Int),0)=_:=key;unfold B28;simp only;rw[key];have h2:=Go.Hg.auM (· == z) v 0;have h3:v.any (· == z)=true:=fV.2 ⟨z,hz,by simp⟩
 rw[h3] at h2;rw[D7J (λx=>x==z)]
 unfold A0t;cases hk:Go.Hg.idx (λx=>x==z) v 0 with
 |none=>rw[hk] at h2;cases h2
 |some k=>rfl
theorem C4a {v e:List Int}(he:∀y∈e,y∈v):A2w v e<2 ^ v.length:=Go.Hg.xZ λi hi=>Go.Hg.wu he i hi
theorem D7r {m n:Nat}(h:m<2 ^ n)(hn:n<=40):m<2 ^ aK.bits:=Nat.lt_of_lt_of_le h (ez (by decide) (show n<=64 by omega))
theorem D78 {i:Nat}(hi:i<=40):qZ .u64 1 (i:Int)=((1 <<< i:Nat):Int):=D4T (k:=.u64) rfl (m:=1) (show i<=64 by omega) (xq (show i<64 by omega))
theorem D8S {v:List Int}(nv:v.length<=40){e:List Int}(he:∀ y∈e,y∈v)(hl:e.length<=1000000)(VL:List (List Int))(q1 q2:Int)(es:List (List Int))(X:Int×(List Int×Nat)×PUnit)(Y:Int×List Int×Nat)(Z:List Int×Nat)(m:Int) :
 dk B1l ((0,VL,q1,q2,e,(e.length:Int),0),(v,es),X,Y,Z,m)=some ((((A2w v e:Nat):Int),VL,q1,q2),(v,es),X,Y,Z,m):=by
 have key:=tQ (f:=B1l) e.length (λi=>((((A2w v (e.take i):Nat):Int),VL,q1,q2,e,(e.length:Int),(i:Int)),(v,es),X,Y,Z,m)) ((((A2w v e:Nat):Int),VL,q1,q2),(v,es),X,Y,Z,m) (λi hi=>by
  have eg:(i:Int)<(e.length:Int):=by omega
  have hm:=he _ (aM hi);have hp:=Go.Hg.iV hm;have hb:=D7r (C4a (v:=v) (e:=e.take i) λy hy=>he y (List.mem_of_mem_take hy)) nv
  have e1:A2w v (e.take (i+1))=A2w v (e.take i) ||| 1 <<< A0t v e[i]:=by
   unfold A2w E1F;rw[vz hi,iK];rfl
  have e2:=HI (k:=.u64) rfl hb (xq (show A0t v e[i]<64 by omega))
  simp only [B1l,eg,decide_true,cond_true,aq,ar,ah hi,ai,D8W (show v.length<=1000000 by omega) hm,D78 (show A0t v e[i]<=40 by omega),e1,e2,
   iQ (show i<9223372036854775807 by omega)]) (by
  simp only[B1l,ba,decide_false,cond_false,pN])
 exact key
theorem D8m {v:List Int}{es:List (List Int)}(nv:v.length<=40)(ne:es.length<=1000000)(el:∀ e∈es,e.length<=1000000)(bc:∀ e∈es,∀ y∈e,y∈v)(o:List Int)(k:Nat)(m:Int) :
 B29 ((v,es),(o,k),m)=some (((v.length:Int),jG (es.map (A2w v))),(o,k),m):=by
 have key:=tQ (f:=B1m) es.length (λi=>((es,(es.length:Int),(i:Int)),(v,es),((0:Int),(([]:List Int),0),()),((v.length:Int),jG ((es.take i).map (A2w v)),i),(o,k),m))
  (((0:Int),(([]:List Int),0),()),((v.length:Int),jG (es.map (A2w v)),es.length),(o,k),m) (λi hi=>by
  have eg:(i:Int)<(es.length:Int):=by omega
  have hl:(jG ((es.take i).map (A2w v))).length=i:=by simp;omega
  have Wn:(jG ((es.take i).map (A2w v))++[((A2w v es[i]:Nat):Int)]).length=i+1:=by rw[aR,hl];rfl
  have e1:jG ((es.take (i+1)).map (A2w v))=jG ((es.take i).map (A2w v))++[((A2w v es[i]:Nat):Int)]:=by
   rw[vz hi,b9,D06];rfl
  simp only [B1m,eg,decide_true,cond_true,aq,ar,ah hi,ai,D8S nv (bc _ (aM hi)) (el _ (aM hi)),beq_self_eq_true,hl,
   jE (ay _),jE (show (i+1)*8<=140737488355328 by omega),a6 (e7 hl),Wn,iQ (show i<9223372036854775807 by omega),e1]) (by
  simp only[B1m,ba,decide_false,cond_false,pN])
 unfold B29;have key:dk B1m ((es,(es.length:Int),0),(v,es),(0,([],0),()),((v.length:Int),[],0),(o,k),m)=_:=key;simp only;rw[key];have hl:(jG (es.map (A2w v))).length=es.length:=by simp
 simp only[ai,hl,jE (ay _),cond_true,a6 (e7 hl)]
theorem D72 (a b:Nat):((less a b:Nat)==0)=B3h a b:=by
 apply c6.2;rw[beq_iff_eq,Go.Hg.auG];constructor
 . intro h i hi;have h1:=Go.Hg.qs a b i;rw[h,eT,hi] at h1;simpa using h1
 . intro h;apply jc;intro i;rw [Go.Hg.qs,eT];cases ha:a.testBit i with
   |false=>rfl
   |true=>rw[h i ha];rfl
theorem C9f (n:Nat):(((n:Nat):Int)==0)=(n==0):=by
 cases n with
 |zero=>rfl
 |succ n=>rfl
theorem D8y {n e u bc lat:Nat}(hn:n<=40)(he:e<2 ^ n)(hu:u<n)(hi:bc<2 ^ n)(hl:lat<2 ^ n):B0i ((e:Int),(u:Int),(bc:Int),(lat:Int))=some (e.testBit u&&B3h (less e (1 <<< u)) (bc ||| lat)):=by
 unfold B0i;simp only [aq,decide_true,cond_true,D4U (k:=.u64) rfl (show u<=64 by omega) (by decide) (D7r he hn),D78 (show u<=40 by omega),
  C5T (k:=.u64) rfl (D7r he hn) (xq (show u<64 by omega)),HI (k:=.u64) rfl (D7r hi hn) (D7r hl hn),C5T (k:=.u64) rfl (Xk (D7r he hn)) (fA (D7r hi hn) (D7r hl hn)),C9f,D72]
 cases e.testBit u<;>rfl
theorem D8K {n:Nat}{E:List Nat}(hn:n<=40)(hE:∀ e∈E,e<2 ^ n)(nE:E.length<=1000000){u bc lat:Nat}(hu:u<n)(hi:bc<2 ^ n)(hl:lat<2 ^ n)(a:Int)(o:List Int)(m:Int) :
 A6e ((a,jG E,o,m),(u:Int),(bc:Int),(lat:Int))=some (C3X E u (bc ||| lat)):=by
 have key:=Ma (f:=A3w) E (λi=>(jG E,((u:Int),(bc:Int),(lat:Int)),(E.length:Int),(i:Int))) (λ_ e=>e.testBit u&&B3h (less e (1 <<< u)) (bc ||| lat)) (λi=>.inl (i:Int)) (.inr ()) (λi eg=>by
  have h':(i:Int)<(E.length:Int):=by omega
  simp only[A3w,h',decide_true,cond_true,aq,ar,FF eg,ai,D8y hn (hE _ (aM eg)) hu hi hl,iQ (show i<9223372036854775807 by omega)]
  cases E[i].testBit u&&B3h (less E[i] (1 <<< u)) (bc ||| lat)<;>rfl) (by
  simp only[A3w,ba,decide_false,cond_false])
 have key:dk A3w (jG E,((u:Int),(bc:Int),(lat:Int)),(E.length:Int),0)=_:=key;unfold A6e A3x A31;simp only[CW];rw[key];have ha:=Qm (λe=>e.testBit u&&B3h (less e (1 <<< u)) (bc ||| lat)) E 0
 unfold C3X;rw[←ha];cases tm (λ_ e=>e.testBit u&&B3h (less e (1 <<< u)) (bc ||| lat)) E 0<;>simp
theorem D89 {n:Nat}{E:List Nat}(hn:n<=40)(hE:∀ e∈E,e<2 ^ n)(nE:E.length<=1000000){s:Nat}(hs:s<2 ^ n) :
 A33 (jG E,(s:Int))=some (C3Y E s):=by
 have key:=Ma (f:=A32) E (λi=>(jG E,(s:Int),(E.length:Int),(i:Int))) (λ_ e=>B3h e s) (λi=>.inl (i:Int)) (.inr ()) (λi eg=>by
  have h':(i:Int)<(E.length:Int):=by omega
  simp only [A32,B1x,h',decide_true,cond_true,aq,ar,FF eg,ai,C5T (k:=.u64) rfl (D7r (hE _ (aM eg)) hn) (D7r hs hn),C9f,D72,
   iQ (show i<9223372036854775807 by omega)]
  cases B3h E[i] s<;>rfl) (by
  simp only[A32,ba,decide_false,cond_false])
 have key:dk A32 (jG E,(s:Int),(E.length:Int),0)=_:=key;unfold A33 A4p;simp only[CW];rw[key];have ha:=Qm (λe=>B3h e s) E 0
 unfold C3Y;rw[←ha];cases tm (λ_ e=>B3h e s) E 0<;>simp
theorem D8X {k v n:Nat}(h:v+k=n):E1s k v<2 ^ n:=Nat.lt_pow_two_of_testBit _ λi hi=>by
 rw[Go.Hg.auU];simp;omega
theorem D8n {n k v:Nat}(hn:n<=40)(h:v+k=n):pL .u64 (qZ .u64 18446744073709551615 (v:Int)) (aK.wrap (qZ .u64 1 (n:Int)-1))=((E1s k v:Nat):Int):=by
 have w64:∀m:Nat,aK.wrap (m:Int)=((m%2 ^ 64:Nat):Int):=λm=>by
  simp only[ie,gu,fe];simp
 have e1:qZ .u64 18446744073709551615 (v:Int)=((((2 ^ 64-1) <<< v)%2 ^ 64:Nat):Int):=by
  unfold qZ;have e:min ((v:Int).toNat) aK.bits=v:=by rw[ar];show min v 64=v;omega
  rw[e,←w64,Nat.shiftLeft_eq];congr 1
 have hp:0<2 ^ n:=fD n;have e2:aK.wrap (qZ .u64 1 (n:Int)-1)=((2 ^ n-1:Nat):Int):=by
  rw[D78 (by omega),mQ]
  have:(((2 ^ n:Nat):Int)-1)=((2 ^ n-1:Nat):Int):=by omega
  rw[this];exact HH (k:=.u64) rfl (D7r (show 2 ^ n-1<2 ^ n by omega) hn)
 rw[e1,e2,Nn (k:=.u64) (m:=((2 ^ 64-1) <<< v)%2 ^ 64) rfl (Nat.mod_lt _ (by decide)) (D7r (show 2 ^ n-1<2 ^ n by omega) hn)]
 congr 1;apply jc;intro i;rw[Nat.testBit_and,Go.Hg.auU,Nat.testBit_mod_two_pow,auP,iJ,iJ];by_cases h1:i<n
 . have h2:i<64:=by omega
   have h3:i-v<64:=by omega
   have h4:i<v+k:=by omega
   simp[h1,h2,h3,h4]
 . have h4:¬ i<v+k:=by omega
   simp[h1,h4]
theorem D7v (E:List Nat):∀ k v bc out,(C2g E k v bc out).length<=2 ^ k
 |0,v,bc,out=>by unfold C2g;split<;>simp
 |k+1,v,bc,out=>by
   unfold C2g;split
   . simp
   . rw [aR,Nat.pow_succ];have h1:=D7v E k (v+1) (bc ||| 1 <<< v) out;have h2:=D7v E k (v+1) bc (out ||| 1 <<< v);split
     . simp;omega
     . omega
section
variable {n:Nat}{E:List Nat}(hn:n<=40)(hE:∀e∈E,e<2 ^ n)(nE:E.length<=1000000)
include hn hE nE
theorem D8D {k v bc out:Nat}(hv:v+k=n)(hi:bc<2 ^ n)(ho:out<2 ^ n)(o:List Int)(l:Nat)(m:Int) :
 dk B0j (((v:Int),(bc:Int),(out:Int),((E1s k v:Nat):Int),(v:Int),0),((n:Int),jG E),(o,l),m) =
  some (if D01 E k v bc out then .inl (true,(o,l),m) else .inr (((v:Int),(bc:Int),(out:Int)),((n:Int),jG E),(o,l),m)):=by
 have key:=wo (f:=B0j) (bA v) (λu=>(((v:Int),(bc:Int),(out:Int),((E1s k v:Nat):Int),(v:Int),(u:Int)),((n:Int),jG E),(o,l),m)) (λu=>out.testBit u && !C3X E u (bc ||| E1s k v))
  (.inl (true,(o,l),m)) (.inr (((v:Int),(bc:Int),(out:Int)),((n:Int),jG E),(o,l),m)) (λu hu=>by
  rw[ku] at hu;have nT:(u:Int)<(v:Int):=by omega
  rw[List.getElem_range];simp only[B0j,nT,decide_true,cond_true,aq,D4U (k:=.u64) rfl (show u<=64 by omega) (by decide) (D7r ho hn),D8K hn hE nE (show u<n by omega) hi (D8X hv),ai,iQ (show u<9223372036854775807 by omega)]
  cases out.testBit u<;>cases C3X E u (bc ||| E1s k v)<;>rfl) (by
  rw[ku];simp only[B0j,ba,decide_false,cond_false])
 exact key
theorem D7T {m:Nat}(hm:m<=1000000):∀ (k v bc out f:Nat) (o:List Int),v+k=n->bc<2 ^ n->out<2 ^ n->k<f->o.length+(C2g E k v bc out).length<=m->
 A69 f ((((n:Int),jG E),(v:Int),(bc:Int),(out:Int)),(o,o.length),(m:Int))=some (true,(o++jG (C2g E k v bc out),(o++jG (C2g E k v bc out)).length),(m:Int))
 |k,v,bc,out,0,o,hv,hi,ho,hf,hl=>by omega
 |0,v,bc,out,f+1,o,hv,hi,ho,hf,hl=>by
   show B0E _ _=_;unfold B0E;simp only[aq,decide_true,cond_true,D8n hn hv,D8D hn hE nE hv hi ho,ai];unfold C2g at hl ⊢;cases hc:D01 E 0 v bc out with
   |true=>simp[jG]
   |false =>
     have hvn:v=n:=by omega
     rw[hc] at hl;simp only[if_false,aI,dN] at hl;have Wn:(o++[(bc:Int)]).length=o.length+1:=by simp
     have hle:(((o.length+1:Nat):Int)<=(m:Int)):=by omega
     subst hvn;simp only[if_false,aI,lS,beq_self_eq_true,cond_true,B5I,jE (ay _),jE (show (o.length+1)*8<=140737488355328 by omega),pN,Wn,hle,decide_true,ai,jG,aF,cr]
 |k+1,v,bc,out,f+1,o,hv,hi,ho,hf,hl=>by
   show B0E (A69 f) _=_;unfold B0E;simp only[aq,decide_true,cond_true,D8n hn hv,D8D hn hE nE hv hi ho,ai];unfold C2g at hl ⊢;cases hc:D01 E (k+1) v bc out with
   |true=>simp[jG]
   |false =>
     rw[hc] at hl;simp only[if_false,aI] at hl ⊢;have hb:1 <<< v<2 ^ n:=xq (by omega)
     have rX:bc ||| 1 <<< v<2 ^ n:=fA hi hb;have ho2:out ||| 1 <<< v<2 ^ n:=fA ho hb;have hvn:((v:Int)==(n:Int))=false:=by rw[beq_eq_false_iff_ne];omega
     simp only[lS,hvn,cond_false,D78 (show v<=40 by omega),HI (k:=.u64) rfl (D7r hi hn) (D7r hb hn),HI (k:=.u64) rfl (D7r ho hn) (D7r hb hn),D89 hn hE nE rX,ai,iQ (show v<9223372036854775807 by omega)]
     cases he:C3Y E (bc ||| 1 <<< v) with
     |true =>
       rw[he] at hl;simp only[if_true,a7] at hl;simp only[bO,cond_false,if_true,a7,aq,decide_true,cond_true,D7T hm k (v+1) bc (out ||| 1 <<< v) f o (by omega) hi ho2 (by omega) hl,ai]
     |false =>
       rw[he] at hl;simp only[if_false,aI,aR] at hl;have h1:=D7T hm k (v+1) (bc ||| 1 <<< v) out f o (by omega) rX ho (by omega) (by omega)
       have h2:=D7T hm k (v+1) bc (out ||| 1 <<< v) f (o++jG (C2g E k (v+1) (bc ||| 1 <<< v) out)) (by omega) hi ho2 (by omega) (by rw[aR,CW];omega)
       simp only[ej,aq,decide_true,cond_true,h1,ai,bO,cond_false,h2,if_false,aI,D06,List.append_assoc]
end
section
variable {v:List Int}{es:List (List Int)}(H:HOk v es)(el:∀e∈es,e.length<=1000000)
include H el
theorem D9a (hlen:(D4P v es).length<=100000):C0j ((v,es),100000)=some (jG (D4P v es),true):=by
 have nE:(es.map (A2w v)).length<=1000000:=by rw[aB];have:=H.ne;omega
 have hE:∀e∈es.map (A2w v),e<2 ^ v.length:=by
  intro e he;obtain⟨x,hx,rfl⟩:=List.mem_map.1 he;exact C4a (H.bc x hx)
 have hlen:(C2g (es.map (A2w v)) v.length 0 0 0).length<=100000:=hlen;have hw:B1y ((((v.length:Int),jG (es.map (A2w v))),0,0,0),([],0),100000)=some (true,(jG (D4P v es),(jG (D4P v es)).length),100000):=by
  unfold B1y;refine C5G (v.length+1) λf hf=>?_
  exact D7T (m:=100000) H.nv hE nE (by decide) v.length 0 0 0 f [] (by omega) (fD _) (fD _) (by omega) (by simpa using hlen)
 unfold C0j;have hne:=H.ne;simp only[D8m H.nv (show es.length<=1000000 by omega) el H.bc,ai,hw,jE (ay _),cond_true,pN]
theorem E1Z (hv:validH v es=true):B9g (v,es)=some 0:=by
 have hn:=H.nv;unfold B9g
 have:¬(v.length:Int)>40:=by omega
 simp only[B6w (show v.length<=1000000 by omega) el,ai,hv,bO,cond_false,this,decide_false]
end
end Go.Mid
namespace Go.Mid
open Go.Hg (asc A0A A5O A09 before A4q idsP pick A7d A06 hEs A75 A4b A4S A5P PrV nbB A4L)
theorem C9g {s:Nat}(h:s<4294967296):cG.wrap (s:Int)=(s:Int):=HH (k:=.u32) rfl h
theorem C7C {s i:Nat}(hs:s<4294967296)(hi:i<32):Qz ((s:Int),(i:Int))=some (s.testBit i):=by
 unfold Qz;have h1:((i:Int) ≥ 0):=by omega
 have h2:((i:Int)<32):=by omega
 simp only[h1,h2,decide_true,cond_true,aq,D4U (k:=.u32) rfl (show i<=32 by omega) (by decide) (show s<2 ^ cG.bits from hs)]
 cases s.testBit i<;>rfl
theorem C4V {v:List Int}{es:List (List Int)}(nv:v.length<=20){s:Nat}(hs:s<4294967296):QA ((v,es),(s:Int))=some (pick v s):=by
 have zL:pick v s=idsP (v.take 8) s:=rfl;have Xs:idsP (v.take (min v.length 8)) s=idsP (v.take 8) s:=by
  by_cases h:v.length<=8
  . rw[cX h,dM,a6 h]
  . rw[jk (by omega)]
 have key:=tQ (f:=Ji) (min v.length 8) (λi=>(((s:Int),(idsP (v.take i) s).length,(i:Int)),(v,es),idsP (v.take i) s)) ((idsP (v.take 8) s).length,idsP (v.take 8) s) (λi hi=>by
  have AX:i<v.length:=by omega
  have eg:(i:Int)<(v.length:Int):=by omega
  have hi8:(i:Int)<8:=by omega
  have hl:=D05 (v.take i) s;rw [aW] at hl;simp only [Ji,eg,hi8,decide_true,cond_true,aq,ar,C9g hs,C7C hs (show i<32 by omega),ah AX,ai,iQ (show i<9223372036854775807 by omega),C9c AX,
   jE (ay _),jE (show ((idsP (v.take i) s).length+1)*8<=140737488355328 by omega),pN]
  cases s.testBit i<;>simp) (by
  rw[Xs];by_cases h:v.length<=8
  . have h':¬ ((min v.length 8:Nat):Int)<(v.length:Int):=by omega
    simp only[Ji,h',decide_false,cond_false]
  . have h1:((min v.length 8:Nat):Int)<(v.length:Int):=by omega
    have h2:¬((min v.length 8:Nat):Int)<8:=by omega
    simp only[Ji,h1,h2,decide_true,decide_false,cond_true,cond_false])
 have key:dk Ji (((s:Int),0,0),(v,es),[])=_:=key;unfold QA;simp only;rw[key,zL];simp only[ai,jE (ay _),cond_true,pN]
theorem Xt {α:Type}{l:List α}{i:Nat}(h:i<l.length):(l.take (i+1)).zipIdx=(l.take i).zipIdx++[(l[i],i)]:=by
 rw[vz h,p8];simp[cX (fH h)]
theorem B3i (ls:List (List Int)):∀ (l:List (List Int)) (i:Nat) (out:List (List Int)),A4S ls l i out=(l.zipIdx i).foldl (λout x=>A4b ls x.2 x.1 out) out
 | [],_,_=>rfl
 |x::r,i,out=>by
   simp only[A4S,ji,jM,B3i ls r]
section
variable {ls:List (List Int)}(nl:ls.length<=1000)(el:∀e∈ls,e.length<=100000)
def o6 (ls:List (List Int))(i:Nat):List (List Int):=(ls.take i).zipIdx.foldl (λout x=>A4b ls x.2 x.1 out) []
theorem C1F {i:Nat}(h:i<ls.length):o6 ls (i+1)=A4b ls i ls[i] (o6 ls i):=by
 unfold o6;rw[Xt h,iK];rfl
include el in
theorem C4b:∀ i,i<=ls.length->(o6 ls i).length<=i∧∀ x∈o6 ls i,x.length<=100000
 |0,_=>⟨ay _,λx hx=>by simp[o6] at hx⟩
 |i+1,h=>by
   obtain⟨h1,h2⟩:=C4b i (by omega)
   rw[C1F (by omega)]
   unfold A4b;split
   . refine ⟨by rw [C36];simp;omega,λx hx=>?_⟩
     rcases az.1 (C37 _ _ x hx) with h | h
     . exact h2 x h
     . simp only[aX] at h;subst h;exact el _ (aM _)
   . exact⟨by omega,h2⟩
include nl el in
theorem C4c:Mw ls=some (A5P ls):=by
 have l1:∀(i n:Nat) (out:List (List Int)) (h:i<ls.length),dk Mu ((ls,n,(i:Int),true,0),out)=some ((ls,n,(i:Int),A75 ls i ls[i]),out):=by
  intro i n out hi;have key:=tQ (f:=Mu) ls.length (λk=>((ls,n,(i:Int),(ls.take k).zipIdx.all (λy=>!(A0A y.1 ls[i]&&(decide (y.1.length<ls[i].length) || decide (y.2<i)))),(k:Int)),out)) ((ls,n,(i:Int),A75 ls i ls[i]),out) (λk hk=>by
   have nq:(k:Int)<(ls.length:Int):=by omega
   have e1:=el _ (aM hk);have e2:=el _ (aM hi);simp only [Mu,nq,decide_true,cond_true,aq,ar,ah hk,ah hi,ai,A6P (show ls[k].length<=1000000 by omega) (show ls[i].length<=1000000 by omega),iQ (show k<9223372036854775807 by omega),Xt hk,List.all_append,
    List.all_cons,List.all_nil,Bool.and_true]
   cases A0A ls[k] ls[i] with
   |false=>simp
   |true =>
     by_cases c1:ls[k].length<ls[i].length
     . have Rk:((ls[k].length:Int)<(ls[i].length:Int)):=by omega
       simp[c1,Rk]
     . have Rk:¬ ((ls[k].length:Int)<(ls[i].length:Int)):=by omega
       by_cases c2:k<i
       . have Ei:((k:Int)<(i:Int)):=by omega
         simp[c1,Rk,c2,Ei]
       . have Ei:¬ ((k:Int)<(i:Int)):=by omega
         simp[c1,Rk,c2,Ei]) (by
   simp only[Mu,ba,decide_false,cond_false,pN];rfl)
  exact key
 have key:=tQ (f:=Mv) ls.length (λi=>((ls,(o6 ls i).length,(i:Int)),o6 ls i)) ((o6 ls ls.length).length,o6 ls ls.length) (λi hi=>by
  have eg:(i:Int)<(ls.length:Int):=by omega
  obtain⟨h1,h2⟩:=C4b el i (fH hi);have e2:=el _ (aM hi);simp only[Mv,eg,decide_true,cond_true,l1 i _ _ hi,ai,C1F hi];unfold A4b;cases A75 ls i ls[i] with
  |false=>simp[iQ (show i<9223372036854775807 by omega)]
  |true =>
    have Aw:(o6 ls i++[ls[i]]).length=(o6 ls i).length+1:=by simp
    have hw:af.wrap ((((o6 ls i).length+1:Nat):Int)-1)=((o6 ls i).length:Int):=by
     rw[Av (by omega) (by omega)];rfl
    have sk:dk QD ((ls,(o6 ls i).length+1,(i:Int),((o6 ls i).length:Int)),o6 ls i++[ls[i]])=some ((ls,(o6 ls i).length+1,(i:Int)),A4q (o6 ls i).length (o6 ls i++[ls[i]])):=by
     refine B9n (λk o=>((ls,(o6 ls i).length+1,(i:Int),(k:Int)),o)) (λo=>((ls,(o6 ls i).length+1,(i:Int)),o)) ((o6 ls i).length+1) (λk out hn hx h=>?_) (λout=>?_) (o6 ls i).length (o6 ls i++[ls[i]]) (by rw[Aw];omega) Aw (λx hx=>?_)
     . have Ic:((k+1:Nat):Int)>0:=by omega
       have e1:k+1<(o6 ls i).length+1:=by omega
       have e2:k<(o6 ls i).length+1:=by omega
       have e3:k<out.length:=by omega
       simp only [QD,Ic,decide_true,cond_true,aq,ar,lB e1,lB e2,ah h,ah e3,ai,Av (show 1<=k+1 by omega) (by omega),dT,
        B4z (hx _ (aM h))]
       have e4:(out.set (k+1) out[k])[k]?=some out[k]:=by rw[fg (by omega),ah e3]
       rw[e4];cases before out[k+1] out[k]<;>simp
     . simp[QD]
     . rcases az.1 hx with h | h
       . have:=h2 x h;omega
       . simp only[aX] at h;subst h;omega
    have xj:(A4q (o6 ls i).length (o6 ls i++[ls[i]])).length=(o6 ls i).length+1:=by rw[C36,Aw]
    simp only [bO,cond_false,aq,decide_true,cond_true,if_true,ar,ah hi,ai,bS,gH,a7,dM,jE (ay _),jE (show ls[i].length*8<=140737488355328 by omega),
     jE (show ((o6 ls i).length+1)*24<=140737488355328 by omega),pN,hw,sk,iQ (show i<9223372036854775807 by omega),xj]) (by
  simp only[Mv,ba,decide_false,cond_false])
 have key:dk Mv ((ls,0,0),[])=_:=key;unfold Mw;rw[key];have e:o6 ls ls.length=A5P ls:=by
  unfold o6 A5P;rw[B3i,pN]
 simp only[ai,jE (ay _),cond_true,pN,e]
end
theorem D5K (N:Nat):af.wrap ((N:Int).tmod 9)=((N%9:Nat):Int):=by
 have e:(N:Int).tmod 9=((N%9:Nat):Int):=(Int.ofNat_tmod N 9).symm;rw[e];exact Qn (by omega)
theorem D4W (N:Nat)(E:List Int)(n:Nat)(hn:n<=9):dk Mx (((n:Int),0),((N:Int),E),(([],0),[],0),([],0),[],0)=some (((N:Int),E),(([],0),[],0),(A06 n,n),[],0):=by
 have key:=tQ (f:=Mx) n (λi=>(((n:Int),(i:Int)),((N:Int),E),(([],0),[],0),(A06 i,i),[],0)) (((N:Int),E),(([],0),[],0),(A06 n,n),[],0) (λi hi=>by
  have eg:(i:Int)<(n:Int):=by omega
  have hl:(A06 i).length=i:=Go.Hg.lO i;have e1:af.wrap (2+af.wrap (3*(i:Int)))=2+3*(i:Int):=by
   rw[E1h (x:=3*(i:Int)) (by omega) (by omega),E1h (by omega) (by omega)]
  have Wn:(A06 i++[2+3*(i:Int)]).length=i+1:=by simp
  simp only[Mx,eg,decide_true,cond_true,beq_self_eq_true,hl,jE (ay _),jE (show (i+1)*8<=140737488355328 by omega),e1,a6 (e7 hl),Wn,iQ (show i<9223372036854775807 by omega),Go.Hg.yc]) (by
  simp only[Mx,ba,decide_false,cond_false])
 exact key
def CX (V:List Int)(E:List Nat)(i:Nat):List (List Int):=((E.take i).map (pick V)).filter λe=>!e.isEmpty
theorem C4d (V:List Int){E:List Nat}{i:Nat}(h:i<E.length):CX V E (i+1)=CX V E i++if(pick V E[i]).isEmpty then[] else[pick V E[i]]:=by
 unfold CX;rw[vz h,b9,s8];congr 1;simp only[aF,cr,List.filter_cons,List.filter_nil];cases (pick V E[i]).isEmpty<;>rfl
theorem C4W (V:List Int)(E:List Nat)(i:Nat):(CX V E i).length<=i:=by
 unfold CX;refine dF (dt _ _) ?_;rw[aB,aW];omega
theorem C7D {N:Nat}{E:List Nat}(hE:∀e∈E,e<256):QE ((N:Int),jG E)=some ((A06 (N%9),hEs N E),decide (E.length<=12)):=by
 have hn:N%9<=9:=by omega
 have Dt:(A06 (N%9)).length=N%9:=Go.Hg.lO _;have key:=tQ (f:=Jm) (min E.length 12) (λi=>(((CX (A06 (N%9)) E i).length,(i:Int)),((N:Int),jG E),(([],0),[],0),((A06 (N%9),N%9),[],0),CX (A06 (N%9)) E i))
  ((A7d (A06 (N%9)) E).length,((N:Int),jG E),(([],0),[],0),((A06 (N%9),N%9),[],0),A7d (A06 (N%9)) E) (λi hi=>by
  have AX:i<E.length:=by omega
  have eg:(i:Int)<((jG E).length:Int):=by rw[CW];omega
  have Xu:(i:Int)<12:=by omega
  have hl:=C4W (A06 (N%9)) E i;have hb:=hE _ (aM AX);simp only [Jm,eg,Xu,decide_true,cond_true,aq,ar,FF AX,ai,Dt,jE (ay _),List.length_nil,gH,a6 (e7 Dt),C4V (show (A06 (N%9)).length<=20 by omega) (show E[i]<4294967296 by omega),
   jE (show ((CX (A06 (N%9)) E i).length+1)*24<=140737488355328 by omega),pN,iQ (show i<9223372036854775807 by omega),C4d (A06 (N%9)) AX]
  cases hp:pick (A06 (N%9)) E[i] with
  |nil=>simp
  |cons a r =>
    have:(((a::r).length:Int)>0):=by simp
    simp only[this,decide_true,cond_true,List.isEmpty_cons,aI,if_false,aR,dN]) (by
  have e:CX (A06 (N%9)) E (min E.length 12)=A7d (A06 (N%9)) E:=by
   unfold CX A7d;congr 2;by_cases h:E.length<=12
   . rw[cX h,dM,a6 h]
   . rw[jk (by omega)]
  rw[e];by_cases h:E.length<=12
  . have h':¬ ((min E.length 12:Nat):Int)<((jG E).length:Int):=by rw [CW];omega
    simp only[Jm,h',decide_false,cond_false]
  . have h1:((min E.length 12:Nat):Int)<((jG E).length:Int):=by rw [CW];omega
    have h2:¬((min E.length 12:Nat):Int)<12:=by omega
    simp only[Jm,h1,h2,decide_true,decide_false,cond_true,cond_false])
 have key:dk Jm ((0,0),((N:Int),jG E),(([],0),[],0),((A06 (N%9),N%9),[],0),[])=_:=key;have hed:Mw (A7d (A06 (N%9)) E)=some (hEs N E):=by
  refine C4c (by have:=Go.Hg.qu N E;omega) λe he=>?_
  obtain⟨_,s,rfl⟩:=Go.Hg.oV he
  have:=Go.Hg.wq (A06 (N%9)) s
  omega
 unfold QE;simp only[D5K,D4W N (jG E) (N%9) hn,ai,key,jE (ay _),cond_true,pN,hed,Dt,a6 (e7 Dt)];by_cases h:E.length<=12
 . have h':((jG E).length:Int)<=12:=by rw [CW];omega
   simp[h];omega
 . have h':¬ ((jG E).length:Int)<=12:=by rw [CW];omega
   simp[h];omega
end Go.Mid
namespace Go.Mid
open Go.Hg (asc GOk A0t rt un unT unS E0J)
def E00 (n:Nat)(f:Nat->Nat):List Int:=(bA n).map λi=>((f i:Nat):Int)
theorem E1N (n:Nat)(f:Nat->Nat):(E00 n f).length=n:=by simp[E00]
theorem E1v {n j:Nat}{f:Nat->Nat}(h:j<n):(E00 n f)[j]?=some ((f j:Nat):Int):=by simp[E00,h]
theorem E2F {n v c:Nat}{f:Nat->Nat}(h:v<n):(E00 n f).set v (c:Int)=E00 n (λi=>if i=v then c else f i):=by
 apply fy;intro i;rw[List.getElem?_set,E1N];by_cases e:v=i
 . subst e;rw[if_pos rfl,if_pos h,E1v h];simp
 . rw [if_neg e];by_cases hi:i<n
   . rw[E1v hi,E1v hi,if_neg (λq=>e q.symm)]
   . rw[bJ (by rw[E1N];omega),bJ (by rw[E1N];omega)]
theorem E1P (n:Nat)(f:Nat->Nat):aP n (E00 n f)=E00 n f:=by
 rw[a6];rw[E1N];exact ay _
theorem E2b {n:Nat}{f:Nat->Nat}(D:∀i,f i<=i):∀i,i<n->E0Q ((i:Int),E00 n f)=some ((rt f i:Nat):Int):=by
 have key:∀i,i<n->dk E04 ((i:Int),E00 n f)=some ((rt f i:Nat):Int):=by
  intro i
  induction i using Nat.strongRecOn with
  |ind i ih =>
    intro hi;have hd:=D i;rw[Go.Hg.ov D];by_cases h:f i=i
    . rw[if_pos h,qc (r:=((i:Nat):Int))];simp only[E04,aq,decide_true,cond_true,ar,E1v hi,ai,h,bne_self_eq_false,cond_false]
    . have hne:(((f i:Nat):Int) != (i:Int))=true:=by rw [bne_iff_ne];omega
      rw[if_neg h,vw (b:=(((f i:Nat):Int),E00 n f))]
      . exact ih (f i) (by omega) (by omega)
      . simp only[E04,aq,decide_true,cond_true,ar,E1v hi,ai,hne]
 intro i hi;unfold E0Q;simp only[key i hi,ai]
section
variable {v:List Int}{es:List (List Int)}(ha:asc v=true)(hl:v.length<=1000000)
include ha hl
theorem E2d {y:Int}(hy:y∈v):E0S (y,v,es)=some ((A0t v y:Nat):Int):=by
 obtain⟨i,h1,hp⟩:=Xm ha hl y;have h2:=Go.Hg.iV hy;have h3:=Go.Hg.gn hy;rw[ah h2,aa] at h3;have hi:i=A0t v y:=by
  rcases Nat.lt_trichotomy i (A0t v y) with h | h | h
  . have h4:i<v.length:=by omega
    have h5:=hp.hi i h4 (ay _);have h6:=Go.Hg.jF ha h h2;omega
  . exact h
  . have:=hp.lo _ h2 h;omega
 unfold E0S;simp only[h1,ai,hi]
theorem E3L {l:List Int}(hne:l ≠ [])(CT:∀ y∈l,y∈v)(Dv:l.length<=1000000)(X:List (List Int))(nX iX:Int)(f0:Nat->Nat)(D0:∀ i,f0 i<=i) :
 dk E0X ((l,X,nX,iX,uC 1 l,((uC 1 l).length:Int),0),(v,es),E00 v.length f0,v.length)=some ((X,nX,iX),(v,es),E00 v.length (unT (A0t v) (l.headD 0) (l.drop 1) f0),v.length):=by
 have hh:l[0]?=some (l.headD 0):=by cases l with | nil=>exact absurd rfl hne | cons x r=>rfl
 have hhm:l.headD 0∈v:=by cases l with | nil=>exact absurd rfl hne | cons x r=>exact CT x (by simp)
 have Mb:=Go.Hg.iV hhm;have D:∀k,∀i,unT (A0t v) (l.headD 0) ((l.drop 1).take k) f0 i<=i:=λk=>(Go.Hg.azu (A0t v) (l.headD 0) _ f0 D0).1
 have key:=tQ (f:=E0X) (l.drop 1).length (λk=>((l,X,nX,iX,uC 1 l,((uC 1 l).length:Int),(k:Int)),(v,es),E00 v.length (unT (A0t v) (l.headD 0) ((l.drop 1).take k) f0),v.length))
  ((X,nX,iX),(v,es),E00 v.length (unT (A0t v) (l.headD 0) (l.drop 1) f0),v.length) (λk hk=>by
  have nq:(k:Int)<((uC 1 l).length:Int):=by omega
  have hx:(uC 1 l)[k]∈v:=CT _ (List.mem_of_mem_drop (aM hk));have JR:=Go.Hg.iV hx;have zq:k<1000000:=by rw[List.length_drop] at hk;omega
  have r0:=Go.Hg.azt (D k) (A0t v (l.headD 0));have r1:=Go.Hg.azt (D k) (A0t v (uC 1 l)[k]);have e1:unT (A0t v) (l.headD 0) ((l.drop 1).take (k+1)) f0=un (unT (A0t v) (l.headD 0) ((l.drop 1).take k) f0) (rt (unT (A0t v) (l.headD 0) ((l.drop 1).take k) f0) (A0t v (l.headD 0))) (rt (unT (A0t v) (l.headD 0) ((l.drop 1).take k) f0) (A0t v (uC 1 l)[k])):=by
   rw[vz hk];unfold unT;rw[iK];rfl
  have Dk:=D k;generalize unT (A0t v) (l.headD 0) ((l.drop 1).take k) f0=g at *
  simp only[E0X,nq,decide_true,cond_true,aq,ar,ah hk,ai,hh,E2d ha hl hhm,E2d ha hl hx,E1P,E2b Dk _ Mb,E2b Dk _ JR,iQ (show k<9223372036854775807 by omega),e1]
  generalize rt g (A0t v (l.headD 0))=a at *
  generalize rt g (A0t v (uC 1 l)[k])=b at *
  have RY:(if((b:Nat):Int)>((a:Nat):Int) then((b:Nat):Int) else((a:Nat):Int))=((max a b:Nat):Int):=by
   by_cases h:(b:Int)>(a:Int)
   . rw[if_pos h,Nat.max_eq_right (by omega)]
   . rw[if_neg h,Nat.max_eq_left (by omega)]
  have hmn:(if((b:Nat):Int)<((a:Nat):Int) then((b:Nat):Int) else((a:Nat):Int))=((min a b:Nat):Int):=by
   by_cases h:(b:Int)<(a:Int)
   . rw[if_pos h,jk (by omega)]
   . rw[if_neg h,cX (by omega)]
  have eC:max a b<v.length:=by omega
  have hb:cP (max a b) v.length=true:=lB eC;simp only[RY,hmn,aq,decide_true,cond_true,ar,hb,E1v eC,ai,E2F eC];rfl) (by
  simp only[E0X,ba,decide_false,cond_false,pN])
 exact key
theorem E3M (hne:∀ e∈es,e ≠ [])(CT:∀ e∈es,∀ y∈e,y∈v)(ia:∀ e∈es,e.length<=1000000)(VW:es.length<=1000000) :
 dk E0Y ((es,(es.length:Int),0),(v,es),E00 v.length id,v.length)=some ((v,es),E00 v.length (E0J v es),v.length):=by
 have key:=tQ (f:=E0Y) es.length (λk=>((es,(es.length:Int),(k:Int)),(v,es),E00 v.length (unS (A0t v) (es.take k) id),v.length))
  ((v,es),E00 v.length (E0J v es),v.length) (λk hk=>by
  have nq:(k:Int)<(es.length:Int):=by omega
  have hm:=aM hk;have D:∀i,unS (A0t v) (es.take k) id i<=i:=(Go.Hg.LL (A0t v) (es.take k) id λ_=>ay _).1
  have Wn:=E3L (es:=es) ha hl (hne _ hm) (CT _ hm) (ia _ hm) es (es.length:Int) (k:Int) _ D;have h1:cQ 1 es[k].length=true:=jE (gQ.2 (hne _ hm));have e1:unS (A0t v) (es.take (k+1)) id=unT (A0t v) (es[k].headD 0) (es[k].drop 1) (unS (A0t v) (es.take k) id):=by
   rw[vz hk];unfold unS;rw[iK];simp only[jM,List.foldl_nil,List.drop_one]
  simp only[E0Y,nq,decide_true,cond_true,aq,ar,ah hk,ai,h1,Wn,iQ (show k<9223372036854775807 by omega),e1]) (by
  simp only[E0Y,ba,decide_false,cond_false,pN];rfl)
 exact key
omit ha hl in
theorem E3N (n:Nat)(hn:n<=1000000)(x:List Int×List (List Int)):dk E0W (((n:Int),0),x,au n 0,n)=some (x,E00 n id,n):=by
 have e0:au n (0:Int)=E00 n (λi=>if i<0 then i else 0):=by
  apply fy;intro i;by_cases h:i<n
  . rw[E1v h];simp[h]
  . rw[bJ (by simp;omega),bJ (by rw[E1N];omega)]
 have key:=tQ (f:=E0W) n (λk=>(((n:Int),(k:Int)),x,E00 n (λi=>if i<k then i else 0),n)) (x,E00 n id,n) (λk hk=>by
  have nq:(k:Int)<(n:Int):=by omega
  have hb:cP k n=true:=lB hk;simp only[E0W,nq,decide_true,cond_true,aq,ar,hb,E1v hk,ai,E2F hk,iQ (show k<9223372036854775807 by omega)]
  have:(λi=>if i=k then k else if i<k then i else 0)=λi=>if i<k+1 then i else 0:=by
   funext i;by_cases h1:i=k
   . subst h1;simp
   . rw [if_neg h1];by_cases h2:i<k
     . rw[if_pos h2,if_pos (by omega)]
     . rw[if_neg h2,if_neg (by omega)]
  rw[this]) (by
  simp only[E0W,ba,decide_false,cond_false];congr 4;simp only[E00];refine eJ λi hi=>?_
  have:=List.mem_range.1 hi
  rw[if_pos this];rfl)
 rw[e0];exact key
end
end Go.Mid
namespace Go.Mid
open Go.Hg (asc GOk A0t rt un unT unS E0J E0M E0E E0I vertK edgeK E1p E0T E1g E0L)
theorem E2n (x y:Int):eqK (.int .i64) x y=(x==y):=rfl
section
variable {v:List Int}{es:List (List Int)}(ha:asc v=true)(hl:v.length<=1000000)
theorem E35 {α:Type}{c d:Bool}{a b:α}(h:c=d):cond c a b=cond d a b:=by rw[h]
theorem E36 {α β:Type}{x y:Option α}{f:α->Option β}(h:x=y):x.bind f=y.bind f:=by rw[h]
attribute [local congr] E35 E36
theorem E4h (f:Nat->Nat){r k:Nat}(hr:f r=r):E1H (eqK (TD.int af)) ((r:Nat):Int) (E1p f k)=decide (r<k):=Go.Hg.azS f E2n hr
theorem E3u (f:Nat->Nat){r k:Nat}(hr:f r=r)(h:r<k):E0C (eqK (TD.int af)) ((r:Nat):Int) (0:Int) (E1p f k)=((E0M f r:Nat):Int):=Go.Hg.azR f E2n hr h
theorem E4i (f:Nat->Nat){k:Nat}(hr:f k=k):E0D (eqK (TD.int af)) ((k:Nat):Int) ((E0M f k:Nat):Int) (E1p f k)=E1p f (k+1):=Go.Hg.azT f E2n hr
theorem E2R {l:List Int}(h:l.length<=1000000):E1R 8 l=some l:=by
 unfold E1R;rw[jE (by omega),cond_true]
theorem E2K (f:Nat->Nat)(k:Nat):E0M f k<=k:=by
 unfold E0M;exact dF List.countP_le_length (by simp)
include hl
theorem E3O:dk E0R ((0,v,(v.length:Int),0),(v,es),(E00 v.length (E0J v es),v.length),[],[]) =
 some (E0I v es,(v,es),(E00 v.length (E0J v es),v.length),E0L (E0I v es) (vertK v es) (λ_=>[]),E1p (E0J v es) v.length):=by
 have key:=tQ (f:=E0R) v.length (λk=>((E0M (E0J v es) k,v,(v.length:Int),(k:Int)),(v,es),(E00 v.length (E0J v es),v.length),E0L (E0M (E0J v es) k) (E0T v es k) (λ_=>[]),E1p (E0J v es) k))
  (E0I v es,(v,es),(E00 v.length (E0J v es),v.length),E0L (E0I v es) (vertK v es) (λ_=>[]),E1p (E0J v es) v.length) (λk hk=>by
  have nq:(k:Int)<(v.length:Int):=by omega
  have D:=Go.Hg.zl v es;have hr:=E2b D k hk;have hrl:=E2K (E0J v es) k;have hw:=iQ (show k<9223372036854775807 by omega)
  have hm:=E4h (E0J v es) (k:=k) (Go.Hg.hP D k);have ot:cQ ((E0M (E0J v es) k+1)*48) 140737488355328=true:=jE (by omega)
  have He:cP (E0M (E0J v es) k) (E0M (E0J v es) k+1)=true:=lB (by omega)
  by_cases h:rt (E0J v es) k=k
  . have hf:E0J v es k=k:=by rw [← h];exact Go.Hg.hP D k
    have eN:=E4i (E0J v es) hf;have TL:=E3u (E0J v es) hf (show k<k+1 by omega)
    have hs:E0M (E0J v es) (k+1)=E0M (E0J v es) k+1:=by rw[Go.Hg.vc,if_pos hf]
    have hn:E0E v es k=E0M (E0J v es) k:=by unfold E0E;rw[h]
    have hu:=Go.Hg.azv v es hk;rw[hn,Go.Hg.azA] at hu;have ht:E0L (E0M (E0J v es) k) (E0T v es k) (λ_=>[])++[([],[])]=E0L (E0M (E0J v es) k+1) (E0T v es k) (λ_=>[]):=Go.Hg.azU (Go.Hg.azA v es) rfl
    rw[h] at hr hm;rw[show decide (k<k)=false by simp] at hm
    have OI:aP (E0M (E0J v es) k) (E0L (E0M (E0J v es) k) (E0T v es k) (λ_=>[]))=E0L (E0M (E0J v es) k) (E0T v es k) (λ_=>[]):=a6 (by rw[Go.Hg.c0];exact ay _)
    have hx:(E0L (E0M (E0J v es) k+1) (E0T v es k) (λ_=>[])).set (E0M (E0J v es) k) ([v[k]],[])=E0L (E0M (E0J v es) (k+1)) (E0T v es (k+1)) (λ_=>[]):=by
     rw[Go.Hg.azz (E:=λ_=>[]),hs,hu];rfl
    simp only[E0R,nq,decide_true,cond_true,aq,ar,ah hk,ai,E1P,hr,hm,ej,eN,TL,Go.Hg.c0,OI,ot,He,jE (ay _),ht,hw,Nat.beq_refl];simp only[cQ,Nat.beq,cond_true,beq_self_eq_true,bS,Nat.one_mul,gH,a7,hx];rw[hs];exact congrArg (λz=>some (Sum.inl ((E0M (E0J v es) k+1,v,(v.length:Int),((k+1:Nat):Int)),(v,es),(E00 v.length (E0J v es),v.length),E0L (E0M (E0J v es) k+1) (E0T v es (k+1)) (λ_=>[]),z))) eN
  . have hf0:=Go.Hg.hP D k;have hle:=Go.Hg.azt D k;have eC:rt (E0J v es) k<k:=by omega
    have hfk:E0J v es k≠k:=λq=>h (Go.Hg.azB q)
    have TL:=E3u (E0J v es) hf0 eC;have hs:E0M (E0J v es) (k+1)=E0M (E0J v es) k:=by rw[Go.Hg.vc,if_neg hfk,dG]
    have hn:E0E v es k=E0M (E0J v es) (rt (E0J v es) k):=rfl;have hc:=Go.Hg.LV hf0 eC;rw[←hn] at hc TL;have hu:=Go.Hg.azv v es hk;have zr:=Go.Hg.az3 (E0J v es) hfk;rw[show decide (rt (E0J v es) k<k)=true by simp[eC]] at hm
    have OI:aP (E0M (E0J v es) k) (E0L (E0M (E0J v es) k) (E0T v es k) (λ_=>[]))=E0L (E0M (E0J v es) k) (E0T v es k) (λ_=>[]):=a6 (by rw[Go.Hg.c0];exact ay _)
    have hx:(E0L (E0M (E0J v es) k) (E0T v es k) (λ_=>[])).set (E0E v es k) (E0T v es k (E0E v es k)++[v[k]],[])=E0L (E0M (E0J v es) (k+1)) (E0T v es (k+1)) (λ_=>[]):=by
     rw[Go.Hg.azz (E:=λ_=>[]),hs,hu]
    have hg:=Go.Hg.kh (V:=E0T v es k) (E:=λ_=>[]) hc
    have hbc:=lB hc;have Ds:(E0T v es k (E0E v es k)).length<=v.length:=by
     unfold E0T;rw[aB];refine dF (dt _ _) ?_;rw[aW,List.length_zipIdx];omega
    have PY:cQ (((E0T v es k (E0E v es k)).length+1)*8) 140737488355328=true:=jE (by omega)
    simp only[E0R,nq,decide_true,cond_true,aq,ar,ah hk,ai,E1P,hr,hm,bO,cond_false,TL,Go.Hg.c0,OI,hbc,hg,hw];simp only[jE (ay _),beq_self_eq_true,cond_true,PY,dM,hx,zr,aR,dN];rw[hs]) (by
  simp only[E0R,ba,decide_false,cond_false];rw[Go.Hg.azW];rfl)
 have e0:E0L (E0M (E0J v es) 0) (E0T v es 0) (λ_=>[])=[]:=rfl
 have e1:E1p (E0J v es) 0=[]:=rfl;have e2:E0M (E0J v es) 0=0:=rfl;simp only[e0,e1,e2] at key;exact key
include ha
theorem E3P (hne:∀ e∈es,e ≠ [])(CT:∀ e∈es,∀ y∈e,y∈v)(ia:∀ e∈es,e.length<=1000000)(VW:es.length<=1000000) :
 dk E0Z ((E0I v es,es,(es.length:Int),0),(v,es),(E00 v.length (E0J v es),v.length),E0L (E0I v es) (vertK v es) (λ_=>[]),E1p (E0J v es) v.length) =
 some (E0I v es,E0L (E0I v es) (vertK v es) (edgeK v es)):=by
 have key:=tQ (f:=E0Z) es.length (λk=>((E0I v es,es,(es.length:Int),(k:Int)),(v,es),(E00 v.length (E0J v es),v.length),E0L (E0I v es) (vertK v es) (E1g v es k),E1p (E0J v es) v.length))
  (E0I v es,E0L (E0I v es) (vertK v es) (edgeK v es)) (λk hk=>by
  have nq:(k:Int)<(es.length:Int):=by omega
  have hm:=aM hk;have D:=Go.Hg.zl v es;have hw:=iQ (show k<9223372036854775807 by omega)
  have hh:es[k][0]?=some (es[k].headD 0):=by
   have:=hne _ hm
   generalize es[k]=l at *
   cases l with | nil=>exact absurd rfl this | cons x r=>rfl
  have hhm:es[k].headD 0∈v:=by
   have h1:=hne _ hm;have h2:=CT _ hm;generalize es[k]=l at *
   cases l with | nil=>exact absurd rfl h1 | cons x r=>exact h2 x (by simp)
  have hp:=Go.Hg.iV hhm;have hr:=E2b D _ hp;have hf0:=Go.Hg.hP D (A0t v (es[k].headD 0));have eC:rt (E0J v es) (A0t v (es[k].headD 0))<v.length:=Nat.lt_of_le_of_lt (Go.Hg.azt D _) hp;have TL:=E3u (E0J v es) hf0 eC;have hc:E0E v es (A0t v (es[k].headD 0))<E0I v es:=Go.Hg.LV hf0 eC;have hn:E0M (E0J v es) (rt (E0J v es) (A0t v (es[k].headD 0)))=E0E v es (A0t v (es[k].headD 0)):=rfl;rw[hn] at TL;have hu:=Go.Hg.azM v es hk;have hx:(E0L (E0I v es) (vertK v es) (E1g v es k)).set (E0E v es (A0t v (es[k].headD 0))) (vertK v es (E0E v es (A0t v (es[k].headD 0))),E1g v es k (E0E v es (A0t v (es[k].headD 0)))++[es[k]])=E0L (E0I v es) (vertK v es) (E1g v es (k+1)):=by
   rw[Go.Hg.azV,hu]
  have hg:=Go.Hg.kh (V:=vertK v es) (E:=E1g v es k) hc;have hbc:=lB hc;have Ds:(E1g v es k (E0E v es (A0t v (es[k].headD 0)))).length<=es.length:=by
   unfold E1g;refine dF (dt _ _) ?_;rw[aW];omega
  have PY:cQ (((E1g v es k (E0E v es (A0t v (es[k].headD 0)))).length+1)*24) 140737488355328=true:=jE (by omega)
  have GI:=E2R (ia _ hm);simp only[E0Z,nq,decide_true,cond_true,aq,ar,ah hk,ai,hh,E2d ha hl hhm,E1P,hr,TL,Go.Hg.c0,hbc,hg,hw,GI];simp only[jE (ay _),beq_self_eq_true,cond_true,PY,dM,hx,aR,dN]) (by
  simp only[E0Z,ba,decide_false,cond_false];rw[Go.Hg.azX])
 rw[Go.Hg.azL] at key;exact key
theorem E2r (hne:∀ e∈es,e ≠ [])(CT:∀ e∈es,∀ y∈e,y∈v)(ia:∀ e∈es,e.length<=1000000)(VW:es.length<=1000000) :
 E0V (v,es)=some (E0L (E0I v es) (vertK v es) (edgeK v es)):=by
 have hb:cQ (v.length*8) 140737488355328=true:=jE (by omega)
 have aBx:∀l:List (List Int×List (List Int)),fp (uR (Ty.agg [Ty.vec (1:Nat) (Ty.int af),Ty.vec (1:Nat) (Ty.int af).sl])) l=l:=by
  intro l
  have:∀x:List Int×List (List Int),uR (Ty.agg [Ty.vec (1:Nat) (Ty.int af),Ty.vec (1:Nat) (Ty.int af).sl]) x=x:=by
   intro x;have e1:uR (Ty.agg [Ty.vec (1:Nat) (Ty.int af),Ty.vec (1:Nat) (Ty.int af).sl]) x=(fp (uR (Ty.int .i64)) x.1,fp (uR ((Ty.int .i64).sl)) x.2):=rfl;have h1:fp (uR (Ty.int .i64)) x.1=x.1:=wR _;have h2:fp (uR ((Ty.int .i64).sl)) x.2=x.2:=wR _;exact e1.trans (Prod.ext h1 h2)
  exact(eJ λx _=>this x).trans (wR l)
 have OI:aP (E0I v es) (E0L (E0I v es) (vertK v es) (edgeK v es))=E0L (E0I v es) (vertK v es) (edgeK v es):=a6 (by rw[Go.Hg.c0];exact ay _)
 simp only[E0V,aq,decide_true,cond_true,Int.le_refl,ar,hb,List.length_replicate,jE (ay _),E3N v.length hl,ai,E3M ha hl hne CT ia VW,E3O hl,E3P ha hl hne CT ia VW,Go.Hg.c0,OI];exact congrArg some ((congrArg _ OI).trans (aBx _))
end
end Go.Mid
namespace Go.Mid
open Go.Hg (asc GOk A0t rt E0J E0M E0E E0I vertK edgeK E0L HOk D4P E0H)
theorem E16 (a b:List (List Nat)):E0H (a++b)=E0H a*E0H b:=by
 induction a with
 |nil=>simp[E0H]
 |cons x r ih=>simp only[List.cons_append,E0H,ih,Nat.mul_assoc]
structure PB (v:List Int)(es:List (List Int)):Prop where
 H:HOk v es
 G:GOk v es
 el:∀e∈es,e.length<=1000000
 sm:∀k,k<E0I v es->(D4P (vertK v es k) (edgeK v es k)).length<=100000
 pr:∀j,E0H ((Go.Hg.partL (E0I v es) (vertK v es) (edgeK v es)).take j)<=1000000000000000
abbrev cb (v:List Int) (es:List (List Int)):List (List Nat):=Go.Hg.partL (E0I v es) (vertK v es) (edgeK v es)
theorem E1n (v:List Int)(es:List (List Int)):(cb v es).length=E0I v es:=by simp[cb,Go.Hg.partL]
theorem E10 {v:List Int}{es:List (List Int)}{k:Nat}(h:k<E0I v es):(cb v es)[k]?=some (D4P (vertK v es k) (edgeK v es k)):=by
 simp[cb,Go.Hg.partL,h]
theorem E17 (v:List Int)(es:List (List Int))(k:Nat):(vertK v es k).length<=v.length:=by
 unfold vertK;rw[aB];exact dF (dt _ _) (by simp)
section
variable {v:List Int}{es:List (List Int)}(B:PB v es)
include B
theorem PB.part {k:Nat}(hk:k<E0I v es):HOk (vertK v es k) (edgeK v es k) where
 nv:=dF (E17 v es k) B.H.nv
 ne:=dF (dt _ _) B.H.ne
 el:=λe he=>B.H.el e ((cZ.1 he).1)
 bc:=λe he=>((Go.Hg.iE B.G).sub k hk e he).2
theorem PB.aBA {k:Nat}(hk:k<E0I v es):C0j ((vertK v es k,edgeK v es k),100000)=some (jG (D4P (vertK v es k) (edgeK v es k)),true) :=
 D9a (B.part hk) (λe he=>B.el e ((cZ.1 he).1)) (B.sm k hk)
theorem PB.cnt:E0I v es<=40:=dF (E2K _ _) B.H.nv
theorem PB.comp:E0V (v,es)=some (E0L (E0I v es) (vertK v es) (edgeK v es)) :=
 E2r B.G.av (by have:=B.H.nv;omega) B.G.ne B.G.bc B.el (by have:=B.H.ne;omega)
theorem E2j {k:Nat}(hk:k<E0I v es) :
 E01 ((E0L (E0I v es) (vertK v es) (edgeK v es),k,((E0H ((cb v es).take k):Nat):Int),E0L (E0I v es) (vertK v es) (edgeK v es),(E0I v es:Int),(k:Int)),((cb v es).take k).map jG) =
 some (.inl ((E0L (E0I v es) (vertK v es) (edgeK v es),k+1,((E0H ((cb v es).take (k+1)):Nat):Int),E0L (E0I v es) (vertK v es) (edgeK v es),(E0I v es:Int),((k+1:Nat):Int)),((cb v es).take (k+1)).map jG)):=by
 have nq:(k:Int)<(E0I v es:Int):=by omega
 have h40:=B.cnt;have zq:k<(cb v es).length:=by rw[E1n];exact hk
 have yG:(cb v es)[k]=D4P (vertK v es k) (edgeK v es k):=by
  have:=E10 hk
  rw[ah zq,aa] at this;exact this
 have ht:(cb v es).take (k+1)=(cb v es).take k++[D4P (vertK v es k) (edgeK v es k)]:=by rw[vz zq,yG]
 have hp:E0H ((cb v es).take (k+1))=E0H ((cb v es).take k)*(D4P (vertK v es k) (edgeK v es k)).length:=by
  rw[ht,E16];simp[E0H]
 have v8:=B.pr (k+1);have hpm:((E0H ((cb v es).take k):Nat):Int)*((D4P (vertK v es k) (edgeK v es k)).length:Int)=((E0H ((cb v es).take (k+1)):Nat):Int):=by rw[hp];simp
 have hpw:af.wrap ((E0H ((cb v es).take (k+1)):Nat):Int)=((E0H ((cb v es).take (k+1)):Nat):Int):=E1h (by omega) (by
  have:E0H ((cb v es).take (k+1))<=1000000000000000:=v8
  omega)
 have ZD:¬(((E0H ((cb v es).take (k+1)):Nat):Int)>1000000000000000):=by
  have:E0H ((cb v es).take (k+1))<=1000000000000000:=v8
  omega
 have htl:((cb v es).take k).length=k:=by rw[aW];omega
 have hb:cQ ((k+1)*24) 140737488355328=true:=jE (by omega)
 have hw:=iQ (show k<9223372036854775807 by omega)
 have OI:aP k (((cb v es).take k).map jG)=((cb v es).take k).map jG:=a6 (by rw[aB,htl];exact ay _)
 simp only[E01,nq,decide_true,cond_true,aq,ar,Go.Hg.kh hk,ai,B.aBA hk,bO,cond_false,aB,htl,jE (ay _),hb,CW,hpm,hpw,ZD,decide_false,hw,OI];rw[ht,b9];rfl
theorem E3v:E1q (v,es)=some (E0L (E0I v es) (vertK v es) (edgeK v es),(cb v es).map jG,((E0H (cb v es):Nat):Int),0):=by
 have key:=tQ (f:=E01) (E0I v es) (λk=>((E0L (E0I v es) (vertK v es) (edgeK v es),k,((E0H ((cb v es).take k):Nat):Int),E0L (E0I v es) (vertK v es) (edgeK v es),(E0I v es:Int),(k:Int)),((cb v es).take k).map jG)) (.inr ((E0L (E0I v es) (vertK v es) (edgeK v es),E0I v es,((E0H (cb v es):Nat):Int)),(cb v es).map jG)) (λk hk=>E2j B hk) (by
  have e:aP (E0I v es) (cb v es)=cb v es:=a6 (by rw[E1n];exact ay _)
  simp only[E01,ba,decide_false,cond_false,e])
 have hl:((cb v es).map jG).length=E0I v es:=by rw[aB,E1n]
 have OI:aP (E0I v es) ((cb v es).map jG)=(cb v es).map jG:=a6 (by rw[hl];exact ay _)
 have VX:dk E01 ((E0L (E0I v es) (vertK v es) (edgeK v es),0,(1:Int),E0L (E0I v es) (vertK v es) (edgeK v es),(E0I v es:Int),(0:Int)),[])=_:=key;simp only[E1q,B.comp,ai,Go.Hg.c0,VX,lS,hl,jE (ay _),cond_true,OI]
theorem E2G {k:Nat}(hk:k<E0I v es) :
 E05 ((E0L (E0I v es) (vertK v es) (edgeK v es),k,((E0H ((cb v es).take k):Nat):Int),E0L (E0I v es) (vertK v es) (edgeK v es),(E0I v es:Int),(k:Int)),((cb v es).take k).map jG) =
 some (.inl ((E0L (E0I v es) (vertK v es) (edgeK v es),k+1,((E0H ((cb v es).take (k+1)):Nat):Int),E0L (E0I v es) (vertK v es) (edgeK v es),(E0I v es:Int),((k+1:Nat):Int)),((cb v es).take (k+1)).map jG)) :=
 E2j B hk
theorem E11:E1i (v,es)=some ((E0L (E0I v es) (vertK v es) (edgeK v es),E0I v es,((E0H (cb v es):Nat):Int),0),(cb v es).map jG):=by
 have key:=tQ (f:=E05) (E0I v es) (λk=>((E0L (E0I v es) (vertK v es) (edgeK v es),k,((E0H ((cb v es).take k):Nat):Int),E0L (E0I v es) (vertK v es) (edgeK v es),(E0I v es:Int),(k:Int)),((cb v es).take k).map jG)) (.inr ((E0L (E0I v es) (vertK v es) (edgeK v es),E0I v es,((E0H (cb v es):Nat):Int)),(cb v es).map jG)) (λk hk=>E2G B hk) (by
  have e:aP (E0I v es) (cb v es)=cb v es:=a6 (by rw[E1n];exact ay _)
  simp only[E05,ba,decide_false,cond_false,e])
 have VX:dk E05 ((E0L (E0I v es) (vertK v es) (edgeK v es),0,(1:Int),E0L (E0I v es) (vertK v es) (edgeK v es),(E0I v es:Int),(0:Int)),[])=_:=key;simp only[E1i,B.comp,ai,Go.Hg.c0,VX,lS]
theorem E3w (hv:Go.Hg.validH v es=true):E1r (v,es)=some (((D4P v es).length:Int),0):=by
 have hc:E0H (cb v es)=(D4P v es).length:=(Go.Hg.iE B.G).count B.G;simp only[E1r,E1Z B.H B.el hv,ai,bne_self_eq_false,cond_false,E3v B,hc]
end
end Go.Mid
namespace Go.Mid
open Go.Hg (asc GOk A0t rt E0J E0M E0E E0I vertK edgeK E0L HOk D4P E0H E0O E0P E08 E1a atS AtI idsP tst)
theorem E2S {v:List Int}(nv:v.length<=1000000){z:Int}(hz:z∉v):B28 (v,z)=some (-1):=by
 have key:=Ma (f:=B1k) v (λi=>(v,z,(v.length:Int),(i:Int))) (λ_ x=>x==z) (λi=>.inl (i:Int)) (.inr ()) (λi hi=>by
  have eg:(i:Int)<(v.length:Int):=by omega
  simp only[B1k,eg,decide_true,cond_true,aq,ar,ah hi,ai,iQ (show i<9223372036854775807 by omega)]
  rw[au0];cases v[i]==z<;>rfl) (by
  simp only[B1k,ba,decide_false,cond_false])
 have key:dk B1k (v,z,(v.length:Int),0)=_:=key;unfold B28;simp only;rw[key];have h2:=Go.Hg.auM (· == z) v 0;have h3:v.any (· == z)=false:=by
  rw[gA];intro x hx e;exact hz (by rw[←beq_iff_eq.1 e];exact hx)
 rw[h3] at h2;rw[D7J (λx=>x==z)]
 cases hk:Go.Hg.idx (λx=>x==z) v 0 with
 |none=>rfl
 |some k=>rw[hk] at h2;cases h2
theorem E2H {v:List Int}(nv:v.length<=1000000)(z:Int):E06 (v,z)=some (v.contains z):=by
 unfold E06;by_cases h:z∈v
 . simp[D8W nv h,h]
 . simp[E2S nv h,h]
section
variable {v:List Int}{es:List (List Int)}(B:PB v es)
include B
theorem E3x {j:Nat}(hj:j<v.length):E0K (E0L (E0I v es) (vertK v es) (edgeK v es),v[j])=some ((E0E v es j:Nat):Int):=by
 have D:=Go.Hg.iE B.G;have hk:=D.kkm j hj;have h40:=B.cnt;have hn:=B.H.nv;have key:=Ma (f:=E0G) (E0L (E0I v es) (vertK v es) (edgeK v es)) (λi=>(E0L (E0I v es) (vertK v es) (edgeK v es),v[j],((E0L (E0I v es) (vertK v es) (edgeK v es)).length:Int),(i:Int))) (λ_ x=>x.1.contains v[j]) (λi=>.inl (i:Int)) (.inr ()) (λi hi=>by
  have CU:i<E0I v es:=by rwa [Go.Hg.c0] at hi
  have eg:(i:Int)<((E0L (E0I v es) (vertK v es) (edgeK v es)).length:Int):=by omega
  have hl:(vertK v es i).length<=1000000:=by have:=E17 v es i;omega
  have e1:(E0L (E0I v es) (vertK v es) (edgeK v es))[i]=(vertK v es i,edgeK v es i):=by
   have:=Go.Hg.kh (V:=vertK v es) (E:=edgeK v es) CU
   rw[ah hi,aa] at this;exact this
  simp only[E0G,eg,decide_true,cond_true,aq,ar,ah hi,ai,e1,E1E,E2H hl,iQ (show i<9223372036854775807 by omega)]
  cases (vertK v es i).contains v[j]<;>rfl) (by
  simp only[E0G,ba,decide_false,cond_false])
 have key:dk E0G (E0L (E0I v es) (vertK v es) (edgeK v es),v[j],((E0L (E0I v es) (vertK v es) (edgeK v es)).length:Int),0)=_:=key;unfold E0K;simp only;rw[key];rw[D7J (λx:List Int×List (List Int)=>x.1.contains v[j])]
 have pE:v[j]∈vertK v es (E0E v es j):=(D.vs _ hk _).2 ⟨j,hj,rfl,rfl⟩;have hg:=Go.Hg.kh (V:=vertK v es) (E:=edgeK v es) hk;have h2:=Go.Hg.auM (λx:List Int×List (List Int)=>x.1.contains v[j]) (E0L (E0I v es) (vertK v es) (edgeK v es)) 0
 have h3:(E0L (E0I v es) (vertK v es) (edgeK v es)).any (λx=>x.1.contains v[j])=true:=fV.2 ⟨_,bH hg,by simpa using pE⟩
 rw[h3] at h2;cases hx:Go.Hg.idx (λx:List Int×List (List Int)=>x.1.contains v[j]) (E0L (E0I v es) (vertK v es) (edgeK v es)) 0 with
 |none=>rw[hx] at h2;cases h2
 |some k =>
   obtain⟨_,h5,⟨h6,h7⟩,_⟩:=Go.Hg.IH hx;have YP:k<E0I v es:=by rw[Go.Hg.c0] at h5;omega
   have hg2:=Go.Hg.kh (V:=vertK v es) (E:=edgeK v es) YP;simp only[gv] at h6 h7;rw[ah h6,aa] at hg2;rw[hg2] at h7
   have:k=E0E v es j:=D.one YP hk B.G.av (by simpa using h7) pE
   rw[this];rfl
end
theorem E37 {T:List (List Int×List (List Int))}{q:List Nat}{n p:Nat}(hq:q.length<=1000000)(hn:n<=40)(hb:∀ x∈q,x<2 ^ n)(hp:p<=40)(idx:Int)(m:Nat)(tot:Int)(no:Nat)(vk:Int)(v:List Int)(nv j:Int)(out:List Int)(u:Int)(ls:List (List Int)) :
 dk E1b ((idx,T,m,tot,no,vk,(p:Int),0,0,v,nv,j,jG q,(q.length:Int),0),out,u,[],[],ls) =
 some ((idx,T,m,tot,no,vk,(q.filter (·.testBit p)).length,(q.filter (λx=>!x.testBit p)).length,v,nv,j),out,u,jG (q.filter (·.testBit p)),jG (q.filter (λx=>!x.testBit p)),ls):=by
 have key:=tQ (f:=E1b) q.length (λk=>((idx,T,m,tot,no,vk,(p:Int),((q.take k).filter (·.testBit p)).length,((q.take k).filter (λx=>!x.testBit p)).length,v,nv,j,jG q,(q.length:Int),(k:Int)),out,u,jG ((q.take k).filter (·.testBit p)),jG ((q.take k).filter (λx=>!x.testBit p)),ls))
  ((idx,T,m,tot,no,vk,(q.filter (·.testBit p)).length,(q.filter (λx=>!x.testBit p)).length,v,nv,j),out,u,jG (q.filter (·.testBit p)),jG (q.filter (λx=>!x.testBit p)),ls) (λk hk=>by
  have nq:(k:Int)<(q.length:Int):=by omega
  have hx:=D7r (hb _ (aM hk)) hn;have h1:((q.take k).filter (·.testBit p)).length<=k:=dF (dt _ _) (by rw[aW];omega)
  have h2:((q.take k).filter (λx=>!x.testBit p)).length<=k:=dF (dt _ _) (by rw[aW];omega)
  have b1:cQ ((((q.take k).filter (·.testBit p)).length+1)*8) 140737488355328=true:=jE (by omega)
  have b2:cQ ((((q.take k).filter (λx=>!x.testBit p)).length+1)*8) 140737488355328=true:=jE (by omega)
  have t1:aP ((q.take k).filter (·.testBit p)).length (jG ((q.take k).filter (·.testBit p)))=jG ((q.take k).filter (·.testBit p)):=a6 (by rw[CW];exact ay _)
  have t2:aP ((q.take k).filter (λx=>!x.testBit p)).length (jG ((q.take k).filter (λx=>!x.testBit p)))=jG ((q.take k).filter (λx=>!x.testBit p)):=a6 (by rw[CW];exact ay _)
  have XX:=D4U (k:=.u64) rfl (show p<=64 by omega) (by decide) hx
  cases hc:q[k].testBit p with
  |true =>
    rw[hc] at XX;simp only[E1b,nq,decide_true,cond_true,if_true,beq_self_eq_true,aq,ar,FF hk,ai,XX,CW,jE (ay _),b1,t1,iQ (show k<9223372036854775807 by omega)]
    rw[vz hk,s8,s8];simp[hc,jG]
  |false =>
    rw[hc] at XX;simp only[E1b,nq,decide_true,cond_true,cond_false,aq,ar,FF hk,ai,XX,CW,jE (ay _),b2,t2,iQ (show k<9223372036854775807 by omega)]
    rw[vz hk,s8,s8];simp[hc,jG]) (by
  simp only[E1b,CW,ba,decide_false,cond_false,pN])
 exact key
end Go.Mid
namespace Go.Mid
open Go.Hg (asc GOk A0t rt E0J E0M E0E E0I vertK edgeK E0L HOk D4P E0H E0O E0P E08 E1a atS AtI idsP tst)
abbrev atQ (v:List Int) (es:List (List Int)) (j:Nat) (x:List (List Nat)×Nat×Nat):(Int×List (List Int×List (List Int))×Nat×Int×Nat×List Int×Int×Int)×List Int×List (List Int) :=
 (((x.2.1:Int),E0L (E0I v es) (vertK v es) (edgeK v es),E0I v es,((E0H x.1:Nat):Int),(idsP (v.take j) x.2.2).length,v,(v.length:Int),(j:Int)),idsP (v.take j) x.2.2,x.1.map jG)
theorem E3g {v:List Int}{kk:Nat->Nat}{V:Nat->List Int}{j:Nat}(hj:j<v.length)(L:List (List Nat)):(L.getD (kk j) []).filter (·.testBit (A0t (V (kk j)) v[j]))=E0P kk (tst v kk V) L j:=by
 unfold E0P tst;have h0:v.getD j 0=v[j]:=by rw[bh,ah hj,bI]
 rw[h0]
theorem E3h {v:List Int}{kk:Nat->Nat}{V:Nat->List Int}{j:Nat}(hj:j<v.length)(L:List (List Nat)):(L.getD (kk j) []).filter (λx=>!x.testBit (A0t (V (kk j)) v[j]))=E08 kk (tst v kk V) L j:=by
 unfold E08 tst;have h0:v.getD j 0=v[j]:=by rw[bh,ah hj,bI]
 rw[h0]
section
variable {v:List Int}{es:List (List Int)}(B:PB v es)
include B
theorem E3Q {j:Nat}(hj:j<v.length){x:List (List Nat)×Nat×Nat}(I:AtI v.length (cb v es) x)(hs:x.2.2<2 ^ j) :
 E1c (atQ v es j x)=some (.inl (atQ v es (j+1) (E1a (E0E v es) (tst v (E0E v es) (vertK v es)) x j))):=by
 have D:=Go.Hg.iE B.G;have hk:=D.kkm j hj;have h40:=B.cnt;have hn:=B.H.nv;have Dy:(j:Int)<(v.length:Int):=by omega
 have hkx:E0E v es j<x.1.length:=by rw[I.len,E1n];exact hk
 have pE:v[j]∈vertK v es (E0E v es j):=(D.vs _ hk _).2 ⟨j,hj,rfl,rfl⟩;have Ds:=E17 v es (E0E v es j);have hp:=Go.Hg.iV pE;have Ct:=D8W (show (vertK v es (E0E v es j)).length<=1000000 by omega) pE
 have dK:=I.sub (E0E v es j);have aAR:(cb v es).getD (E0E v es j) []=D4P (vertK v es (E0E v es j)) (edgeK v es (E0E v es j)):=by
  rw[bh,E10 hk];rfl
 rw[aAR] at dK;have hql:(x.1.getD (E0E v es j) []).length<=1000000:=by
  have h1:=dK.length_le;have h2:=B.sm _ hk;omega
 have hqb:∀y∈x.1.getD (E0E v es j) [],y<2 ^ (vertK v es (E0E v es j)).length:=λy hy=>((Go.Hg.auX (D.gok B.G hk)).1 (dK.subset hy)).1
 have Aw:=E37 (T:=E0L (E0I v es) (vertK v es) (edgeK v es)) hql (show (vertK v es (E0E v es j)).length<=40 by omega) hqb (show A0t (vertK v es (E0E v es j)) v[j]<=40 by omega)
 have Tv:(x.1.map jG)[E0E v es j]?=some (jG (x.1.getD (E0E v es j) [])):=by
  rw[aL,bh,ah hkx];rfl
 have ou:=Go.Hg.iv x.1 (E0E v es j) hkx;have tK:=I.lt;have hle:=I.le;have aDi:E0H (cb v es)<=1000000000000000:=by
  have:=B.pr (cb v es).length
  rwa [dM] at this
 have hq0:0<(x.1.getD (E0E v es j) []).length:=by
  rcases Nat.eq_zero_or_pos (x.1.getD (E0E v es j) []).length with h | h
  . rw[h,Nat.zero_mul] at ou;omega
  . exact h
 have hdiv:((E0H x.1:Nat):Int).tdiv ((x.1.getD (E0E v es j) []).length:Int)=((E0O x.1 (E0E v es j):Nat):Int):=by
  rw[ou,r8];exact Int.mul_tdiv_cancel_left _ (by omega)
 have hws:=Go.Hg.vb (E0E v es) (tst v (E0E v es) (vertK v es)) x.1 j;have hrl:E0O x.1 (E0E v es j)<=1000000000000000:=by
  have:1*E0O x.1 (E0E v es j)<=E0H x.1:=by rw[ou];exact Nat.mul_le_mul_right _ hq0
  omega
 have TU:E0H x.1=(E0P (E0E v es) (tst v (E0E v es) (vertK v es)) x.1 j).length*E0O x.1 (E0E v es j)+(E08 (E0E v es) (tst v (E0E v es) (vertK v es)) x.1 j).length*E0O x.1 (E0E v es j):=by rw[ou,←hws,Nat.add_mul]
 have HN:(((x.1.getD (E0E v es j) []).length:Int) != 0)=true:=by rw[bne_iff_ne];omega
 have w1:af.wrap ((E0O x.1 (E0E v es j):Nat):Int)=((E0O x.1 (E0E v es j):Nat):Int):=E1h (by omega) (by omega)
 have w2:af.wrap (((E0O x.1 (E0E v es j):Nat):Int)*((E0P (E0E v es) (tst v (E0E v es) (vertK v es)) x.1 j).length:Int))=(((E0P (E0E v es) (tst v (E0E v es) (vertK v es)) x.1 j).length*E0O x.1 (E0E v es j):Nat):Int):=by
  rw[←r8,azF];exact E1h (azG (by decide) (aq _)) (by omega)
 have w3:af.wrap (((E0O x.1 (E0E v es j):Nat):Int)*((E08 (E0E v es) (tst v (E0E v es) (vertK v es)) x.1 j).length:Int))=(((E08 (E0E v es) (tst v (E0E v es) (vertK v es)) x.1 j).length*E0O x.1 (E0E v es j):Nat):Int):=by
  rw[←r8,azF];exact E1h (azG (by decide) (aq _)) (by omega)
 have wj:=iQ (show j<9223372036854775807 by omega)
 have Kk:(idsP (v.take j) x.2.2).length<=40:=by
  have:=D05 (v.take j) x.2.2
  rw[aW] at this;omega
 have Tx:cQ (((idsP (v.take j) x.2.2).length+1)*8) 140737488355328=true:=jE (by omega)
 have OI:∀l:List Int,aP l.length l=l:=λl=>dM
 have Ov:∀l:List Nat,aP l.length (jG l)=jG l:=λl=>a6 (by rw[CW];exact ay _)
 simp only[E1c,atQ,Dy,decide_true,cond_true,aq,ar,ah hj,ai,E3x B hj,Go.Hg.kh hk,Ct,lB hk,Tv,CW,Aw,HN,hdiv,E3g hj,E3h hj,w1,w2,w3,jE (ay _),wj,OI,Ov,Tx,Kk];have aBD:=Go.Hg.aDx x.1 (E0E v es j) (E0P (E0E v es) (tst v (E0E v es) (vertK v es)) x.1 j) hkx;have aBE:=Go.Hg.aDx x.1 (E0E v es j) (E08 (E0E v es) (tst v (E0E v es) (vertK v es)) x.1 j) hkx;have aAi:∀b,idsP (v.take (j+1)) b=idsP (v.take j) b++if b.testBit j then[v[j]] else[]:=C9c hj
 have Sc:x.2.2.testBit j=false:=Nat.testBit_lt_two_pow hs;by_cases c:x.2.1<(E0P (E0E v es) (tst v (E0E v es) (vertK v es)) x.1 j).length*E0O x.1 (E0E v es j)
 . have c':((x.2.1:Nat):Int)<(((E0P (E0E v es) (tst v (E0E v es) (vertK v es)) x.1 j).length*E0O x.1 (E0E v es j):Nat):Int):=by omega
   have e:E1a (E0E v es) (tst v (E0E v es) (vertK v es)) x j=(x.1.set (E0E v es j) (E0P (E0E v es) (tst v (E0E v es) (vertK v es)) x.1 j),x.2.1,x.2.2 ||| 1 <<< j):=by unfold E1a;rw[if_pos c]
   have e2:idsP (v.take (j+1)) (x.2.2 ||| 1 <<< j)=idsP (v.take j) x.2.2++[v[j]]:=by
    rw[aAi]
    have:(x.2.2 ||| 1 <<< j).testBit j=true:=by simp[fj,auP]
    rw[this,if_pos rfl];congr 1;refine Go.Hg.azN λi hi=>?_
    rw[aW] at hi
    have:i≠j:=by omega
    have h2:(1 <<< j).testBit i=false:=by
     rw[mQ,Nat.testBit_two_pow_of_ne (Ne.symm this)]
    rw[fj,h2,Bool.or_false]
   simp only[c',decide_true,cond_true,e,e2,aBD,gw,aR,dN]
 . have c':¬ ((x.2.1:Nat):Int)<(((E0P (E0E v es) (tst v (E0E v es) (vertK v es)) x.1 j).length*E0O x.1 (E0E v es j):Nat):Int):=by omega
   have e:E1a (E0E v es) (tst v (E0E v es) (vertK v es)) x j=(x.1.set (E0E v es j) (E08 (E0E v es) (tst v (E0E v es) (vertK v es)) x.1 j),x.2.1-(E0P (E0E v es) (tst v (E0E v es) (vertK v es)) x.1 j).length*E0O x.1 (E0E v es j),x.2.2):=by unfold E1a;rw[if_neg c]
   have e2:idsP (v.take (j+1)) x.2.2=idsP (v.take j) x.2.2:=by
    rw[aAi,Sc];simp
   have w4:af.wrap (((x.2.1:Nat):Int)-(((E0P (E0E v es) (tst v (E0E v es) (vertK v es)) x.1 j).length*E0O x.1 (E0E v es j):Nat):Int))=((x.2.1-(E0P (E0E v es) (tst v (E0E v es) (vertK v es)) x.1 j).length*E0O x.1 (E0E v es j):Nat):Int):=by
    rw[←Int.ofNat_sub (by omega)]
    exact E1h (by omega) (by omega)
   simp only[c',decide_false,cond_false,e,e2,aBE,gw,w4]
theorem E3R {i:Nat}(hi:i<(D4P v es).length):∃ s,(D4P v es)[i]?=some s ∧
 dk E1c (((i:Int),E0L (E0I v es) (vertK v es) (edgeK v es),E0I v es,((E0H (cb v es):Nat):Int),0,v,(v.length:Int),0),[],(cb v es).map jG)=some ((idsP v s).length,idsP v s):=by
 have D:=Go.Hg.iE B.G;have hc:E0H (cb v es)=(D4P v es).length:=D.count B.G;have hkk:∀j,j<v.length->E0E v es j<(cb v es).length:=λj hj=>by rw[E1n];exact D.kkm j hj
 have hII:=Go.Hg.aAg (E0E v es) (tst v (E0E v es) (vertK v es)) (n:=v.length) (L0:=cb v es) (i:=i) (by rw[hc];exact hi) hkk
 have kV:=D.at_ B.G hi;rw [Go.Hg.aAa] at kV;refine ⟨_,kV,?_⟩;have key:=tQ (f:=E1c) v.length (λj=>atQ v es j (atS (E0E v es) (tst v (E0E v es) (vertK v es)) (cb v es) i j))
  ((idsP v (atS (E0E v es) (tst v (E0E v es) (vertK v es)) (cb v es) i v.length).2.2).length,idsP v (atS (E0E v es) (tst v (E0E v es) (vertK v es)) (cb v es) i v.length).2.2) (λj hj=>by
  have hs:=E3Q B hj (hII j (by omega)) (Go.Hg.azI (n:=v.length) _ _ j)
  rw[hs,Go.Hg.azw]) (by
  simp only[E1c,atQ,ba,decide_false,cond_false,dM])
 exact key
theorem E38 (hv:Go.Hg.validH v es=true)(i:Int):E1l ((v,es),i)=if h:0<=i∧i.toNat<(D4P v es).length then some (idsP v ((D4P v es)[i.toNat]'h.2),0) else some ([],7):=by
 have D:=Go.Hg.iE B.G;have hc:E0H (cb v es)=(D4P v es).length:=D.count B.G;by_cases h:0<=i∧i.toNat<(D4P v es).length
 . rw [dif_pos h];obtain ⟨n,rfl⟩:∃ n:Nat,i=(n:Int):=⟨i.toNat,by omega⟩
   have hn:n<(D4P v es).length:=by simpa using h.2
   obtain⟨s,hs,hl⟩:=E3R B hn;rw[ah hn,aa] at hs;have n1:¬((n:Int)<0):=by omega
   have n2:¬((n:Int) ≥ ((E0H (cb v es):Nat):Int)):=by omega
   simp only[E1l,E1Z B.H B.el hv,ai,bne_self_eq_false,cond_false,E11 B,n1,n2,decide_false,hl,jE (ay _),cond_true,dM,ar,hs]
 . rw [dif_neg h];by_cases h0:i<0
   . simp only[E1l,E1Z B.H B.el hv,ai,bne_self_eq_false,cond_false,E11 B,h0,decide_true,cond_true,jE (ay _),gH]
   . have n2:i ≥ ((E0H (cb v es):Nat):Int):=by omega
     simp only[E1l,E1Z B.H B.el hv,ai,bne_self_eq_false,cond_false,E11 B,h0,n2,decide_false,decide_true,cond_true,jE (ay _),gH]
end
end Go.Mid
namespace Go.Mid
open Go.Hg (asc GOk HOk D4P E0H E0O idsP refR B9j validH A06 hEs E0I)
theorem E3i {x:Int}(h:(Lit.int .u8 x).wf=true):0<=x∧x<=255:=by
 simp only[Lit.wf,aj,decide_eq_true_eq] at h;have h1:dp.min=0:=rfl;have h2:dp.max=255:=rfl;rw[h1,h2] at h;exact h
theorem E3E:∀ {l:List Int},(∀ x∈l,(Lit.int .u8 x).wf=true)->∃ L:List Nat,l=jG L∧∀ e∈L,e<256
 | [],_=>⟨[],rfl,λ_ h=>by cases h⟩
 |x::r,h=>by
   have hx:=E3i (h x (by simp))
   obtain⟨n,hn⟩:=eB hx.1;obtain⟨L,hL,h2⟩:=E3E (l:=r) λy hy=>h y (List.mem_cons_of_mem _ hy)
   refine⟨n::L,by rw[hn,hL];rfl,λe he=>?_⟩
   rcases List.mem_cons.1 he with rfl | he
   . omega
   . exact h2 e he
theorem E39 {v:List Int}{es:List (List Int)}(H:HOk v es)(G:GOk v es)(el:∀e∈es,e.length<=1000000)(hs:(D4P v es).length<=100000):PB v es:=by
 have D:=Go.Hg.iE G;have hc:E0H (cb v es)=(D4P v es).length:=D.count G;have hne:E0H (cb v es)≠0:=by
  rw[hc]
  have:=Go.Hg.az9 G
  intro e;exact this (List.length_eq_zero_iff.1 e)
 refine⟨H,G,el,λk hk=>?_,λj=>?_⟩
 . have nq:k<(cb v es).length:=by rw [E1n];exact hk
   have h1:=Go.Hg.iv (cb v es) k nq;have h2:(cb v es).getD k []=D4P (Go.Hg.vertK v es k) (Go.Hg.edgeK v es k):=by
    rw[bh,E10 hk];rfl
   rw[h2] at h1;have h3:E0O (cb v es) k≠0:=by
    intro e;rw[e,azH] at h1;exact hne h1
   have h4:=gW (D4P (Go.Hg.vertK v es k) (Go.Hg.edgeK v es k)).length (ew h3);omega
 . have h1:E0H (cb v es)=E0H ((cb v es).take j)*E0H ((cb v es).drop j):=by rw [← E16,List.take_append_drop]
   have h3:E0H ((cb v es).drop j)≠0:=by
    intro e;rw[e,azH] at h1;exact hne h1
   have h4:=gW (E0H ((cb v es).take j)) (ew h3);show E0H ((cb v es).take j)<=_;omega
theorem E3y (v:List Int)(es:List (List Int)):(D4P v es).length<=2 ^ v.length:=D7v _ _ _ _ _
theorem C4z {v:List Int}{es:List (List Int)}(H:HOk v es)(el:∀e∈es,e.length<=1000000)(hv:validH v es=true):E1m (v,es)=some 0:=by
 have hn:=H.nv
 have:¬(v.length:Int)>40:=by omega
 unfold E1m;simp only[C0p (show v.length<=1000000 by omega) el,ai,hv,bO,cond_false,this,decide_false]
theorem E3z {v:List Int}{es:List (List Int)}(G:GOk v es){i:Nat}(h:i<(D4P v es).length):(refR v es)[i]?=some (idsP v (D4P v es)[i]):=by
 rw[←Go.Hg.avb G];unfold B9j;rw[aL,ah h];rfl
theorem E12 {v:List Int}{es:List (List Int)}(G:GOk v es):(refR v es).length=(D4P v es).length:=by
 rw[←Go.Hg.avb G];unfold B9j;rw[aB]
theorem E3j {v:List Int}{es:List (List Int)}(H:HOk v es)(G:GOk v es)(n20:v.length<=20)(el:∀ e∈es,e.length<=1000000)(hv:validH v es=true)(i:Int) :
 E1e ((v,es),i)=if h:0<=i∧i.toNat<(D4P v es).length then some (idsP v ((D4P v es)[i.toNat]'h.2),0) else some ([],7):=by
 have hne:=H.ne;have hR:=D7W n20 (show es.length<=1000000 by omega) el
 by_cases h:0<=i∧i.toNat<(D4P v es).length
 . rw [dif_pos h];have n1:¬ (i<0):=by omega
   have n2:¬(i ≥ ((D4P v es).length:Int)):=by omega
   simp only[E1e,C4z H el hv,ai,bne_self_eq_false,cond_false,hR,E12 G,n1,n2,decide_false,h.1,decide_true,cond_true,E3z G h.2]
 . rw [dif_neg h];by_cases h0:i<0
   . simp only[E1e,C4z H el hv,ai,bne_self_eq_false,cond_false,hR,h0,decide_true,cond_true,jE (ay _),gH]
   . have n2:i ≥ ((D4P v es).length:Int):=by omega
     simp only[E1e,C4z H el hv,ai,bne_self_eq_false,cond_false,hR,E12 G,h0,n2,decide_false,decide_true,cond_true,jE (ay _),gH]
theorem E4a {N:Nat}{E:List Nat}(hE:∀e∈E,e<256)(i:Int):E0U (((N:Int),jG E),i)=some true:=by
 unfold E0U;simp only[C7D hE,ai,bO,cond_false];cases decide (E.length<=12) with
 |false=>rfl
 |true =>
   have H:=Go.Hg.aAI N E;have G:=Go.Hg.FD N E;have el:∀e∈hEs N E,e.length<=1000000:=λe he=>by have:=Go.Hg.az0 N E e he;omega
   have hv:=Go.Hg.zK N E;have Ds:(A06 (N%9)).length<=8:=by rw[Go.Hg.lO];omega
   have hs:(D4P (A06 (N%9)) (hEs N E)).length<=256:=dF (E3y _ _) (dF (ez (by decide) Ds) (by decide))
   have B:=E39 H G el (by omega)
   have hne:=H.ne;have hR:=D7W (show (A06 (N%9)).length<=20 by omega) (show (hEs N E).length<=1000000 by omega) el
   simp only[bO,cond_false,E3w B hv,E38 B hv,E3j H G (by omega) el hv,ai]
   by_cases h:0<=i∧i.toNat<(D4P (A06 (N%9)) (hEs N E)).length
   . have hl:=D05 (A06 (N%9)) ((D4P (A06 (N%9)) (hEs N E))[i.toNat]'h.2);simp only[dif_pos h,ai,beq_self_eq_true,cond_true,hR,E12 G,C7z (show (idsP (A06 (N%9)) ((D4P (A06 (N%9)) (hEs N E))[i.toNat]'h.2)).length<=1000000 by omega),decide_true]
   . simp only[dif_neg h,ai,beq_self_eq_true,cond_true,hR,E12 G,C7z (show ([]:List Int).length<=1000000 by decide),decide_true]
theorem E3S (g:Int×List Int)(i:Int)(h1:(Lit.int .u8 g.1).wf=true)(h3:∀x∈g.2,(Lit.int .u8 x).wf=true):E0U (g,i)=some true:=by
 obtain⟨n,l⟩:=g;obtain⟨N,hN⟩:=eB (E3i h1).1;obtain⟨E,rfl,hE⟩:=E3E h3;have hN:n=(N:Int):=hN;subst hN;exact E4a hE i
end Go.Mid
