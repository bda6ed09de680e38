/- Chapter 49: the class of a query on both sides. -/
import Derived.Test.YtdohjmmogbefmaaGreatP4
set_option linter.unusedSimpArgs false
set_option linter.unusedVariables false
set_option maxHeartbeats 1000000
open Bool renaming not_false->auI,not_true->bO,eq_iff_iff->c6,not_eq_true'->ed
open Int renaming natCast_nonneg->aq,toNat_natCast->ar,lt_irrefl->ba,natCast_zero->av
open List renaming any_eq_true->fV,getElem?_eq_getElem->ah,range->bA,all_eq_true->bB,contains_iff_mem->bj,mem_range->cu,range_eq_range'->lr,range'_append_1->aTd,replicate->au
open Nat renaming le_refl->ay,zero_le->dg
open Option renaming bind_some->ai,bind->bc
namespace Go.Mid
section
variable{keys:List (ByteArray×Int)}{head:List ByteArray}{l:List tI}(q:QV keys head l)
def Cls(Q S:Prop)(c:Int):Prop:=(S->c=3)/\(¬S->Q->c=2)/\(¬Q->c=1)
theorem Cls.uniq{Q S:Prop}{c d:Int}(h:Cls Q S c)(k:Cls Q S d):c=d:=by by_cases hS:S;rw[h.1 hS,k.1 hS];by_cases hQ:Q;rw[h.2.1 hS hQ,k.2.1 hS hQ];rw[h.2.2 hQ,k.2.2 hQ]
theorem Cls.val{Q S:Prop}{c:Int}(h:Cls Q S c):(c=1\/c=2\/c=3):=by by_cases hS:S;exact .inr (.inr (h.1 hS));by_cases hQ:Q;exact .inr (.inl (h.2.1 hS hQ));exact .inl (h.2.2 hQ)
theorem Cls.aBn{Q S Q' S':Prop}{c:Int}(h:Cls Q S c)(e1:Q↔Q')(e2:S↔S'):Cls Q' S' c:=⟨λs=>h.1 (e2.2 s),λs r=>h.2.1 (λx=>s (e2.1 x)) (e1.2 r),λr=>h.2.2 λx=>r (e1.1 x)⟩
def F7I(keys:List (ByteArray×Int))(head:List ByteArray)(l:List tI)(i k:Nat):Prop:=F7H keys head l i k/\¬F4k keys head l i k
def F7r(keys:List (ByteArray×Int))(head:List ByteArray)(l:List tI)(P:Nat->Nat->Prop):Prop:=∃i k,P i k/\F7H keys head l i k
def F7s(keys:List (ByteArray×Int))(head:List ByteArray)(l:List tI)(P:Nat->Nat->Prop):Prop:=∃i k,P i k/\F7I keys head l i k
theorem Cls.add{P P':Nat->Nat->Prop}{c:Int}(h:Cls (F7r keys head l P) (F7s keys head l P) c){i k:Nat}(hP:∀a b,P' a b↔(P a b\/(a=i/\b=k))):(¬F7H keys head l i k->Cls (F7r keys head l P') (F7s keys head l P') c)/\(F7I keys head l i k->Cls (F7r keys head l P') (F7s keys head l P') 3)/\(F7H keys head l i k->¬F7I keys head l i k->Cls (F7r keys head l P') (F7s keys head l P') (if 2>c then 2 else c)):=by(have eQ:F7r keys head l P'↔(F7r keys head l P\/F7H keys head l i k):=by constructor;rintro⟨a,b,h1,h2⟩;rcases(hP a b).1 h1 with h1|⟨rfl,rfl⟩;exact .inl ⟨a,b,h1,h2⟩;exact .inr h2;rintro(⟨a,b,h1,h2⟩|h2);exact⟨a,b,(hP a b).2 (.inl h1),h2⟩;exact⟨i,k,(hP i k).2 (.inr ⟨rfl,rfl⟩),h2⟩);(have eS:F7s keys head l P'↔(F7s keys head l P\/F7I keys head l i k):=by constructor;rintro⟨a,b,h1,h2⟩;rcases(hP a b).1 h1 with h1|⟨rfl,rfl⟩;exact .inl ⟨a,b,h1,h2⟩;exact .inr h2;rintro(⟨a,b,h1,h2⟩|h2);exact⟨a,b,(hP a b).2 (.inl h1),h2⟩;exact⟨i,k,(hP i k).2 (.inr ⟨rfl,rfl⟩),h2⟩);have hSQ:F7s keys head l P->F7r keys head l P:=λ⟨a,b,h1,h2⟩=>⟨a,b,h1,h2.1⟩;refine⟨λhc=>h.aBn ?_ ?_,λhs=>⟨λ_=>rfl,λn _=>(n (eS.2 (.inr hs))).elim,λn=>(n (eQ.2 (.inr hs.1))).elim⟩,λhc hs=>⟨λs=>?_,λn _=>?_,λn=>(n (eQ.2 (.inr hc))).elim⟩⟩;rw[eQ];exact⟨.inl,λx=>x.elim id λy=>(hc y).elim⟩;rw[eS];exact⟨.inl,λx=>x.elim id λy=>(hc y.1).elim⟩;have s':=(eS.1 s).resolve_right hs;rw[h.1 s'];rfl;have n':¬F7s keys head l P:=λx=>n (eS.2 (.inl x));by_cases hQ:F7r keys head l P;rw[h.2.1 n' hQ];rfl;rw[h.2.2 hQ];rfl
def before(N i k:Nat)(a b:Nat):Prop:=(a<i/\b<N)\/(a=i/\b<k)
include q in
theorem F8f{i:Nat}(hi:i<l.length){c:Int}(hc:Cls (F7r keys head l (before l.length i 0)) (F7s keys head l (before l.length i 0)) c):∃d,A0d F65 ((keys,mat l.length (F7h keys head l),mat l.length (F7g (F7h keys head l) l.length),c,(i:Int),(0:Int)),head,l)=some ((keys,mat l.length (F7h keys head l),mat l.length (F7g (F7h keys head l) l.length),d,(i:Int)),head,l)/\Cls (F7r keys head l (before l.length (i+1) 0)) (F7s keys head l (before l.length (i+1) 0)) d:=by have hna:=q.na;have key:=V4 (f:=F65) (S:=Int) l.length (λk c=>((keys,mat l.length (F7h keys head l),mat l.length (F7g (F7h keys head l) l.length),c,(i:Int),(k:Int)),head,l)) (λk c=>Cls (F7r keys head l (before l.length i k)) (F7s keys head l (before l.length i k)) c) (λb=>∃d,b=((keys,mat l.length (F7h keys head l),mat l.length (F7g (F7h keys head l) l.length),d,(i:Int)),head,l)/\Cls (F7r keys head l (before l.length (i+1) 0)) (F7s keys head l (before l.length (i+1) 0)) d) c hc (λk c hk hc=>?_) (λc hc=>?_);obtain⟨b,h1,d,rfl,h2⟩:=key;exact⟨d,h1,h2⟩;left;(have nq:(k:Int)<((mat l.length (F7h keys head l)).length:Int):=by rw[F7i];omega);have g1:=F7p (f:=F7h keys head l) hi;have g2:=F7p (f:=F7g (F7h keys head l) l.length) hk;have r1:=Rs (g:=F7h keys head l i) hk;have r2:=Rs (g:=F7g (F7h keys head l) l.length k) hi;obtain⟨t,_,w2,w3⟩:=F4Y q hi hk;have Gs:=hc.add (i:=i) (k:=k) (P':=before l.length i (k+1)) (λa b=>by unfold before;omega);(cases h1:F7h keys head l i k with|false=>refine⟨c,?_,Gs.1 λh=>by rw[F7v.2 h.1]at h1;cases h1⟩;simp only[F65,nq,decide_true,cond_true,aq,ar,g1,ai,r1,h1,cond_false,iQ (show k<9223372036854775807 by omega)]|true=>cases h2:F7g (F7h keys head l) l.length k i with|false=>refine⟨c,?_,Gs.1 λh=>by rw[(F7U.2 h).2]at h2;cases h2⟩;simp only[F65,nq,decide_true,cond_true,aq,ar,g1,g2,ai,r1,r2,h1,h2,cond_false,iQ (show k<9223372036854775807 by omega)]|true=>have XY:F7H keys head l i k:=F7U.1 ⟨h1,h2⟩;cases h3:t with|false=>refine⟨3,?_,Gs.2.1 ⟨XY,λh=>by rw[w3.2 h]at h3;cases h3⟩⟩;simp only[F65,nq,decide_true,cond_true,aq,ar,g1,g2,ai,r1,r2,h1,h2,w2,h3,auI,iQ (show k<9223372036854775807 by omega)]|true=>refine⟨if 2>c then 2 else c,?_,Gs.2.2 XY λh=>h.2 (w3.1 h3)⟩;simp only[F65,nq,decide_true,cond_true,aq,ar,g1,g2,ai,r1,r2,h1,h2,w2,h3,bO,cond_false,iQ (show k<9223372036854775807 by omega)]);(have e:∀a b,before l.length i l.length a b↔before l.length (i+1) 0 a b:=λa b=>by unfold before;omega);refine⟨_,?_,c,rfl,hc.aBn ⟨λ⟨a,b,h1,h2⟩=>⟨a,b,(e a b).1 h1,h2⟩,λ⟨a,b,h1,h2⟩=>⟨a,b,(e a b).2 h1,h2⟩⟩ ⟨λ⟨a,b,h1,h2⟩=>⟨a,b,(e a b).1 h1,h2⟩,λ⟨a,b,h1,h2⟩=>⟨a,b,(e a b).2 h1,h2⟩⟩⟩;simp only[F65,F7i,ba,decide_false,cond_false]
abbrev F7C(keys:List (ByteArray×Int))(head:List ByteArray)(l:List tI):Prop:=∃i k,F7H keys head l i k
abbrev D4P(keys:List (ByteArray×Int))(head:List ByteArray)(l:List tI):Prop:=∃i k,F7I keys head l i k
include q in
theorem F74:∃d,A0d F7f ((keys,mat l.length (F7h keys head l),mat l.length (F7g (F7h keys head l) l.length),(1:Int),(0:Int)),head,l)=some d/\Cls (F7C keys head l) (D4P keys head l) d:=by have hna:=q.na;have key:=V4 (f:=F7f) (S:=Int) l.length (λi c=>((keys,mat l.length (F7h keys head l),mat l.length (F7g (F7h keys head l) l.length),c,(i:Int)),head,l)) (λi c=>Cls (F7r keys head l (before l.length i 0)) (F7s keys head l (before l.length i 0)) c) (λd=>Cls (F7C keys head l) (D4P keys head l) d) 1 ?_ (λi c hi hc=>?_) (λc hc=>?_);exact key;refine⟨λ⟨a,b,h,_⟩=>?_,λ_⟨a,b,h,_⟩=>?_,λ_=>rfl⟩;unfold before at h;omega;unfold before at h;omega;left;(have hi':(i:Int)<((mat l.length (F7h keys head l)).length:Int):=by rw[F7i];omega);obtain⟨d,e,hd⟩:=F8f q hi hc;refine⟨d,?_,hd⟩;simp only[F7f,hi',decide_true,cond_true];refine(congrArg (λo=>bc o _) e).trans ?_;simp only[ai,iQ (show i<9223372036854775807 by omega)];refine⟨c,?_,hc.aBn ⟨λ⟨a,b,_,h2⟩=>⟨a,b,h2⟩,λ⟨a,b,h2⟩=>⟨a,b,.inl ⟨h2.1.1,h2.1.2.1⟩,h2⟩⟩ ⟨λ⟨a,b,_,h2⟩=>⟨a,b,h2⟩,λ⟨a,b,h2⟩=>⟨a,b,.inl ⟨h2.1.1.1,h2.1.1.2.1⟩,h2⟩⟩⟩;simp only[F7f,F7i,ba,decide_false,cond_false]
theorem F8p(hna:l.length<=6):Ej l.length (E8c keys head l):=by rintro⟨u,w⟩he;obtain⟨a,b,rfl,rfl,h⟩:=F7m.1 he;have h1:=h.1;have h2:=h.2.1;exact⟨by omega,by show((a:Nat):Int)<_;omega,by show(0:Int)<=((b:Nat):Int);omega,by show((b:Nat):Int)<_;omega⟩
theorem F8q{n:Nat}{E:oW}(hn:n<=1000)(hE:E.length<=1000)(h:Ej n E):JK (n:Int) E=0:=by unfold JK;rw[if_neg (by omega),if_neg (by omega),if_neg (by omega),if_neg];rw[fV];rintro⟨e,he,hb⟩;have:=h e he;rw[XD]at hb;omega
theorem F8r{n:Nat}{E:oW}(hr:Ej n E){s:Nat}{out:List Int}(r:aDp n E s out)(v:Nat):(v:Int)∈out↔Rc (BX E) s v:=by constructor;intro h;obtain⟨k,e,h2⟩:=r.min (λx=>∃k:Nat,x=(k:Int)/\Rc (BX E) s k) ⟨s,rfl,.refl⟩ (λu w hu he=>by obtain⟨k,rfl,hk⟩:=hu;obtain⟨m,hm⟩:=Int.eq_ofNat_of_zero_le (hr _ he).2.2.1;simp only at hm;subst hm;exact⟨m,rfl,hk.tail he⟩) _ h;(have:v=k:=by omega);subst this;exact h2;intro h;induction h with|refl=>exact r.st|tail h1 h2 ih=>exact r.cl _ ih _ h2
include q in
theorem F75:∃ d,(do
 let v ← QS ((l.length:Int),E8c keys head l)
 bif !v.2 then some ((1:Int),(0:Int)) else (A0d F7b (E4j keys head l,E8c keys head l,E8c keys head l,((E8c keys head l).length:Int),(0:Int))).bind λs=>Sum.elim (λt=>some (t.1,t.2)) (λ_=>some ((2:Int),(0:Int))) s)=some (d,0)∧Cls (F7C keys head l) (D4P keys head l) d:=by
 have hna:=q.na
 have hE:=F1E (keys:=keys) (head:=head) hna
 have hr:=F8p (keys:=keys) (head:=head) hna
 have hv:=F8q (n:=l.length) (by omega) (by omega) hr
 have hL:=E79 (keys:=keys) (head:=head) (l:=l)
 obtain ⟨L,hs,r,e,hc⟩:=D99 E3Y hv (by omega) hr (by omega) (λe he=>by
  obtain ⟨u,w⟩:=e
  obtain ⟨a,b,rfl,rfl,h⟩:=F7m.1 he
  have:=h.2.2.1
  show ((a:Nat):Int)≠((b:Nat):Int)
  omega)
 have XY:(∃ C∈L,C.length≠1)↔F7C keys head l:=by
  constructor
  . rintro ⟨C,hC,h1⟩
    have hne:=hs.ne C hC
    have aRu:=hs.asc C hC
    obtain ⟨a,b,rest,rfl⟩:∃ a b rest,C=a::b::rest:=by
     match C,hne,h1 with
     | [],h,_=>exact absurd rfl h
     | [a],_,h=>exact absurd rfl h
     | a::b::rest,_,_=>exact ⟨a,b,rest,rfl⟩
    have uO:a<b:=(List.pairwise_cons.1 aRu).1 b (by simp)
    obtain ⟨_,hca⟩:=hs.cls _ hC a (by simp)
    have hb:=(hca b).1 (by simp)
    obtain ⟨y,EE,hy2⟩:=E1h hb.1 (by omega)
    exact ⟨a,y,F7q.1 EE,hy2.trans hb.2⟩
  . rintro ⟨i,k,h1,h2⟩
    obtain ⟨C,hC,hiC⟩:=hs.all i h1.1
    refine ⟨C,hC,λhl=>?_⟩
    have hk:k∈C:=((hs.cls C hC i hiC).2 k).2 ⟨Rc.one (F7q.2 h1),h2⟩
    match C,hl with
    | [x],_ =>
      rw [List.mem_singleton] at hk hiC
      exact h1.2.2.1 (by rw [hk,hiC])
 have Tb:(∀ C∈L,C.length=1)->¬ F7C keys head l:=λh hq=>by
  obtain ⟨C,hC,h1⟩:=XY.2 hq
  exact h1 (h C hC)
 show ∃ d,(QS ((l.length:Int),E8c keys head l)).bind _=some (d,0)∧_
 rw [e,ai]
 rcases hc with ⟨h1,h2⟩ | ⟨h1,h2⟩
 . rw [h1]
   simp only [bO,cond_false]
   have hQ:=XY.1 h2
   have hSt:∀ j (hj:j<(E8c keys head l).length),∃ a b:Nat,(E8c keys head l)[j]=((a:Int),(b:Int))∧E8J keys head l a b:=λj hj=>by
    have hm:=List.getElem_mem hj
    generalize (E8c keys head l)[j]=p at hm
    obtain ⟨u,w⟩:=p
    obtain ⟨a,b,rfl,rfl,h⟩:=F7m.1 hm
    exact ⟨a,b,rfl,h⟩
   have key:=V4 (f:=F7b) (S:=Unit) (E8c keys head l).length (λj _=>(E4j keys head l,E8c keys head l,E8c keys head l,((E8c keys head l).length:Int),(j:Int)))
    (λj _=>∀ m (hm:m<(E8c keys head l).length),m<j->∀ a b:Nat,(E8c keys head l)[m]=((a:Int),(b:Int))->¬ F7I keys head l a b)
    (λb=>(b=.inl (3,0)∧D4P keys head l)∨(b=.inr ()∧¬ D4P keys head l)) () (λm _ hm=>by omega) (λj _ hj hJ=>?_) (λ_ hJ=>?_)
   . obtain ⟨b,k1,k2⟩:=key
     simp only [av] at k1
     rw [k1,ai]
     rcases k2 with ⟨rfl,k2⟩ | ⟨rfl,k2⟩
     . exact ⟨3,rfl,λ_=>rfl,λn=>(n k2).elim,λn=>(n hQ).elim⟩
     . exact ⟨2,rfl,λn=>(k2 n).elim,λ_ _=>rfl,λn=>(n hQ).elim⟩
   . obtain ⟨a,b,hx,uO⟩:=hSt j hj
     have Dy:(j:Int)<((E8c keys head l).length:Int):=by omega
     obtain ⟨out,o1,_,o3⟩:=F0y hv uO.2.1 (by omega)
     have Kk:=o3.len
     have awK:=F1H out (a:Int) (by omega)
     obtain ⟨t,w1,_,w3⟩:=F4Y q uO.1 uO.2.1
     have pE:(out.any λx=>(a:Int)==x)=true↔rcP keys head l b a:=by
      show _↔Rc (BX (E8c keys head l)) b a
      rw [← F8r hr o3,fV]
      constructor
      . rintro ⟨x,h1,h2⟩
        rw [beq_iff_eq] at h2
        rw [h2];exact h1
      . exact λh=>⟨_,h,by simp⟩
     have next:¬ F7I keys head l a b->∀ m (hm:m<(E8c keys head l).length),m<j+1->∀ a b:Nat,(E8c keys head l)[m]=((a:Int),(b:Int))->¬ F7I keys head l a b:=λhn m hm hmj a' b' he=>by
      rcases Nat.lt_succ_iff_lt_or_eq.1 hmj with hmj | rfl
      . exact hJ m hm hmj a' b' he
      . rw [hx,Prod.mk.injEq] at he
        have e1:a=a':=by omega
        have e2:b=b':=by omega
        rw [← e1,← e2]
        exact hn
     have b1:Nat.blt 0 2=true:=rfl
     have b2:Nat.blt 1 2=true:=rfl
     cases h3:(out.any λx=>(a:Int)==x) with
     | false =>
       left
       refine ⟨(),?_,next λh=>by rw [pE.2 h.1.2] at h3;cases h3⟩
       simp only [F7b,Dy,decide_true,cond_true,aq,ar,ah hj,ai,hx,b1,b2,hL,o1,awK,h3,cond_false,iQ (show j<9223372036854775807 by omega)]
     | true =>
       cases h4:t with
       | true =>
         left
         refine ⟨(),?_,next λh=>h.2 (w3.1 h4)⟩
         simp only [F7b,Dy,decide_true,cond_true,aq,ar,ah hj,ai,hx,b1,b2,hL,o1,awK,h3,w1,h4,bO,cond_false,iQ (show j<9223372036854775807 by omega)]
       | false =>
         right
         refine ⟨.inl (3,0),?_,.inl ⟨rfl,a,b,⟨uO,pE.1 h3⟩,λh=>by rw [w3.2 h] at h4;cases h4⟩⟩
         simp only [F7b,Dy,decide_true,cond_true,aq,ar,ah hj,ai,hx,b1,b2,hL,o1,awK,h3,w1,h4,auI]
   . refine ⟨.inr (),?_,.inr ⟨rfl,?_⟩⟩
     . simp only [F7b,ba,decide_false,cond_false]
     . rintro ⟨i,k,h⟩
       obtain ⟨m,hm,he⟩:=List.getElem_of_mem (F7m.2 ⟨i,k,rfl,rfl,h.1.1⟩)
       exact hJ m hm hm i k he h
 . rw [h1]
   exact ⟨1,rfl,λ⟨i,k,h⟩=>(Tb h2 ⟨i,k,h.1⟩).elim,λ_ hq=>(Tb h2 hq).elim,λ_=>rfl⟩
end
section
variable{aSP:List E4Z}{keys:List (ByteArray×Int)}{head:List ByteArray}{ats:List tI}(z:Sz aSP keys head ats)
include z
theorem F76:∃w:Int×Int,F7u (aSP,keys,(head,ats))=some w/\F7B (aSP,keys,(head,ats))=some w/\(E7w aSP keys head ats=0->w.2=0/\Cls (F7C keys head ats) (D4P keys head ats) w.1)/\(E7w aSP keys head ats≠0->w=(0,E7w aSP keys head ats)):=by unfold F7u F7B;simp only[F0N z,E9M z,ai];by_cases h:E7w aSP keys head ats=0;have q:=F2T z h;have hna:=q.na;obtain⟨M,e,hM⟩:=F0P q;obtain⟨d,e1,hd⟩:=F75 q;obtain⟨d',e2,N9⟩:=F74 q;have:=hd.uniq N9;subst this;have hMe:=F82 hM;subst hMe;simp only[h,bne_self_eq_false,cond_false,F1G q,ai,F71 q,E79,e,F8n (show ats.length<=1000 by omega)];refine⟨(d,0),e1,?_,λ_=>⟨rfl,hd⟩,λn=>(n rfl).elim⟩;refine(congrArg (λo=>bc o _) e2).trans rfl;simp only[bne_iff_ne.2 h,cond_true];exact⟨_,rfl,rfl,λh0=>(h h0).elim,λ_=>rfl⟩
end
end Go.Mid
namespace Go.Mid
section
variable{keys:List (ByteArray×Int)}{head:List ByteArray}{l:List tI}
def F9r(F:Nat->Nat->Bool)(o:List Nat)(i n:Nat):Bool:=!o.contains i&&(bA n).all λk=>o.contains k||!F k i
theorem F9S(F:Nat->Nat->Bool)(o:List Nat)(i n:Nat):F9r F o i (n+1)=(F9r F o i n&&(o.contains n||!F n i)):=by unfold F9r;rw[List.range_succ,List.all_append,Bool.and_assoc];simp
theorem F9D(o:List Nat)(i:Nat):F9r (F7h keys head l) o i l.length=F7Q (E8c keys head l) o i:=by rw[c6,F8b];unfold F9r;rw[Bool.and_eq_true,bB,ed,<-Bool.not_eq_true,bj];constructor;rintro⟨h1,h2⟩;refine⟨h1,λe he h3=>?_⟩;obtain⟨u,w⟩:=e;obtain⟨a,b,rfl,rfl,h⟩:=F7m.1 he;(have hb:b=i:=by have h3:((b:Nat):Int)=(i:Int):=h3;omega);subst hb;have h4:=h2 a (cu.2 h.1);rw[F7v.2 h]at h4;simp only[bO,Bool.or_false]at h4;show((a:Nat):Int).toNat∈o;rw[ar];exact bj.1 h4;rintro⟨h1,h2⟩;refine⟨h1,λk hk=>?_⟩;cases hf:F7h keys head l k i with|false=>simp|true=>have:=h2 _ (F7m.2 ⟨k,i,rfl,rfl,F7v.1 hf⟩) rfl;simp only[ar]at this;rw[bj.2 this];rfl
theorem F90{F:Nat->Nat->Bool}{n:Nat}(hn:n<=1000){o:List Nat}{i:Nat}(hi:i<n)(cnt:Nat)(aWc:Int)(out:List Int):A0d F9f ((mat n F,n,cnt,aWc,(i:Int),F9r F o i 0,(0:Int)),out,uX n o)=some ((mat n F,n,cnt,aWc,(i:Int),F9r F o i n),out,uX n o):=by refine tQ (f:=F9f) n (λk=>((mat n F,n,cnt,aWc,(i:Int),F9r F o i k,(k:Int)),out,uX n o)) ((mat n F,n,cnt,aWc,(i:Int),F9r F o i n),out,uX n o) (λk hk=>?_) ?_;(have nq:(k:Int)<((mat n F).length:Int):=by rw[F7i];omega);have g:=F7p (f:=F) hk;have r:=Rs (g:=F k) hi;have d:=ND (o:=o) hk;rw[F9S];(cases h1:F9r F o i k with|false=>simp only[F9f,nq,decide_true,cond_true,cond_false,Bool.false_and,iQ (show k<9223372036854775807 by omega)]|true=>cases h2:o.contains k with|true=>simp only[F9f,nq,decide_true,cond_true,aq,ar,lB hk,d,ai,h2,Bool.true_or,Bool.and_true,iQ (show k<9223372036854775807 by omega)]|false=>simp only[F9f,nq,decide_true,cond_true,aq,ar,lB hk,d,g,r,ai,h2,cond_false,Bool.false_or,Bool.true_and,iQ (show k<9223372036854775807 by omega)]);simp only[F9f,F7i,ba,decide_false,cond_false]
def F9M(P:Nat->Bool)(n m:Nat)(b:Int):Prop:=(b=-1/\∀v,m<=v->v<n->P v=false)\/∃v:Nat,b=(v:Int)/\m<=v/\v<n/\P v=true/\∀u,m<=u->u<v->P u=false
theorem F9E{F:Nat->Nat->Bool}{n:Nat}(hn:n<=1000){o:List Nat}(cnt:Nat)(out:List Int):∀(m:Nat)(b:Int),m<=n->F9M (λv=>F9r F o v n) n m b->∃b',A0d F9n ((mat n F,n,cnt,b,(m:Int)-1),out,uX n o)=some ((mat n F,n,cnt,b'),out,uX n o)/\F9M (λv=>F9r F o v n) n 0 b'|0,b,_,hb=>⟨b,qc (by(have:¬(((0:Nat):Int)-1>=0):=by omega);simp only[F9n,this,decide_false,cond_false]),hb⟩|m+1,b,hm,hb=>by(have hmn:m<n:=by omega);(have e1:((m+1:Nat):Int)-1=(m:Int):=by omega);(have yG:(m:Int)>=0:=by omega);have d:=ND (o:=o) hmn;have h2:=F90 (F:=F) hn (o:=o) hmn cnt b out;(have h0:F9r F o m 0=!o.contains m:=by unfold F9r;simp);rw[h0]at h2;have hw:IntKind.i64.wrap ((m:Int)-1)=(m:Int)-1:=E9S (by omega) (by omega);rw[e1];cases hf:F9r F o m n with|true=>obtain⟨b',k1,k2⟩:=F9E hn cnt out m (m:Int) (by omega) (.inr ⟨m,rfl,ay _,hmn,hf,λu _ _=>by omega⟩);refine⟨b',?_,k2⟩;rw[<-k1];refine vw ?_;simp only[F9n,yG,decide_true,cond_true,ar,lB hmn,d,ai];refine(congrArg (λq=>bc q _) h2).trans ?_;simp only[ai,hf,cond_true,hw]|false=>obtain⟨b',k1,k2⟩:=F9E hn cnt out m b (by omega) (by rcases hb with⟨h1,h3⟩|⟨v,h1,h3,h4,h5,h6⟩;refine .inl ⟨h1,λv hv hvn=>?_⟩;by_cases e:v=m;rw[e];exact hf;exact h3 v (by omega) hvn;refine .inr ⟨v,h1,by omega,h4,h5,λu hu huv=>?_⟩;by_cases e:u=m;rw[e];exact hf;exact h6 u (by omega) huv);refine⟨b',?_,k2⟩;rw[<-k1];refine vw ?_;simp only[F9n,yG,decide_true,cond_true,ar,lB hmn,d,ai];refine(congrArg (λq=>bc q _) h2).trans ?_;simp only[ai,hf,cond_false,hw]
theorem F9H{P:Nat->Bool}{n:Nat}(h:∀v,v<n->P v=false):(bA n).find? P=none:=by rw[List.find?_eq_none];intro x hx;rw[h x (cu.1 hx)];simp
theorem F7M{P:Nat->Bool}{n v:Nat}(hv:v<n)(hp:P v=true)(h:∀u,u<v->P u=false):(bA n).find? P=some v:=by rw[List.find?_eq_some_iff_append];refine⟨hp,bA v,(List.range' (v+1) (n-v-1)),?_,λa ha=>by rw[h a (cu.1 ha)];rfl⟩;rw[lr,lr];(have:n=v+(1+(n-v-1)):=by omega);rw[this,<-aTd,<-aTd];simp
theorem F91{o:List Nat}{b:Int}(h:F9M (λv=>F9r (F7h keys head l) o v l.length) l.length 0 b):(b=-1/\F7S l.length (E8c keys head l) o=none)\/∃v:Nat,b=(v:Int)/\v<l.length/\F7S l.length (E8c keys head l) o=some v:=by unfold F7S;rcases h with⟨h1,h2⟩|⟨v,h1,_,h3,h4,h5⟩;exact .inl ⟨h1,F9H λv hv=>by rw[<-F9D];exact h2 v (dg _) hv⟩;exact .inr ⟨v,h1,h3,F7M h3 (by rw[<-F9D];exact h4) λu hu=>by rw[<-F9D];exact h5 u (dg _) hu⟩
theorem F9N (hna:l.length<=6):∀ (k:Nat) (o:List Nat),o.length+k=l.length->
 ∃ b,A0d F9g ((mat l.length (F7h keys head l),l.length,(jA o).length),jA o,uX l.length o)=some b ∧
  match F9l l.length (E8c keys head l) k o with | some r=>b=.inr ((jA r).length,jA r) | none=>∃ x,b=.inl ((0,17),[],x)
 | 0,o,ho=>by
   refine ⟨.inr ((jA o).length,jA o),qc ?_,rfl⟩
   have:¬ (((jA o).length:Int)<((mat l.length (F7h keys head l)).length:Int)):=by rw [F7i,CZ];omega
   simp only [F9g,this,decide_false,cond_false]
 | k+1,o,ho=>by
   have eC:((jA o).length:Int)<((mat l.length (F7h keys head l)).length:Int):=by rw [F7i,CZ];omega
   have hw:IntKind.i64.wrap (((mat l.length (F7h keys head l)).length:Int)-1)=(l.length:Int)-1:=by rw [F7i];exact E9S (by omega) (by omega)
   obtain ⟨b,h1,h2⟩:=F9E (F:=F7h keys head l) (n:=l.length) (by omega) (o:=o) (jA o).length (jA o) l.length (-1) (ay _) (.inl ⟨rfl,λv h3 h4=>by omega⟩)
   rcases F91 h2 with ⟨rfl,h3⟩ | ⟨v,rfl,hv,h3⟩
   . refine ⟨.inl ((0,17),[],jA o),qc ?_,?_⟩
     . simp only [F9g,eC,decide_true,cond_true,hw]
       refine (congrArg (λq=>bc q _) h1).trans ?_
       rfl
     . simp only [F9l,h3,Option.bind_none]
       exact ⟨_,rfl⟩
   . obtain ⟨b,k1,k2⟩:=F9N hna k (o++[v]) (by simp;omega)
     refine ⟨b,?_,?_⟩
     . rw [← k1]
       refine vw ?_
       have n1:¬ ((v:Int)<0):=by omega
       have d:=ND (o:=o) hv
       have ht:(jA o).take (jA o).length=jA o:=pN _
       simp only [F9g,eC,decide_true,cond_true,hw]
       refine (congrArg (λq=>bc q _) h1).trans ?_
       have hio:(jA o).length<=6:=by rw [CZ];omega
       simp only [ai,n1,decide_false,cond_false,aq,decide_true,cond_true,ar,lB hv,d,jE (ay _),jE (show ((jA o).length+1)*8<=140737488355328 by omega),ht,C1J hv,C9q,List.length_append,List.length_cons,List.length_nil]
     . simp only [F9l,h3,ai]
       exact k2
noncomputable def F9w(keys:List (ByteArray×Int))(head:List ByteArray)(l:List tI):List Int×Int:=match F9l l.length (E8c keys head l) l.length []with|some r=>(jA r,0)|none=>([],17)
theorem F9X(n:Nat):au n false=uX n []:=by unfold uX;rw[D1d];exact XE λ_ _=>rfl
theorem F9O{n:Nat}{E:oW}(hr:Ej n E){i k:Nat}(hk:k<n):F7g (F9t E) n i k=true↔Rc (BX E) i k:=by constructor;refine F7A (Q:=λi k=>Rc (BX E) i k) (λi j h=>?_) (λi a j h1 h2=>h1.trans h2) n i k;rcases F9u.1 h with rfl|h;exact .refl;exact Rc.one h;intro h;induction h with|refl=>exact F7F (F9u.2 (.inl rfl)) _|tail h1 h2 ih=>have hb:=(hr _ h2).1;have He:=(hr _ h2).2.1;exact F7z n i _ _ (by simp only at He;omega) (ih (by simp only at He;omega)) (F7F (F9u.2 (.inr h2)) _)
theorem F92(hna:l.length<=6):F9x l.length (E8c keys head l)=true↔¬F7C keys head l:=by have hr:=F8p (keys:=keys) (head:=head) hna;unfold F9x;rw[bB];constructor;rintro h⟨i,k,h1,h2⟩;have:=h _ (F7m.2 ⟨i,k,rfl,rfl,h1⟩);simp only[ar,ed]at this;rw[(F9O hr h1.1).2 h2]at this;cases this;intro h e he;obtain⟨u,w⟩:=e;obtain⟨a,b,rfl,rfl,uO⟩:=F7m.1 he;simp only[ar,ed];rw[Bool.eq_false_iff];intro hw;exact h ⟨a,b,uO,(F9O hr uO.1).1 hw⟩
theorem F9Y(hna:l.length<=6):((F9w keys head l).2=0↔¬F7C keys head l):=by have hr:=F8p (keys:=keys) (head:=head) hna;unfold F9w;rw[<-F92 hna];cases ha:F9x l.length (E8c keys head l)with|true=>obtain⟨r,hs⟩:=F9F hr ha l.length [] (by simp);rw[hs];simp|false=>rw[F9R hr ha];simp
end
section
variable{aSP:List E4Z}{keys:List (ByteArray×Int)}{head:List ByteArray}{ats:List tI}(z:Sz aSP keys head ats)
include z
theorem F9T:∃w:List Int×Int,F9v (aSP,keys,(head,ats))=some w/\F9s (aSP,keys,(head,ats))=some w/\w.1.length<=1000000/\(E7w aSP keys head ats=0->(w.2=0↔¬F7C keys head ats))/\(E7w aSP keys head ats≠0->w=([],E7w aSP keys head ats)):=by unfold F9v F9s;simp only[F0N z,E9M z,ai];by_cases h:E7w aSP keys head ats=0;have q:=F2T z h;have hna:=q.na;obtain⟨M,e,hM⟩:=F0P q;have hMe:=F82 hM;subst hMe;have hE:=F1E (keys:=keys) (head:=head) hna;have hr:=F8p (keys:=keys) (head:=head) hna;have ht:=F9L (F8q (n:=ats.length) (by omega) (by omega) hr) (by omega) hr (by omega);obtain⟨b,k1,k2⟩:=F9N (keys:=keys) (head:=head) hna ats.length [] (by simp);(have k1':A0d F9g ((mat ats.length (F7h keys head ats),ats.length,0),[],au ats.length false)=some b:=by rw[F9X];exact k1);(have hlen:∀r,F9l ats.length (E8c keys head ats) ats.length []=some r->(jA r).length<=1000000:=λr hs=>by have:=(F9B ats.length [] r (F9J _ _) hs).2;rw[CZ,this];simp;omega);refine⟨F9w keys head ats,?_,?_,?_,λ_=>F9Y hna,λn=>(n h).elim⟩;simp only[h,bne_self_eq_false,cond_false,F1G q,F71 q,ai,ht];unfold F9w;cases F9l ats.length (E8c keys head ats) ats.length []<;>rfl;simp only[h,bne_self_eq_false,cond_false,e,ai,F7i,aq,Int.le_refl,decide_true,cond_true,ar,jE (show ats.length*1<=140737488355328 by omega)];refine(congrArg (λo=>bc o _) k1').trans ?_;unfold F9w;(cases hs:F9l ats.length (E8c keys head ats) ats.length []with|some r=>rw[hs]at k2;simp only at k2;subst k2;simp only[ai,Sum.elim_inr,jE (ay _),cond_true,pN]|none=>rw[hs]at k2;obtain⟨x,rfl⟩:=k2;rfl);unfold F9w;(cases hs:F9l ats.length (E8c keys head ats) ats.length []with|some r=>exact hlen r hs|none=>simp);simp only[bne_iff_ne.2 h,cond_true,show Nat.ble 0 0=true from rfl,List.take_nil];exact⟨_,rfl,rfl,by simp,λh0=>(h h0).elim,λ_=>rfl⟩
end
theorem F9U(l:List Int)(hl:l.length<=1000000):F9o (l,l)=some true:=by unfold F9o;simp only[bne_self_eq_false,cond_false];have:=wo (f:=F9k) l (λi=>(l,l,(l.length:Int),(i:Int))) (λ_=>false) (.inl false) (.inr ()) (λi hi=>by(have hi':(i:Int)<l.length:=by omega);simp only[F9k,hi',decide_true,cond_true,aq,ar,ah hi,ai,bne_self_eq_false,cond_false,iQ (show i<9223372036854775807 by omega)];simp) (by simp only[F9k,ba,decide_false,cond_false]);simp only[av]at this;rw[this];simp
theorem G0b{c:E8l}(ok:OkC c):F9p c=some true:=by unfold F9p;rcases F5F ok with⟨r,e,hr⟩|⟨h1,h4,hf,hd,e,hn,h5,hs⟩;simp only[e,ai,hr,bO,auI,cond_true,cond_false];have z:=F5H ok h4 hf h5;obtain⟨w,w1,w2,w3,w4⟩:=F76 z;obtain⟨v,v1,v2,v3,v4,v5⟩:=F9T z;simp only[e,ai,bO,cond_false,w1,w2,v1,v2,beq_self_eq_true,cond_true,F9U _ v3,Option.some.injEq];rw[c6];simp only[beq_iff_eq,iff_true];rw[c6,beq_iff_eq,beq_iff_eq];by_cases h:E7w (E5p c.1 c.1.length) (E5f c.1 c.1.length) hd (E4P c.1 c.1.length)=0;obtain⟨_,hc⟩:=w3 h;rw[v4 h];constructor;exact hc.2.2;intro h1 hQ;by_cases hS:D4P (E5f c.1 c.1.length) hd (E4P c.1 c.1.length);rw[hc.1 hS]at h1;cases h1;rw[hc.2.1 hS hQ]at h1;cases h1;have e1:=w4 h;have e2:=v5 h;rw[e1,e2];simp only;exact⟨λh0=>(h h0).elim,λh0=>by cases h0⟩
end Go.Mid
