/- Chapter 49: a case is a valid query; the law of pairs. -/
import Derived.Test.YtdohjmmogbefmaaGreatP2
set_option linter.unusedSimpArgs false
set_option linter.unusedVariables false
open ByteArray renaming mk → ir
open Go.IntKind renaming u32 → cG
open Int renaming tmod_lt_of_pos → aTh, natCast_nonneg → aq, toNat_natCast → ar, lt_irrefl → ba
open List renaming getElem?_cons_zero → bQ, getElem?_cons_succ → bK, findIdx?_eq_none_iff → ave, map_take → bP, mem_map → bp, take_range → aTb, mem_range → cu, any_eq_true → fV, length_take → aW, getElem_mem → aM, getElem?_eq_getElem → ah, mem_append → az, mem_singleton → aX
open Nat renaming zero_add → bS, ble → cQ, ble_eq_true_of_le → auP
open Option renaming getD_some → bI, bind_some → ai
namespace Go.Mid
theorem F7E {i j:Nat}(hi:i<4)(hj:j<4):Lv (nmT j) (nmT i)=decide (j=i):=by
 have h:∀ i j:Fin 4,decide (nmT j.1=nmT i.1)=decide (j.1=i.1):=by decide
 rw [E9j];exact h ⟨i,hi⟩ ⟨j,hj⟩
theorem F83 {i:Nat}(hi:i<4):E47 (nmT i)=true:=by
 have h:∀ i:Fin 4,(!decide (nmT i.1=⟨#[]⟩)&&decide ((nmT i.1).size<=24) && !decide (nmT i.1=E82)&&(match (nmT i.1).data.toList with | []=>false | c::r=>E4S c&&r.all λc=>E4S c || E5s c))=true:=by decide
 unfold E47;rw [E9j,E9j];exact h ⟨i,hi⟩
theorem F8g {n:Nat}(hn:n<=4):E7M [] (aB0.take n)=true:=by
 have nk:∀ i:Fin 4,(!decide ((aB0.getD i.1 ⟨#[]⟩)=⟨#[]⟩)&&decide ((aB0.getD i.1 ⟨#[]⟩).size<=24) && !decide ((aB0.getD i.1 ⟨#[]⟩)=E82)&&(match (aB0.getD i.1 ⟨#[]⟩).data.toList with | []=>false | c::r=>E4S c&&r.all λc=>E4S c || E5s c))=true:=by decide
 have nk':∀ i:Fin 4,E47 (aB0.getD i.1 ⟨#[]⟩)=true:=λi=>by
  unfold E47;rw [E9j,E9j];exact nk i
 have df:∀ i j:Fin 4,Lv (aB0.getD i.1 ⟨#[]⟩) (aB0.getD j.1 ⟨#[]⟩)=decide (i=j):=λi j=>by
  have:∀ i j:Fin 4,decide ((aB0.getD i.1 ⟨#[]⟩)=(aB0.getD j.1 ⟨#[]⟩))=decide (i=j):=by decide
  rw [E9j];exact this i j
 have k0:=nk' 0;have k1:=nk' 1;have k2:=nk' 2;have k3:=nk' 3;have d01:=df 0 1;have d02:=df 0 2;have d03:=df 0 3;have d12:=df 1 2;have d13:=df 1 3;have d23:=df 2 3;simp only [aB0,List.getD,bQ,bK,bI,Fin.val_zero,Fin.val_one,Fin.val_two] at k0 k1 k2 k3 d01 d02 d03 d12 d13 d23;have f3:((3:Fin 4).1)=3:=rfl
 match n,hn with
 | 0,_=>rfl
 | 1,_=>simp [aB0,E7M,E5m,k0]
 | 2,_=>simp [aB0,E7M,E5m,k0,k1,d01]
 | 3,_=>simp [aB0,E7M,E5m,k0,k1,k2,d01,d02,d12]
 | 4,_ =>
   simp only [f3,bQ,bK,bI] at k3 d03 d13 d23;simp [aB0,E7M,E5m,k0,k1,k2,k3,d01,d02,d12,d03,d13,d23]
theorem F8I (c:Int)(h:0<=c):E47 (E86 c)=true∧E86 c≠⟨#[]⟩:=by
 have nk:∀ i:Fin 5,((!decide ((aCi.getD i.1 ⟨#[]⟩)=⟨#[]⟩)&&decide ((aCi.getD i.1 ⟨#[]⟩).size<=24) && !decide ((aCi.getD i.1 ⟨#[]⟩)=E82)&&(match (aCi.getD i.1 ⟨#[]⟩).data.toList with | []=>false | c::r=>E4S c&&r.all λc=>E4S c || E5s c))=true)∧(aCi.getD i.1 ⟨#[]⟩)≠⟨#[]⟩:=by decide
 have h1:(c.tmod 5).toNat<5:=by
  have:=aTh c (show (0:Int)<5 by omega)
  omega
 have e:E86 c=aCi.getD (c.tmod 5).toNat ⟨#[]⟩:=rfl;rw [e];refine ⟨?_,(nk ⟨_,h1⟩).2⟩;unfold E47;rw [E9j,E9j];exact (nk ⟨_,h1⟩).1
theorem F8s (c:Int)(h:0<=c):E5t (E6L c)=true:=by
 unfold E6L E5t;by_cases h5:c<5
 . have hv:=F8I c h;have hne:Lv (E86 c) ⟨#[]⟩=false:=Bool.eq_false_iff.2 λe=>hv.2 (E5K.1 e)
   simp only [h5,decide_true,cond_true,hne,cond_false,hv.1,beq_self_eq_true,show Lv (ir #[]) (ir #[])=true from E5K.2 rfl,Bool.and_self]
 . simp only [h5,decide_false,cond_false,show Lv (ir #[]) (ir #[])=true from E5K.2 rfl,cond_true];unfold E4N;simp [show Lv (ir #[]) (ir #[])=true from E5K.2 rfl]
section
variable {c:E8l}(ok:OkC c)(h1:1<=c.1.length)(h4:c.1.length<=4)(hf:F36 c)
def F7D (l:List (List Int×Int))(i:Nat):E4Z:=(nmT i,aB0.take (atC l i).1.length,[])
theorem F7V {l:List (List Int×Int)}{n i:Nat}(hn:n<=4)(hi:i<n):(E5p l n).find? (λt=>Lv t.1 (nmT i))=some (F7D l i):=by
 unfold E5p;rw [List.find?_map];rw [F7M hi (by simp only [Function.comp_apply];rw [F7E (by omega) (by omega)];simp) (λu hu=>by simp only [Function.comp_apply];rw [F7E (by omega) (by omega)];simp;omega)]
 rfl
theorem F8t {l:List (List Int×Int)}{n i:Nat}(hn:n<=4)(hi:i<n):E6S ((E5p l n).take i) (nmT i)=none:=by
 unfold E6S E5p;rw [ave];intro t ht;rw [← bP] at ht;obtain ⟨j,hj,rfl⟩:=bp.1 ht;rw [aTb] at hj
 have:=cu.1 hj
 simp only;rw [F7E (by omega) (by omega)]
 simp;omega
theorem F8J {l:List (List Int×Int)}{n i:Nat}(hn:n<=4)(hi:i<n):((E5f l n).findIdx? λp=>Lv p.1 (nmT i)).isSome=true:=by
 rw [List.findIdx?_isSome,fV];refine ⟨_,bp.2 ⟨i,cu.2 hi,rfl⟩,?_⟩;simp only;rw [F7E (by omega) (by omega)]
 simp
theorem F8u {l:List (List Int×Int)}{n i:Nat}(hn:n<=4)(hi:i<n):(E5O ((E5f l n).take i) (nmT i)).2=false:=by
 rw [F0j]
 have:((E5f l n).take i).findIdx? (λp=>Lv p.1 (nmT i))=none:=by
  rw [ave];intro t ht;unfold E5f at ht;rw [← bP] at ht;obtain ⟨j,hj,rfl⟩:=bp.1 ht;rw [aTb] at hj
  have:=cu.1 hj
  simp only;rw [F7E (by omega) (by omega)]
  simp;omega
 rw [this];rfl
theorem F8v {l:List (List Int×Int)}{i:Nat}(hi:i<4)(hl:(atC l i).1.length<=4):E8b (F7D l i)=0:=by
 unfold E8b F7D;have e:(aB0.take (atC l i).1.length).length<=16:=by
  have:aB0.length=4:=rfl
  rw [aW];omega
 simp only [F83 hi,if_true,if_neg (show ¬ (aB0.take (atC l i).1.length).length>16 by omega),List.length_nil,if_neg (show ¬ 0>1000 by omega),F8g hl,E8k]
include ok h1 h4 hf
theorem F8K {hd:List ByteArray}(hn:hd.Nodup)(hs:∀ z∈hd,E9Z (E4P c.1 c.1.length) (E4P c.1 c.1.length).length z):E7w (E5p c.1 c.1.length) (E5f c.1 c.1.length) hd (E4P c.1 c.1.length)=0:=by
 have lT:=F0O c.1 c.1.length;have lK:=E9z c.1 c.1.length;have lA:=E8m c.1 c.1.length;have gT:∀ i (h:i<(E5p c.1 c.1.length).length),(E5p c.1 c.1.length)[i]=F7D c.1 i:=λi h=>by simp [E5p,F7D]
 have gK:∀ i (h:i<(E5f c.1 c.1.length).length),(E5f c.1 c.1.length)[i]=(nmT i,pL cG (cG.wrap (atC c.1 i).2) ((2 ^ (atC c.1 i).1.length-1:Nat):Int)):=λi h=>by simp [E5f]
 have gA:∀ i (h:i<(E4P c.1 c.1.length).length),(E4P c.1 c.1.length)[i]=(nmT i,(atC c.1 i).1.map E6L):=λi h=>by simp [E4P]
 have hdb:dbE (E5p c.1 c.1.length)=0:=by
  unfold dbE;rw [if_neg (by omega),E7A]
  intro i hi;rw [bS,gT i hi];rw [lT] at hi;unfold E9X;rw [if_pos (F8v (by omega) (hf i hi)),show (F7D c.1 i).1=nmT i from rfl,F8t h4 hi]
  rfl
 have hA:E4I (E84 (E5p c.1 c.1.length)) (E4P c.1 c.1.length) 0=0:=by
  rw [E7A];intro i hi;rw [gA i hi];rw [lA] at hi;unfold E84;simp only [F7V h4 hi];have hfi:=hf i hi;have e:(F7D c.1 i).2.1.length=((atC c.1 i).1.map E6L).length:=by
   have:aB0.length=4:=rfl
   show (aB0.take (atC c.1 i).1.length).length=_;rw [aW,List.length_map];omega
  have ht:((atC c.1 i).1.map E6L).all E5t=true:=by
   rw [List.all_eq_true];intro u hu;obtain ⟨x,hx,rfl⟩:=bp.1 hu;have J1:=(ok.1 _ (aM hi)).1 x (by rw [F2j hi];exact hx)
   exact F8s x J1.1
  rw [e,beq_self_eq_true,cond_true,ht];rfl
 have hH:E4I (E8s hd (E4P c.1 c.1.length)) hd 0=0:=by
  rw [F7Z];intro i hi;refine ⟨hs _ (aM hi),λhm=>?_⟩
  obtain ⟨j,hj,e⟩:=List.getElem_of_mem hm;rw [List.getElem_take] at e;rw [aW] at hj;exact (List.pairwise_iff_getElem.1 hn j i (by omega) hi (by omega)) e
 have hq:E7g (E5p c.1 c.1.length) hd (E4P c.1 c.1.length)=0:=by
  unfold E7g;rw [if_pos hdb,if_neg (by omega),if_pos hA,if_pos hH]
 have hK:E4I (E8I (E5p c.1 c.1.length) (E5f c.1 c.1.length)) (E5f c.1 c.1.length) 0=0:=by
  rw [E7A];intro i hi;have hi':=hi;rw [lK] at hi';rw [bS,gK i hi];unfold E8I;simp only [F7V h4 hi'];have hfi:=hf i hi';have e:(F7D c.1 i).2.1.length=(atC c.1 i).1.length:=by
   have:aB0.length=4:=rfl
   show (aB0.take (atC c.1 i).1.length).length=_;rw [aW];omega
  have hb:=(ok.1 _ (aM hi')).2;rw [F2j hi'] at hb;have hw:cG.wrap (atC c.1 i).2=(atC c.1 i).2:=F1s hb.1 (by omega)
  obtain ⟨m,hm⟩:=Int.eq_ofNat_of_zero_le hb.1;have yP:m<w32:=by unfold w32;omega
  have hp:2 ^ (atC c.1 i).1.length<=2 ^ 4:=Nat.pow_le_pow_right (by omega) hfi
  have Bn:2 ^ (atC c.1 i).1.length-1<w32:=by unfold w32;omega
  have hand:pL cG (cG.wrap (atC c.1 i).2) ((2 ^ (atC c.1 i).1.length-1:Nat):Int)=((m &&& (2 ^ (atC c.1 i).1.length-1):Nat):Int):=by
   rw [hw,hm,F2f yP Bn]
  have hle:=@Nat.and_le_left m (2 ^ (atC c.1 i).1.length-1);have dK:=F32 (k:=((m &&& (2 ^ (atC c.1 i).1.length-1):Nat):Int)) (by omega) (by unfold w32 at yP;omega) (n:=(atC c.1 i).1.length) (by omega)
  rw [F2f (by omega) Bn,Nat.and_assoc,Nat.and_self,beq_self_eq_true] at dK
  rw [hand,e,← dK,cond_true,F8u h4 hi'];rfl
 have hU:E4I (E9x (E4P c.1 c.1.length)) (E4P c.1 c.1.length) 0=0:=by
  rw [E7A];intro i hi;have hi':=hi;rw [lA] at hi';rw [bS,gA i hi];unfold E9x
  have:((E4P c.1 c.1.length).take i).any (λb=>Lv b.1 (nmT i))=false:=by
   rw [List.any_eq_false];intro t ht;unfold E4P at ht;rw [← bP] at ht;obtain ⟨j,hj,rfl⟩:=bp.1 ht;rw [aTb] at hj
   have:=cu.1 hj
   simp only;rw [F7E (by omega) (by omega)]
   simp;omega
  simp only [this];rfl
 have hF:E4I (F0w (E5f c.1 c.1.length)) (E4P c.1 c.1.length) 0=0:=by
  rw [E7A];intro i hi;have hi':=hi;rw [lA] at hi';rw [gA i hi];unfold F0w;simp only [F0j,F8J h4 hi'];rfl
 unfold E7w;rw [if_pos hq,if_pos hK,if_pos hU,hF]
end
end Go.Mid
namespace Go.Mid
namespace AG
variable {V:Type}{N:Nat}{key all:Nat->V->Prop}
theorem Way.snoc {n a b:Nat}(h:Way N key all n a b):∀ {c:Nat},att N key all b c->Way N key all (n+1) a c:=by
 induction h with
 | one h=>exact λk=>.more h (.one k)
 | more h _ ih=>exact λk=>.more h (ih k)
end AG
section
variable {keys:List (ByteArray×Int)}{head:List ByteArray}{l:List tI}
end
theorem F7P (l:List (Int×Int))(a:Int×Int)(hl:l.length<=1000000):∃ t,F69 (l,a)=some t∧(t=true↔a∈l):=by
 unfold F69 F7j
 have:=Ma (f:=F68) l (λi=>((l,(l.length:Int),(i:Int)),a)) (λ_ b=>a.1==b.1&&a.2==b.2) (λi=>.inl (i:Int)) (.inr ()) (λi hi=>by
  have hi':(i:Int)<l.length:=by omega
  simp only [F68,hi',decide_true,cond_true,aq,ar,ah hi,ai,iQ (show i<9223372036854775807 by omega)]
  cases a.1==l[i].1&&a.2==l[i].2<;>rfl) (by
  simp only [F68,ba,decide_false,cond_false])
 simp only [Int.natCast_zero] at this;refine ⟨l.any λb=>a.1==b.1&&a.2==b.2,?_,?_⟩
 . rw [this,← Qm (λb:Int×Int=>a.1==b.1&&a.2==b.2) l 0]
   cases tm (λ_ (b:Int×Int)=>a.1==b.1&&a.2==b.2) l 0 with
   | none=>rfl
   | some i=>simp
 . rw [fV];constructor
   . rintro ⟨b,hb,h⟩;simp only [Bool.and_eq_true,beq_iff_eq] at h
     have:a=b:=Prod.ext h.1 h.2
     rw [this];exact hb
   . exact λh=>⟨a,h,by simp⟩
section
variable {aSP:List E4Z}{keys:List (ByteArray×Int)}{head:List ByteArray}{ats:List tI}(z:Sz aSP keys head ats)(hv:E7w aSP keys head ats=0)
include z hv
end
end Go.Mid
namespace Go.Mid
namespace AG
variable {V:Type}{N:Nat}{key all VX kj:Nat->V->Prop}{v:V}
theorem D.off {but:Option Nat}{S T:V->Prop}(hk:∀ i x,i<N->(VX i x↔key i x∧x≠v))(ha:∀ i x,i<N->(kj i x↔all i x∧x≠v))(hs:∀ x,S x->x≠v->T x){x:V}(h:D N key all but S x):x≠v->D N VX kj but T x:=by
 induction h with
 | base h=>exact λhx=>.base (hs _ h hx)
 | step j hj hb _ hz ih=>exact λhx=>.step j hj hb (λy hy=>ih y ((hk j y hj).1 hy).1 ((hk j y hj).1 hy).2) ((ha j _ hj).2 ⟨hz,hx⟩)
theorem Rch.off {i k:Nat}(hi:i<N)(hk:∀ i x,i<N->(VX i x↔key i x∧x≠v))(ha:∀ i x,i<N->(kj i x↔all i x∧x≠v))(h:Rch N VX kj i k):k<N∧Rch N key all i k:=by
 induction h with
 | refl=>exact ⟨hi,.refl⟩
 | step _ hb x h1 h2 h3 ih =>
   refine ⟨hb,.step ih.2 hb x ((ha _ x ih.1).1 h1).1 ((ha _ x hb).1 h2).1 λhp=>h3 ?_⟩
   exact D.off hk ha (λy hy hv=>(hk i y hi).2 ⟨hy,hv⟩) hp ((ha _ x hb).1 h2).2
theorem att.off {i k:Nat}(hk:∀ i x,i<N->(VX i x↔key i x∧x≠v))(ha:∀ i x,i<N->(kj i x↔all i x∧x≠v))(h:att N VX kj i k):att N key all i k :=
 ⟨h.1,h.2.1,h.2.2.1,(Rch.off h.1 hk ha h.2.2.2).2⟩
theorem att.var {i k:Nat}(h:att N key all i k):∃ j x,j<N∧all j x:=by
 obtain ⟨_,_,hn,hr⟩:=h;cases hr with
 | refl=>exact (hn rfl).elim
 | step _ hb x _ h2 _=>exact ⟨_,x,hb,h2⟩
end AG
section
variable {keys:List (ByteArray×Int)}{head:List ByteArray}{l:List tI}
theorem tp {v:ByteArray}{i k:Nat}(h:E8J keys (head++[v]) l i k):E8J keys head l i k:=by
 refine AG.att.off (v:=v) (λi x hi=>?_) (λi x hi=>?_) h
 . rw [F30 hi,F30 hi];unfold E9w;constructor
   . rintro ⟨j,u,h1,h2,h3,h4,h5,h6⟩;rw [az,not_or,aX] at h5;exact ⟨⟨j,u,h1,h2,h3,h4,h5.1,h6⟩,h5.2⟩
   . rintro ⟨⟨j,u,h1,h2,h3,h4,h5,h6⟩,h7⟩;exact ⟨j,u,h1,h2,h3,h4,by rw [az,not_or,aX];exact ⟨h5,h7⟩,h6⟩
 . rw [F31 hi,F31 hi,az,not_or,aX,and_assoc]
theorem IH (h:∀ z,¬ E9Z l l.length z):E8c keys head l=[]:=by
 rw [List.eq_nil_iff_forall_not_mem];rintro ⟨u,w⟩ hm;obtain ⟨a,b,_,_,hp⟩:=F7m.1 hm;obtain ⟨j,x,hj,hx⟩:=AG.att.var hp;exact h x ⟨j,l[j],hj,ah hj,((F31 hj x).1 hx).1⟩
theorem T3 {v:ByteArray}{x:Int×Int}(h:x∈E8c keys (head++[v]) l):x∈E8c keys head l:=by
 obtain ⟨a,b,e1,e2,hp⟩:=F7m.1 (show (x.1,x.2)∈_ from h);exact F7m.2 ⟨a,b,e1,e2,tp hp⟩
end
theorem G0e {A B:List (Int×Int)}(e1 e2:Int)(hA:A.length<=1000000)(hB:B.length<=1000000)(h:∀ x∈B,x∈A):A0d ky (A,e1,e2,B,(B.length:Int),(0:Int))=some (.inr (e1,e2)):=by
 have:=tQ (f:=ky) B.length (λi=>(A,e1,e2,B,(B.length:Int),(i:Int))) (.inr (e1,e2)) (λi hi=>?_) ?_
 . exact this
 . have hi':(i:Int)<B.length:=by omega
   obtain ⟨t,t1,t2⟩:=F7P A B[i] hA;have ht:t=true:=t2.2 (h _ (aM hi));simp only [ky,hi',decide_true,cond_true,aq,ar,ah hi,ai,t1,ht,Bool.not_true,cond_false,iQ (show i<9223372036854775807 by omega)]
 . simp only [ky,ba,decide_false,cond_false]
theorem G0k {c:E8l}(ok:OkC c){v:Int}(v0:0<=v)(v1:v<=255):mq (c,v)=some true:=by
 unfold mq;rcases F5F ok with ⟨r,e,hr⟩ | ⟨h1,h4,hf,hd,e,hn,h5,hs⟩
 . simp only [e,ai,hr,Bool.not_true,Bool.not_false,cond_true,cond_false]
 . have z:=F5H ok h4 hf h5;have hv:=F8K ok h1 h4 hf hn hs;have qv:=F2T z hv;have z1:=F1E (keys:=E5f c.1 c.1.length) (head:=hd) qv.na;obtain ⟨p,p1,p2,p3⟩:=E8r (l:=E4P c.1 c.1.length) z.na z.nt;simp only [e,ai,Bool.not_true,cond_false,F23 z,hv,if_true,p1];cases hp:p with
   | nil =>
     rw [hp] at p2
     have:E8c (E5f c.1 c.1.length) hd (E4P c.1 c.1.length)=[]:=IH λy hy=>by
      have:=(p2.mem y).2 hy
      cases this
     rw [this];rfl
   | cons p0 pr =>
     rw [← hp];have hl:0<p.length:=by rw [hp];simp
     have hna:=z.na;have e1:((p.length:Int)==0)=false:=by rw [beq_eq_false_iff_ne];omega
     have e2:((p.length:Int) != 0)=true:=by rw [bne_iff_ne];omega
     have w:IntKind.i64.wrap v=v:=E9S (by omega) (by omega)
     have m0:0<=v.tmod (p.length:Int):=Int.tmod_nonneg _ v0;have m1:v.tmod (p.length:Int)<(p.length:Int):=aTh _ (by omega)
     have hk:(v.tmod (p.length:Int)).toNat<p.length:=by omega
     simp only [e1,e2,cond_true,cond_false,w,decide_eq_true m0,ah hk,ai];generalize hq:p[(v.tmod (p.length:Int)).toNat]=q;have hqo:E9Z (E4P c.1 c.1.length) (E4P c.1 c.1.length).length q:=(p2.mem q).1 (by rw [← hq];exact aM hk)
     simp only [E9i hd q (by omega),ai]
     cases hh:E4Y hd q with
     | true=>simp
     | false =>
       have hqn:q∉hd:=λm=>by rw [E5Q.2 m] at hh;cases hh
       have c1:Ee 16 hd=some (hd.length,hd):=by
        unfold Ee
        have:cQ (hd.length*16) 140737488355328=true:=auP (by omega)
        rw [this];rfl
       have b1:cQ hd.length hd.length=true:=auP (Nat.le_refl _);have b2:cQ ((hd.length+1)*16) 140737488355328=true:=auP (by omega)
       have b3:cQ (hd.length+1) (hd++[q]).length=true:=auP (by simp)
       have t1:List.take (hd.length+1) (hd++[q])=hd++[q]:=List.take_of_length_le (by simp)
       have z':Sz (E5p c.1 c.1.length) (E5f c.1 c.1.length) (hd++[q]) (E4P c.1 c.1.length):=⟨z.tb,z.nk,z.kr,by simp;omega,z.na,z.nt⟩
       have hv':E7w (E5p c.1 c.1.length) (E5f c.1 c.1.length) (hd++[q]) (E4P c.1 c.1.length)=0:=F8K ok h1 h4 hf
        (List.nodup_append.2 ⟨hn,by simp,λa ha b hb=>by rw [aX] at hb;subst hb;exact λe=>hqn (e ▸ ha)⟩)
        (λy hy=>by
          rcases az.1 hy with hy | hy
          . exact hs y hy
          . rw [aX] at hy;rw [hy];exact hqo)
       have z2:=F1E (keys:=E5f c.1 c.1.length) (head:=hd++[q]) qv.na;simp only [cond_false,c1,ai,List.take_length,b1,b2,b3,cond_true,t1,F23 z',hv',if_true];refine (congrArg (λo=>Option.bind o _) (G0e (0:Int) 0 (by omega) (by omega) (λx hx=>T3 hx))).trans ?_
       rfl
end Go.Mid
