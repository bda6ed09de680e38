/- Chapter 49: Of. -/
import Derived.Test.YtdohjmmogbefmaaGreatP1
import Derived.Test.YtdohjmmogbefmaaGreatM9
import Derived.KernelRfl
set_option linter.unusedSimpArgs false
set_option linter.unusedVariables false
set_option maxHeartbeats 1000000
open Bool renaming not_true->bO,not_false->auI
open ByteArray renaming mk->ir
open Go.IntKind renaming i64->ao,u32->cG
open Int renaming natCast_nonneg->aq,toNat_natCast->ar,lt_irrefl->ba,eq_ofNat_of_zero_le->eB
open List renaming map->fp,map_id->wR,getElem?_eq_getElem->ah,length_take->aW,range_succ->jO,map_append->b9,take_of_length_le->a6,length_append->aR,length_cons->bf,length_nil->cM,length_map->aB,getElem_mem->aM,mem_append->az,mem_singleton->aX,range->bA,mem_map->bp,mem_range->cu,mem_or_eq_of_mem_set->bx,mem_of_mem_take->dh,mem_of_mem_drop->gy,length_drop->cm,length_replicate->fZ,mem_of_getElem?->bH,findIdx?_cons->avb,map_singleton->dr,take_length->dM
open Nat renaming le_refl->ay,zero_add->bS,zero_le->dg,le_succ_of_le->at2
open Option renaming bind_some->ai,bind->bc
namespace Go.Mid
theorem F2U(l:List E5b):fp (uR (Ty.agg [Ty.str,Ty.agg [Ty.int ao,Ty.int ao,Ty.str]])) l=l:=by(have:(uR (Ty.agg [Ty.str,Ty.agg [Ty.int ao,Ty.int ao,Ty.str]]):E5b->E5b)=id:=by funext y;rfl);exact(congrArg (λf=>fp f l) this).trans (wR l)
theorem F3C(a:tI):uR (Ty.agg [Ty.str,Ty.vec 4 (Ty.agg [Ty.str,Ty.agg [Ty.int ao,Ty.int ao,Ty.str]])]) a=a:=congrArg (λl=>(a.1,l)) (F2U a.2)
theorem F2V(l:List tI):fp (uR (Ty.agg [Ty.str,Ty.vec 4 (Ty.agg [Ty.str,Ty.agg [Ty.int ao,Ty.int ao,Ty.str]])])) l=l:=by(have:(uR (Ty.agg [Ty.str,Ty.vec 4 (Ty.agg [Ty.str,Ty.agg [Ty.int ao,Ty.int ao,Ty.str]])]):tI->tI)=id:=by funext y;exact F3C y);exact(congrArg (λf=>fp f l) this).trans (wR l)
def F36(c:E8l):Prop:=∀i,i<c.1.length->(atC c.1 i).1.length<=4
theorem F37{c:E8l}(ok:OkC c)(h4:c.1.length<=4):∃b,A0d E5v ((0,(0:Int)),c,([],0),(([],0),[],0),([],0),[],([],0),[],0)=some b/\((F36 c/\b=.inr (c.1.length,c,([],0),(([],0),[],0),(E5p c.1 c.1.length,c.1.length),E5f c.1 c.1.length,([],0),E4P c.1 c.1.length,c.1.length))\/∃r,b=.inl ((0,false),([],0),[],(([],0),[],0),r)):=by refine V4 (f:=E5v) (S:=Unit) c.1.length (λi _=>((i,(i:Int)),c,([],0),(([],0),[],0),(E5p c.1 i,i),E5f c.1 i,([],0),E4P c.1 i,i)) (λi _=>∀j,j<i->(atC c.1 j).1.length<=4) _ () (λj hj=>by omega) (λi _ hi hs=>?_) (λ_ hs=>?_);(have hi':(i:Int)<(c.1.length:Int):=by omega);by_cases hl:c.1[i].1.length<=4;left;have CT:=F35 ok hi hl i (nmT i) [] 0 [] 0 [] 0 (E5p c.1 i) i (E5f c.1 i) [] 0 (E4P c.1 i) i;(have hle:¬(c.1[i].1.length:Int)>4:=by omega);(have hn:[(ir #[114]),(ir #[115]),(ir #[116]),(ir #[117])][i]?=some (nmT i):=by(have h1:i<aCE.length:=by show i<4;omega);show aCE[i]?=_;unfold nmT;rw[ah h1];rfl);(have hta:(aB0.take c.1[i].1.length).length=c.1[i].1.length:=by rw[aW];show min _ 4=_;omega);have kV:=F2j hi;have lT:=F0O c.1 i;have lK:=E9z c.1 i;have lA:=E8m c.1 i;(have eT:E5p c.1 (i+1)=E5p c.1 i++[(nmT i,aB0.take c.1[i].1.length,[])]:=by unfold E5p;rw[jO,b9,kV];rfl);(have eK:E5f c.1 (i+1)=E5f c.1 i++[(nmT i,pL cG (cG.wrap c.1[i].2) ((2^c.1[i].1.length-1:Nat):Int))]:=by unfold E5f;rw[jO,b9,kV];rfl);(have eA:E4P c.1 (i+1)=E4P c.1 i++[(nmT i,c.1[i].1.map E6L)]:=by unfold E4P;rw[jO,b9,kV];rfl);refine⟨(),?_,λj hj=>?_⟩;rw[eT,eK,eA];simp only[E5v,hi',decide_true,cond_true,aq,ar,ah hi,ai,hle,decide_false,cond_false];rw[hn];simp only[ai];refine(congrArg (λo=>bc o _) CT).trans ?_;have t1:(E4P c.1 i).take i=E4P c.1 i:=a6 (by rw[lA];exact ay _);have t2:(E5p c.1 i).take i=E5p c.1 i:=a6 (by rw[lT];exact ay _);have t3:(E5f c.1 i).take i=E5f c.1 i:=a6 (by rw[lK];exact ay _);(have b0:c.1[i].1.length<=(c.1[i].1.map E6L).length:=by simp);(have b1:(i+1)*40<=140737488355328:=by omega);(have b2:(i+1)*64<=140737488355328:=by omega);(have b3:(i+1)*24<=140737488355328:=by omega);(have b4:i<=(E4P c.1 i).length:=by rw[lA];exact ay _);(have b5:i<=(E5p c.1 i).length:=by rw[lT];exact ay _);(have b6:i<=(E5f c.1 i).length:=by rw[lK];exact ay _);(have b7:c.1[i].1.length*16<=140737488355328:=by omega);have tM:=F2g (show c.1[i].1.length<32 by omega);have aJ1:[(ir #[97]),(ir #[98]),(ir #[99]),(ir #[100])]=aB0:=rfl;simp only[ai,jE b0,cond_true,Nat.beq_eq,beq_self_eq_true,jE b4,jE b1,t1,lA,jE (ay _),aq,decide_true,ar,jE hl,List.take_nil,List.nil_append,bS,aJ1,hta,jE b7,jE b5,jE b2,t2];have tk:∀x:E4Z,List.take 1 [x]=[x]:=λ_=>rfl;simp only[show Nat.beq 0 0=true from rfl,show Nat.beq 1 1=true from rfl,cond_true,List.take_take,Nat.min_self,tk,aR,lT,bf,cM,jE (ay _),ah hi,ai,tM,jE b6,jE b3,t3,aB,beq_self_eq_true,iQ (show i<9223372036854775807 by omega)];rcases Nat.lt_succ_iff_lt_or_eq.1 hj with hj|rfl;exact hs j hj;rw[<-kV];exact hl;right;(have hle:(c.1[i].1.length:Int)>4:=by omega);refine⟨.inl ((0,false),([],0),[],(([],0),[],0),((E5p c.1 i,i),E5f c.1 i,([],0),E4P c.1 i,i)),?_,.inr ⟨_,rfl⟩⟩;simp only[E5v,hi',decide_true,cond_true,aq,ar,ah hi,ai,hle];refine⟨_,?_,.inl ⟨hs,rfl⟩⟩;simp only[E5v,ba,decide_false,cond_false]
structure aEh (vs head:List ByteArray):Prop where
 nd:head.Nodup
 sub:∀ z∈head,z∈vs
 len:head.length<=5
theorem F4V{c:E8l}(ok:OkC c){vs:List ByteArray}(hv:vs.length<=1000000)(kn:Nat)(T2:List E4Z)(n2:Nat)(H4:List ByteArray)(h4:Nat)(A4:List tI)(a4:Nat)(T6:List E4Z)(n6:Nat)(K:List (ByteArray×Int))(A8:List tI)(a8:Nat):∃hd,A0d E44 ((kn,vs,(0:Int)),c,(T2,n2),((H4,h4),A4,a4),(T6,n6),K,(([],0),A8,a8))=some (kn,(T2,n2),((H4,h4),A4,a4),(T6,n6),K,((hd,hd.length),A8,a8))/\aEh vs hd:=by have key:=V4 (f:=E44) (S:=List ByteArray) (min c.2.length 5) (λi h=>((kn,vs,(i:Int)),c,(T2,n2),((H4,h4),A4,a4),(T6,n6),K,((h,h.length),A8,a8))) (λi h=>h.Nodup/\(∀z∈h,z∈vs)/\h.length<=i) (λb=>∃h,b=(kn,(T2,n2),((H4,h4),A4,a4),(T6,n6),K,((h,h.length),A8,a8))/\aEh vs h) [] ⟨List.nodup_nil,λz hz=>(by cases hz),by simp⟩ (λi h hi hJ=>?_) (λh hJ=>?_);obtain⟨b,h1,h,rfl,h2⟩:=key;exact⟨h,h1,h2⟩;left;obtain⟨j1,j2,j3⟩:=hJ;(have AX:i<c.2.length:=by omega);(have hi':(i:Int)<(c.2.length:Int):=by omega);(have hi5:(i:Int)<5:=by omega);have hx:=ok.2 _ (aM AX);have e1:=E7T vs (E86 c.2[i]) (by omega);have e2:=E7T h (E86 c.2[i]) (by omega);(cases h1:E4Y vs (E86 c.2[i])with|false=>refine⟨h,?_,j1,j2,by omega⟩;simp only[E44,hi',hi5,decide_true,cond_true,aq,ar,ah AX,ai,E75 hx.1,e1,h1,cond_false,iQ (show i<9223372036854775807 by omega)]|true=>cases h2:E4Y h (E86 c.2[i])with|true=>refine⟨h,?_,j1,j2,by omega⟩;simp only[E44,hi',hi5,decide_true,cond_true,aq,ar,ah AX,ai,E75 hx.1,e1,h1,jE (ay _),pN,e2,h2,bO,cond_false,iQ (show i<9223372036854775807 by omega)]|false=>have hl:=(Lst.mk (P:=λz=>z∈h) j1 (λz=>Iff.rfl)).snoc h2;refine⟨h++[E86 c.2[i]],?_,hl.nd,λz hz=>?_,by simp;omega⟩;simp only[E44,hi',hi5,decide_true,cond_true,aq,ar,ah AX,ai,E75 hx.1,e1,h1,jE (ay _),pN,e2,h2,auI,beq_self_eq_true,jE (show(h.length+1)*16<=140737488355328 by omega),aR,bf,cM,bS,iQ (show i<9223372036854775807 by omega)];rcases az.1 hz with hz|hz;exact j2 z hz;rw[aX]at hz;subst hz;exact E5Q.1 h1);obtain⟨j1,j2,j3⟩:=hJ;refine⟨_,?_,h,rfl,j1,j2,by omega⟩;by_cases h1:(min c.2.length 5:Nat)<c.2.length;(have e1:((min c.2.length 5:Nat):Int)<(c.2.length:Int):=by omega);(have e2:¬((min c.2.length 5:Nat):Int)<5:=by omega);simp only[E44,e1,e2,decide_true,decide_false,cond_true,cond_false];(have e1:¬((min c.2.length 5:Nat):Int)<(c.2.length:Int):=by omega);simp only[E44,e1,decide_false,cond_false]
end Go.Mid
namespace Go.Mid
section
variable{keys:List (ByteArray×Int)}{head:List ByteArray}{l:List tI}(q:QV keys head l)
end
end Go.Mid
namespace Go.Mid
section
variable{keys:List (ByteArray×Int)}{head:List ByteArray}{l:List tI}(q:QV keys head l)
abbrev E8J(keys:List (ByteArray×Int))(head:List ByteArray)(l:List tI):Nat->Nat->Prop:=AG.att l.length (E5S (E4j keys head l)) (E50 (E4j keys head l))
end
end Go.Mid
namespace Go.Mid
end Go.Mid
namespace Go.Mid
end Go.Mid
namespace Go.Mid
section
variable{keys:List (ByteArray×Int)}{head:List ByteArray}{l:List tI}(q:QV keys head l)
noncomputable def E91(keys:List (ByteArray×Int))(head:List ByteArray)(l:List tI)(i:Nat):List Nat:=by classical exact(bA l.length).filter λk=>decide (E8J keys head l i k)
noncomputable def E7j(keys:List (ByteArray×Int))(head:List ByteArray)(l:List tI)(i:Nat):List Int:=(E91 keys head l i).map λk:Nat=>(k:Int)
noncomputable def E6y(keys:List (ByteArray×Int))(head:List ByteArray)(l:List tI)(n:Nat):List (Int×Int):=(bA n).flatMap λi=>(E7j keys head l i).map λk=>((i:Int),k)
noncomputable abbrev E8c(keys:List (ByteArray×Int))(head:List ByteArray)(l:List tI):List (Int×Int):=E6y keys head l l.length
abbrev F4k(keys:List (ByteArray×Int))(head:List ByteArray)(l:List tI):Nat->Nat->Prop:=AG.aJU l.length (E5S (E4j keys head l)) (E50 (E4j keys head l))
end
end Go.Mid
namespace Go.Mid
theorem F5H{c:E8l}(ok:OkC c)(h4:c.1.length<=4)(hf:F36 c){hd:List ByteArray}(h5:hd.length<=5):Sz (E5p c.1 c.1.length) (E5f c.1 c.1.length) hd (E4P c.1 c.1.length)where
 tb:=λt ht=>by unfold E5p at ht;obtain⟨i,hi,rfl⟩:=bp.1 ht;refine⟨λr hr=>(by cases hr),?_⟩;have:aB0.length=4:=rfl;simp only[aW];omega
 nk:=by rw[E9z];omega
 kr:=λk hk=>by unfold E5f at hk;obtain⟨i,hi,rfl⟩:=bp.1 hk;have hi:=cu.1 hi;have h1:=(ok.1 _ (aM hi)).2;rw[F2j hi]at h1;have hfi:=hf i hi;have hw:cG.wrap (atC c.1 i).2=(atC c.1 i).2:=F1s h1.1 (by omega);obtain⟨m,hm⟩:=eB h1.1;have hp:2^(atC c.1 i).1.length<=2^4:=Nat.pow_le_pow_right (by omega) hfi;show 0<=pL cG (cG.wrap (atC c.1 i).2) _/\pL cG (cG.wrap (atC c.1 i).2) _<4294967296;rw[hw,hm,F2f (by unfold w32;omega) (by unfold w32;omega)];have:=@Nat.and_le_left m (2^(atC c.1 i).1.length-1);omega
 nh:=by omega
 na:=by rw[E8m];omega
 nt:=λa ha=>by unfold E4P at ha;obtain⟨i,hi,rfl⟩:=bp.1 ha;have:=hf i (cu.1 hi);simp only[aB];omega
section
variable{aSP:List E4Z}{keys:List (ByteArray×Int)}{head:List ByteArray}{ats:List tI}(z:Sz aSP keys head ats)
include z
end
section
variable{aSP:List E4Z}{keys:List (ByteArray×Int)}{head:List ByteArray}{ats:List tI}(z:Sz aSP keys head ats)
include z
end
end Go.Mid
namespace Go.Mid
section
variable{keys:List (ByteArray×Int)}{head:List ByteArray}{l:List tI}
abbrev rcP(keys:List (ByteArray×Int))(head:List ByteArray)(l:List tI):Nat->Nat->Prop:=Rc (BX (E8c keys head l))
def F7H(keys:List (ByteArray×Int))(head:List ByteArray)(l:List tI)(i k:Nat):Prop:=E8J keys head l i k/\rcP keys head l k i
end
end Go.Mid
namespace Go.Mid
section
variable{keys:List (ByteArray×Int)}{head:List ByteArray}{l:List tI}(q:QV keys head l)
def Cls(Q S:Prop)(c:Int):Prop:=(S->c=3)/\(¬S->Q->c=2)/\(¬Q->c=1)
theorem Cls.val{Q S:Prop}{c:Int}(h:Cls Q S c):(c=1\/c=2\/c=3):=by by_cases hS:S;exact .inr (.inr (h.1 hS));by_cases hQ:Q;exact .inr (.inl (h.2.1 hS hQ));exact .inl (h.2.2 hQ)
theorem Cls.aBn{Q S Q' S':Prop}{c:Int}(h:Cls Q S c)(e1:Q↔Q')(e2:S↔S'):Cls Q' S' c:=⟨λs=>h.1 (e2.2 s),λs r=>h.2.1 (λx=>s (e2.1 x)) (e1.2 r),λr=>h.2.2 λx=>r (e1.1 x)⟩
def F7I(keys:List (ByteArray×Int))(head:List ByteArray)(l:List tI)(i k:Nat):Prop:=F7H keys head l i k/\¬F4k keys head l i k
def F7r(keys:List (ByteArray×Int))(head:List ByteArray)(l:List tI)(P:Nat->Nat->Prop):Prop:=∃i k,P i k/\F7H keys head l i k
def F7s(keys:List (ByteArray×Int))(head:List ByteArray)(l:List tI)(P:Nat->Nat->Prop):Prop:=∃i k,P i k/\F7I keys head l i k
theorem Cls.add{P P':Nat->Nat->Prop}{c:Int}(h:Cls (F7r keys head l P) (F7s keys head l P) c){i k:Nat}(hP:∀a b,P' a b↔(P a b\/(a=i/\b=k))):(¬F7H keys head l i k->Cls (F7r keys head l P') (F7s keys head l P') c)/\(F7I keys head l i k->Cls (F7r keys head l P') (F7s keys head l P') 3)/\(F7H keys head l i k->¬F7I keys head l i k->Cls (F7r keys head l P') (F7s keys head l P') (if 2>c then 2 else c)):=by(have eQ:F7r keys head l P'↔(F7r keys head l P\/F7H keys head l i k):=by constructor;rintro⟨a,b,h1,h2⟩;rcases(hP a b).1 h1 with h1|⟨rfl,rfl⟩;exact .inl ⟨a,b,h1,h2⟩;exact .inr h2;rintro(⟨a,b,h1,h2⟩|h2);exact⟨a,b,(hP a b).2 (.inl h1),h2⟩;exact⟨i,k,(hP i k).2 (.inr ⟨rfl,rfl⟩),h2⟩);(have eS:F7s keys head l P'↔(F7s keys head l P\/F7I keys head l i k):=by constructor;rintro⟨a,b,h1,h2⟩;rcases(hP a b).1 h1 with h1|⟨rfl,rfl⟩;exact .inl ⟨a,b,h1,h2⟩;exact .inr h2;rintro(⟨a,b,h1,h2⟩|h2);exact⟨a,b,(hP a b).2 (.inl h1),h2⟩;exact⟨i,k,(hP i k).2 (.inr ⟨rfl,rfl⟩),h2⟩);have hSQ:F7s keys head l P->F7r keys head l P:=λ⟨a,b,h1,h2⟩=>⟨a,b,h1,h2.1⟩;refine⟨λhc=>h.aBn ?_ ?_,λhs=>⟨λ_=>rfl,λn _=>(n (eS.2 (.inr hs))).elim,λn=>(n (eQ.2 (.inr hs.1))).elim⟩,λhc hs=>⟨λs=>?_,λn _=>?_,λn=>(n (eQ.2 (.inr hc))).elim⟩⟩;rw[eQ];exact⟨.inl,λx=>x.elim id λy=>(hc y).elim⟩;rw[eS];exact⟨.inl,λx=>x.elim id λy=>(hc y.1).elim⟩;have s':=(eS.1 s).resolve_right hs;rw[h.1 s'];rfl;have n':¬F7s keys head l P:=λx=>n (eS.2 (.inl x));by_cases hQ:F7r keys head l P;rw[h.2.1 n' hQ];rfl;rw[h.2.2 hQ];rfl
def before(N i k:Nat)(a b:Nat):Prop:=(a<i/\b<N)\/(a=i/\b<k)
end
section
variable{aSP:List E4Z}{keys:List (ByteArray×Int)}{head:List ByteArray}{ats:List tI}(z:Sz aSP keys head ats)
include z
end
end Go.Mid
namespace Go.Mid
section
variable{keys:List (ByteArray×Int)}{head:List ByteArray}{l:List tI}
end
section
variable{aSP:List E4Z}{keys:List (ByteArray×Int)}{head:List ByteArray}{ats:List tI}(z:Sz aSP keys head ats)
include z
end
end Go.Mid
namespace Go.Mid
section
variable{c:E8l}(ok:OkC c)(h1:1<=c.1.length)(h4:c.1.length<=4)(hf:F36 c)
include ok h1 h4 hf
end
end Go.Mid
namespace Go.Mid
namespace AG
variable{V:Type}{N:Nat}{key all:Nat->V->Prop}
theorem Way.snoc{n a b:Nat}(h:Way N key all n a b):∀{c:Nat},att N key all b c->Way N key all (n+1) a c:=by induction h with|one h=>exactλk=>.more h (.one k)|more h _ ih=>exactλk=>.more h (ih k)
end AG
section
variable{keys:List (ByteArray×Int)}{head:List ByteArray}{l:List tI}
end
section
variable{aSP:List E4Z}{keys:List (ByteArray×Int)}{head:List ByteArray}{ats:List tI}(z:Sz aSP keys head ats)(hv:E7w aSP keys head ats=0)
include z hv
end
end Go.Mid
namespace Go.Mid
def v0:F0q:=(0,0,⟨#[]⟩)
abbrev G0u:=Int×Int×List (List Int)
end Go.Mid
namespace Go.Mid
def G0r:ByteArray:=⟨#[111,116,104,101,114]⟩
section
variable{keys:List (ByteArray×Int)}{head:List ByteArray}{l:List tI}(h:∀a∈l,Lv G0r a.1=false)
include h
end
section
variable{x:G0u}{l:List (List Int×Int)}{n i:Nat}
end
section
variable{c:E8l}{x:G0u}(h4:c.1.length<=4)(hf:F36 c)(h0:0<=x.2.1)(hx:x.2.2.length<=4)
include h4 hf h0 hx
end
theorem G1a{α β:Type}{o:Option α}{f:α->Option β}{a:α}{r:Option β}(h:o=some a)(k:f a=r):o.bind f=r:=by rw[h];exact k
theorem G1f{c:E8l}(ok:OkC c):(∃r,G0w c=some r/\r.1.2.2.2=false/\r.1.1<=r.2.1.1.length/\r.1.2.2.1.1<=r.2.2.2.1.1.length/\r.1.2.2.1.2<=r.2.2.2.2.1.length)\/(1<=c.1.length/\c.1.length<=4/\F36 c/\∃hd,G0w c=some ((c.1.length,c.1.length,(hd.length,c.1.length),true),(E5p c.1 c.1.length,c.1.length),E5f c.1 c.1.length,(hd,hd.length),E4P c.1 c.1.length,c.1.length)/\hd.Nodup/\hd.length<=5/\∀z∈hd,E9Z (E4P c.1 c.1.length) (E4P c.1 c.1.length).length z):=by unfold G0w;by_cases h1:c.1.length<1;left;(have:(c.1.length:Int)<1:=by omega);simp only[this,decide_true,cond_true,show Nat.ble 0 0=true from rfl];exact⟨_,rfl,rfl,ay _,ay _,ay _⟩;(have vR:¬(c.1.length:Int)<1:=by omega);by_cases h4:4<c.1.length;left;(have:(c.1.length:Int)>4:=by omega);simp only[vR,this,decide_true,decide_false,cond_true,cond_false,show Nat.ble 0 0=true from rfl];exact⟨_,rfl,rfl,ay _,ay _,ay _⟩;(have h4':¬(c.1.length:Int)>4:=by omega);simp only[vR,h4',decide_false,cond_false];obtain⟨b,e,hb⟩:=F37 ok (by omega);rcases hb with⟨hf,rfl⟩|⟨r,rfl⟩;right;refine⟨by omega,by omega,hf,?_⟩;have lT:=F0O c.1 c.1.length;have lA:=E8m c.1 c.1.length;have t1:(E4P c.1 c.1.length).take c.1.length=E4P c.1 c.1.length:=a6 (by rw[lA];exact ay _);(have b4:c.1.length<=(E4P c.1 c.1.length).length:=by rw[lA];exact ay _);(have b5:c.1.length<=(E5p c.1 c.1.length).length:=by rw[lT];exact ay _);(have ht:∀a∈E4P c.1 c.1.length,a.2.length<=1000:=λa ha=>by unfold E4P at ha;obtain⟨i,hi,rfl⟩:=bp.1 ha;have:=hf i (cu.1 hi);simp only[aB];omega);obtain⟨vs,ev,v1,v2⟩:=E8r (l:=E4P c.1 c.1.length) (by omega) ht;obtain⟨hd,eh,hh⟩:=F4V ok (vs:=vs) (by rw[lA]at v2;omega) c.1.length [] 0 [] 0 [] 0 (E5p c.1 c.1.length) c.1.length (E5f c.1 c.1.length) (E4P c.1 c.1.length) c.1.length;refine⟨hd,?_,hh.nd,hh.len,λz hz=>(v1.mem z).1 (hh.sub z hz)⟩;refine(congrArg (λo=>bc o _) e).trans ?_;have eq:fp (uR (Ty.agg [Ty.str,Ty.vec 4 (Ty.agg [Ty.str,Ty.agg [Ty.int ao,Ty.int ao,Ty.str]])])) ((E4P c.1 c.1.length).take c.1.length)=E4P c.1 c.1.length:=(congrArg (λl:List tI=>fp (uR (Ty.agg [Ty.str,Ty.vec 4 (Ty.agg [Ty.str,Ty.agg [Ty.int ao,Ty.int ao,Ty.str]])])) l) t1).trans (F2V _);simp only[ai,Sum.elim_inr,jE b4,cond_true];refine(congrArg (λo=>bc o _) ((congrArg E40 eq).trans ev)).trans ?_;simp only[ai];refine(congrArg (λo=>bc o _) eh).trans ?_;simp only[ai,jE b5,jE b4,jE (ay _),cond_true];. left;refine⟨_,(congrArg (λo=>bc o _) e).trans rfl,rfl,?_,?_,?_⟩;all_goals exact dg _
end Go.Mid
namespace Go.Mid
theorem OK.aY3{a b:Nat}{α:Type}{A B:Option α}{P:α->Prop}(h1:a=b->OK A P)(h2:a≠b->OK B P):OK (bif a==b then A else B) P:=by by_cases h:a=b;rw[beq_iff_eq.2 h];exact h1 h;rw[beq_false_of_ne h];exact h2 h
theorem OK.aY4{α β:Type}{M:List α}{i:Nat}{y:α}{k:α->Option β}{P:β->Prop}(h:M[i]?=some y)(g:OK (k y) P):OK (M[i]?.bind k) P:=by rw[h];exact g
structure ChOk (b:Nat)(nK:Nat)(T:List E4Z)(K:List (ByteArray×Int))(H:List ByteArray)(A:List tI):Prop where
 tb:∀ t∈T,F0s t∧t.2.1.length<=1000000
 nk:nK<=K.length
 kl:K.length<=b
 kr:∀ k∈K,0<=k.2∧k.2<4294967296
 hl:H.length<=b
 a1:1<=A.length
 al:A.length<=1000
 ta:∀ a∈A,a.2.length<=b
 tl:T.length=A.length
namespace ChOk
variable{b nK:Nat}{T:List E4Z}{K:List (ByteArray×Int)}{H:List ByteArray}{A:List tI}(h:ChOk b nK T K H A)
include h
theorem mono:ChOk (b+1) nK T K H A:=⟨h.tb,h.nk,at2 h.kl,h.kr,at2 h.hl,h.a1,h.al,λa ha=>at2 (h.ta a ha),h.tl⟩
theorem aYZ{j:Nat}{v:ByteArray×Int}(hv:0<=v.2/\v.2<4294967296):ChOk (b+1) nK T (K.set j v) H A:={h.mono with nk:=by simp;exact h.nk,kl:=by simp;exact at2 h.kl,kr:=λk hk=>(bx hk).elim (h.kr k) λe=>e▸hv}
theorem aY0{j:Nat}{nm:ByteArray}{p:ByteArray×Int}(hp:p∈K):ChOk (b+1) nK T (K.set j (nm,p.2)) H A:=h.aYZ (h.kr p hp)
theorem aYQ{w:ByteArray×Int}(hw:w∈K):ChOk (b+1) (nK+1) T (K.take nK++[w]) H A:={h.mono with nk:=by simp[h.nk],kl:=by have:=h.kl;have:=h.nk;simp;omega,kr:=λk hk=>(az.1 hk).elim (λm=>h.kr k (dh m)) λm=>by rw[aX]at m;exact m▸h.kr w hw}
theorem aY5{j:Nat}{nm:ByteArray}{p:E4Z}(hp:p∈T):ChOk (b+1) nK (T.set j (nm,p.2)) K H A:={h.mono with tl:=by simp;exact h.tl,tb:=λt ht=>(bx ht).elim (h.tb t) λe=>e▸h.tb p hp}
theorem eO{j:Nat}{v:tI}(hv:v.2.length<=b+1):ChOk (b+1) nK T K H (A.set j v):={h.mono with tl:=by simp;exact h.tl,a1:=by simp;exact h.a1,al:=by simp;exact h.al,ta:=λa ha=>(bx ha).elim (h.mono.ta a) λe=>e▸hv}
theorem aY6{w:ByteArray}:ChOk (b+1) nK T K (H.take H.length++[w]) A:={h.mono with hl:=by have:=h.hl;simp;omega}
end ChOk
abbrev ChV:=(Nat×Nat×Nat×Nat)×List (ByteArray×Int)×(List E4Z×Nat)×(List ByteArray×Nat)×List tI×Nat
structure ChR (b:Nat)(r:ChV):Prop where
 e1:r.1.1=r.2.2.1.1.length
 e2:r.1.2.2.1=r.2.2.2.1.1.length
 e3:r.1.2.2.2=r.2.2.2.2.1.length
 ok:ChOk b r.1.2.1 r.2.2.1.1 r.2.1 r.2.2.2.1.1 r.2.2.2.2.1
theorem G1t{α:Type}{l m:List α}{o:Option Nat}{x:α}(h:x∈A1x l o m):x∈l\/x∈m:=by cases o with|none=>exact(az.1 h).elim .inr λh=>.inl (gy h)|some k=>rcases az.1 h with h|h;exact(az.1 h).elim (λh=>.inl (dh h)) .inr;exact .inl (gy h)
theorem G1u{α:Type}{l m:List α}{k:Nat}(h:k+m.length<=l.length):(A1x l (some k) m).length=l.length:=by unfold A1x;simp only[aR,aW,cm];omega
theorem G1y{b nK i:Nat}{T:List E4Z}{K:List (ByteArray×Int)}{H:List ByteArray}{A:List tI}(h:ChOk b nK T K H A)(hi:i<nK):OK (G1o ((nK,(i:Int),((i+1:Nat):Int)),K)) (λr=>ChOk (b+1) r.1 T r.2 H A):=by have hk:=h.nk;unfold G1o;simp only[ar,aW,cm,fZ];(have hm:min (nK-(i+1)) (K.length-(i+1))=nK-(i+1):=by omega);have l1:(A1x K (some i) ((K.drop (i+1)).take (nK-(i+1)))).length=K.length:=G1u (by rw[aW,cm];omega);rw[hm,l1];(repeat' first|refine OK.dec (λ_=>?_) (λ_=>?_)|refine OK.ble (λ_=>?_) (λ_=>?_)|refine OK.beq (λ_=>?_) (λ_=>?_)|exact OK.dead (by omega)|(refine OK.bo (λ_=>?_) (λh=>(by cases h)))|refine OK.ret ?_);omega;(have l2:(A1x (A1x K (some i) ((K.drop (i+1)).take (nK-(i+1)))) (some (i+(nK-(i+1)))) (List.replicate (nK-(i+(nK-(i+1)))) ((⟨#[]⟩:ByteArray),(0:Int)))).length=K.length:=by rw[G1u (by rw[l1,fZ];omega),l1]);refine{h.mono with nk:=?_,kl:=?_,kr:=λk hk=>?_};rw[l2];omega;rw[l2];exact at2 h.kl;dsimp only at hk;rcases G1t hk with hk|hk;rcases G1t hk with hk|hk;exact h.kr k hk;exact h.kr k (gy (dh hk));rw[(List.mem_replicate.1 hk).2];exact⟨by show(0:Int)<=0;omega,by show(0:Int)<_;omega⟩
theorem G1x{b nK:Nat}{T:List E4Z}{K:List (ByteArray×Int)}{H:List ByteArray}{A:List tI}(h:ChOk b nK T K H A)(hb:b<=900){kind at' set:Int}(a0:0<=at')(a1:at'<=255)(s0:0<=set/\set<4294967296):OK (G1q ((T.length,nK,(H.length,A.length),kind,at',set),(T,T.length),K,(H,H.length),A,A.length)) (ChR (b+1)):=by have hw:ao.wrap at'=at':=E9S (by omega) (by omega);have c1:=h.a1;have c2:=h.al;have c3:=h.nk;have c4:=h.kl;have c5:=h.hl;have c6:=h.tl;have i0:0<=at'.tmod (A.length:Int):=Int.tmod_nonneg _ a0;have i1:at'.tmod (A.length:Int)<(A.length:Int):=Int.tmod_lt_of_pos _ (by omega);obtain⟨i,hi⟩:=eB i0;unfold G1q;simp only[hw];rw[hi]at i1;(have i2:i<A.length:=by omega);(have hw1:ao.wrap ((i:Int)+1)=((i+1:Nat):Int):=by rw[E9S (by omega) (by omega)];simp);simp only[hi,hw1,ar,List.length_set,aR,aW,bf,cM,bS];generalize kind.tmod 9=t;(repeat' first|refine OK.dec (λ_=>?_) (λ_=>?_)|refine OK.ble (λ_=>?_) (λ_=>?_)|refine OK.blt (λ_=>?_) (λ_=>?_)|refine OK.beq (λ_=>?_) (λ_=>?_)|refine OK.bne (λ_=>?_) (λ_=>?_)|refine OK.aY3 (λ_=>?_) (λ_=>?_)|exact OK.dead (by omega)|refine OK.aY4 (by assumption) ?_|(refine OK.get (by omega) (λ_ hy=>?_);try have:=h.ta _ (bH hy))|refine OK.call (G1y h (by omega)) (λ_ _=>?_)|refine OK.ret ?_);all_goals first|exact⟨rfl,rfl,rfl,h.mono⟩|exact⟨rfl,rfl,rfl,‹_›⟩|exact⟨rfl,rfl,rfl,h.aYZ s0⟩|exact⟨rfl,rfl,rfl,h.aY0 (bH ‹_›)⟩|exact⟨rfl,rfl,rfl,h.aYQ (bH ‹_›)⟩|exact⟨by simp,rfl,rfl,h.aY5 (bH ‹_›)⟩|exact⟨rfl,rfl,by simp,h.eO (at2 (h.ta _ (bH ‹_›)))⟩|(refine⟨rfl,rfl,by simp,h.eO ?_⟩;simp only[aR,aW,bf,cM];omega)|exact⟨rfl,by simp,rfl,h.aY6⟩|skip
end Go.Mid
namespace Go.Mid
def chR(u:Int×Int×Int):Prop:=0<=u.2.1/\u.2.1<=255/\0<=u.2.2/\u.2.2<4294967296
abbrev Ch2:=(Int×Int×Int)×Int×Int×Int
theorem G1v{b nK:Nat}{T:List E4Z}{K:List (ByteArray×Int)}{H:List ByteArray}{A:List tI}(h:ChOk b nK T K H A)(hb:b<=900){u:Int×Int×Int}(hu:chR u):∃nK' T' K' H' A' n1 n2 n3,G1q ((T.length,nK,(H.length,A.length),u),(T,T.length),K,(H,H.length),A,A.length)=some ((T'.length,nK',H'.length,A'.length),K',(T',n1),(H',n2),A',n3)/\ChOk (b+1) nK' T' K' H' A':=by obtain⟨r,e,hr⟩:=G1x h hb (kind:=u.1) hu.1 hu.2.1 hu.2.2;obtain⟨⟨a1,a2,a3,a4⟩,K',⟨T',n1⟩,⟨H',n2⟩,A',n3⟩:=r;obtain⟨e1,e2,e3,ok⟩:=hr;dsimp only at e1 e2 e3 ok;subst e1 e2 e3;exact⟨a2,T',K',H',A',n1,n2,n3,e,ok⟩
theorem ChOk.sz{b nK:Nat}{T:List E4Z}{K:List (ByteArray×Int)}{H:List ByteArray}{A:List tI}(h:ChOk b nK T K H A)(hb:b<=900):Sz T (K.take nK) H A where
 tb:=h.tb
 nk:=by have:=h.kl;rw[aW];omega
 kr:=λk hk=>h.kr k (dh hk)
 nh:=by have:=h.hl;omega
 na:=h.al
 nt:=λa ha=>by have:=h.ta a ha;omega
theorem ChOk.init{c:E8l}(ok:OkC c)(h1:1<=c.1.length)(h4:c.1.length<=4)(hf:F36 c){hd:List ByteArray}(h5:hd.length<=5):ChOk 10 c.1.length (E5p c.1 c.1.length) (E5f c.1 c.1.length) hd (E4P c.1 c.1.length):=by have z:=F5H ok h4 hf h5;refine⟨z.tb,by rw[E9z];exact ay _,by rw[E9z];omega,z.kr,by omega,by rw[E8m];exact h1,z.na,λa ha=>?_,by rw[F0O,E8m]⟩;unfold E4P at ha;obtain⟨i,hi,rfl⟩:=bp.1 ha;have:=hf i (cu.1 hi);simp only[aB];omega
section
variable{aSP:List E4Z}{keys:List (ByteArray×Int)}{head:List ByteArray}{ats:List tI}(z:Sz aSP keys head ats)(h:E7w aSP keys head ats≠0)
include z h
end
end Go.Mid
namespace Go.Mid
abbrev G16:=ByteArray×ByteArray×Int×(Int×Int)×(Int×Int)×(ByteArray×List Int×ByteArray×List Int)×(List Int×Int×List (Bool×Int×Int×ByteArray))×(List Int×List Int)×Int×List ((Int×Int×Int×Int×ByteArray)×Int×Int×Int×Int×Int×ByteArray)
def G2f(k:ByteArray×Int)(n:Nat):G16:=(k.1,k.1,1,(k.2,((2^n-1:Nat):Int)),(0,0),(⟨#[]⟩,[],⟨#[]⟩,[]),([],0,[]),([],[]),0,[])
theorem G17(n:Int):E7H ([],n)=some true:=by unfold E7H E45 E49;have:A0d E53 (([]:List Int),n,((([]:List Int).length:Nat):Int),0)=some (.inr ()):=qc rfl;rw[this];rfl
theorem G14:E7d []=some false:=by unfold E7d;have:A0d E8M (([]:List Int),([]:List Int),((([]:List Int).length:Nat):Int),0)=some (.inr ()):=qc rfl;rw[this];rfl
theorem G18(t:E4Z)(r:List E4Z)(h:∀u∈t::r,F0s u):E6V (t::r,t.1,[],t.1,[])=some (dbE (t::r)):=by unfold E6V;simp only[F3x (t::r) h,ai];by_cases h0:dbE (t::r)=0;have hl:=E8P h0;have hf:=F1u (t::r) t.1 (by omega);(have hn:E6S (t::r) t.1=some 0:=by unfold E6S;rw[avb,E5K.2 rfl];rfl);rw[hn]at hf;simp only[h0,bne_self_eq_false,cond_false];unfold E7V;simp only[hf,ai,E9o,G17,G14];rfl;simp only[bne_iff_ne.2 h0,cond_true]
theorem G2c{n:Nat}(hn:n<32):cG.wrap (qZ cG (1:Int) (n:Int)-(1:Int))=((2^n-1:Nat):Int):=by(have:∀i:Fin 32,cG.wrap (qZ cG (1:Int) ((i.1:Nat):Int)-(1:Int))=((2^i.1-1:Nat):Int):=by decide);exact this ⟨n,hn⟩
theorem G15{α:Type}{p:α->Bool}:∀{l:List α}{j:Nat}{t:α},l.findIdx? p=some j->l.find? p=some t->l[j]?=some t|[],j,t,h1,_=>by cases h1|x::r,j,t,h1,h2=>by rw[avb]at h1;rw[List.find?_cons]at h2;cases hp:p x with|true=>simp[hp]at h1 h2;subst h1 h2;rfl|false=>simp[hp]at h1 h2;obtain⟨k,hk,rfl⟩:=h1;simpa using G15 hk h2
section
variable{aSP:List E4Z}{keys:List (ByteArray×Int)}(hdb:dbE aSP=0)(he:E4I (E8I aSP keys) keys 0=0)
include hdb he
theorem G12{i:Nat}(hi:i<keys.length):∃j t,E6S aSP keys[i].1=some j/\aSP[j]?=some t/\aSP.find? (λt=>Lv t.1 keys[i].1)=some t/\t.1=keys[i].1/\t.2.1.length<=16:=by have h:=E7A.1 he i hi;unfold E8I at h;cases hf:aSP.find? (λt=>Lv t.1 keys[i].1)with|none=>rw[hf]at h;cases h|some t=>have hm:=List.mem_of_find?_eq_some hf;have hs:=List.find?_some hf;have ht:=F0u hdb hm;cases hx:E6S aSP keys[i].1 with|none=>unfold E6S at hx;have:=List.findIdx?_eq_none_iff.1 hx t hm;rw[hs]at this;cases this|some j=>refine⟨j,t,rfl,?_,rfl,E5K.1 hs,?_⟩;unfold E6S at hx;exact G15 hx hf;unfold E8b at ht;by_cases hn:E47 t.1=true;rw[if_pos hn]at ht;by_cases hl:t.2.1.length>16;rw[if_pos hl]at ht;cases ht;omega;rw[if_neg hn]at ht;cases ht
def e8(aSP:List E4Z)(k:ByteArray×Int):G16:=G2f k (match aSP.find? (λt=>Lv t.1 k.1)with|some t=>t.2.1.length|none=>0)
theorem G19(nk:keys.length<=1000):A0d e9 ((0,keys,(keys.length:Int),(0:Int)),aSP,[])=some (keys.length,keys.map (e8 aSP)):=by have hl:=E8P hdb;have:=tQ (f:=e9) keys.length (λi=>((i,keys,(keys.length:Int),(i:Int)),aSP,(keys.take i).map (e8 aSP))) (keys.length,keys.map (e8 aSP)) (λi hi=>?_) ?_;exact this;obtain⟨j,t,_,_,hf,hn,ht⟩:=G12 hdb he hi;(have hi':(i:Int)<(keys.length:Int):=by omega);(have hlen:((keys.take i).map (e8 aSP)).length=i:=by simp;omega);(have e:e8 aSP keys[i]=(t.1,t.1,(1:Int),(keys[i].2,cG.wrap (qZ cG (1:Int) (t.2.1.length:Int)-(1:Int))),((0:Int),(0:Int)),((ir #[]),[],(ir #[]),[]),([],(0:Int),[]),([],[]),(0:Int),[]):=by unfold e8;rw[hf,hn,G2c (by omega)];rfl);rw[vz hi,b9,dr,e];generalize hM:(keys.take i).map (e8 aSP)=M at hlen;have t1:M.take i=M:=a6 (by omega);simp only[e9,hi',decide_true,cond_true,aq,ar,ah hi,ai,F3A aSP _ (show aSP.length<=1000000 by omega),hf,jE (show i<=M.length by omega),jE (show(i+1)*272<=140737488355328 by omega),iQ (show i<9223372036854775807 by omega),t1];rfl;simp only[e9,ba,decide_false,cond_false,dM]
theorem G2a(nk:keys.length<=1000):A0d fv ((keys,0,(0:Int)),aSP,[])=some (keys.length,keys.map (e8 aSP)):=by have hl:=E8P hdb;have:=tQ (f:=fv) keys.length (λi=>((keys,i,(i:Int)),aSP,(keys.take i).map (e8 aSP))) (keys.length,keys.map (e8 aSP)) (λi hi=>?_) ?_;exact this;obtain⟨j,t,hx,hj,hf,hn,ht⟩:=G12 hdb he hi;(have hi':(i:Int)<(keys.length:Int):=by omega);(have hlen:((keys.take i).map (e8 aSP)).length=i:=by simp;omega);(have e:e8 aSP keys[i]=(keys[i].1,keys[i].1,(1:Int),(keys[i].2,((2^t.2.1.length-1:Nat):Int)),((0:Int),(0:Int)),((ir #[]),[],(ir #[]),[]),([],(0:Int),[]),([],[]),(0:Int),[]):=by unfold e8;rw[hf];rfl);have hr:=E9p aSP keys[i].1 (by omega);rw[hx]at hr;have tM:=F2g (show t.2.1.length<32 by omega);rw[vz hi,b9,dr,e];generalize hM:(keys.take i).map (e8 aSP)=M at hlen;have t1:M.take i=M:=a6 (by omega);simp only[fv,hi',decide_true,cond_true,aq,ar,ah hi,ai,hr,E9o,hj,tM,jE (show i<=M.length by omega),jE (show(i+1)*272<=140737488355328 by omega),iQ (show i<9223372036854775807 by omega),t1];rfl;simp only[fv,ba,decide_false,cond_false,dM]
end
theorem G11{aSP:List E4Z}{keys:List (ByteArray×Int)}{head:List ByteArray}{ats:List tI}(z:Sz aSP keys head ats)(nk:keys.length<=1000)(ne:0<aSP.length):∃r:List G16×Int,G1Z (aSP,keys)=some r/\G1Y (aSP,keys)=some r/\r.1.length<=1000:=by unfold G1Z G1Y;have hT:∀t∈aSP,F0s t:=λt ht=>(z.tb t ht).1;(obtain⟨t,r,rfl⟩:∃t r,aSP=t::r:=by cases aSP with|nil=>simp at ne|cons t r=>exact⟨t,r,rfl⟩);(have hp:((t::r).length:Int)>0:=by omega);simp only[hp,decide_true,cond_true,List.getElem?_cons_zero,ai,G18 t r hT,F5z (t::r) hT];by_cases h0:dbE (t::r)=0;simp only[h0,bne_self_eq_false,cond_false,F3B z.nk h0,F33 z.nk z.kr h0,ai];by_cases h1:E4I (E8I (t::r) keys) keys 0=0;simp only[h1,bne_self_eq_false,cond_false];have hm:(keys.map (e8 (t::r))).length=keys.length:=aB ..;refine⟨(keys.map (e8 (t::r)),0),?_,?_,by rw[hm];exact nk⟩;refine G1a (G19 h0 h1 nk) ?_;dsimp only;rw[jE (show keys.length<=(keys.map (e8 (t::r))).length by omega),a6 (by omega)];rfl;refine G1a (G2a h0 h1 nk) ?_;dsimp only;rw[jE (show keys.length<=(keys.map (e8 (t::r))).length by omega),a6 (by omega)];rfl;simp only[bne_iff_ne.2 h1,cond_true];exact⟨_,rfl,rfl,dg _⟩;simp only[bne_iff_ne.2 h0,cond_true];exact⟨_,rfl,rfl,dg _⟩
theorem G2d(l:List G16)(hl:l.length<=1000):A0d G1U (l,l,(l.length:Int),(0:Int))=some (.inr ()):=by have:=tQ (f:=G1U) l.length (λi=>(l,l,(l.length:Int),(i:Int))) (.inr ()) (λi hi=>?_) ?_;exact this;(have hi':(i:Int)<(l.length:Int):=by omega);simp only[G1U,hi',decide_true,cond_true,aq,ar,ah hi,ai,E5K.2 rfl,bO,cond_false,bne_self_eq_false,beq_self_eq_true,Bool.and_self,iQ (show i<9223372036854775807 by omega)];simp only[G1U,ba,decide_false,cond_false]
theorem G13{b nK:Nat}{T:List E4Z}{K:List (ByteArray×Int)}{H:List ByteArray}{A:List tI}(h:ChOk b nK T K H A)(hb:b<=900){x:Ch2}(h1:chR x.1)(h2:chR x.2){i:Nat}(hi:i<2):∃nK' T' K' H' A',G1T ((nK,x,(i:Int)),(T,T.length),((H,H.length),A,A.length),K)=some (.inl ((nK',x,((i+1:Nat):Int)),(T',T'.length),((H',H'.length),A',A'.length),K'))/\ChOk (b+1) nK' T' K' H' A':=by obtain⟨nK',T',K',H',A',n1,n2,n3,e,ok⟩:=G1v h hb (u:=bif i==0 then x.1 else x.2) (by cases i==0;exact h2;exact h1);refine⟨nK',T',K',H',A',?_,ok⟩;(have hi':(i:Int)<2:=by omega);simp only[G1T,hi',decide_true,cond_true,aq,ar,lB hi,iQ (show i<9223372036854775807 by omega)];refine G1a e ?_;simp only[jE (ay _),cond_true]
theorem G2b{b nK:Nat}{T:List E4Z}{K:List (ByteArray×Int)}{H:List ByteArray}{A:List tI}(h:ChOk b nK T K H A)(hb:b<=800){x:Ch2}(h1:chR x.1)(h2:chR x.2):∃nK' T' K' H' A',A0d G1T ((nK,x,(0:Int)),(T,T.length),((H,H.length),A,A.length),K)=some (nK',(T',T'.length),K')/\ChOk (b+1+1) nK' T' K' H' A':=by obtain⟨a1,a2,a3,a4,a5,e1,o1⟩:=G13 h (by omega) h1 h2 (i:=0) (by omega);obtain⟨c1,c2,c3,c4,c5,e2,o2⟩:=G13 o1 (by omega) h1 h2 (i:=1) (by omega);refine⟨c1,c2,c3,c4,c5,?_,o2⟩;have e1':G1T ((nK,x,(0:Int)),(T,T.length),((H,H.length),A,A.length),K)=_:=e1;rw[vw e1',vw e2];exact qc rfl
theorem G2g{c:E8l}(ok:OkC c){x:Ch2}(h1:chR x.1)(h2:chR x.2):G1X (c,x)=some true:=by unfold G1X;rcases G1f ok with⟨r,e,hr,b1,b2,b3⟩|⟨l1,l4,hf,hd,e,hn,l5,hs⟩;simp only[e,ai,hr,bO,auI,cond_true,cond_false,jE b1,jE b2,jE b3];have st:=ChOk.init ok l1 l4 hf l5;have lT:=F0O c.1 c.1.length;have lA:=E8m c.1 c.1.length;obtain⟨nK,T,K,H,A,k1,k2⟩:=G2b st (by omega) h1 h2;rw[lT,lA]at k1;simp only[e,ai,bO,cond_false,cond_true,jE (show c.1.length<=(E5p c.1 c.1.length).length by omega),jE (show c.1.length<=(E4P c.1 c.1.length).length by omega),jE (ay _)];refine G1a k1 ?_;have z:=k2.sz (by omega);have q1:=k2.kl;have q2:=k2.a1;have q3:=k2.tl;obtain⟨r,e1,e2,e3⟩:=G11 z (by rw[aW];omega) (by omega);have t1:T.take T.length=T:=pN T;simp only[jE k2.nk,cond_true,t1];refine G1a e1 (G1a e2 ?_);simp only[bne_self_eq_false,cond_false];refine G1a (G2d r.1 e3) ?_;rfl
end Go.Mid
