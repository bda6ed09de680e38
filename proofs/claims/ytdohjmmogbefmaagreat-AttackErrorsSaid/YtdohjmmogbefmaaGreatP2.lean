/- Chapter 49: the errors of queries and keys, on both sides. -/
import Derived.Test.YtdohjmmogbefmaaGreatP1
import Derived.Test.YtdohjmmogbefmaaGreatT2
import Derived.Test.YtdohjmmogbefmaaGreatM9
import Derived.Test.YtdohjmmogbefmaaGreatM10
import Derived.KernelRfl
set_option linter.unusedSimpArgs false
set_option linter.unusedVariables false
set_option maxHeartbeats 1000000
open Bool renaming not_false->auI,true_and->dm,not_true->bO,eq_iff_iff->s8
open ByteArray renaming mk->ir
open Go.IntKind renaming u32->cG,i64->ao
open Int renaming natCast_nonneg->aq,toNat_natCast->ar,lt_irrefl->ba,natCast_zero->av,eq_ofNat_of_zero_le->eB,tmod_lt_of_pos->aTh,tmod_nonneg->aYP
open List renaming all_eq_not_any_not->gm,getElem?_eq_getElem->ah,length->cz,find?_cons->iz,any_eq_true->fV,mem_of_getElem?->bH,getElem_of_mem->pd,getElem_mem->aM,length_take->aW,range->bA,map_append->b9,take_of_length_le->a6,length_append->aR,map->fp,map_id->wR,range_succ->jO,length_cons->bf,length_nil->cM,length_map->aB,mem_append->az,mem_singleton->aX,mem_map->bp,mem_range->cu,mem_or_eq_of_mem_set->bx,mem_of_mem_take->dh,mem_of_mem_drop->gy,length_drop->cm,length_replicate->fZ
open Nat renaming le_of_lt->fH,le_refl->ay,zero_add->bS,le_succ_of_le->at2
open Option renaming bind_some->ai,bind->bc
open Sum renaming elim_inr->lS
namespace Go.Mid
theorem E9r(c:UInt8):E7P (c.toNat:Int)=some (E4S c):=E9l c
theorem F2O(s:ByteArray):E7Q s=some (E47 s):=by unfold E7Q E47;rw[E78];show(bif Lv s ⟨#[]⟩then _ else bif _ then _ else bif Lv s E82 then _ else _)=_;cases h1:Lv s ⟨#[]⟩;(case true=>rfl);simp only[cond_false,auI,dm,gt_iff_lt];by_cases h2:(24:Int)<(s.data.toList.length:Int);(have:¬s.data.toList.length<=24:=by omega);simp only[h2,this,decide_true,decide_false,cond_true,Bool.false_and];(have hl:s.data.toList.length<=24:=by omega);simp only[h2,decide_false,cond_false,hl,decide_true,dm];cases h3:Lv s E82;(case true=>rfl);simp only[cond_false,auI,dm];have:=wo (f:=E6W) s.data.toList (λi=>(s,(s.data.toList.length:Int),(i:Int))) (λc=>!(E4S c||E5s c)) (.inl false) (.inr ()) (λi hi=>by(have hi':(i:Int)<s.data.toList.length:=by omega);simp only[E6W,hi',decide_true,cond_true,aq,ar,E9W s i hi,ai,E9r,iQ (show i<9223372036854775807 by omega)];generalize s.data.toList[i]=c;unfold E5s E8H;simp only[ge_iff_le,show((48:Int)<=(c.toNat:Int))↔48<=c.toNat by omega,show((c.toNat:Int)<=57)↔c.toNat<=57 by omega];cases E4S c<;>cases decide (48<=c.toNat)<;>cases decide (c.toNat<=57)<;>rfl) (by simp only[E6W,ba,decide_false,cond_false]);simp only[av]at this;(have hx:∀b:Bool,(if b=true then(Sum.inl false:Bool⊕PUnit)else .inr ())=bif b then .inl false else .inr ():=λb=>by cases b<;>rfl);rw[this,hx];generalize hL:s.data.toList=L;cases L with|nil=>(have:s=⟨#[]⟩:=by cases s;congr 1;exact Array.toList_inj.1 hL);rw[E5K.2 this]at h1;cases h1|cons c r=>(have hd:s.data[0]?=some c:=by rw[<-Array.getElem?_toList,hL];rfl);simp only[hd,ai,E9r,List.any_cons];cases hc:E4S c;simp;simp only[bO,cond_false,Bool.true_or,Bool.false_or,dm];(have h2:r.any (λc=>!(E4S c||E5s c))=!r.all (λc=>E4S c||E5s c):=by rw[gm];simp);rw[h2];cases r.all (λc=>E4S c||E5s c)<;>rfl
def E5t(u:E5b):Bool:=bif Lv u.1 ⟨#[]⟩then E4N u.2 else E47 u.1&&(u.2.1==0&&(u.2.2.1==0&&Lv u.2.2.2 ⟨#[]⟩))
theorem F1w(u:E5b):E6X u=some (E5t u):=by unfold E6X E5t;rw[F2O,E8N];cases Lv u.1 ⟨#[]⟩;simp only[auI,cond_true,cond_false,ai];cases E47 u.1<;>rfl;rfl
theorem F2P(u:E5b):E62 u=some (E5t u):=by unfold E62 E5t;rw[E83,E9k];cases Lv u.1 ⟨#[]⟩;simp only[auI,cond_true,cond_false,ai];cases E47 u.1<;>rfl;rfl
theorem F1U(l:List E5b)(hl:l.length<=9223372036854775807):E4v (l,())=some (!l.all E5t):=by unfold E4v E4J;have:=Ma (f:=E4u) l (λi=>(l,(),(l.length:Int),(i:Int))) (λ_ u=>!E5t u) (λi=>.inl (i:Int)) (.inr ()) (λi hi=>by(have hi':(i:Int)<l.length:=by omega);simp only[E4u,E8a,hi',decide_true,cond_true,aq,ar,ah hi,ai,F1w,iQ (show i<9223372036854775807 by omega)];cases E5t l[i]<;>rfl) (by simp only[E4u,ba,decide_false,cond_false]);simp only[av]at this;rw[this,show(!l.all E5t)=l.any (λu=>!E5t u)by rw[gm,Bool.not_not],<-Qm (λu=>!E5t u) l 0];cases tm (λ_ u=>!E5t u) l 0 with|none=>rfl|some i=>simp
theorem F1V(a:tI)(hl:a.2.length<=9223372036854775807):E6I a=some (a.2.all E5t):=by unfold E6I;have:=wo (f:=E6b) a.2 (λi=>((i:Int),a)) (λu=>!E5t u) (.inl false) (.inr ()) (λi hi=>by(have hi':(i:Int)<a.2.length:=by omega);simp only[E6b,hi',decide_true,cond_true,aq,ar,ah hi,ai,F2P,iQ (show i<9223372036854775807 by omega)];cases E5t a.2[i]<;>rfl) (by simp only[E6b,ba,decide_false,cond_false]);simp only[av]at this;rw[this,ai,gm];cases a.2.any (λu=>!E5t u)<;>rfl
theorem F3W(l:List E4Z)(a:ByteArray)(hl:l.length<=1000000):E8j (l,a)=some (match l.find? (λt=>Lv t.1 a)with|some t=>(t,true)|none=>((⟨#[]⟩,[],[]),false)):=by unfold E8j;(have key:∀(r:List E4Z)(i:Nat),l.drop i=r->A0d E6N ((a,l,(l.length:Int),(i:Int)),(ir #[]),([],0),[],0)=some (match r.find? (λt=>Lv t.1 a)with|some t=>.inl (true,t)|none=>.inr ((ir #[]),([],0),[],0)):=by intro r;induction r with|nil=>intro i hd;(have hi:¬(i:Int)<(l.length:Int):=by have:=congrArg cz hd;simp at this;omega);exact qc (by simp only[E6N,hi,decide_false,cond_false,List.find?_nil])|cons t r ih=>intro i hd;(have hi:i<l.length:=by have:=congrArg cz hd;simp at this;omega);(have hx:l[i]=t/\l.drop (i+1)=r:=by rw[List.drop_eq_getElem_cons hi]at hd;exact List.cons.inj hd);(have hi':(i:Int)<(l.length:Int):=by omega);rw[iz];cases hs:Lv t.1 a with|true=>exact qc (by simp only[E6N,hi',decide_true,cond_true,aq,ar,ah hi,ai,hx.1,hs])|false=>rw[<-ih (i+1) hx.2];exact vw (by simp only[E6N,hi',decide_true,cond_true,aq,ar,ah hi,ai,hx.1,hs,cond_false,iQ (show i<9223372036854775807 by omega)]));have k0:=key l 0 rfl;simp only[av]at k0;refine(congrArg (λo=>bc o _) k0).trans ?_;cases l.find? (λt=>Lv t.1 a)<;>rfl
theorem E9s(l:List E4Z)(a:ByteArray):l.find? (λt=>Lv t.1 a)=(E6S l a).bind λi=>l[i]?:=by unfold E6S;induction l with|nil=>rfl|cons t r ih=>rw[iz,List.findIdx?_cons];cases Lv t.1 a with|true=>rfl|false=>rw[ih];cases r.findIdx? (λt=>Lv t.1 a)<;>rfl
theorem F0v{l:List E4Z}{a:ByteArray}{i:Nat}(h:E6S l a=some i):i<l.length:=by unfold E6S at h;have:=List.findIdx?_eq_some_iff_findIdx_eq.1 h;omega
def E84(aSP:List E4Z)(_:Nat)(a:tI):Int:=match aSP.find? (λt=>Lv t.1 a.1)with|none=>4|some t=>bif t.2.1.length==a.2.length then(bif a.2.all E5t then 0 else 1)else 6
theorem F2i(ts:List E5b)(v:ByteArray):occ ts ts.length v↔(v≠⟨#[]⟩/\ts.any (λu=>Lv u.1 v)=true):=by unfold occ;rw[fV];constructor;rintro⟨h0,k,u,hk,hu,e⟩;exact⟨h0,u,bH hu,by rw[E5K];exact e⟩;rintro⟨h0,u,hu,e⟩;obtain⟨k,hk,e2⟩:=pd hu;exact⟨h0,k,u,hk,by rw[<-e2];exact ah hk,E5K.1 e⟩
def E9t(ats:List tI)(v:ByteArray):Bool:=ats.any λa=>a.2.any λu=>Lv u.1 v
theorem F3X(ats:List tI)(v:ByteArray):E9Z ats ats.length v↔(v≠⟨#[]⟩/\E9t ats v=true):=by unfold E9Z E9t;rw[fV];constructor;rintro⟨j,a,hj,ha,h⟩;obtain⟨h0,h1⟩:=(F2i a.2 v).1 h;exact⟨h0,a,bH ha,h1⟩;rintro⟨h0,a,ha,h1⟩;obtain⟨j,hj,e⟩:=pd ha;exact⟨j,a,hj,by rw[<-e];exact ah hj,(F2i a.2 v).2 ⟨h0,h1⟩⟩
theorem F4Q(l:List E5b)(v:ByteArray)(hl:l.length<=9223372036854775807):E4n (l,v)=some (l.any λu=>Lv u.1 v):=by unfold E4n E4A;have:=Ma (f:=E4m) l (λi=>(l,v,(l.length:Int),(i:Int))) (λ_ u=>Lv u.1 v) (λi=>.inl (i:Int)) (.inr ()) (λi hi=>by(have hi':(i:Int)<l.length:=by omega);simp only[E4m,E6R,hi',decide_true,cond_true,aq,ar,ah hi,ai,iQ (show i<9223372036854775807 by omega)];cases Lv l[i].1 v<;>rfl) (by simp only[E4m,ba,decide_false,cond_false]);simp only[av]at this;rw[this,<-Qm (λu:E5b=>Lv u.1 v) l 0];cases tm (λ_(u:E5b)=>Lv u.1 v) l 0 with|none=>rfl|some i=>simp
theorem F5A(l:List tI)(v:ByteArray)(hl:l.length<=1000)(ht:∀a∈l,a.2.length<=1000):E4p (l,v)=some (E9t l v):=by unfold E4p E4B;have:=Ma (f:=E4o) l (λi=>(l,v,(l.length:Int),(i:Int))) (λ_ a=>a.2.any λu=>Lv u.1 v) (λi=>.inl (i:Int)) (.inr ()) (λi hi=>by(have hi':(i:Int)<l.length:=by omega);have Ge:=ht _ (aM hi);simp only[E4o,E7u,hi',decide_true,cond_true,aq,ar,ah hi,ai,F4Q _ _ (show l[i].2.length<=9223372036854775807 by omega),iQ (show i<9223372036854775807 by omega)];cases l[i].2.any (λu=>Lv u.1 v)<;>rfl) (by simp only[E4o,ba,decide_false,cond_false]);simp only[av]at this;rw[this];unfold E9t;rw[<-Qm (λa:tI=>a.2.any λu=>Lv u.1 v) l 0];cases tm (λ_(a:tI)=>a.2.any λu=>Lv u.1 v) l 0 with|none=>rfl|some i=>simp
theorem E6P{α:Type}{x:Int}{A B:α}:(if x=0 then A else B)=bif x==0 then A else B:=by by_cases h:x=0;rw[if_pos h,h];rfl;rw[if_neg h,beq_false_of_ne h];rfl
def E8s(head:List ByteArray)(ats:List tI)(i:Nat)(v:ByteArray):Int:=bif Lv v ⟨#[]⟩||E4Y (head.take i) v||!E9t ats v then 1 else 0
theorem F3Y(head:List ByteArray)(l:List tI)(hh:head.length<=1000000)(hl:l.length<=1000)(ht:∀a∈l,a.2.length<=1000):E6Y (head,l)=some (decide (E4I (E8s head l) head 0=0)):=by unfold E6Y;have:=E5R (f:=E6p) head (λi=>((head,(head.length:Int),(i:Int)),(head,l))) (E8s head l) (λ_=>.inl false) (.inr ()) (λi hi=>by(have hi':(i:Int)<head.length:=by omega);have hc:=E9i (head.take i) head[i] (by rw[aW];omega);rw[E6P];simp only[E6p,hi',decide_true,cond_true,aq,ar,ah hi,ai,jE (fH hi),hc,F5A l head[i] hl ht,iQ (show i<9223372036854775807 by omega),E8s];cases Lv head[i] ⟨#[]⟩<;>cases E4Y (head.take i) head[i]<;>cases E9t l head[i]<;>rfl) (by simp only[E6p,ba,decide_false,cond_false]);simp only[av]at this;rw[this,ai];by_cases h:E4I (E8s head l) head 0=0;rw[if_pos h,decide_eq_true h];rfl;rw[if_neg h,decide_eq_false h];rfl
theorem F3Z(head:List ByteArray)(l:List tI)(hh:head.length<=1000000)(hl:l.length<=1000)(ht:∀a∈l,a.2.length<=1000):E63 (head,l)=some (decide (E4I (E8s head l) head 0=0)):=by unfold E63;obtain⟨s,e,s1,s2⟩:=E8r hl ht;have:=E5R (f:=E6u) head (λi=>((s,(i:Int)),(head,l))) (E8s head l) (λ_=>.inl false) (.inr ()) (λi hi=>by(have hi':(i:Int)<head.length:=by omega);have ha:=E8O s head[i] (by omega);have Ml:=E8O (head.take i) head[i] (by rw[aW];omega);have hx:=E7z s head[i];have hx2:=E7z (head.take i) head[i];(have eC:∀x:Int,decide (x<0)=!decide (x>=0):=λx=>by by_cases h:x<0;rw[decide_eq_true h,decide_eq_false (by omega)];rfl;rw[decide_eq_false h,decide_eq_true (by omega)];rfl);(have hv:E5m s head[i]=(!Lv head[i] ⟨#[]⟩&&E9t l head[i]):=by rw[s8,show E5m s head[i]=E4Y s head[i]from rfl,s1.has,F3X,Bool.and_eq_true,Bool.not_eq_true',Bool.eq_false_iff,ne_eq,ne_eq,E5K]);rw[E6P];simp only[E6u,hi',decide_true,cond_true,aq,ar,ah hi,ai,jE (fH hi),ha,Ml,eC,<-hx,<-hx2,hv,iQ (show i<9223372036854775807 by omega),E8s,show E5m (head.take i) head[i]=E4Y (head.take i) head[i]from rfl];cases Lv head[i] ⟨#[]⟩<;>cases E4Y (head.take i) head[i]<;>cases E9t l head[i]<;>rfl) (by simp only[E6u,ba,decide_false,cond_false]);simp only[av]at this;simp only[e,ai,this];by_cases h:E4I (E8s head l) head 0=0;rw[if_pos h,decide_eq_true h];rfl;rw[if_neg h,decide_eq_false h];rfl
def E7g(aSP:List E4Z)(head:List ByteArray)(ats:List tI):Int:=if dbE aSP=0 then(if ats.length<1\/6<ats.length then 1 else if E4I (E84 aSP) ats 0=0 then(if E4I (E8s head ats) head 0=0 then 0 else 1)else E4I (E84 aSP) ats 0)else dbE aSP
structure Sz (aSP:List E4Z)(keys:List (ByteArray×Int))(head:List ByteArray)(ats:List tI):Prop where
 tb:∀ t∈aSP,F0s t∧t.2.1.length<=1000000
 nk:keys.length<=1000000
 kr:∀ k∈keys,0<=k.2∧k.2<4294967296
 nh:head.length<=1000000
 na:ats.length<=1000
 nt:∀ a∈ats,a.2.length<=1000
section
variable{aSP:List E4Z}{keys:List (ByteArray×Int)}{head:List ByteArray}{ats:List tI}(z:Sz aSP keys head ats)
include z
theorem F3y:E72 (aSP,head,ats)=some (E7g aSP head ats):=by have hna:=z.na;unfold E72 E7g;simp only[F1v aSP (λt ht=>(z.tb t ht).1),ai];by_cases h0:dbE aSP=0;have hl:=E8P h0;rw[if_pos h0,if_pos h0];simp only[bne_self_eq_false,cond_false];by_cases h1:ats.length<1;(have:(ats.length:Int)<1:=by omega);simp only[this,decide_true,cond_true,if_pos (Or.inl h1:ats.length<1\/6<ats.length)];by_cases h2:6<ats.length;(have a1:¬(ats.length:Int)<1:=by omega);(have a2:(ats.length:Int)>6:=by omega);simp only[a1,a2,decide_true,decide_false,cond_true,cond_false,if_pos (Or.inr h2:ats.length<1\/6<ats.length)];(have a1:¬(ats.length:Int)<1:=by omega);(have a2:¬(ats.length:Int)>6:=by omega);(have a3:¬(ats.length<1\/6<ats.length):=by omega);simp only[a1,a2,decide_false,cond_false,if_neg a3];have:=E5R (f:=E7r) ats (λi=>((ats,(ats.length:Int),(i:Int)),aSP,(head,ats))) (E84 aSP) .inl (.inr (head,ats)) (λi hi=>by(have hi':(i:Int)<ats.length:=by omega);have Ge:=z.nt _ (aM hi);rw[E6P];simp only[E7r,hi',decide_true,cond_true,aq,ar,ah hi,ai,F3W aSP _ (show aSP.length<=1000000 by omega),F1U _ (show ats[i].2.length<=9223372036854775807 by omega),iQ (show i<9223372036854775807 by omega),E84];cases aSP.find? (λt=>Lv t.1 ats[i].1)with|none=>rfl|some t=>simp only[bO,cond_false];by_cases hlen:t.2.1.length=ats[i].2.length;(have:((t.2.1.length:Int)!=(ats[i].2.length:Int))=false:=by rw[hlen,bne_self_eq_false]);simp only[hlen,bne_self_eq_false,cond_false,beq_self_eq_true,cond_true];cases ats[i].2.all E5t<;>rfl;(have:((t.2.1.length:Int)!=(ats[i].2.length:Int))=true:=by rw[bne_iff_ne];omega);simp only[this,cond_true,beq_false_of_ne hlen,cond_false];rfl) (by simp only[E7r,ba,decide_false,cond_false]);simp only[av]at this;simp only[this,ai];by_cases he:E4I (E84 aSP) ats 0=0;rw[if_pos he,if_pos he];simp only[lS,F3Y head ats z.nh z.na z.nt,ai];by_cases hh:E4I (E8s head ats) head 0=0;rw[if_pos hh,decide_eq_true hh];rfl;rw[if_neg hh,decide_eq_false hh];rfl;rw[if_neg he,if_neg he];rfl;rw[if_neg h0,if_neg h0];simp only[bne_iff_ne.2 (F3V aSP h0),cond_true]
theorem F3z:E6J (aSP,head,ats)=some (E7g aSP head ats):=by have hna:=z.na;unfold E6J E7g;simp only[F5z aSP (λt ht=>(z.tb t ht).1),ai];by_cases h0:dbE aSP=0;have hl:=E8P h0;rw[if_pos h0];simp only[h0,bne_self_eq_false,cond_false];by_cases h1:ats.length<1;(have:(ats.length:Int)<1:=by omega);simp only[this,decide_true,cond_true,if_pos (Or.inl h1:ats.length<1\/6<ats.length)];by_cases h2:6<ats.length;(have a1:¬(ats.length:Int)<1:=by omega);(have a2:(ats.length:Int)>6:=by omega);simp only[a1,a2,decide_true,decide_false,cond_true,cond_false,if_pos (Or.inr h2:ats.length<1\/6<ats.length)];(have a1:¬(ats.length:Int)<1:=by omega);(have a2:¬(ats.length:Int)>6:=by omega);(have a3:¬(ats.length<1\/6<ats.length):=by omega);simp only[a1,a2,decide_false,cond_false,if_neg a3];have:=E5R (f:=E6c) ats (λi=>((i:Int),aSP,(head,ats))) (E84 aSP) .inl (.inr (head,ats)) (λi hi=>by(have hi':(i:Int)<ats.length:=by omega);have Ge:=z.nt _ (aM hi);rw[E6P];simp only[E6c,hi',decide_true,cond_true,aq,ar,ah hi,ai,E9p aSP _ (show aSP.length<=1000000 by omega),F1V _ (show ats[i].2.length<=9223372036854775807 by omega),iQ (show i<9223372036854775807 by omega),E84,E9s];cases hx:E6S aSP ats[i].1 with|none=>rfl|some k=>have hk:=F0v hx;(have n1:¬((k:Int)<0):=by omega);simp only[E9o,n1,decide_false,cond_false,aq,decide_true,cond_true,ar,ah hk,ai];by_cases hlen:aSP[k].2.1.length=ats[i].2.length;(have:((ats[i].2.length:Int)!=(aSP[k].2.1.length:Int))=false:=by rw[hlen,bne_self_eq_false]);simp only[hlen,bne_self_eq_false,cond_false,beq_self_eq_true,cond_true];cases ats[i].2.all E5t<;>rfl;(have:((ats[i].2.length:Int)!=(aSP[k].2.1.length:Int))=true:=by rw[bne_iff_ne];omega);simp only[this,cond_true,beq_false_of_ne hlen,cond_false];rfl) (by simp only[E6c,ba,decide_false,cond_false]);simp only[av]at this;simp only[this,ai];by_cases he:E4I (E84 aSP) ats 0=0;rw[if_pos he,if_pos he];simp only[lS,F3Z head ats z.nh z.na z.nt,ai];by_cases hh:E4I (E8s head ats) head 0=0;rw[if_pos hh,decide_eq_true hh];rfl;rw[if_neg hh,decide_eq_false hh];rfl;rw[if_neg he,if_neg he];rfl;rw[if_neg h0];simp only[bne_iff_ne.2 h0,cond_true]
end
end Go.Mid
namespace Go.Mid
end Go.Mid
namespace Go.Mid
inductive Cl (L:List (fb×fb)) (v:fb) (but:Int):Txt->Prop
 | base {z:Txt} (h:z∈nb v):Cl L v but z
 | step {z:Txt} (i:Nat) (a:fb×fb) (hi:L[i]?=some a) (hb:(i:Int)≠but) (hk:∀ x∈nb a.1,Cl L v but x) (hz:z∈nb a.2):Cl L v but z
section
variable{L:List (fb×fb)}{v:fb}{but:Int}
end
end Go.Mid
namespace Go.Mid
section
variable{L:List (fb×fb)}{v:fb}{but:Int}
def univ(L:List (fb×fb))(v:fb):List Txt:=nb v++L.flatMap λa=>nb a.2
theorem Cl.univ{z:Txt}(h:Cl L v but z):z∈univ L v:=by cases h with|base h=>exact List.mem_append_left _ h|step i a hi hb hk hz=>exact List.mem_append_right _ (List.mem_flatMap.2 ⟨a,bH hi,hz⟩)
open Classical in
noncomputable def F5S(L:List (fb×fb))(v out:fb):Nat:=((univ L v).filter λz=>decide (z∉nb out)).length
end
end Go.Mid
namespace Go.Mid
namespace AG
variable{V:Type}(N:Nat)(key all:Nat->V->Prop)
inductive D (but:Option Nat) (S:V->Prop):V->Prop
 | base {z:V} (h:S z):D but S z
 | step {z:V} (j:Nat) (hj:j<N) (hb:some j≠but) (hk:∀ x,key j x->D but S x) (hz:all j z):D but S z
def G1R(i:Nat):V->Prop:=D N key all (some i) (key i)
inductive Rch (i:Nat):Nat->Prop
 | refl:Rch i i
 | step {a b:Nat} (h:Rch i a) (hb:b<N) (x:V) (h1:all a x) (h2:all b x) (h3:¬ G1R N key all i x):Rch i b
def att(i k:Nat):Prop:=i<N/\k<N/\k≠i/\Rch N key all i k
def aJU(i k:Nat):Prop:=∀x,key k x->D N key all none (key i) x
variable{N key all}
theorem D.mono{but:Option Nat}{S T:V->Prop}(h:∀x,S x->D N key all but T x){z:V}(hz:D N key all but S z):D N key all but T z:=by induction hz with|base hz=>exact h _ hz|step j hj hb _ hz ih=>exact .step j hj hb ih hz
inductive Way (N:Nat) (key all:Nat->V->Prop):Nat->Nat->Nat->Prop
 | one {a b:Nat} (h:att N key all a b):Way N key all 1 a b
 | more {n a b c:Nat} (h:att N key all a b) (r:Way N key all n b c):Way N key all (n+1) a c
end AG
end Go.Mid
namespace Go.Mid
def E5S(l:List (fb×fb))(i:Nat)(z:Txt):Prop:=∃a,l[i]?=some a/\z∈nb a.1
def E50(l:List (fb×fb))(i:Nat)(z:Txt):Prop:=∃a,l[i]?=some a/\z∈nb a.2
end Go.Mid
namespace Go.Mid
structure QV (keys:List (ByteArray×Int))(head:List ByteArray)(ats:List tI):Prop where
 nk:keys.length<=1000000
 nh:head.length<=1000000
 na:ats.length<=6
 nt:∀ a∈ats,a.2.length<=16
 fk:∀ a∈ats,(keys.findIdx? λp=>Lv p.1 a.1).isSome=true
def E4j(keys:List (ByteArray×Int))(head:List ByteArray)(ats:List tI):List (fb×fb):=ats.map (E6K keys head)
end Go.Mid
namespace Go.Mid
theorem F3A(l:List E4Z)(a:ByteArray)(hl:l.length<=1000000):E7R (l,a)=some (match l.find? (λt=>Lv t.1 a)with|some t=>(t,true)|none=>((⟨#[]⟩,[],[]),false)):=by unfold E7R E4G;have:=Ma (f:=E4r) l (λi=>(l,a,(l.length:Int),(i:Int))) (λ_ t=>Lv t.1 a) (λi=>.inl (i:Int)) (.inr ()) (λi hi=>by(have hi':(i:Int)<l.length:=by omega);simp only[E4r,E7W,hi',decide_true,cond_true,aq,ar,ah hi,ai,iQ (show i<9223372036854775807 by omega)];cases Lv l[i].1 a<;>rfl) (by simp only[E4r,ba,decide_false,cond_false]);simp only[av]at this;rw[this,D86,E9s];cases hx:E6S l a with|none=>unfold E6S at hx;rw[hx];rfl|some k=>have hk:=F0v hx;unfold E6S at hx;(have n1:¬((k:Int)<0):=by omega);rw[hx];simp only[Option.map_some,Nat.add_zero,ai,Sum.elim_inl,n1,decide_false,cond_false,aq,decide_true,cond_true,ar,ah hk]
theorem F32{k:Int}(h0:0<=k)(h1:k<4294967296){n:Nat}(hn:n<=16):(pL cG k ((2^n-1:Nat):Int)==k)=(jK cG k (n:Int)==0):=by obtain⟨m,rfl⟩:=eB h0;(have hm:m<w32:=by unfold w32;omega);have hp:=F1t (show n<=32 by omega);have tK:0<2^n:=Nat.two_pow_pos n;rw[F2f hm (by omega),F4M (by omega),Nat.and_two_pow_sub_one_eq_mod,Nat.shiftRight_eq_div_pow,s8,beq_iff_eq,beq_iff_eq];constructor;intro h;(have h:m%2^n=m:=by omega);(have:m<2^n:=by rw[<-h];exact Nat.mod_lt _ tK);rw[Nat.div_eq_of_lt this];rfl;intro h;(have h:m/2^n=0:=by omega);(have:m<2^n:=by rcases Nat.div_eq_zero_iff.1 h with h|h;omega;exact h);rw[Nat.mod_eq_of_lt this]
def E8I(aSP:List E4Z)(keys:List (ByteArray×Int))(i:Nat)(k:ByteArray×Int):Int:=match aSP.find? (λt=>Lv t.1 k.1)with|none=>4|some t=>bif jK cG k.2 (t.2.1.length:Int)==0 then(bif(E5O (keys.take i) k.1).2 then 5 else 0)else 1
theorem F0j(keys:List (ByteArray×Int))(a:ByteArray):(E5O keys a).2=(keys.findIdx? λp=>Lv p.1 a).isSome:=by unfold E5O;cases keys.findIdx? (λp=>Lv p.1 a)<;>rfl
theorem F0M(keys:List (ByteArray×Int))(a:ByteArray)(hl:keys.length<=9223372036854775807):∃r,E5g (keys,a)=some r/\decide (r>=0)=(E5O keys a).2/\decide (r<0)=!(E5O keys a).2:=by refine⟨_,F2e keys a hl,?_,?_⟩<;>rw[F0j]<;>cases keys.findIdx? (λb=>Lv b.1 a)with|none=>rfl|some i=>simp
def E9x(ats:List tI)(i:Nat)(a:tI):Int:=bif(ats.take i).any (λb=>Lv b.1 a.1)then 14 else 0
def F0w(keys:List (ByteArray×Int))(_:Nat)(a:tI):Int:=bif(E5O keys a.1).2 then 0 else 4
def E7w(aSP:List E4Z)(keys:List (ByteArray×Int))(head:List ByteArray)(ats:List tI):Int:=if E7g aSP head ats=0 then(if E4I (E8I aSP keys) keys 0=0 then(if E4I (E9x ats) ats 0=0 then E4I (F0w keys) ats 0 else E4I (E9x ats) ats 0)else E4I (E8I aSP keys) keys 0)else E7g aSP head ats
theorem E9y{aSP:List E4Z}{head:List ByteArray}{ats:List tI}(h:E7g aSP head ats=0):dbE aSP=0:=by unfold E7g at h;split at h;assumption;rename_i h0;exact(h0 h).elim
section
variable{aSP:List E4Z}{keys:List (ByteArray×Int)}{head:List ByteArray}{ats:List tI}(z:Sz aSP keys head ats)
theorem F3B(nk:keys.length<=1000000)(hdb:dbE aSP=0):E7S (aSP,keys)=some (E4I (E8I aSP keys) keys 0):=by have hl:=E8P hdb;unfold E7S;have:=E5R (f:=E6Z) keys (λi=>((keys,keys,(keys.length:Int),(i:Int)),aSP)) (E8I aSP keys) .inl (.inr ()) (λi hi=>by(have hi':(i:Int)<keys.length:=by omega);rw[E6P];simp only[E6Z,hi',decide_true,cond_true,aq,ar,ah hi,ai,F3A aSP _ (show aSP.length<=1000000 by omega),jE (fH hi),F1r (keys.take i) keys[i].1 (by rw[aW];omega),iQ (show i<9223372036854775807 by omega),E8I];cases aSP.find? (λt=>Lv t.1 keys[i].1)with|none=>rfl|some t=>simp only[bO,cond_false,bne];cases jK cG keys[i].2 (t.2.1.length:Int)==0<;>cases(E5O (keys.take i) keys[i].1).2<;>rfl) (by simp only[E6Z,ba,decide_false,cond_false]);simp only[av]at this;rw[this,ai];split;rename_i h0;rw[h0];rfl;rfl
theorem F33(nk:keys.length<=1000000)(kr:∀k∈keys,0<=k.2/\k.2<4294967296)(hdb:dbE aSP=0):E64 (aSP,keys)=some (E4I (E8I aSP keys) keys 0):=by have hl:=E8P hdb;unfold E64;have:=E5R (f:=E6w) keys (λi=>((keys,(i:Int)),aSP)) (E8I aSP keys) .inl (.inr ()) (λi hi=>by(have hi':(i:Int)<keys.length:=by omega);obtain⟨r,hr,Iw,_⟩:=F0M (keys.take i) keys[i].1 (by rw[aW];omega);rw[E6P];simp only[E6w,hi',decide_true,cond_true,aq,ar,ah hi,ai,E9p aSP _ (show aSP.length<=1000000 by omega),jE (fH hi),hr,Iw,iQ (show i<9223372036854775807 by omega),E8I,E9s];cases hx:E6S aSP keys[i].1 with|none=>rfl|some k=>have hk:=F0v hx;(have n1:¬((k:Int)<0):=by omega);have h16:=(E9q (F0u hdb (aM hk))).2;have hkr:=kr _ (aM hi);simp only[E9o,n1,decide_false,cond_false,aq,decide_true,cond_true,ar,ah hk,ai,F2g (show aSP[k].2.1.length<32 by omega),E7Y,F32 hkr.1 hkr.2 h16];cases jK cG keys[i].2 (aSP[k].2.1.length:Int)==0<;>cases(E5O (keys.take i) keys[i].1).2<;>rfl) (by simp only[E6w,ba,decide_false,cond_false]);simp only[av]at this;rw[this,ai];split;rename_i h0;rw[h0];rfl;rfl
theorem F4U(l:List tI)(a:tI)(hl:l.length<=1000):E4t (l,a)=some (l.any λb=>Lv b.1 a.1):=by unfold E4t E4H;have:=Ma (f:=E4s) l (λi=>(l,a,(l.length:Int),(i:Int))) (λ_ b=>Lv b.1 a.1) (λi=>.inl (i:Int)) (.inr ()) (λi hi=>by(have hi':(i:Int)<l.length:=by omega);simp only[E4s,E7X,hi',decide_true,cond_true,aq,ar,ah hi,ai,iQ (show i<9223372036854775807 by omega)];cases Lv l[i].1 a.1<;>rfl) (by simp only[E4s,ba,decide_false,cond_false]);simp only[av]at this;rw[this,<-Qm (λb:tI=>Lv b.1 a.1) l 0];cases tm (λ_(b:tI)=>Lv b.1 a.1) l 0 with|none=>rfl|some i=>simp
include z
theorem F0N:E7e (aSP,keys,head,ats)=some (E7w aSP keys head ats):=by have hna:=z.na;have hnk:=z.nk;unfold E7e E7w;simp only[F3y z,ai];by_cases h0:E7g aSP head ats=0;have hdb:=E9y h0;rw[if_pos h0];simp only[h0,bne_self_eq_false,cond_false,F3B z.nk hdb,ai];by_cases h1:E4I (E8I aSP keys) keys 0=0;rw[if_pos h1];simp only[h1,bne_self_eq_false,cond_false];have:=E5R (f:=E60) ats (λi=>((keys,ats,(ats.length:Int),(i:Int)),(head,ats))) (E9x ats) .inl (.inr (keys,(head,ats))) (λi hi=>by(have hi':(i:Int)<ats.length:=by omega);rw[E6P];simp only[E60,hi',decide_true,cond_true,aq,ar,ah hi,ai,jE (fH hi),F4U (ats.take i) ats[i] (by rw[aW];omega),iQ (show i<9223372036854775807 by omega),E9x];cases(ats.take i).any (λb=>Lv b.1 ats[i].1)<;>rfl) (by simp only[E60,ba,decide_false,cond_false]);simp only[av]at this;simp only[this,ai];by_cases h2:E4I (E9x ats) ats 0=0;rw[if_pos h2,if_pos h2];have:=E5R (f:=E61) ats (λi=>(keys,ats,(ats.length:Int),(i:Int))) (F0w keys) .inl (.inr ()) (λi hi=>by(have hi':(i:Int)<ats.length:=by omega);rw[E6P];simp only[E61,hi',decide_true,cond_true,aq,ar,ah hi,ai,F1r keys ats[i].1 hnk,iQ (show i<9223372036854775807 by omega),F0w];cases(E5O keys ats[i].1).2<;>rfl) (by simp only[E61,ba,decide_false,cond_false]);simp only[av]at this;simp only[lS,this,ai];split;rename_i h3;rw[h3];rfl;rfl;rw[if_neg h2,if_neg h2];rfl;rw[if_neg h1];simp only[bne_iff_ne.2 h1,cond_true];rw[if_neg h0];simp only[bne_iff_ne.2 h0,cond_true]
theorem E9M:E55 (aSP,keys,head,ats)=some (E7w aSP keys head ats):=by have hna:=z.na;have hnk:=z.nk;unfold E55 E7w;simp only[F3z z,ai];by_cases h0:E7g aSP head ats=0;have hdb:=E9y h0;rw[if_pos h0];simp only[h0,bne_self_eq_false,cond_false,F33 z.nk z.kr hdb,ai];by_cases h1:E4I (E8I aSP keys) keys 0=0;rw[if_pos h1];simp only[h1,bne_self_eq_false,cond_false];have:=E5R (f:=E6e) ats (λi=>((keys,(i:Int)),(head,ats))) (E9x ats) .inl (.inr (keys,(head,ats))) (λi hi=>by(have hi':(i:Int)<ats.length:=by omega);have CT:=wo (f:=E6d) (ats.take i) (λk=>((keys,(i:Int),(k:Int)),(head,ats))) (λb=>Lv b.1 ats[i].1) (.inl 14) (.inr ((keys,(i:Int)),(head,ats))) (λk hk=>by(have YP:k<i:=by rw[aW]at hk;omega);(have hk3:k<ats.length:=by omega);(have nq:(k:Int)<(i:Int):=by omega);simp only[E6d,nq,decide_true,cond_true,aq,ar,ah hi,ah hk3,ai,List.getElem_take,F0e ats[i].1,iQ (show k<9223372036854775807 by omega)];cases Lv ats[k].1 ats[i].1<;>rfl) (by(have:((ats.take i).length:Int)=(i:Int):=by rw[aW];omega);simp only[E6d,this,ba,decide_false,cond_false]);simp only[av]at CT;rw[E6P];simp only[E6e,hi',decide_true,cond_true,CT,ai,E9x];rcases Bool.eq_false_or_eq_true ((ats.take i).any (λb=>Lv b.1 ats[i].1))with h|h;simp only[h,if_true,cond_true];rfl;simp only[h,Bool.false_eq_true,if_false,cond_false,lS,iQ (show i<9223372036854775807 by omega)];rfl) (by simp only[E6e,ba,decide_false,cond_false]);simp only[av]at this;simp only[this,ai];by_cases h2:E4I (E9x ats) ats 0=0;rw[if_pos h2,if_pos h2];have:=E5R (f:=E6f) ats (λi=>((keys,(i:Int)),(head,ats))) (F0w keys) .inl (.inr ()) (λi hi=>by(have hi':(i:Int)<ats.length:=by omega);obtain⟨r,hr,_,Iw⟩:=F0M keys ats[i].1 (by omega);rw[E6P];simp only[E6f,hi',decide_true,cond_true,aq,ar,ah hi,ai,hr,Iw,iQ (show i<9223372036854775807 by omega),F0w];cases(E5O keys ats[i].1).2<;>rfl) (by simp only[E6f,ba,decide_false,cond_false]);simp only[av]at this;simp only[lS,this,ai];split;rename_i h3;rw[h3];rfl;rfl;rw[if_neg h2,if_neg h2];rfl;rw[if_neg h1];simp only[bne_iff_ne.2 h1,cond_true];rw[if_neg h0];simp only[bne_iff_ne.2 h0,cond_true]
end
end Go.Mid
namespace Go.Mid
abbrev E8l:=List (List Int×Int)×List Int
def aCi:List ByteArray:=[⟨#[120]⟩,⟨#[121]⟩,⟨#[122]⟩,⟨#[117]⟩,⟨#[118]⟩]
def aCE:List ByteArray:=[⟨#[114]⟩,⟨#[115]⟩,⟨#[116]⟩,⟨#[117]⟩]
def aB0:List ByteArray:=[⟨#[97]⟩,⟨#[98]⟩,⟨#[99]⟩,⟨#[100]⟩]
def E86(n:Int):ByteArray:=(aCi[(n.tmod 5).toNat]?).getD ⟨#[]⟩
theorem F34{n:Int}(h:0<=n):aCi[(n.tmod 5).toNat]?=some (E86 n):=by(have h1:(n.tmod 5).toNat<aCi.length:=by have:=aTh n (show(0:Int)<5 by omega);show _<5;omega);unfold E86;rw[ah h1];rfl
theorem E75{n:Int}(h:0<=n):E5q n=some (E86 n):=by unfold E5q;have h1:0<=n.tmod 5:=aYP _ h;simp only[h1,decide_true,cond_true];show(aCi[(n.tmod 5).toNat]?).bind _=_;rw[F34 h];rfl
def E6L(c:Int):E5b:=bif decide (c<5)then(E86 c,0,0,⟨#[]⟩)else(⟨#[]⟩,1,ao.wrap (c.tmod 3),⟨#[]⟩)
def nmT(i:Nat):ByteArray:=(aCE[i]?).getD ⟨#[]⟩
def atC(l:List (List Int×Int))(i:Nat):List Int×Int:=(l[i]?).getD ([],0)
theorem F2j{l:List (List Int×Int)}{i:Nat}(h:i<l.length):l[i]=atC l i:=by unfold atC;rw[ah h];rfl
def E4P(l:List (List Int×Int))(n:Nat):List tI:=(bA n).map λi=>(nmT i,(atC l i).1.map E6L)
def E5p(l:List (List Int×Int))(n:Nat):List E4Z:=(bA n).map λi=>(nmT i,aB0.take (atC l i).1.length,[])
def E5f(l:List (List Int×Int))(n:Nat):List (ByteArray×Int):=(bA n).map λi=>(nmT i,pL cG (cG.wrap (atC l i).2) ((2^(atC l i).1.length-1:Nat):Int))
theorem E8m(l:List (List Int×Int))(n:Nat):(E4P l n).length=n:=by simp[E4P]
theorem F0O(l:List (List Int×Int))(n:Nat):(E5p l n).length=n:=by simp[E5p]
theorem E9z(l:List (List Int×Int))(n:Nat):(E5f l n).length=n:=by simp[E5f]
def OkC(c:E8l):Prop:=(∀a∈c.1,(∀x∈a.1,0<=x/\x<=255)/\0<=a.2/\a.2<=255)/\∀x∈c.2,0<=x/\x<=255
theorem F35{c:E8l}(ok:OkC c){i:Nat}(hi:i<c.1.length)(hl:c.1[i].1.length<=4)(kn:Nat)(name:ByteArray)(T2:List E4Z)(n2:Nat)(H4:List ByteArray)(h4:Nat)(A4:List tI)(a4:Nat)(T6:List E4Z)(n6:Nat)(K:List (ByteArray×Int))(H8:List ByteArray)(h8:Nat)(A8:List tI)(a8:Nat):A0d E5u ((kn,(i:Int),(c.1[i].1.length:Int),name,(0:Int)),c,(T2,n2),((H4,h4),A4,a4),(T6,n6),K,((H8,h8),A8,a8),name,[],0)=some ((kn,(i:Int),(c.1[i].1.length:Int),name),c,(T2,n2),((H4,h4),A4,a4),(T6,n6),K,((H8,h8),A8,a8),name,c.1[i].1.map E6L,c.1[i].1.length):=by have:=tQ (f:=E5u) c.1[i].1.length (λj=>((kn,(i:Int),(c.1[i].1.length:Int),name,(j:Int)),c,(T2,n2),((H4,h4),A4,a4),(T6,n6),K,((H8,h8),A8,a8),name,(c.1[i].1.take j).map E6L,j)) ((kn,(i:Int),(c.1[i].1.length:Int),name),c,(T2,n2),((H4,h4),A4,a4),(T6,n6),K,((H8,h8),A8,a8),name,c.1[i].1.map E6L,c.1[i].1.length) (λj hj=>?_) ?_;simpa using this;(have Dy:(j:Int)<(c.1[i].1.length:Int):=by omega);have hx:=(ok.1 _ (aM hi)).1 _ (aM hj);(have hlen:((c.1[i].1.take j).map E6L).length=j:=by simp;omega);(have e:(c.1[i].1.take (j+1)).map E6L=(c.1[i].1.take j).map E6L++[E6L c.1[i].1[j]]:=by rw[vz hj,b9];rfl);rw[e];(have b1:(j+1)*48<=140737488355328:=by omega);have t1:((c.1[i].1.take j).map E6L).take j=(c.1[i].1.take j).map E6L:=a6 (by rw[hlen];exact ay _);(have hb:j<=((c.1[i].1.take j).map E6L).length:=by rw[hlen];exact ay _);by_cases h5:c.1[i].1[j]<5;simp only[E5u,Dy,decide_true,cond_true,aq,ar,ah hi,ah hj,ai,h5,E75 hx.1,beq_self_eq_true,jE hb,jE b1,t1,iQ (show j<9223372036854775807 by omega),E6L];rw[jE (by rw[aR,hlen];exact ay _)];rfl;simp only[E5u,Dy,decide_true,cond_true,aq,ar,ah hi,ah hj,ai,h5,decide_false,cond_false,beq_self_eq_true,jE hb,jE b1,t1,iQ (show j<9223372036854775807 by omega),E6L];rw[jE (by rw[aR,hlen];exact ay _)];rfl;simp only[E5u,ba,decide_false,cond_false,List.take_length]
end Go.Mid
namespace Go.Mid
theorem F2U(l:List E5b):fp (uR (Ty.agg [Ty.str,Ty.agg [Ty.int ao,Ty.int ao,Ty.str]])) l=l:=by(have:(uR (Ty.agg [Ty.str,Ty.agg [Ty.int ao,Ty.int ao,Ty.str]]):E5b->E5b)=id:=by funext y;rfl);exact(congrArg (λf=>fp f l) this).trans (wR l)
theorem F3C(a:tI):uR (Ty.agg [Ty.str,Ty.vec 4 (Ty.agg [Ty.str,Ty.agg [Ty.int ao,Ty.int ao,Ty.str]])]) a=a:=congrArg (λl=>(a.1,l)) (F2U a.2)
theorem F2V(l:List tI):fp (uR (Ty.agg [Ty.str,Ty.vec 4 (Ty.agg [Ty.str,Ty.agg [Ty.int ao,Ty.int ao,Ty.str]])])) l=l:=by(have:(uR (Ty.agg [Ty.str,Ty.vec 4 (Ty.agg [Ty.str,Ty.agg [Ty.int ao,Ty.int ao,Ty.str]])]):tI->tI)=id:=by funext y;exact F3C y);exact(congrArg (λf=>fp f l) this).trans (wR l)
def F36(c:E8l):Prop:=∀i,i<c.1.length->(atC c.1 i).1.length<=4
theorem F37{c:E8l}(ok:OkC c)(h4:c.1.length<=4):∃b,A0d E5v ((0,(0:Int)),c,([],0),(([],0),[],0),([],0),[],([],0),[],0)=some b/\((F36 c/\b=.inr (c.1.length,c,([],0),(([],0),[],0),(E5p c.1 c.1.length,c.1.length),E5f c.1 c.1.length,([],0),E4P c.1 c.1.length,c.1.length))\/∃r,b=.inl ((0,false),([],0),[],(([],0),[],0),r)):=by refine V4 (f:=E5v) (S:=Unit) c.1.length (λi _=>((i,(i:Int)),c,([],0),(([],0),[],0),(E5p c.1 i,i),E5f c.1 i,([],0),E4P c.1 i,i)) (λi _=>∀j,j<i->(atC c.1 j).1.length<=4) _ () (λj hj=>by omega) (λi _ hi hs=>?_) (λ_ hs=>?_);(have hi':(i:Int)<(c.1.length:Int):=by omega);by_cases hl:c.1[i].1.length<=4;left;have CT:=F35 ok hi hl i (nmT i) [] 0 [] 0 [] 0 (E5p c.1 i) i (E5f c.1 i) [] 0 (E4P c.1 i) i;(have hle:¬(c.1[i].1.length:Int)>4:=by omega);(have hn:[(ir #[114]),(ir #[115]),(ir #[116]),(ir #[117])][i]?=some (nmT i):=by(have h1:i<aCE.length:=by show i<4;omega);show aCE[i]?=_;unfold nmT;rw[ah h1];rfl);(have hta:(aB0.take c.1[i].1.length).length=c.1[i].1.length:=by rw[aW];show min _ 4=_;omega);have kV:=F2j hi;have lT:=F0O c.1 i;have lK:=E9z c.1 i;have lA:=E8m c.1 i;(have eT:E5p c.1 (i+1)=E5p c.1 i++[(nmT i,aB0.take c.1[i].1.length,[])]:=by unfold E5p;rw[jO,b9,kV];rfl);(have eK:E5f c.1 (i+1)=E5f c.1 i++[(nmT i,pL cG (cG.wrap c.1[i].2) ((2^c.1[i].1.length-1:Nat):Int))]:=by unfold E5f;rw[jO,b9,kV];rfl);(have eA:E4P c.1 (i+1)=E4P c.1 i++[(nmT i,c.1[i].1.map E6L)]:=by unfold E4P;rw[jO,b9,kV];rfl);refine⟨(),?_,λj hj=>?_⟩;rw[eT,eK,eA];simp only[E5v,hi',decide_true,cond_true,aq,ar,ah hi,ai,hle,decide_false,cond_false];rw[hn];simp only[ai];refine(congrArg (λo=>bc o _) CT).trans ?_;have t1:(E4P c.1 i).take i=E4P c.1 i:=a6 (by rw[lA];exact ay _);have t2:(E5p c.1 i).take i=E5p c.1 i:=a6 (by rw[lT];exact ay _);have t3:(E5f c.1 i).take i=E5f c.1 i:=a6 (by rw[lK];exact ay _);(have b0:c.1[i].1.length<=(c.1[i].1.map E6L).length:=by simp);(have b1:(i+1)*40<=140737488355328:=by omega);(have b2:(i+1)*64<=140737488355328:=by omega);(have b3:(i+1)*24<=140737488355328:=by omega);(have b4:i<=(E4P c.1 i).length:=by rw[lA];exact ay _);(have b5:i<=(E5p c.1 i).length:=by rw[lT];exact ay _);(have b6:i<=(E5f c.1 i).length:=by rw[lK];exact ay _);(have b7:c.1[i].1.length*16<=140737488355328:=by omega);have tM:=F2g (show c.1[i].1.length<32 by omega);have aJ1:[(ir #[97]),(ir #[98]),(ir #[99]),(ir #[100])]=aB0:=rfl;simp only[ai,jE b0,cond_true,Nat.beq_eq,beq_self_eq_true,jE b4,jE b1,t1,lA,jE (ay _),aq,decide_true,ar,jE hl,List.take_nil,List.nil_append,bS,aJ1,hta,jE b7,jE b5,jE b2,t2];have tk:∀x:E4Z,List.take 1 [x]=[x]:=λ_=>rfl;simp only[show Nat.beq 0 0=true from rfl,show Nat.beq 1 1=true from rfl,cond_true,List.take_take,Nat.min_self,tk,aR,lT,bf,cM,jE (ay _),ah hi,ai,tM,jE b6,jE b3,t3,aB,beq_self_eq_true,iQ (show i<9223372036854775807 by omega)];rcases Nat.lt_succ_iff_lt_or_eq.1 hj with hj|rfl;exact hs j hj;rw[<-kV];exact hl;right;(have hle:(c.1[i].1.length:Int)>4:=by omega);refine⟨.inl ((0,false),([],0),[],(([],0),[],0),((E5p c.1 i,i),E5f c.1 i,([],0),E4P c.1 i,i)),?_,.inr ⟨_,rfl⟩⟩;simp only[E5v,hi',decide_true,cond_true,aq,ar,ah hi,ai,hle];refine⟨_,?_,.inl ⟨hs,rfl⟩⟩;simp only[E5v,ba,decide_false,cond_false]
structure aEh (vs head:List ByteArray):Prop where
 nd:head.Nodup
 sub:∀ z∈head,z∈vs
 len:head.length<=5
theorem F4V{c:E8l}(ok:OkC c){vs:List ByteArray}(hv:vs.length<=1000000)(kn:Nat)(T2:List E4Z)(n2:Nat)(H4:List ByteArray)(h4:Nat)(A4:List tI)(a4:Nat)(T6:List E4Z)(n6:Nat)(K:List (ByteArray×Int))(A8:List tI)(a8:Nat):∃hd,A0d E44 ((kn,vs,(0:Int)),c,(T2,n2),((H4,h4),A4,a4),(T6,n6),K,(([],0),A8,a8))=some (kn,(T2,n2),((H4,h4),A4,a4),(T6,n6),K,((hd,hd.length),A8,a8))/\aEh vs hd:=by have key:=V4 (f:=E44) (S:=List ByteArray) (min c.2.length 5) (λi h=>((kn,vs,(i:Int)),c,(T2,n2),((H4,h4),A4,a4),(T6,n6),K,((h,h.length),A8,a8))) (λi h=>h.Nodup/\(∀z∈h,z∈vs)/\h.length<=i) (λb=>∃h,b=(kn,(T2,n2),((H4,h4),A4,a4),(T6,n6),K,((h,h.length),A8,a8))/\aEh vs h) [] ⟨List.nodup_nil,λz hz=>(by cases hz),by simp⟩ (λi h hi hJ=>?_) (λh hJ=>?_);obtain⟨b,h1,h,rfl,h2⟩:=key;exact⟨h,h1,h2⟩;left;obtain⟨j1,j2,j3⟩:=hJ;(have AX:i<c.2.length:=by omega);(have hi':(i:Int)<(c.2.length:Int):=by omega);(have hi5:(i:Int)<5:=by omega);have hx:=ok.2 _ (aM AX);have e1:=E7T vs (E86 c.2[i]) (by omega);have e2:=E7T h (E86 c.2[i]) (by omega);(cases h1:E4Y vs (E86 c.2[i])with|false=>refine⟨h,?_,j1,j2,by omega⟩;simp only[E44,hi',hi5,decide_true,cond_true,aq,ar,ah AX,ai,E75 hx.1,e1,h1,cond_false,iQ (show i<9223372036854775807 by omega)]|true=>cases h2:E4Y h (E86 c.2[i])with|true=>refine⟨h,?_,j1,j2,by omega⟩;simp only[E44,hi',hi5,decide_true,cond_true,aq,ar,ah AX,ai,E75 hx.1,e1,h1,jE (ay _),pN,e2,h2,bO,cond_false,iQ (show i<9223372036854775807 by omega)]|false=>have hl:=(Lst.mk (P:=λz=>z∈h) j1 (λz=>Iff.rfl)).snoc h2;refine⟨h++[E86 c.2[i]],?_,hl.nd,λz hz=>?_,by simp;omega⟩;simp only[E44,hi',hi5,decide_true,cond_true,aq,ar,ah AX,ai,E75 hx.1,e1,h1,jE (ay _),pN,e2,h2,auI,beq_self_eq_true,jE (show(h.length+1)*16<=140737488355328 by omega),aR,bf,cM,bS,iQ (show i<9223372036854775807 by omega)];rcases az.1 hz with hz|hz;exact j2 z hz;rw[aX]at hz;subst hz;exact E5Q.1 h1);obtain⟨j1,j2,j3⟩:=hJ;refine⟨_,?_,h,rfl,j1,j2,by omega⟩;by_cases h1:(min c.2.length 5:Nat)<c.2.length;(have e1:((min c.2.length 5:Nat):Int)<(c.2.length:Int):=by omega);(have e2:¬((min c.2.length 5:Nat):Int)<5:=by omega);simp only[E44,e1,e2,decide_true,decide_false,cond_true,cond_false];(have e1:¬((min c.2.length 5:Nat):Int)<(c.2.length:Int):=by omega);simp only[E44,e1,decide_false,cond_false]
end Go.Mid
namespace Go.Mid
section
variable{keys:List (ByteArray×Int)}{head:List ByteArray}{l:List tI}(q:QV keys head l)
end
end Go.Mid
namespace Go.Mid
section
variable{keys:List (ByteArray×Int)}{head:List ByteArray}{l:List tI}(q:QV keys head l)
abbrev E8J(keys:List (ByteArray×Int))(head:List ByteArray)(l:List tI):Nat->Nat->Prop:=AG.att l.length (E5S (E4j keys head l)) (E50 (E4j keys head l))
end
end Go.Mid
namespace Go.Mid
end Go.Mid
namespace Go.Mid
end Go.Mid
namespace Go.Mid
section
variable{keys:List (ByteArray×Int)}{head:List ByteArray}{l:List tI}(q:QV keys head l)
noncomputable def E91(keys:List (ByteArray×Int))(head:List ByteArray)(l:List tI)(i:Nat):List Nat:=by classical exact(bA l.length).filter λk=>decide (E8J keys head l i k)
noncomputable def E7j(keys:List (ByteArray×Int))(head:List ByteArray)(l:List tI)(i:Nat):List Int:=(E91 keys head l i).map λk:Nat=>(k:Int)
noncomputable def E6y(keys:List (ByteArray×Int))(head:List ByteArray)(l:List tI)(n:Nat):List (Int×Int):=(bA n).flatMap λi=>(E7j keys head l i).map λk=>((i:Int),k)
noncomputable abbrev E8c(keys:List (ByteArray×Int))(head:List ByteArray)(l:List tI):List (Int×Int):=E6y keys head l l.length
abbrev F4k(keys:List (ByteArray×Int))(head:List ByteArray)(l:List tI):Nat->Nat->Prop:=AG.aJU l.length (E5S (E4j keys head l)) (E50 (E4j keys head l))
end
end Go.Mid
namespace Go.Mid
theorem F5H{c:E8l}(ok:OkC c)(h4:c.1.length<=4)(hf:F36 c){hd:List ByteArray}(h5:hd.length<=5):Sz (E5p c.1 c.1.length) (E5f c.1 c.1.length) hd (E4P c.1 c.1.length)where
 tb:=λt ht=>by unfold E5p at ht;obtain⟨i,hi,rfl⟩:=bp.1 ht;refine⟨λr hr=>(by cases hr),?_⟩;have:aB0.length=4:=rfl;simp only[aW];omega
 nk:=by rw[E9z];omega
 kr:=λk hk=>by unfold E5f at hk;obtain⟨i,hi,rfl⟩:=bp.1 hk;have hi:=cu.1 hi;have h1:=(ok.1 _ (aM hi)).2;rw[F2j hi]at h1;have hfi:=hf i hi;have hw:cG.wrap (atC c.1 i).2=(atC c.1 i).2:=F1s h1.1 (by omega);obtain⟨m,hm⟩:=eB h1.1;have hp:2^(atC c.1 i).1.length<=2^4:=Nat.pow_le_pow_right (by omega) hfi;show 0<=pL cG (cG.wrap (atC c.1 i).2) _/\pL cG (cG.wrap (atC c.1 i).2) _<4294967296;rw[hw,hm,F2f (by unfold w32;omega) (by unfold w32;omega)];have:=@Nat.and_le_left m (2^(atC c.1 i).1.length-1);omega
 nh:=by omega
 na:=by rw[E8m];omega
 nt:=λa ha=>by unfold E4P at ha;obtain⟨i,hi,rfl⟩:=bp.1 ha;have:=hf i (cu.1 hi);simp only[aB];omega
section
variable{aSP:List E4Z}{keys:List (ByteArray×Int)}{head:List ByteArray}{ats:List tI}(z:Sz aSP keys head ats)
include z
end
section
variable{aSP:List E4Z}{keys:List (ByteArray×Int)}{head:List ByteArray}{ats:List tI}(z:Sz aSP keys head ats)
include z
end
end Go.Mid
namespace Go.Mid
section
variable{keys:List (ByteArray×Int)}{head:List ByteArray}{l:List tI}
abbrev rcP(keys:List (ByteArray×Int))(head:List ByteArray)(l:List tI):Nat->Nat->Prop:=Rc (BX (E8c keys head l))
def F7H(keys:List (ByteArray×Int))(head:List ByteArray)(l:List tI)(i k:Nat):Prop:=E8J keys head l i k/\rcP keys head l k i
end
end Go.Mid
namespace Go.Mid
section
variable{keys:List (ByteArray×Int)}{head:List ByteArray}{l:List tI}(q:QV keys head l)
def Cls(Q S:Prop)(c:Int):Prop:=(S->c=3)/\(¬S->Q->c=2)/\(¬Q->c=1)
theorem Cls.val{Q S:Prop}{c:Int}(h:Cls Q S c):(c=1\/c=2\/c=3):=by by_cases hS:S;exact .inr (.inr (h.1 hS));by_cases hQ:Q;exact .inr (.inl (h.2.1 hS hQ));exact .inl (h.2.2 hQ)
theorem Cls.aBn{Q S Q' S':Prop}{c:Int}(h:Cls Q S c)(e1:Q↔Q')(e2:S↔S'):Cls Q' S' c:=⟨λs=>h.1 (e2.2 s),λs r=>h.2.1 (λx=>s (e2.1 x)) (e1.2 r),λr=>h.2.2 λx=>r (e1.1 x)⟩
def F7I(keys:List (ByteArray×Int))(head:List ByteArray)(l:List tI)(i k:Nat):Prop:=F7H keys head l i k/\¬F4k keys head l i k
def F7r(keys:List (ByteArray×Int))(head:List ByteArray)(l:List tI)(P:Nat->Nat->Prop):Prop:=∃i k,P i k/\F7H keys head l i k
def F7s(keys:List (ByteArray×Int))(head:List ByteArray)(l:List tI)(P:Nat->Nat->Prop):Prop:=∃i k,P i k/\F7I keys head l i k
theorem Cls.add{P P':Nat->Nat->Prop}{c:Int}(h:Cls (F7r keys head l P) (F7s keys head l P) c){i k:Nat}(hP:∀a b,P' a b↔(P a b\/(a=i/\b=k))):(¬F7H keys head l i k->Cls (F7r keys head l P') (F7s keys head l P') c)/\(F7I keys head l i k->Cls (F7r keys head l P') (F7s keys head l P') 3)/\(F7H keys head l i k->¬F7I keys head l i k->Cls (F7r keys head l P') (F7s keys head l P') (if 2>c then 2 else c)):=by(have eQ:F7r keys head l P'↔(F7r keys head l P\/F7H keys head l i k):=by constructor;rintro⟨a,b,h1,h2⟩;rcases(hP a b).1 h1 with h1|⟨rfl,rfl⟩;exact .inl ⟨a,b,h1,h2⟩;exact .inr h2;rintro(⟨a,b,h1,h2⟩|h2);exact⟨a,b,(hP a b).2 (.inl h1),h2⟩;exact⟨i,k,(hP i k).2 (.inr ⟨rfl,rfl⟩),h2⟩);(have eS:F7s keys head l P'↔(F7s keys head l P\/F7I keys head l i k):=by constructor;rintro⟨a,b,h1,h2⟩;rcases(hP a b).1 h1 with h1|⟨rfl,rfl⟩;exact .inl ⟨a,b,h1,h2⟩;exact .inr h2;rintro(⟨a,b,h1,h2⟩|h2);exact⟨a,b,(hP a b).2 (.inl h1),h2⟩;exact⟨i,k,(hP i k).2 (.inr ⟨rfl,rfl⟩),h2⟩);have hSQ:F7s keys head l P->F7r keys head l P:=λ⟨a,b,h1,h2⟩=>⟨a,b,h1,h2.1⟩;refine⟨λhc=>h.aBn ?_ ?_,λhs=>⟨λ_=>rfl,λn _=>(n (eS.2 (.inr hs))).elim,λn=>(n (eQ.2 (.inr hs.1))).elim⟩,λhc hs=>⟨λs=>?_,λn _=>?_,λn=>(n (eQ.2 (.inr hc))).elim⟩⟩;rw[eQ];exact⟨.inl,λx=>x.elim id λy=>(hc y).elim⟩;rw[eS];exact⟨.inl,λx=>x.elim id λy=>(hc y.1).elim⟩;have s':=(eS.1 s).resolve_right hs;rw[h.1 s'];rfl;have n':¬F7s keys head l P:=λx=>n (eS.2 (.inl x));by_cases hQ:F7r keys head l P;rw[h.2.1 n' hQ];rfl;rw[h.2.2 hQ];rfl
def before(N i k:Nat)(a b:Nat):Prop:=(a<i/\b<N)\/(a=i/\b<k)
end
section
variable{aSP:List E4Z}{keys:List (ByteArray×Int)}{head:List ByteArray}{ats:List tI}(z:Sz aSP keys head ats)
include z
end
end Go.Mid
namespace Go.Mid
section
variable{keys:List (ByteArray×Int)}{head:List ByteArray}{l:List tI}
end
section
variable{aSP:List E4Z}{keys:List (ByteArray×Int)}{head:List ByteArray}{ats:List tI}(z:Sz aSP keys head ats)
include z
end
end Go.Mid
namespace Go.Mid
section
variable{c:E8l}(ok:OkC c)(h1:1<=c.1.length)(h4:c.1.length<=4)(hf:F36 c)
include ok h1 h4 hf
end
end Go.Mid
namespace Go.Mid
namespace AG
variable{V:Type}{N:Nat}{key all:Nat->V->Prop}
theorem Way.snoc{n a b:Nat}(h:Way N key all n a b):∀{c:Nat},att N key all b c->Way N key all (n+1) a c:=by induction h with|one h=>exactλk=>.more h (.one k)|more h _ ih=>exactλk=>.more h (ih k)
end AG
section
variable{keys:List (ByteArray×Int)}{head:List ByteArray}{l:List tI}
end
section
variable{aSP:List E4Z}{keys:List (ByteArray×Int)}{head:List ByteArray}{ats:List tI}(z:Sz aSP keys head ats)(hv:E7w aSP keys head ats=0)
include z hv
end
end Go.Mid
namespace Go.Mid
def v0:F0q:=(0,0,⟨#[]⟩)
abbrev G0u:=Int×Int×List (List Int)
end Go.Mid
namespace Go.Mid
def G0r:ByteArray:=⟨#[111,116,104,101,114]⟩
section
variable{keys:List (ByteArray×Int)}{head:List ByteArray}{l:List tI}(h:∀a∈l,Lv G0r a.1=false)
include h
end
section
variable{x:G0u}{l:List (List Int×Int)}{n i:Nat}
end
section
variable{c:E8l}{x:G0u}(h4:c.1.length<=4)(hf:F36 c)(h0:0<=x.2.1)(hx:x.2.2.length<=4)
include h4 hf h0 hx
end
theorem G1a{α β:Type}{o:Option α}{f:α->Option β}{a:α}{r:Option β}(h:o=some a)(k:f a=r):o.bind f=r:=by rw[h];exact k
theorem G1f{c:E8l}(ok:OkC c):(∃r,G0w c=some r/\r.1.2.2.2=false/\r.1.1<=r.2.1.1.length/\r.1.2.2.1.1<=r.2.2.2.1.1.length/\r.1.2.2.1.2<=r.2.2.2.2.1.length)\/(1<=c.1.length/\c.1.length<=4/\F36 c/\∃hd,G0w c=some ((c.1.length,c.1.length,(hd.length,c.1.length),true),(E5p c.1 c.1.length,c.1.length),E5f c.1 c.1.length,(hd,hd.length),E4P c.1 c.1.length,c.1.length)/\hd.Nodup/\hd.length<=5/\∀z∈hd,E9Z (E4P c.1 c.1.length) (E4P c.1 c.1.length).length z):=by unfold G0w;by_cases h1:c.1.length<1;left;(have:(c.1.length:Int)<1:=by omega);simp only[this,decide_true,cond_true,show Nat.ble 0 0=true from rfl];exact⟨_,rfl,rfl,ay _,ay _,ay _⟩;(have vR:¬(c.1.length:Int)<1:=by omega);by_cases h4:4<c.1.length;left;(have:(c.1.length:Int)>4:=by omega);simp only[vR,this,decide_true,decide_false,cond_true,cond_false,show Nat.ble 0 0=true from rfl];exact⟨_,rfl,rfl,ay _,ay _,ay _⟩;(have h4':¬(c.1.length:Int)>4:=by omega);simp only[vR,h4',decide_false,cond_false];obtain⟨b,e,hb⟩:=F37 ok (by omega);rcases hb with⟨hf,rfl⟩|⟨r,rfl⟩;right;refine⟨by omega,by omega,hf,?_⟩;have lT:=F0O c.1 c.1.length;have lA:=E8m c.1 c.1.length;have t1:(E4P c.1 c.1.length).take c.1.length=E4P c.1 c.1.length:=a6 (by rw[lA];exact ay _);(have b4:c.1.length<=(E4P c.1 c.1.length).length:=by rw[lA];exact ay _);(have b5:c.1.length<=(E5p c.1 c.1.length).length:=by rw[lT];exact ay _);(have ht:∀a∈E4P c.1 c.1.length,a.2.length<=1000:=λa ha=>by unfold E4P at ha;obtain⟨i,hi,rfl⟩:=bp.1 ha;have:=hf i (cu.1 hi);simp only[aB];omega);obtain⟨vs,ev,v1,v2⟩:=E8r (l:=E4P c.1 c.1.length) (by omega) ht;obtain⟨hd,eh,hh⟩:=F4V ok (vs:=vs) (by rw[lA]at v2;omega) c.1.length [] 0 [] 0 [] 0 (E5p c.1 c.1.length) c.1.length (E5f c.1 c.1.length) (E4P c.1 c.1.length) c.1.length;refine⟨hd,?_,hh.nd,hh.len,λz hz=>(v1.mem z).1 (hh.sub z hz)⟩;refine(congrArg (λo=>bc o _) e).trans ?_;have eq:fp (uR (Ty.agg [Ty.str,Ty.vec 4 (Ty.agg [Ty.str,Ty.agg [Ty.int ao,Ty.int ao,Ty.str]])])) ((E4P c.1 c.1.length).take c.1.length)=E4P c.1 c.1.length:=(congrArg (λl:List tI=>fp (uR (Ty.agg [Ty.str,Ty.vec 4 (Ty.agg [Ty.str,Ty.agg [Ty.int ao,Ty.int ao,Ty.str]])])) l) t1).trans (F2V _);simp only[ai,lS,jE b4,cond_true];refine(congrArg (λo=>bc o _) ((congrArg E40 eq).trans ev)).trans ?_;simp only[ai];refine(congrArg (λo=>bc o _) eh).trans ?_;simp only[ai,jE b5,jE b4,jE (ay _),cond_true];. left;refine⟨_,(congrArg (λo=>bc o _) e).trans rfl,rfl,?_,?_,?_⟩;all_goals exact Nat.zero_le _
end Go.Mid
namespace Go.Mid
theorem OK.aY3{a b:Nat}{α:Type}{A B:Option α}{P:α->Prop}(h1:a=b->OK A P)(h2:a≠b->OK B P):OK (bif a==b then A else B) P:=by by_cases h:a=b;rw[beq_iff_eq.2 h];exact h1 h;rw[beq_false_of_ne h];exact h2 h
theorem OK.aY4{α β:Type}{M:List α}{i:Nat}{y:α}{k:α->Option β}{P:β->Prop}(h:M[i]?=some y)(g:OK (k y) P):OK (M[i]?.bind k) P:=by rw[h];exact g
structure ChOk (b:Nat)(nK:Nat)(T:List E4Z)(K:List (ByteArray×Int))(H:List ByteArray)(A:List tI):Prop where
 tb:∀ t∈T,F0s t∧t.2.1.length<=1000000
 nk:nK<=K.length
 kl:K.length<=b
 kr:∀ k∈K,0<=k.2∧k.2<4294967296
 hl:H.length<=b
 a1:1<=A.length
 al:A.length<=1000
 ta:∀ a∈A,a.2.length<=b
 tl:T.length=A.length
namespace ChOk
variable{b nK:Nat}{T:List E4Z}{K:List (ByteArray×Int)}{H:List ByteArray}{A:List tI}(h:ChOk b nK T K H A)
include h
theorem mono:ChOk (b+1) nK T K H A:=⟨h.tb,h.nk,at2 h.kl,h.kr,at2 h.hl,h.a1,h.al,λa ha=>at2 (h.ta a ha),h.tl⟩
theorem aYZ{j:Nat}{v:ByteArray×Int}(hv:0<=v.2/\v.2<4294967296):ChOk (b+1) nK T (K.set j v) H A:={h.mono with nk:=by simp;exact h.nk,kl:=by simp;exact at2 h.kl,kr:=λk hk=>(bx hk).elim (h.kr k) λe=>e▸hv}
theorem aY0{j:Nat}{nm:ByteArray}{p:ByteArray×Int}(hp:p∈K):ChOk (b+1) nK T (K.set j (nm,p.2)) H A:=h.aYZ (h.kr p hp)
theorem aYQ{w:ByteArray×Int}(hw:w∈K):ChOk (b+1) (nK+1) T (K.take nK++[w]) H A:={h.mono with nk:=by simp[h.nk],kl:=by have:=h.kl;have:=h.nk;simp;omega,kr:=λk hk=>(az.1 hk).elim (λm=>h.kr k (dh m)) λm=>by rw[aX]at m;exact m▸h.kr w hw}
theorem aY5{j:Nat}{nm:ByteArray}{p:E4Z}(hp:p∈T):ChOk (b+1) nK (T.set j (nm,p.2)) K H A:={h.mono with tl:=by simp;exact h.tl,tb:=λt ht=>(bx ht).elim (h.tb t) λe=>e▸h.tb p hp}
theorem eO{j:Nat}{v:tI}(hv:v.2.length<=b+1):ChOk (b+1) nK T K H (A.set j v):={h.mono with tl:=by simp;exact h.tl,a1:=by simp;exact h.a1,al:=by simp;exact h.al,ta:=λa ha=>(bx ha).elim (h.mono.ta a) λe=>e▸hv}
theorem aY6{w:ByteArray}:ChOk (b+1) nK T K (H.take H.length++[w]) A:={h.mono with hl:=by have:=h.hl;simp;omega}
end ChOk
abbrev ChV:=(Nat×Nat×Nat×Nat)×List (ByteArray×Int)×(List E4Z×Nat)×(List ByteArray×Nat)×List tI×Nat
structure ChR (b:Nat)(r:ChV):Prop where
 e1:r.1.1=r.2.2.1.1.length
 e2:r.1.2.2.1=r.2.2.2.1.1.length
 e3:r.1.2.2.2=r.2.2.2.2.1.length
 ok:ChOk b r.1.2.1 r.2.2.1.1 r.2.1 r.2.2.2.1.1 r.2.2.2.2.1
theorem G1t{α:Type}{l m:List α}{o:Option Nat}{x:α}(h:x∈A1x l o m):x∈l\/x∈m:=by cases o with|none=>exact(az.1 h).elim .inr λh=>.inl (gy h)|some k=>rcases az.1 h with h|h;exact(az.1 h).elim (λh=>.inl (dh h)) .inr;exact .inl (gy h)
theorem G1u{α:Type}{l m:List α}{k:Nat}(h:k+m.length<=l.length):(A1x l (some k) m).length=l.length:=by unfold A1x;simp only[aR,aW,cm];omega
theorem G1y{b nK i:Nat}{T:List E4Z}{K:List (ByteArray×Int)}{H:List ByteArray}{A:List tI}(h:ChOk b nK T K H A)(hi:i<nK):OK (G1o ((nK,(i:Int),((i+1:Nat):Int)),K)) (λr=>ChOk (b+1) r.1 T r.2 H A):=by have hk:=h.nk;unfold G1o;simp only[ar,aW,cm,fZ];(have hm:min (nK-(i+1)) (K.length-(i+1))=nK-(i+1):=by omega);have l1:(A1x K (some i) ((K.drop (i+1)).take (nK-(i+1)))).length=K.length:=G1u (by rw[aW,cm];omega);rw[hm,l1];(repeat' first|refine OK.dec (λ_=>?_) (λ_=>?_)|refine OK.ble (λ_=>?_) (λ_=>?_)|refine OK.beq (λ_=>?_) (λ_=>?_)|exact OK.dead (by omega)|(refine OK.bo (λ_=>?_) (λh=>(by cases h)))|refine OK.ret ?_);omega;(have l2:(A1x (A1x K (some i) ((K.drop (i+1)).take (nK-(i+1)))) (some (i+(nK-(i+1)))) (List.replicate (nK-(i+(nK-(i+1)))) ((⟨#[]⟩:ByteArray),(0:Int)))).length=K.length:=by rw[G1u (by rw[l1,fZ];omega),l1]);refine{h.mono with nk:=?_,kl:=?_,kr:=λk hk=>?_};rw[l2];omega;rw[l2];exact at2 h.kl;dsimp only at hk;rcases G1t hk with hk|hk;rcases G1t hk with hk|hk;exact h.kr k hk;exact h.kr k (gy (dh hk));rw[(List.mem_replicate.1 hk).2];exact⟨by show(0:Int)<=0;omega,by show(0:Int)<_;omega⟩
theorem G1x{b nK:Nat}{T:List E4Z}{K:List (ByteArray×Int)}{H:List ByteArray}{A:List tI}(h:ChOk b nK T K H A)(hb:b<=900){kind at' set:Int}(a0:0<=at')(a1:at'<=255)(s0:0<=set/\set<4294967296):OK (G1q ((T.length,nK,(H.length,A.length),kind,at',set),(T,T.length),K,(H,H.length),A,A.length)) (ChR (b+1)):=by have hw:ao.wrap at'=at':=E9S (by omega) (by omega);have c1:=h.a1;have c2:=h.al;have c3:=h.nk;have c4:=h.kl;have c5:=h.hl;have c6:=h.tl;have i0:0<=at'.tmod (A.length:Int):=aYP _ a0;have i1:at'.tmod (A.length:Int)<(A.length:Int):=aTh _ (by omega);obtain⟨i,hi⟩:=eB i0;unfold G1q;simp only[hw];rw[hi]at i1;(have i2:i<A.length:=by omega);(have hw1:ao.wrap ((i:Int)+1)=((i+1:Nat):Int):=by rw[E9S (by omega) (by omega)];simp);simp only[hi,hw1,ar,List.length_set,aR,aW,bf,cM,bS];generalize kind.tmod 9=t;(repeat' first|refine OK.dec (λ_=>?_) (λ_=>?_)|refine OK.ble (λ_=>?_) (λ_=>?_)|refine OK.blt (λ_=>?_) (λ_=>?_)|refine OK.beq (λ_=>?_) (λ_=>?_)|refine OK.bne (λ_=>?_) (λ_=>?_)|refine OK.aY3 (λ_=>?_) (λ_=>?_)|exact OK.dead (by omega)|refine OK.aY4 (by assumption) ?_|(refine OK.get (by omega) (λ_ hy=>?_);try have:=h.ta _ (bH hy))|refine OK.call (G1y h (by omega)) (λ_ _=>?_)|refine OK.ret ?_);all_goals first|exact⟨rfl,rfl,rfl,h.mono⟩|exact⟨rfl,rfl,rfl,‹_›⟩|exact⟨rfl,rfl,rfl,h.aYZ s0⟩|exact⟨rfl,rfl,rfl,h.aY0 (bH ‹_›)⟩|exact⟨rfl,rfl,rfl,h.aYQ (bH ‹_›)⟩|exact⟨by simp,rfl,rfl,h.aY5 (bH ‹_›)⟩|exact⟨rfl,rfl,by simp,h.eO (at2 (h.ta _ (bH ‹_›)))⟩|(refine⟨rfl,rfl,by simp,h.eO ?_⟩;simp only[aR,aW,bf,cM];omega)|exact⟨rfl,by simp,rfl,h.aY6⟩|skip
end Go.Mid
namespace Go.Mid
def chR(u:Int×Int×Int):Prop:=0<=u.2.1/\u.2.1<=255/\0<=u.2.2/\u.2.2<4294967296
abbrev Ch2:=(Int×Int×Int)×Int×Int×Int
theorem G1v{b nK:Nat}{T:List E4Z}{K:List (ByteArray×Int)}{H:List ByteArray}{A:List tI}(h:ChOk b nK T K H A)(hb:b<=900){u:Int×Int×Int}(hu:chR u):∃nK' T' K' H' A' n1 n2 n3,G1q ((T.length,nK,(H.length,A.length),u),(T,T.length),K,(H,H.length),A,A.length)=some ((T'.length,nK',H'.length,A'.length),K',(T',n1),(H',n2),A',n3)/\ChOk (b+1) nK' T' K' H' A':=by obtain⟨r,e,hr⟩:=G1x h hb (kind:=u.1) hu.1 hu.2.1 hu.2.2;obtain⟨⟨a1,a2,a3,a4⟩,K',⟨T',n1⟩,⟨H',n2⟩,A',n3⟩:=r;obtain⟨e1,e2,e3,ok⟩:=hr;dsimp only at e1 e2 e3 ok;subst e1 e2 e3;exact⟨a2,T',K',H',A',n1,n2,n3,e,ok⟩
theorem G1s{b nK:Nat}{T:List E4Z}{K:List (ByteArray×Int)}{H:List ByteArray}{A:List tI}(h:ChOk b nK T K H A)(hb:b<=900){x:Ch2}(h1:chR x.1)(h2:chR x.2){i:Nat}(hi:i<2):∃nK' T' K' H' A',G1p ((nK,x,(i:Int)),(T,T.length),((H,H.length),A,A.length),K)=some (.inl ((nK',x,((i+1:Nat):Int)),(T',T'.length),((H',H'.length),A',A'.length),K'))/\ChOk (b+1) nK' T' K' H' A':=by obtain⟨nK',T',K',H',A',n1,n2,n3,e,ok⟩:=G1v h hb (u:=bif i==0 then x.1 else x.2) (by cases i==0;exact h2;exact h1);refine⟨nK',T',K',H',A',?_,ok⟩;(have hi':(i:Int)<2:=by omega);simp only[G1p,hi',decide_true,cond_true,aq,ar,lB hi,iQ (show i<9223372036854775807 by omega)];refine G1a e ?_;simp only[jE (ay _),cond_true]
theorem G1z{b nK:Nat}{T:List E4Z}{K:List (ByteArray×Int)}{H:List ByteArray}{A:List tI}(h:ChOk b nK T K H A)(hb:b<=800){x:Ch2}(h1:chR x.1)(h2:chR x.2):∃nK' T' K' H' A',A0d G1p ((nK,x,(0:Int)),(T,T.length),((H,H.length),A,A.length),K)=some (nK',(T',T'.length),((H',H'.length),A',A'.length),K')/\ChOk (b+1+1) nK' T' K' H' A':=by obtain⟨a1,a2,a3,a4,a5,e1,o1⟩:=G1s h (by omega) h1 h2 (i:=0) (by omega);obtain⟨c1,c2,c3,c4,c5,e2,o2⟩:=G1s o1 (by omega) h1 h2 (i:=1) (by omega);refine⟨c1,c2,c3,c4,c5,?_,o2⟩;have e1':G1p ((nK,x,(0:Int)),(T,T.length),((H,H.length),A,A.length),K)=_:=e1;rw[vw e1',vw e2];exact qc rfl
theorem ChOk.sz{b nK:Nat}{T:List E4Z}{K:List (ByteArray×Int)}{H:List ByteArray}{A:List tI}(h:ChOk b nK T K H A)(hb:b<=900):Sz T (K.take nK) H A where
 tb:=h.tb
 nk:=by have:=h.kl;rw[aW];omega
 kr:=λk hk=>h.kr k (dh hk)
 nh:=by have:=h.hl;omega
 na:=h.al
 nt:=λa ha=>by have:=h.ta a ha;omega
theorem ChOk.init{c:E8l}(ok:OkC c)(h1:1<=c.1.length)(h4:c.1.length<=4)(hf:F36 c){hd:List ByteArray}(h5:hd.length<=5):ChOk 10 c.1.length (E5p c.1 c.1.length) (E5f c.1 c.1.length) hd (E4P c.1 c.1.length):=by have z:=F5H ok h4 hf h5;refine⟨z.tb,by rw[E9z];exact ay _,by rw[E9z];omega,z.kr,by omega,by rw[E8m];exact h1,z.na,λa ha=>?_,by rw[F0O,E8m]⟩;unfold E4P at ha;obtain⟨i,hi,rfl⟩:=bp.1 ha;have:=hf i (cu.1 hi);simp only[aB];omega
section
variable{aSP:List E4Z}{keys:List (ByteArray×Int)}{head:List ByteArray}{ats:List tI}(z:Sz aSP keys head ats)(h:E7w aSP keys head ats≠0)
include z h
theorem G1D(i:Int):F53 (aSP,keys,(head,ats),i)=some ([],E7w aSP keys head ats):=by unfold F53;simp only[F0N z,ai,bne_iff_ne.2 h,cond_true];rfl
theorem G1w:E7t (aSP,keys,head,ats)=some ([],E7w aSP keys head ats):=by unfold E7t;simp only[F0N z,ai,bne_iff_ne.2 h,cond_true];rfl
theorem G1E(i k:Int):E74 (aSP,keys,(head,ats),i,k)=some (false,E7w aSP keys head ats):=by unfold E74;simp only[F0N z,ai,bne_iff_ne.2 h,cond_true]
theorem G1A:F7u (aSP,keys,head,ats)=some (0,E7w aSP keys head ats):=by unfold F7u;simp only[F0N z,ai,bne_iff_ne.2 h,cond_true]
theorem G1B:F9v (aSP,keys,head,ats)=some ([],E7w aSP keys head ats):=by unfold F9v;simp only[F0N z,ai,bne_iff_ne.2 h,cond_true];rfl
end
abbrev G1K(l:List tI):List tI:=fp (uR (Ty.agg [Ty.str,Ty.vec 4 (Ty.agg [Ty.str,Ty.agg [Ty.int ao,Ty.int ao,Ty.str]])])) l
theorem G1L{c:E8l}(ok:OkC c){x:Ch2}(h1:chR x.1)(h2:chR x.2):G1r (c,x)=some true:=by unfold G1r;rcases G1f ok with⟨r,e,hr,b1,b2,b3⟩|⟨l1,l4,hf,hd,e,hn,l5,hs⟩;simp only[e,ai,hr,bO,auI,cond_true,cond_false,jE b1,jE b2,jE b3];have st:=ChOk.init ok l1 l4 hf l5;have lT:=F0O c.1 c.1.length;have lA:=E8m c.1 c.1.length;obtain⟨nK,T,K,H,A,k1,k2⟩:=G1z st (by omega) h1 h2;rw[lT,lA]at k1;simp only[e,ai,bO,cond_false,cond_true,jE (show c.1.length<=(E5p c.1 c.1.length).length by omega),jE (show c.1.length<=(E4P c.1 c.1.length).length by omega),jE (ay _)];refine(congrArg (λo=>bc o _) k1).trans ?_;have z:=k2.sz (by omega);have t1:T.take T.length=T:=pN T;have t2:H.take H.length=H:=pN H;have t3:G1K (A.take A.length)=A:=(congrArg G1K (pN A)).trans (F2V A);simp only[ai,jE k2.nk,cond_true,t1,t2];refine G1a ((congrArg (λl=>E55 (T,K.take nK,H,l)) t3).trans (E9M z)) (G1a ((congrArg (λl=>E7e (T,K.take nK,H,l)) t3).trans (F0N z)) ?_);simp only[bne_self_eq_false,cond_false];by_cases h:E7w T (K.take nK) H A=0;simp only[h,beq_self_eq_true,cond_true];rw[beq_false_of_ne h];simp only[cond_false];refine G1a ((congrArg (λl=>F53 (T,K.take nK,(H,l),(-1:Int))) t3).trans (G1D z h _)) ?_;refine G1a ((congrArg (λl=>E7t (T,K.take nK,H,l)) t3).trans (G1w z h)) ?_;refine G1a ((congrArg (λl=>E74 (T,K.take nK,(H,l),(-1:Int),(0:Int))) t3).trans (G1E z h _ _)) ?_;refine G1a ((congrArg (λl=>F7u (T,K.take nK,H,l)) t3).trans (G1A z h)) ?_;refine G1a ((congrArg (λl=>F9v (T,K.take nK,H,l)) t3).trans (G1B z h)) ?_;simp only[beq_self_eq_true,cond_true,auI];rfl
end Go.Mid
