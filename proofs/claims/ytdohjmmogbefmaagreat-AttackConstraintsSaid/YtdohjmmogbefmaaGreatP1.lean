/- Tools for plain laws: loops step by step, sums, bounds. -/
import Derived.Test.YtdohjmmogbefmaaGreatM9
import Derived.Test.YtdohjmmogbefmaaGreatM10
import Derived.Test.YtdohjmmogbefmaaGreatT2
set_option linter.unusedSimpArgs false
set_option linter.unusedVariables false
set_option maxHeartbeats 1000000
open Array renaming toList_inj->aSY,getElem?_toList->kB
open BitVec renaming ofInt->b8,toNat_ofNat->iu
open Bool renaming and_eq_true->aj,or_eq_true->cn,eq_false_iff->aSQ,eq_iff_iff->dk,not_false->auI,true_and->dm,false_and->sS,true_or->tB,and_true->fQ,not_true->bO,false_eq_true->aI,false_or->gL,eq_false_or_eq_true->nv
open Go.ByteArray renaming toList_eq->avG
open Go.IntKind renaming u32->cG
open Go.Op renaming bytesLess->lP
open Int renaming le_refl->lu,natCast_nonneg->aq,toNat_natCast->ar,lt_irrefl->ba,natCast_zero->av
open List renaming take_length->dM,take_succ_eq_append_getElem->auR,nodup_append->aT,mem_append->az,mem_singleton->aX,getElem?_eq_getElem->ah,mem_cons_of_mem->bC,countP_cons->rz,mem_cons->aG,length_cons->bf,range->bA,mem_range->cu,countP_append->p9,pairwise_append->cF,mem_append_left->cV,mem_map->bp,getElem_mem->aM,getElem_append_left->avk,contains_iff_mem->bj,getElem?_append_left->cN,getElem_of_mem->pd,mem_of_getElem?->bH,map_cons->aF,findIdx?_eq_some_iff_findIdx_eq->aSV,all_eq_not_any_not->gm,length_take->aW,take_zero->ff,length_append->aR
open Nat renaming ble_eq_true_of_le->auP,zero_le->dg,le_refl->ay,le_of_lt->fH,min_eq_left->cX,min_eq_right->jk,lt_succ_iff_lt_or_eq->mV,add_zero->dG,mod_eq_of_lt->aSU,shiftRight_eq_div_pow->mz,testBit_two_pow_sub_one->iJ,pow_lt_pow_right->oM,two_pow_pos->fD
open Option renaming bind_some->ai,map_some->ak,bind->bc
open Option.some renaming inj->v7,injEq->aa
namespace Go.Mid
section
variable{A B:Type}{f:A->Option (A⊕B)}
theorem tQ(n:Nat)(T:Nat->A)(b:B)(h1:∀i,i<n->f (T i)=some (.inl (T (i+1))))(h2:f (T n)=some (.inr b)):A0d f (T 0)=some b:=by(have:∀k i,i+k=n->A0d f (T i)=some b:=by intro k;induction k with|zero=>intro i hi;(obtain rfl:i=n:=by omega);exact qc h2|succ k ih=>intro i hi;rw[vw (h1 i (by omega))];exact ih (i+1) (by omega));exact this n 0 (by omega)
end
theorem jE{a b:Nat}(h:a<=b):a.ble b=true:=auP h
theorem D9e{a b:Nat}(h:b<a):a.ble b=false:=by cases hc:a.ble b with|false=>rfl|true=>have:=Nat.le_of_ble_eq_true hc;omega
theorem lB{a b:Nat}(h:a<b):a.blt b=true:=auP h
theorem D9f{a b:Nat}(h:b<=a):a.blt b=false:=D9e (by omega)
theorem pN{α:Type}(l:List α):l.take l.length=l:=dM
theorem vz{α:Type}{l:List α}{i:Nat}(h:i<l.length):l.take (i+1)=l.take i++[l[i]]:=auR h
section
variable{α β:Type}
end
end Go.Mid
namespace Go.Mid
end Go.Mid
namespace Go.Mid
end Go.Mid
namespace Go.Mid
structure VI (n:Nat)(Q:Int->Prop)(seen:List Bool)(out:List Int):Prop where
 sl:seen.length=n
 nd:out.Nodup
 mem:∀ v:Nat,v<n->(seen[v]?=some true↔(v:Int)∈out)
 yd:∀ v∈out,0<=v∧v<n
 q:∀ v∈out,Q v
 cnt:seen.count true=out.length
theorem VI.le{n:Nat}{Q:Int->Prop}{seen:List Bool}{out:List Int}(h:VI n Q seen out):out.length<=n:=by rw[<-h.cnt,<-h.sl];exact List.count_le_length
theorem VI.add{n:Nat}{Q:Int->Prop}{seen:List Bool}{out:List Int}(h:VI n Q seen out){w:Nat}(hw:w<n)(hs:seen[w]?=some false)(hq:Q w):VI n Q (seen.set w true) (out++[(w:Int)])where
 sl:=by rw[List.length_set];exact h.sl
 nd:=by(have:(w:Int)∉out:=λhm=>by have:=(h.mem w hw).2 hm;rw[hs]at this;cases this);rw[aT];refine⟨h.nd,by simp,?_⟩;intro a ha b hb e;simp at hb;subst hb;subst e;exact this ha
 mem:=by intro v hv;rw[List.getElem?_set];by_cases e:w=v;subst e;simp[h.sl,hv];rw[if_neg e,h.mem v hv];simp only[az,aX];constructor;exact .inl;rintro(h1|h1);exact h1;omega
 yd:=by intro v hv;rcases az.1 hv with h1|h1;exact h.yd v h1;rw[aX]at h1;subst h1;omega
 q:=by intro v hv;rcases az.1 hv with h1|h1;exact h.q v h1;rw[aX]at h1;subst h1;exact hq
 cnt:=by(have eC:w<seen.length:=by rw[h.sl];exact hw);(have hg:seen[w]=false:=by rw[ah eC]at hs;exact v7 hs);rw[List.count_set eC,hg,h.cnt];simp
structure NB (n:Nat)(next:List (List Int)):Prop where
 len:next.length=n
 yd:∀ l∈next,∀ w∈l,0<=w∧w<n
 Rp:∀ l∈next,l.length<=1000
 small:n<=1000
end Go.Mid
namespace Go.Mid
abbrev oW:=List (Int×Int)
def Ej(n:Nat)(E:oW):Prop:=∀e∈E,0<=e.1/\e.1<n/\0<=e.2/\e.2<n
end Go.Mid
namespace Go.Mid
def HL(n:Int)(e:Int×Int):Bool:=decide (e.1<0)||decide (e.1>=n)||decide (e.2<0)||decide (e.2>=n)
def JK(n:Int)(l:List (Int×Int)):Int:=if n>1000 then 3 else if(l.length:Int)>20000 then 3 else if n<0 then 1 else if l.any (HL n)then 1 else 0
end Go.Mid
namespace Go.Mid
end Go.Mid
namespace Go.Mid
end Go.Mid
namespace Go.Mid
end Go.Mid
namespace Go.Mid
end Go.Mid
namespace Go.Mid
end Go.Mid
namespace Go.Mid
end Go.Mid
namespace Go.Mid
theorem XF{α:Type}{p q:α->Bool}:∀{l:List α},(∀x∈l,p x=true->q x=true)->(∃x∈l,p x=false/\q x=true)->l.countP p<l.countP q|[],_,h=>by obtain⟨x,hx,_⟩:=h;cases hx|a::l,hm,h=>by have hle:l.countP p<=l.countP q:=List.countP_mono_left λx hx=>hm x (bC _ hx);have ha:=hm a (by simp);rw[rz,rz];obtain⟨x,hx,h1,h2⟩:=h;rcases aG.1 hx with e|e;subst e;simp only[h1,h2,if_true];simp;omega;have:=XF (λx hx=>hm x (bC _ hx)) ⟨x,e,h1,h2⟩;by_cases sg:p a=true;simp only[sg,ha sg,if_true];omega;rw[if_neg sg];omega
theorem Nw{α:Type}[DecidableEq α]:∀{l m:List α},l.Nodup->(∀x∈l,x∈m)->l.length<=m.length|[],_,_,_=>dg _|a::l,m,h,hs=>by have h':=List.nodup_cons.1 h;have JL:=hs a (by simp);(have:=Nw (l:=l) (m:=m.erase a) h'.2 λx hx=>by have hne:x≠a:=λe=>h'.1 (e▸hx);exact(List.mem_erase_of_ne hne).2 (hs x (bC _ hx)));rw[List.length_erase_of_mem JL]at this;have:=List.length_pos_of_mem JL;simp only[bf];omega
end Go.Mid
namespace Go.Mid
def jA(o:List Nat):List Int:=o.map λk:Nat=>(k:Int)
end Go.Mid
namespace Go.Mid
end Go.Mid
namespace Go.Mid
end Go.Mid
namespace Go.Mid
end Go.Mid
namespace Go.Mid
end Go.Mid
namespace Go.Mid
end Go.Mid
namespace Go.Mid
def D6D(E:oW)(u v:Nat):Bool:=E.any λe=>e.1==(u:Int)&&e.2==(v:Int)
def Nx(p:List Nat):Nat:=p.getLast?.getD 0
theorem B9r(p:List Nat)(v:Nat):Nx (p++[v])=v:=by simp[Nx]
def kZ(M:List (List Nat)):List (List Int):=M.map jA
def JM(n:Nat)(S:Nat->Bool):Nat:=(bA n).countP S
structure LV (n:Nat)(S:Nat->Bool)(L:List (List Nat)):Prop where
 ne:∀ p∈L,p ≠ []
 yd:∀ p∈L,Nx p<n
 seen:∀ p∈L,S (Nx p)=true
 len:∀ p∈L,p.length<=JM n S
 Rp:L.length<=JM n S
theorem D20{n:Nat}{S S':Nat->Bool}(h:∀v,S v=true->S' v=true){v:Nat}(hv:v<n)(h1:S v=false)(h2:S' v=true):JM n S<JM n S':=XF (λx _ hx=>h x hx) ⟨v,cu.2 hv,h1,h2⟩
theorem LV.next{n:Nat}{E:oW}{S S':Nat->Bool}{L N:List (List Nat)}(h:LV n S L)(h2:∀v,S v=true->S' v=true)(h4:∀q∈N,∃p∈L,∃v,v<n/\q=p++[v]/\D6D E (Nx p) v=true/\S v=false/\S' v=true)(h5:JM n S'=JM n S+N.length):LV n S' N where
 ne:=λq hq=>by obtain⟨p,_,v,_,rfl,_⟩:=h4 q hq;simp
 yd:=λq hq=>by obtain⟨p,_,v,hv,rfl,_⟩:=h4 q hq;rw[B9r];exact hv
 seen:=λq hq=>by obtain⟨p,_,v,hv,rfl,_,_,e⟩:=h4 q hq;rw[B9r];exact e
 len:=λq hq=>by obtain⟨p,hp,v,hv,rfl,_,e1,e2⟩:=h4 q hq;have:=h.len p hp;have:=D20 h2 hv e1 e2;simp;omega
 Rp:=by omega
end Go.Mid
namespace Go.Mid
end Go.Mid
namespace Go.Mid
inductive Rc (Ed:Nat->Nat->Prop) (a:Nat):Nat->Prop
 | refl:Rc Ed a a
 | tail {b c:Nat}:Rc Ed a b->Ed b c->Rc Ed a c
section
variable{Ed:Nat->Nat->Prop}
theorem Rc.trans{a b c:Nat}(h:Rc Ed a b):Rc Ed b c->Rc Ed a c:=λh2=>by induction h2 with|refl=>exact h|tail _ e ih=>exact ih.tail e
theorem Rc.one{a b:Nat}(h:Ed a b):Rc Ed a b:=Rc.refl.tail h
structure kP (Ed:Nat->Nat->Prop)(n:Nat)(G:List Nat)(ix:Nat->Nat)(oE:List Nat)(cnt:Nat)(out:List (List Nat)):Prop where
 cc:(bA n).countP (λv=>ix v != 0)=cnt
 FH:∀ v,ix v<=cnt
 yd:∀ v,ix v≠0->v<n
 inj:∀ u v,ix u≠0->ix u=ix v->u=v
 HM:oE.Pairwise (λa b=>ix a<ix b)
 qw:∀ v∈oE,ix v≠0
 JN:∀ g∈G,g∈oE
 Ny:∀ u w,ix u≠0->u∉oE->Ed u w->ix w≠0∧w∉oE
 blk:∀ u∈oE,u∉G->∀ w,Ed u w->ix w≠0
 i7:∀ u∈oE,∃ g∈G,ix g<=ix u∧Rc Ed u g
 i8:∀ g∈G,∀ u∈oE,ix g<=ix u->Rc Ed g u
 Nz:∀ v,ix v≠0->v∉oE->∃ C∈out,v∈C
 yf:∀ C∈out,C ≠ []∧C.Nodup∧∀ u∈C,(ix u≠0∧u∉oE)∧∀ w,(w∈C↔Rc Ed u w∧Rc Ed w u)
 JO:out.Pairwise (λC D=>∀ x∈C,x∉D)
def y6{α:Type}(f:Nat->α)(v:Nat)(x:α):Nat->α:=λb=>if b=v then x else f b
theorem A1C{α:Type}(f:Nat->α)(v:Nat)(x:α):y6 f v x v=x:=by simp[y6]
theorem yg{α:Type}{f:Nat->α}{v b:Nat}{x:α}(h:b≠v):y6 f v x b=f b:=by simp[y6,h]
theorem B64{ix:Nat->Nat}{v c:Nat}(h0:ix v=0)(hc:c≠0):∀m,(bA m).countP (λu=>y6 ix v c u !=0)=(bA m).countP (λu=>ix u !=0)+if v<m then 1 else 0|0=>by simp|m+1=>by rw[List.range_succ,p9,p9,B64 h0 hc m];by_cases e:m=v;subst e;(have h1:¬m<m:=by omega);(have h2:m<m+1:=by omega);simp[A1C,h0,hc];(have h3:v<m+1↔v<m:=by omega);simp only[List.countP_singleton,yg e,h3];omega
theorem kP.nil(n:Nat):kP Ed n [] (λ_=>0) [] 0 []where
 cc:=by simp
 FH:=by simp
 yd:=by simp
 inj:=by simp
 HM:=by simp
 qw:=by simp
 JN:=by simp
 Ny:=by simp
 blk:=by simp
 i7:=by simp
 i8:=by simp
 Nz:=by simp
 yf:=by simp
 JO:=by simp
theorem kP.XJ{n:Nat}{G:List Nat}{ix:Nat->Nat}{oE:List Nat}{cnt:Nat}{out:List (List Nat)}(h:kP Ed n G ix oE cnt out):oE.Nodup:=h.HM.imp λ{a b}uO e=>by subst e;omega
theorem kP.push{n:Nat}{G:List Nat}{ix:Nat->Nat}{oE:List Nat}{cnt:Nat}{out:List (List Nat)}(h:kP Ed n G ix oE cnt out){v:Nat}(hv:v<n)(h0:ix v=0)(hG:∀g∈G,Rc Ed g v):kP Ed n (v::G) (y6 ix v (cnt+1)) (oE++[v]) (cnt+1) out:=by have fN:v∉oE:=λhm=>h.qw v hm h0;have hne:∀u,ix u≠0->u≠v:=λu hu e=>hu (e▸h0);have zN:∀u,ix u≠0->y6 ix v (cnt+1) u=ix u:=λu hu=>yg (hne u hu);have FI:∀u∈oE,y6 ix v (cnt+1) u=ix u:=λu hu=>zN u (h.qw u hu);(have HN:∀u,y6 ix v (cnt+1) u≠0↔u=v\/ix u≠0:=λu=>by by_cases e:u=v;subst e;simp[A1C];simp[yg e,e]);refine⟨?_,?_,?_,?_,?_,?_,?_,?_,?_,?_,?_,?_,?_,h.JO⟩;rw[B64 h0 (by omega),h.cc,if_pos hv];intro u;by_cases e:u=v;subst e;rw[A1C];exact ay _;rw[yg e];have:=h.FH u;omega;intro u hu;rcases(HN u).1 hu with e|e;subst e;exact hv;exact h.yd u e;intro u w hu he;by_cases e1:u=v<;>by_cases e2:w=v;rw[e1,e2];subst e1;rw[A1C,yg e2]at he;have:=h.FH w;omega;subst e2;rw[A1C,yg e1]at he;have:=h.FH u;omega;rw[yg e1]at hu;rw[yg e1,yg e2]at he;exact h.inj u w hu he;rw[cF];refine⟨h.HM.imp_of_mem λ{a b}ha hb uO=>by rw[FI a ha,FI b hb];exact uO,by simp,λa ha b hb=>?_⟩;rw[aX]at hb;subst hb;rw[FI a ha,A1C];have:=h.FH a;omega;intro u hu;rw[HN];rcases az.1 hu with h1|h1;exact .inr (h.qw u h1);exact .inl (aX.1 h1);intro g hg;rcases aG.1 hg with e|e;subst e;simp;exact cV _ (h.JN g e);intro u w hu hs he;rcases(HN u).1 hu with e|e;subst e;exact(hs (by simp)).elim;obtain⟨a,b⟩:=h.Ny u w e (λhm=>hs (cV _ hm)) he;refine⟨(HN w).2 (.inr a),λhm=>?_⟩;rcases az.1 hm with h1|h1;exact b h1;rw[aX]at h1;exact hne w a h1;intro u hu hg w he;rcases az.1 hu with h1|h1;exact(HN w).2 (.inr (h.blk u h1 (λhm=>hg (bC _ hm)) w he));rw[aX]at h1;subst h1;exact(hg (by simp)).elim;intro u hu;rcases az.1 hu with h1|h1;obtain⟨g,hg,a,b⟩:=h.i7 u h1;exact⟨g,bC _ hg,by rw[FI g (h.JN g hg),FI u h1];exact a,b⟩;rw[aX]at h1;subst h1;exact⟨u,by simp,ay _,.refl⟩;intro g hg u hu hle;rcases az.1 hu with h1|h1;rcases aG.1 hg with e|e;subst e;rw[A1C,FI u h1]at hle;have:=h.FH u;omega;rw[FI g (h.JN g e),FI u h1]at hle;exact h.i8 g e u h1 hle;rw[aX]at h1;subst h1;rcases aG.1 hg with e|e;subst e;exact .refl;exact hG g e;intro u hu hs;rcases(HN u).1 hu with e|e;subst e;exact(hs (by simp)).elim;exact h.Nz u e λhm=>hs (cV _ hm);intro C hC;obtain⟨a,b,c⟩:=h.yf C hC;refine⟨a,b,λu hu=>?_⟩;obtain⟨⟨c1,c2⟩,c3⟩:=c u hu;refine⟨⟨(HN u).2 (.inr c1),λhm=>?_⟩,c3⟩;rcases az.1 hm with h1|h1;exact c2 h1;rw[aX]at h1;exact hne u c1 h1
theorem kP.stay{n:Nat}{G:List Nat}{ix:Nat->Nat}{oE:List Nat}{cnt:Nat}{out:List (List Nat)}{v:Nat}(h:kP Ed n (v::G) ix oE cnt out)(kF:∀w,Ed v w->ix w≠0){w:Nat}(hw:w∈oE)(eC:ix w<ix v)(XK:Rc Ed v w):kP Ed n G ix oE cnt out:=by refine⟨h.cc,h.FH,h.yd,h.inj,h.HM,h.qw,λg hg=>h.JN g (bC _ hg),h.Ny,λu hu hg x he=>?_,λu hu=>?_,λg hg=>h.i8 g (bC _ hg),h.Nz,h.yf,h.JO⟩;by_cases e:u=v;subst e;exact kF x he;exact h.blk u hu (λhm=>by rcases aG.1 hm with h1|h1;exact e h1;exact hg h1) x he;(have key:∃g∈G,ix g<=ix w/\Rc Ed w g:=by obtain⟨g,hg,a,b⟩:=h.i7 w hw;rcases aG.1 hg with e|e;subst e;omega;exact⟨g,e,a,b⟩);obtain⟨g,hg,a,b⟩:=h.i7 u hu;rcases aG.1 hg with e|e;subst e;obtain⟨k,hk,c,d⟩:=key;exact⟨k,hk,by omega,b.trans (XK.trans d)⟩;exact⟨g,e,a,b⟩
theorem kP.fin{n:Nat}{ix:Nat->Nat}{oE:List Nat}{cnt:Nat}{out:List (List Nat)}(h:kP Ed n [] ix oE cnt out):oE=[]:=by cases oE with|nil=>rfl|cons a l=>obtain⟨g,hg,_⟩:=h.i7 a (by simp);cases hg
structure y7 (Ed:Nat->Nat->Prop)(n:Nat)(G:List Nat)(v:Nat)(ix lo:Nat->Nat)(S0:List Nat)(cnt:Nat)(out:List (List Nat))(hZ j5:Nat->Nat)(T:List Nat)(ju:Nat)(jv:List (List Nat)):Prop where
 inv:kP Ed n G hZ (S0++T) ju jv
 aSO:∀ u,ix u≠0->hZ u=ix u∧j5 u=lo u
 XN:hZ v≠0
 new:∀ u,ix u=0->hZ u≠0->cnt<hZ u
 BW:j5 v<=hZ v
 zO:cnt<=ju
 tT:out <+: jv
 eds:∀ u∈T,∀ w∈S0,Ed u w->j5 v<=hZ w
 low:(T=[]∧j5 v=hZ v)∨(j5 v<hZ v∧∃ w∈S0,hZ w=j5 v∧Rc Ed v w)
structure jX (Ed:Nat->Nat->Prop)(n:Nat)(G:List Nat)(v:Nat)(ix lo:Nat->Nat)(S0:List Nat)(cnt:Nat)(out:List (List Nat))(D:List Nat)(hZ j5:Nat->Nat)(T:List Nat)(ju:Nat)(jv:List (List Nat)):Prop where
 inv:kP Ed n (v::G) hZ (S0++v::T) ju jv
 aSO:∀ u,ix u≠0->hZ u=ix u∧j5 u=lo u
 C0:hZ v=cnt+1
 new:∀ u,ix u=0->hZ u≠0->cnt<hZ u
 zO:cnt+1<=ju
 tT:out <+: jv
 BW:j5 v<=hZ v
 uY:∀ x∈D,hZ x≠0
 wA:∀ x∈D,x∈S0->j5 v<=hZ x
 wC:∀ u∈T,∀ w∈S0,Ed u w->j5 v<=hZ w
 low:∃ w∈S0++v::T,hZ w=j5 v∧Rc Ed v w
section
variable{n:Nat}{G:List Nat}{v:Nat}{ix lo:Nat->Nat}{S0:List Nat}{cnt:Nat}{out:List (List Nat)}{D:List Nat}{hZ j5:Nat->Nat}{T:List Nat}{ju:Nat}{jv:List (List Nat)}
theorem jX.sv(h:jX Ed n G v ix lo S0 cnt out D hZ j5 T ju jv):∀u∈v::T,hZ v<=hZ u:=λu hu=>by have hp:=cF.1 h.inv.HM;rcases aG.1 hu with e|e;subst e;exact ay _;exact fH ((List.pairwise_cons.1 hp.2.1).1 u e)
theorem jX.on(h:jX Ed n G v ix lo S0 cnt out D hZ j5 T ju jv){x:Nat}(hx:Ed v x)(hs:x∈S0++v::T)(hne:∀u,ix u≠0->u≠v):jX Ed n G v ix lo S0 cnt out (D++[x]) hZ (y6 j5 v (min (j5 v) (hZ x))) T ju jv where
 inv:=h.inv
 aSO:=λu hu=>⟨(h.aSO u hu).1,by rw[yg (hne u hu)];exact(h.aSO u hu).2⟩
 C0:=h.C0
 new:=h.new
 zO:=h.zO
 tT:=h.tT
 BW:=by rw[A1C];have:=h.BW;omega
 uY:=λy hy=>by rcases az.1 hy with h1|h1;exact h.uY y h1;rw[aX]at h1;subst h1;exact h.inv.qw y hs
 wA:=λy hy h2=>by rw[A1C];rcases az.1 hy with h1|h1;have:=h.wA y h1 h2;omega;rw[aX]at h1;subst h1;omega
 wC:=λu hu w hw he=>by rw[A1C];have:=h.wC u hu w hw he;omega
 low:=by rw[A1C];by_cases hc:j5 v<=hZ x;rw[cX hc];exact h.low;rw[jk (by omega)];exact⟨x,hs,rfl,.one hx⟩
theorem jX.off(h:jX Ed n G v ix lo S0 cnt out D hZ j5 T ju jv){x:Nat}(hv:hZ x≠0)(hs:x∉S0++v::T):jX Ed n G v ix lo S0 cnt out (D++[x]) hZ j5 T ju jv where
 inv:=h.inv
 aSO:=h.aSO
 C0:=h.C0
 new:=h.new
 zO:=h.zO
 tT:=h.tT
 BW:=h.BW
 uY:=λy hy=>by rcases az.1 hy with h1|h1;exact h.uY y h1;rw[aX]at h1;subst h1;exact hv
 wA:=λy hy h2=>by rcases az.1 hy with h1|h1;exact h.wA y h1 h2;rw[aX]at h1;subst h1;exact(hs (cV _ h2)).elim
 wC:=h.wC
 low:=h.low
theorem jX.call(h:jX Ed n G v ix lo S0 cnt out D hZ j5 T ju jv){x:Nat}(hx:Ed v x)(h0:hZ x=0)(hne:∀u,ix u≠0->u≠v){uZ tq:Nat->Nat}{T2:List Nat}{qx:Nat}{nc:List (List Nat)}(h2:y7 Ed n (v::G) x hZ j5 (S0++v::T) ju jv uZ tq T2 qx nc):jX Ed n G v ix lo S0 cnt out (D++[x]) uZ (y6 tq v (min (tq v) (tq x))) (T++T2) qx nc:=by(have yK:hZ v≠0:=by rw[h.C0];omega);have HP:=h2.aSO v yK;have hkS:∀u∈S0,uZ u=hZ u:=λu hu=>(h2.aSO u (h.inv.qw u (cV _ hu))).1;(have zN:∀u,ix u≠0->hZ u≠0:=λu hu=>by rw[(h.aSO u hu).1];exact hu);(have sL:S0++v::(T++T2)=(S0++v::T)++T2:=by simp);refine⟨by rw[sL];exact h2.inv,λu hu=>?_,by rw[HP.1];exact h.C0,λu h3 h4=>?_,by have:=h2.zO;have:=h.zO;omega,h.tT.trans h2.tT,?_,λy hy=>?_,λy hy hs=>?_,λu hu w hw he=>?_,?_⟩;rw[yg (hne u hu),(h2.aSO u (zN u hu)).1,(h2.aSO u (zN u hu)).2];exact h.aSO u hu;by_cases e:hZ u=0;have:=h2.new u e h4;have:=h.zO;omega;rw[(h2.aSO u e).1];exact h.new u h3 e;rw[A1C,HP.1,HP.2];have:=h.BW;omega;rcases az.1 hy with h1|h1;rw[(h2.aSO y (h.uY y h1)).1];exact h.uY y h1;rw[aX]at h1;subst h1;exact h2.XN;rw[A1C];rcases az.1 hy with h1|h1;rw[HP.2,hkS y hs];have:=h.wA y h1 hs;omega;rw[aX]at h1;subst h1;exact(h.inv.qw y (cV _ hs) h0).elim;rw[A1C];rcases az.1 hu with h1|h1;rw[HP.2,hkS w hw];have:=h.wC u h1 w hw he;omega;have:=h2.eds u h1 w (cV _ hw) he;omega;rw[A1C];by_cases hc:tq v<=tq x;rw[cX hc];obtain⟨w,a,b,c⟩:=h.low;exact⟨w,by rw[sL];exact cV _ a,by rw[(h2.aSO w (h.inv.qw w a)).1,HP.2];exact b,c⟩;rw[jk (by omega)];rcases h2.low with⟨h3,h4⟩|⟨h3,w,a,b,c⟩;have h5:=h2.new x h0 h2.XN;have h6:=h.BW;have h7:=h.zO;rw[HP.2,h4]at hc;have h8:=h.C0;omega;exact⟨w,by rw[sL];exact cV _ a,b,(Rc.one hx).trans c⟩
theorem jX.stay(h:jX Ed n G v ix lo S0 cnt out D hZ j5 T ju jv)(hD:∀w,Ed v w->w∈D)(eC:j5 v<hZ v):y7 Ed n G v ix lo S0 cnt out hZ j5 (v::T) ju jv:=by obtain⟨w,a,b,c⟩:=h.low;(have hw:w∈S0:=by rcases az.1 a with h1|h1;exact h1;have:=h.sv w h1;omega);refine⟨h.inv.stay (λx hx=>h.uY x (hD x hx)) a (by omega) c,h.aSO,by rw[h.C0];omega,h.new,h.BW,by have:=h.zO;omega,h.tT,λu hu x hx he=>?_,.inr ⟨eC,w,hw,b,c⟩⟩;rcases aG.1 hu with e|e;subst e;exact h.wA x (hD x he) hx;exact h.wC u e x hx he
end
end
end Go.Mid
namespace Go.Mid
def BX(E:oW):Nat->Nat->Prop:=λu w=>((u:Int),(w:Int))∈E
section
variable{n:Nat}{E:oW}
theorem kP.len{Ed:Nat->Nat->Prop}{G:List Nat}{ix:Nat->Nat}{oE:List Nat}{cnt:Nat}{out:List (List Nat)}(h:kP Ed n G ix oE cnt out):oE.length<=n:=by have:=Nw h.XJ (m:=bA n) λx hx=>cu.2 (h.yd x (h.qw x hx));simpa using this
end
end Go.Mid
namespace Go.Mid
def kh(C:List Nat):Nat:=C.headD 0
section
variable(q1:List (List Int))(rI:List Int)(rJ:Nat)(rK:List Int)(rL:Nat)(rM:List Bool)(rN:Nat)(rO:List Int)(rP:Nat)(q6:Int)(m:Nat)
end
end Go.Mid
namespace Go.Mid
theorem XO{C:List Nat}(h:C≠[]):kh C∈C:=by cases C with|nil=>exact(h rfl).elim|cons a l=>simp[kh]
structure B3 (n:Nat)(Ed:Nat->Nat->Prop)(L:List (List Nat)):Prop where
 ne:∀ C∈L,C ≠ []
 asc:∀ C∈L,C.Pairwise (· < ·)
 hd:L.Pairwise (λC D=>kh C<kh D)
 cls:∀ C∈L,∀ u∈C,u<n∧∀ w,(w∈C↔Rc Ed u w∧Rc Ed w u)
 all:∀ v,v<n->∃ C∈L,v∈C
section
variable(q1:List (List Int))(rI:List Int)(rJ:Nat)(rK:List Int)(rL:Nat)(rM:List Bool)(rN:Nat)(rO:List Int)(rP:Nat)(q6:Int)
end
end Go.Mid
namespace Go.Mid
theorem B3.count{n:Nat}{Ed:Nat->Nat->Prop}{L:List (List Nat)}(h:B3 n Ed L):L.length<=n:=by(have h1:(L.map kh).Nodup:=by unfold List.Nodup;rw[List.pairwise_map];exact h.hd.imp λh=>Nat.ne_of_lt h);(have:=Nw h1 (m:=bA n) λx hx=>by obtain⟨C,hC,rfl⟩:=bp.1 hx;exact cu.2 (h.cls C hC _ (XO (h.ne C hC))).1);simpa using this
end Go.Mid
namespace Go.Mid
def OK{α:Type}(o:Option α)(P:α->Prop):Prop:=∃r,o=some r/\P r
namespace OK
variable{α β:Type}
theorem ret{P:α->Prop}{r:α}(h:P r):OK (some r) P:=⟨r,rfl,h⟩
theorem bind{o:Option α}{k:α->Option β}{P:β->Prop}(h:OK o λy=>OK (k y) P):OK (o.bind k) P:=by obtain⟨y,e,r,e2,h⟩:=h;exact⟨r,by rw[e];exact e2,h⟩
theorem mono{o:Option α}{P Q:α->Prop}(h:OK o P)(g:∀r,P r->Q r):OK o Q:=by obtain⟨y,e,h⟩:=h;exact⟨y,e,g y h⟩
theorem call{o:Option α}{Q:α->Prop}{k:α->Option β}{P:β->Prop}(h:OK o Q)(g:∀y,Q y->OK (k y) P):OK (o.bind k) P:=bind (h.mono g)
theorem dead{P:α->Prop}(h:False):OK none P:=h.elim
theorem dec{p:Prop}[Decidable p]{A B:Option α}{P:α->Prop}(h1:p->OK A P)(h2:¬p->OK B P):OK (bif decide p then A else B) P:=by by_cases h:p;rw[decide_eq_true h];exact h1 h;rw[decide_eq_false h];exact h2 h
theorem blt{a b:Nat}{A B:Option α}{P:α->Prop}(h1:a<b->OK A P)(h2:b<=a->OK B P):OK (bif a.blt b then A else B) P:=by by_cases h:a<b;rw[lB h];exact h1 h;rw[D9f (by omega)];exact h2 (by omega)
theorem ble{a b:Nat}{A B:Option α}{P:α->Prop}(h1:a<=b->OK A P)(h2:b<a->OK B P):OK (bif a.ble b then A else B) P:=by by_cases h:a<=b;rw[jE h];exact h1 h;rw[D9e (by omega)];exact h2 (by omega)
theorem beq{a b:Int}{A B:Option α}{P:α->Prop}(h1:a=b->OK A P)(h2:a≠b->OK B P):OK (bif a==b then A else B) P:=by by_cases h:a=b;rw[beq_iff_eq.2 h];exact h1 h;rw[beq_false_of_ne h];exact h2 h
theorem bne{a b:Int}{A B:Option α}{P:α->Prop}(h1:a≠b->OK A P)(h2:a=b->OK B P):OK (bif a !=b then A else B) P:=by by_cases h:a=b;subst h;rw[bne_self_eq_false];exact h2 rfl;rw[bne_iff_ne.2 h];exact h1 h
theorem nt{b:Bool}{A B:Option α}{P:α->Prop}(h:OK (bif b then B else A) P):OK (bif !b then A else B) P:=by cases b<;>exact h
theorem bo{b:Bool}{A B:Option α}{P:α->Prop}(h1:b=true->OK A P)(h2:b=false->OK B P):OK (bif b then A else B) P:=by cases b;exact h2 rfl;exact h1 rfl
theorem get{M:List α}{i:Nat}{k:α->Option β}{P:β->Prop}(hi:i<M.length)(h:∀y,M[i]?=some y->OK (k y) P):OK (M[i]?.bind k) P:=bind ⟨M[i],ah hi,h _ (ah hi)⟩
theorem loop{A B:Type}{f:A->Option (A⊕B)}(Inv:A->Prop)(μ:A->Nat){P:B->Prop}(st:∀a,Inv a->OK (f a) (Sum.elim (λb=>Inv b/\μ b<μ a) P)){a:A}(h:Inv a):OK (A0d f a) P:=by(have:∀n a,μ a<n->Inv a->OK (A0d f a) P:=by intro n;induction n with|zero=>intro a h;omega|succ n ih=>intro a hn ha;obtain⟨r,e,hr⟩:=st a ha;cases r with|inl b=>rw[vw e];exact ih b (by have:=hr.2;omega) hr.1|inr b=>exact⟨b,qc e,hr⟩);exact this _ a (Nat.lt_succ_self _) h
end OK
end Go.Mid
namespace Go.Mid
structure DI (n t:Nat)(R:oW)(i:Nat)(o:List Nat)(d:Nat->Int):Prop where
 nd:o.Nodup
 yd:∀ v∈o,v<n
 mem:∀ v,v<n->(0<=d v↔v∈o)
 low:∀ v,-1<=d v
 high:∀ v,d v<o.length
 zero:d t=0
 awm:∀ v,d v=0->v=t
 mono:∀ j k,j<=k->∀ (hj:j<o.length) (hk:k<o.length),d o[j]<=d o[k]
 eD:∀ (hi:i<o.length) k (hk:k<o.length),d o[k]<=d o[i]+1
 done:∀ k (hk:k<o.length),k<i->∀ w:Nat,((o[k]:Int),(w:Int))∈R->0<=d w∧d w<=d o[k]+1
 par:∀ a∈o,0<d a->∃ b∈o,((b:Int),(a:Int))∈R∧d b=d a-1
theorem DI.le{n t:Nat}{R:oW}{i:Nat}{o:List Nat}{d:Nat->Int}(h:DI n t R i o d):o.length<=n:=by have:=Nw h.nd (m:=bA n) λx hx=>cu.2 (h.yd x hx);simpa using this
theorem DI.add{n t:Nat}{R:oW}{i:Nat}{o:List Nat}{d:Nat->Int}(h:DI n t R i o d)(hi:i<o.length){w:Nat}(hw:w<n)(hd:d w<0)(hR:((o[i]:Int),(w:Int))∈R):DI n t R i (o++[w]) (λb=>if b=w then d o[i]+1 else d b):=by(have hwo:w∉o:=λhm=>by have:=(h.mem w hw).2 hm;omega);have yG:∀k(hk:k<o.length),0<=d o[k]:=λk hk=>(h.mem _ (h.yd _ (aM hk))).2 (aM hk);have hne:∀k(hk:k<o.length),o[k]≠w:=λk hk e=>hwo (e▸aM hk);(have hlen:(o++[w]).length=o.length+1:=by simp);have hl:∀k(hk:k<(o++[w]).length),k<o.length->∃YP:k<o.length,(o++[w])[k]=o[k]:=λk hk h1=>⟨h1,avk h1⟩;(have awG:∀(hk:o.length<(o++[w]).length),(o++[w])[o.length]=w:=λhk=>by simp);refine⟨?_,?_,?_,?_,?_,?_,?_,?_,?_,?_,?_⟩;rw[aT];exact⟨h.nd,by simp,λa ha b hb e=>by simp at hb;subst hb;subst e;exact hwo ha⟩;intro v hv;rcases az.1 hv with h1|h1;exact h.yd v h1;simp at h1;subst h1;exact hw;intro v hv;by_cases e:v=w;subst e;have:=yG i hi;simp;omega;simp only[e,if_false,az,aX,or_false];exact h.mem v hv;intro v;have:=yG i hi;have h2:=h.low v;split<;>omega;intro v;have h1:=h.high v;have h2:=h.high o[i];rw[hlen];split<;>omega;(have:t≠w:=λe=>by have:=h.zero;rw[e]at this;omega);simp only[this,if_false];exact h.zero;intro v hv;split at hv;have:=yG i hi;omega;exact h.awm v hv;intro j k hjk hj hk;rw[hlen]at hj hk;by_cases c1:k<o.length;obtain⟨_,e1⟩:=hl k (by omega) c1;obtain⟨_,e2⟩:=hl j (by omega) (by omega);simp only[e1,e2,hne k c1,hne j (by omega),if_false];exact h.mono j k hjk (by omega) c1;(have ek:k=o.length:=by omega);subst ek;simp only[awG (by omega),if_true];by_cases c2:j<o.length;obtain⟨_,e2⟩:=hl j (by omega) c2;simp only[e2,hne j c2,if_false];exact h.eD hi j c2;(have ej:j=o.length:=by omega);subst ej;simp only[awG (by omega),if_true];exact lu _;intro rX k hk;obtain⟨_,e0⟩:=hl i rX hi;simp only[e0,hne i hi,if_false];by_cases c1:k<o.length;obtain⟨_,e1⟩:=hl k (by omega) c1;simp only[e1,hne k c1,if_false];exact h.eD hi k c1;(have ek:k=o.length:=by rw[hlen]at hk;omega);subst ek;simp only[awG (by omega),if_true];exact lu _;intro k hk Dp x hx;(have c1:k<o.length:=by omega);obtain⟨_,e1⟩:=hl k hk c1;simp only[e1]at hx;simp only[e1,hne k c1,if_false];obtain⟨a1,a2⟩:=h.done k c1 Dp x hx;(have:x≠w:=λe=>by subst e;omega);simp only[this,if_false];exact⟨a1,a2⟩;intro a ha h0;rcases az.1 ha with h1|h1;have XV:a≠w:=λe=>hwo (e▸h1);simp only[XV,if_false]at h0|-;obtain⟨b,hb,b1,b2⟩:=h.par a h1 h0;have:b≠w:=λe=>hwo (e▸hb);exact⟨b,cV _ hb,b1,by simp only[this,if_false];exact b2⟩;simp at h1;subst h1;refine⟨o[i],cV _ (aM hi),hR,?_⟩;simp only[hne i hi,if_false,if_true];omega
end Go.Mid
namespace Go.Mid
structure awW (n:Nat)(Ed:Nat->Nat->Prop)(L:List (List Nat)):Prop where
 ne:∀ C∈L,C ≠ []
 asc:∀ C∈L,C.Pairwise (· < ·)
 cls:∀ C∈L,∀ u∈C,u<n∧∀ w,(w∈C↔Rc Ed u w∧Rc Ed w u)
 all:∀ v,v<n->∃ C∈L,v∈C
 len:L.length<=n
 size:∀ C∈L,C.length<=n
def D8Q:Prop:=∀(q1:List (List Int))(rI:List Int)(rJ:Nat)(rK:List Int)(rL:Nat)(rM:List Bool)(rN:Nat)(rO:List Int)(rP:Nat)(q6:Int)(m:Nat)(M:List (List Nat)),M.length<=14->(∀C∈M,C≠[])->(M.map λC=>C.headD 0).Nodup->∃M':List (List Nat),MO ((M.length,()),q1,(rI,rJ),(rK,rL),(rM,rN),(rO,rP),q6,kZ M,m)=some (q1,(rI,rJ),(rK,rL),(rM,rN),(rO,rP),q6,kZ M',m)/\M'.Perm M
section
variable(S:D8Q)(q1:List (List Int))(rI:List Int)(rJ:Nat)(rK:List Int)(rL:Nat)(rM:List Bool)(rN:Nat)(rO:List Int)(rP:Nat)(q6:Int)
include S
end
section
variable{n:Nat}{E:oW}{L:List (List Nat)}(hn:n<=14)(hE:E.length<=1000)(hr:Ej n E)(hv:JK n E=0)(hL:awW n (BX E) L)
include hn hE hr hv hL
end
end Go.Mid
namespace Go.Mid
end Go.Mid
namespace Go.Mid
end Go.Mid
namespace Go.Mid
def F7Q(E:oW)(o:List Nat)(v:Nat):Bool:=!o.contains v&&E.all λe=>!(e.2==(v:Int))||o.contains e.1.toNat
theorem F8b{E:oW}{o:List Nat}{v:Nat}:F7Q E o v=true↔v∉o/\∀e∈E,e.2=(v:Int)->e.1.toNat∈o:=by unfold F7Q;simp only[aj,Bool.not_eq_true',List.all_eq_true,cn,beq_eq_false_iff_ne,bj,ne_eq];constructor;rintro⟨h1,h2⟩;refine⟨λh=>?_,λe he h3=>(h2 e he).resolve_left λh=>h h3⟩;rw[bj.2 h]at h1;cases h1;rintro⟨h1,h2⟩;refine⟨?_,λe he=>?_⟩;cases hc:o.contains v;rfl;exact(h1 (bj.1 hc)).elim;by_cases h3:e.2=(v:Int);exact .inr (h2 e he h3);exact .inl h3
def F7S(n:Nat)(E:oW)(o:List Nat):Option Nat:=(bA n).find? (F7Q E o)
structure TO (n:Nat)(E:oW)(o:List Nat):Prop where
 nd:o.Nodup
 yd:∀ v∈o,v<n
 ord:∀ (i:Nat) (hi:i<o.length),∀ e∈E,e.2=(o[i]:Int)->∃ j,j<i∧o[j]?=some e.1.toNat
theorem F7X{n:Nat}{E:oW}{o:List Nat}{v:Nat}(h:F7S n E o=some v):v<n/\F7Q E o v=true:=by unfold F7S at h;exact⟨cu.1 (List.mem_of_find?_eq_some h),List.find?_some h⟩
theorem TO.add{n:Nat}{E:oW}{o:List Nat}{v:Nat}(h:TO n E o)(hv:F7S n E o=some v):TO n E (o++[v]):=by obtain⟨hvn,hf⟩:=F7X hv;rw[F8b]at hf;refine⟨?_,?_,?_⟩;rw[aT];refine⟨h.nd,by simp,λa ha b hb e=>?_⟩;simp at hb;subst hb;subst e;exact hf.1 ha;intro w hw;rcases az.1 hw with h1|h1;exact h.yd w h1;rw[aX]at h1;subst h1;exact hvn;intro i hi e he h2;by_cases eC:i<o.length;rw[avk eC]at h2;obtain⟨j,hj,ES⟩:=h.ord i eC e he h2;exact⟨j,hj,by rw[cN (by omega)];exact ES⟩;(have hie:i=o.length:=by simp at hi;omega);subst hie;rw[List.getElem_append_right (ay _)]at h2;simp only[Nat.sub_self,List.getElem_cons_zero]at h2;obtain⟨j,hj,e2⟩:=pd (hf.2 e he h2);exact⟨j,hj,by rw[cN hj,ah hj,e2]⟩
end Go.Mid
namespace Go.Mid
end Go.Mid
namespace Go.Mid
theorem TO.pre{n:Nat}{E:oW}{o:List Nat}(h:TO n E o){b u:Nat}(hb:b∈o)(he:((u:Int),(b:Int))∈E):u∈o:=by obtain⟨i,hi,e⟩:=pd hb;obtain⟨j,_,hj⟩:=h.ord i hi _ he (by rw[e]);exact bH hj
end Go.Mid
namespace Go.Mid
theorem F0F:∀x:List UInt8,lP x x=false|[]=>rfl|a::x=>by simp[lP,F0F x]
theorem F1p:∀{x y z:List UInt8},lP x y=true->lP y z=true->lP x z=true|[],[],_,h,_=>by simp[lP]at h|_::_,[],_,h,_=>by simp[lP]at h|[],_::_,[],_,h=>by simp[lP]at h|[],_::_,_::_,_,_=>by simp[lP]|_::_,_::_,[],_,h=>by simp[lP]at h|a::x,b::y,c::z,h,k=>by simp only[lP,cn,decide_eq_true_eq,aj,beq_iff_eq]at h k|-;rcases h with h|⟨rfl,h⟩;rcases k with k|⟨rfl,k⟩;exact .inl (UInt8.lt_trans h k);exact .inl h;rcases k with k|⟨rfl,k⟩;exact .inl k;exact .inr ⟨rfl,F1p h k⟩
theorem F3t:∀(x y:List UInt8),x≠y->lP x y=false->lP y x=true|[],[],h,_=>(h rfl).elim|_::_,[],_,_=>by simp[lP]|[],_::_,_,h=>by simp[lP]at h|a::x,b::y,hne,h=>by simp only[lP,Bool.or_eq_false_iff,decide_eq_false_iff_not,Bool.and_eq_false_imp,beq_iff_eq]at h;simp only[lP,cn,decide_eq_true_eq,aj,beq_iff_eq];by_cases uO:a=b;subst uO;exact .inr ⟨rfl,F3t x y (λe=>hne (by rw[e])) (h.2 rfl)⟩;refine .inl ?_;rcases UInt8.lt_or_lt_of_ne uO with q|q;exact absurd q h.1;exact q
theorem toList_inj{x y:ByteArray}(h:x.toList=y.toList):x=y:=by rw[avG,avG]at h;exact ByteArray.ext (aSY.1 h)
abbrev Txt:=ByteArray
abbrev fb:=List (Txt×Bool)
abbrev eqS:Txt->Txt->Bool:=eqK TD.str
abbrev ltS:Txt->Txt->Bool:=ltK TD.str
theorem E5z{x y:Txt}:eqS x y=true↔x=y:=by show(x.toList==y.toList)=true↔_;rw[beq_iff_eq];exact⟨toList_inj,λh=>by rw[h]⟩
theorem F0c(x:Txt):ltS x x=false:=F0F _
theorem F0G{x y z:Txt}(h:ltS x y=true)(k:ltS y z=true):ltS x z=true:=F1p h k
theorem F4K{x y:Txt}(h:x≠y)(k:ltS x y=false):ltS y x=true:=F3t _ _ (λe=>h (toList_inj e)) k
def SE:fb->Prop|[]=>True|p::r=>p.2=true/\(∀q∈r,ltS p.1 q.1=true)/\SE r
def nb(l:fb):List Txt:=l.map (·.1)
theorem E9T{x z:Txt}:∀{l:fb},z∈nb (aBy ltS x true l)↔z=x\/z∈nb l|[]=>by simp[aBy,nb]|p::r=>by have ih:=E9T (x:=x) (z:=z) (l:=r);simp only[aBy];split;simp only[nb,aF,aG]at ih|-;rw[ih];constructor;rintro(h|h|h)<;>simp[h];rintro(h|h|h)<;>simp[h];simp[nb]
theorem E9U{x:Txt}:∀{l:fb},D80 eqS x l=true↔x∈nb l|[]=>by simp[D80,nb]|p::r=>by have ih:=E9U (x:=x) (l:=r);simp only[D80,nb,aF,aG];by_cases h:x=p.1;rw[if_pos (E5z.2 h)];simp[h];rw[if_neg (λe=>h (E5z.1 e)),ih];simp[h,nb]
theorem SE.aBy{x:Txt}:∀{l:fb},SE l->x∉nb l->SE (aBy ltS x true l)|[],_,_=>by simp[Mid.aBy,SE]|p::r,h,hx=>by simp only[nb,aF,aG,not_or]at hx;simp only[Mid.aBy];by_cases eC:ltS p.1 x=true;rw[if_pos eC];refine⟨h.1,λq hq=>?_,SE.aBy h.2.2 hx.2⟩;have:q.1∈nb (Mid.aBy ltS x true r):=List.mem_map_of_mem hq;rcases E9T.1 this with e|e;rw[e];exact eC;obtain⟨q',Z3,he⟩:=bp.1 e;have:=h.2.1 q' Z3;rw[he]at this;exact this;rw[if_neg eC];have hxp:ltS x p.1=true:=F4K (λe=>hx.1 e.symm) (by simpa using eC);refine⟨rfl,λq hq=>?_,h⟩;rcases aG.1 hq with rfl|hq;exact hxp;exact F0G hxp (h.2.1 q hq)
theorem E9g{x:Txt}:∀{l:fb},SE l->E9f eqS x true l=l|[],_=>rfl|p::r,h=>by simp only[E9f];by_cases e:x=p.1;rw[if_pos (E5z.2 e)];obtain⟨a,b⟩:=p;have h1:b=true:=h.1;subst h1;subst e;rfl;rw[if_neg (λq=>e (E5z.1 q)),E9g h.2.2]
theorem SE.put{x:Txt}{l:fb}(h:SE l):SE (D8N eqS ltS x true l):=by unfold D8N;split;rw[E9g h];exact h;rename_i hx;exact h.aBy λe=>hx (E9U.2 e)
theorem F0p{x z:Txt}{l:fb}(h:SE l):z∈nb (D8N eqS ltS x true l)↔z=x\/z∈nb l:=by unfold D8N;split;rename_i hx;rw[E9g h];exact⟨.inr,λe=>e.elim (λe=>by rw[e];exact E9U.1 hx) id⟩;exact E9T
theorem SE.eq:∀{l m:fb},SE l->SE m->(∀z,z∈nb l↔z∈nb m)->l=m|[],[],_,_,_=>rfl|[],q::s,_,_,h=>by have:=(h q.1).2 (by simp[nb]);simp[nb]at this|p::r,[],_,_,h=>by have:=(h p.1).1 (by simp[nb]);simp[nb]at this|p::r,q::s,hl,hm,h=>by(have le:∀{p q:Txt×Bool}{r s:fb},SE (p::r)->SE (q::s)->(∀z,z∈nb (p::r)↔z∈nb (q::s))->p.1=q.1\/ltS q.1 p.1=true:=by intro p q r s hl hm h;have:p.1∈nb (q::s):=(h p.1).1 (by simp[nb]);simp only[nb,aF,aG,bp]at this;rcases this with e|⟨a,ha,e⟩;exact .inl e;right;rw[<-e];exact hm.2.1 a ha);(have hpq:p.1=q.1:=by rcases le hl hm h with e|e;exact e;rcases le hm hl (λz=>(h z).symm)with e'|e';exact e'.symm;have:=F0G e e';rw[F0c]at this;cases this);(have hp:p=q:=by obtain⟨a,b⟩:=p;obtain⟨c,d⟩:=q;have h1:b=true:=hl.1;have h2:d=true:=hm.1;subst h1;subst h2;have h3:a=c:=hpq;rw[h3]);subst hp;(have hne:∀{r:fb},SE (p::r)->p.1∉nb r:=by intro r hr CT;obtain⟨a,ha,e⟩:=bp.1 CT;have:=hr.2.1 a ha;rw[e,F0c]at this;cases this);rw[SE.eq hl.2.2 hm.2.2 λz=>?_];have hz:=h z;simp only[nb,aF,aG]at hz;by_cases e:z=p.1;subst e;exact⟨λq=>absurd q (hne hl),λq=>absurd q (hne hm)⟩;simp only[e,false_or]at hz;exact hz
end Go.Mid
namespace Go.Mid
theorem E9h{a b:ByteArray}:Lv a b=eqS a b:=rfl
def E4Y(l:List ByteArray)(a:ByteArray):Bool:=l.any λb=>Lv b a
theorem E5Q{l:List ByteArray}{a:ByteArray}:E4Y l a=true↔a∈l:=by simp only[E4Y,List.any_eq_true,E9h,E5z];exact⟨λ⟨x,h,e⟩=>e▸h,λh=>⟨a,h,rfl⟩⟩
abbrev E5b:=ByteArray×Int×Int×ByteArray
abbrev tI:=ByteArray×List E5b
def E7K(k:Int)(i:Nat):Bool:=pL cG (jK cG k (i:Int)) (1:Int)==(1:Int)
def E81(head:List ByteArray)(k:Int)(i:Nat)(s:fb×fb)(u:E5b):fb×fb:=bif Lv u.1 {data:=#[]}then s else bif E4Y head u.1 then s else(bif E7K k i then D8N eqS ltS u.1 true s.1 else s.1,D8N eqS ltS u.1 true s.2)
structure AtS (head:List ByteArray)(k:Int)(terms:List E5b)(n:Nat)(s:fb×fb):Prop where
 ok1:SE s.1
 ok2:SE s.2
 GG:∀ z,z∈nb s.1↔∃ i u,i<n∧terms[i]?=some u∧u.1=z∧z≠{ data:=#[] }∧z∉head∧E7K k i=true
 aEE:∀ z,z∈nb s.2↔∃ i u,i<n∧terms[i]?=some u∧u.1=z∧z≠{ data:=#[] }∧z∉head
theorem AtS.step{head:List ByteArray}{k:Int}{terms:List E5b}{n:Nat}{s:fb×fb}(h:AtS head k terms n s){u:E5b}(hu:terms[n]?=some u):AtS head k terms (n+1) (E81 head k n s u):=by(have aGb:∀z,(∃i v,i<n+1/\terms[i]?=some v/\v.1=z/\z≠{data:=#[]}/\z∉head/\E7K k i=true)↔((∃i v,i<n/\terms[i]?=some v/\v.1=z/\z≠{data:=#[]}/\z∉head/\E7K k i=true)\/(u.1=z/\z≠{data:=#[]}/\z∉head/\E7K k n=true)):=by intro z;constructor;rintro⟨i,v,hi,h1,h2⟩;rcases mV.1 hi with hi|rfl;exact .inl ⟨i,v,hi,h1,h2⟩;rw[hu,aa]at h1;subst h1;exact .inr h2;rintro(⟨i,v,hi,h1⟩|h1);exact⟨i,v,by omega,h1⟩;exact⟨n,u,by omega,hu,h1⟩);(have aGc:∀z,(∃i v,i<n+1/\terms[i]?=some v/\v.1=z/\z≠{data:=#[]}/\z∉head)↔((∃i v,i<n/\terms[i]?=some v/\v.1=z/\z≠{data:=#[]}/\z∉head)\/(u.1=z/\z≠{data:=#[]}/\z∉head)):=by intro z;constructor;rintro⟨i,v,hi,h1,h2⟩;rcases mV.1 hi with hi|rfl;exact .inl ⟨i,v,hi,h1,h2⟩;rw[hu,aa]at h1;subst h1;exact .inr h2;rintro(⟨i,v,hi,h1⟩|h1);exact⟨i,v,by omega,h1⟩;exact⟨n,u,by omega,hu,h1⟩);(have same:(u.1={data:=#[]}\/u.1∈head)->AtS head k terms (n+1) s:=by intro hn;refine⟨h.ok1,h.ok2,λz=>?_,λz=>?_⟩;rw[aGb,h.GG];refine⟨.inl,λq=>q.elim id ?_⟩;rintro⟨rfl,q1,q2,_⟩;exact(hn.elim q1 q2).elim;rw[aGc,h.aEE];refine⟨.inl,λq=>q.elim id ?_⟩;rintro⟨rfl,q1,q2⟩;exact(hn.elim q1 q2).elim);unfold E81;by_cases he:u.1={data:=#[]};rw[show Lv u.1 {data:=#[]}=true from E5z.2 he,cond_true];exact same (.inl he);rw[show Lv u.1 {data:=#[]}=false from aSQ.2 λe=>he (E5z.1 e),cond_false];by_cases hh:u.1∈head;rw[E5Q.2 hh,cond_true];exact same (.inr hh);rw[show E4Y head u.1=false from aSQ.2 λe=>hh (E5Q.1 e),cond_false];refine⟨?_,h.ok2.put,λz=>?_,λz=>?_⟩;cases E7K k n;exact h.ok1;exact h.ok1.put;rw[aGb];cases hb:E7K k n;simp only[cond_false];rw[h.GG];simp;simp only[cond_true];rw[F0p h.ok1,h.GG];constructor;rintro(rfl|q);exact .inr ⟨rfl,he,hh,trivial⟩;exact .inl q;rintro(q|⟨q,_⟩);exact .inr q;exact .inl q.symm;rw[aGc];show z∈nb (D8N eqS ltS u.1 true s.2)↔_;rw[F0p h.ok2,h.aEE];constructor;rintro(rfl|q);exact .inr ⟨rfl,he,hh⟩;exact .inl q;rintro(q|⟨q,_⟩);exact .inr q;exact .inl q.symm
end Go.Mid
namespace Go.Mid
def E5O(keys:List (ByteArray×Int))(name:ByteArray):Int×Bool:=match keys.findIdx? (λp=>Lv p.1 name)with|some i=>((keys[i]?.getD ({data:=#[]},0)).2,true)|none=>(0,false)
theorem F1r(keys:List (ByteArray×Int))(name:ByteArray)(hl:keys.length<=1000000):E7s (keys,name)=some (E5O keys name):=by unfold E7s E4O;have:=Ma (f:=E4w) keys (λi=>(keys,name,(keys.length:Int),(i:Int))) (λ_ p=>Lv p.1 name) (λi=>.inl (i:Int)) (.inr ()) (λi hi=>by(have hi':(i:Int)<keys.length:=by omega);simp only[E4w,E8q,hi',decide_true,cond_true,aq,ar,ah hi,ai,iQ (show i<9223372036854775807 by omega)];cases Lv keys[i].1 name<;>rfl) (by simp only[E4w,ba,decide_false,cond_false]);simp only[av]at this;rw[this,D86];unfold E5O;cases h:keys.findIdx? (λp=>Lv p.1 name)with|none=>rfl|some i=>(have hi:i<keys.length:=by have:=aSV.1 h;omega);(have h1:decide ((i:Int)<0)=false:=by simp);(have h2:decide ((0:Int)<=(i:Int))=true:=by simp);simp only[ak,dG,ai,Sum.elim_inl,h1,cond_false,h2,cond_true,ar,ah hi,Option.getD_some]
def E6K(keys:List (ByteArray×Int))(head:List ByteArray)(a:tI):fb×fb:=(a.2.zipIdx).foldl (λs x=>E81 head (E5O keys a.1).1 x.2 s x.1) ([],[])
end Go.Mid
namespace Go.Mid
theorem E5K{a b:ByteArray}:Lv a b=true↔a=b:=by unfold Lv;rw[beq_iff_eq,avG,avG];constructor;intro h;cases a;cases b;congr 1;exact aSY.1 h;intro h;rw[h]
theorem E9j(a b:ByteArray):Lv a b=decide (a=b):=by by_cases h:a=b;rw[decide_eq_true h,E5K.2 h];rw[decide_eq_false h];cases he:Lv a b with|false=>rfl|true=>exact absurd (E5K.1 he) h
theorem F0e(a b:ByteArray):Lv a b=Lv b a:=by rw[E9j,E9j,decide_eq_decide];exact⟨Eq.symm,Eq.symm⟩
abbrev F0q:=Int×Int×ByteArray
abbrev F2L:=Int×List F0q
abbrev E4Z:=ByteArray×List ByteArray×List F2L
def E4N(x:F0q):Bool:=bif x.1==0 then bif x.2.1==0 then Lv x.2.2 ⟨#[]⟩else false else bif x.1==1 then Lv x.2.2 ⟨#[]⟩else bif x.1==2 then bif x.2.1==0 then decide ((x.2.2.size:Int)<=200)else false else bif x.1==3 then bif decide (x.2.1>=1)then Lv x.2.2 ⟨#[]⟩else false else false
theorem E8N(x:F0q):E7y x=some (E4N x):=by unfold E7y E4N;cases(x.1==0)<;>cases(x.1==1)<;>cases(x.1==2)<;>cases(x.1==3)<;>cases(x.2.1==0)<;>cases decide (x.2.1>=1)<;>rfl
theorem E9k(x:F0q):E54 x=some (E4N x):=by unfold E54 E4N;cases(x.1==0)<;>cases(x.1==1)<;>cases(x.1==2)<;>cases(x.1==3)<;>cases(x.2.1==0)<;>cases decide (x.2.1>=1)<;>rfl
theorem F3u(l:List F0q)(hl:l.length<=9223372036854775807):E6A l=some (l.all E4N):=by unfold E6A;have:=wo (f:=E5W) l (λi=>(l,(i:Int))) (λv=>!E4N v) (.inl false) (.inr ()) (λi hi=>by(have hi':(i:Int)<l.length:=by omega);simp only[E5W,hi',decide_true,cond_true,aq,ar,ah hi,ai,E9k,iQ (show i<9223372036854775807 by omega)];cases E4N l[i]<;>rfl) (by simp only[E5W,ba,decide_false,cond_false]);simp only[av]at this;rw[this];(have:l.any (λv=>!E4N v)=!l.all E4N:=by rw[gm];simp);rw[this];cases l.all E4N<;>rfl
theorem F0r(l:List F0q)(hl:l.length<=9223372036854775807):E6z l=some (l.all E4N):=by unfold E6z E4x E4z;have:=Ma (f:=E4l) l (λi=>(l,(),(l.length:Int),(i:Int))) (λ_ v=>!E4N v) (λi=>.inl (i:Int)) (.inr ()) (λi hi=>by(have hi':(i:Int)<l.length:=by omega);simp only[E4l,E6Q,hi',decide_true,cond_true,aq,ar,ah hi,ai,E8N,iQ (show i<9223372036854775807 by omega)];cases E4N l[i]<;>rfl) (by simp only[E4l,ba,decide_false,cond_false]);simp only[av]at this;rw[this];(have h2:l.any (λv=>!E4N v)=!l.all E4N:=by rw[gm];simp);rw[<-Bool.not_not (l.all E4N),<-h2,<-Qm (λv=>!E4N v) l 0];cases tm (λ_ v=>!E4N v) l 0 with|none=>rfl|some i=>simp
def E4S(c:UInt8):Bool:=(decide (97<=c.toNat)&&decide (c.toNat<=122))||(decide (65<=c.toNat)&&decide (c.toNat<=90))||decide (c.toNat=95)
def E5s(c:UInt8):Bool:=decide (48<=c.toNat)&&decide (c.toNat<=57)
def E82:ByteArray:=ByteArray.mk #[110,117,108,108]
def E47(s:ByteArray):Bool:=!Lv s ⟨#[]⟩&&decide (s.size<=24)&&!Lv s E82&&(match s.data.toList with|[]=>false|c::r=>E4S c&&r.all λc=>E4S c||E5s c)
theorem E9l(c:UInt8):E5T (c.toNat:Int)=some (E4S c):=by unfold E5T E4S;by_cases h1:97<=c.toNat<;>by_cases h2:c.toNat<=122<;>by_cases h3:65<=c.toNat<;>by_cases h4:c.toNat<=90<;>simp[h1,h2,h3,h4,Int.ofNat_le,show((c.toNat:Int)>=97)↔97<=c.toNat by omega,show((c.toNat:Int)<=122)↔c.toNat<=122 by omega,show((c.toNat:Int)>=65)↔65<=c.toNat by omega,show((c.toNat:Int)<=90)↔c.toNat<=90 by omega]<;>(rw[dk];simp;omega)
theorem E78(s:ByteArray):s.size=s.data.toList.length:=by rw[Array.length_toList];rfl
theorem E9W(s:ByteArray)(i:Nat)(h:i<s.data.toList.length):s.data[i]?=some s.data.toList[i]:=by rw[<-ah h,kB]
theorem F3v(s:ByteArray)(i:Nat)(h:i<s.data.toList.length)(hl:s.data.toList.length<=24):E6n (s,(s.data.toList.length:Int),(i:Int))=if(!E4S s.data.toList[i]&&(decide (i=0)||!E5s s.data.toList[i]))then some (.inr (.inl false))else some (.inl (s,(s.data.toList.length:Int),((i+1:Nat):Int))):=by(have hi':(i:Int)<s.data.toList.length:=by omega);simp only[E6n,hi',decide_true,cond_true,aq,ar,E9W s i h,ai,iQ (show i<9223372036854775807 by omega)];generalize s.data.toList[i]=c;unfold E4S E5s;(have e0:((i:Int)==0)=decide (i=0):=by rw[dk];simp);(have e5:((c.toNat:Int)==95)=decide (c.toNat=95):=by rw[dk];simp;omega);simp only[e0,e5,ge_iff_le,gt_iff_lt,show(97:Int)<=c.toNat↔97<=c.toNat by omega,show((c.toNat:Int)<=122)↔c.toNat<=122 by omega,show((65:Int)<=c.toNat)↔65<=c.toNat by omega,show((c.toNat:Int)<=90)↔c.toNat<=90 by omega,show((c.toNat:Int)<48)↔¬48<=c.toNat by omega,show((57:Int)<c.toNat)↔¬c.toNat<=57 by omega,decide_not];cases decide (97<=c.toNat)<;>cases decide (c.toNat<=122)<;>cases decide (65<=c.toNat)<;>cases decide (c.toNat<=90)<;>cases decide (c.toNat=95)<;>cases decide (i=0)<;>cases decide (48<=c.toNat)<;>cases decide (c.toNat<=57)<;>rfl
theorem F0H(s:ByteArray):E7c s=some (E47 s):=by unfold E7c E47;rw[E78];show(bif Lv s ⟨#[]⟩then _ else bif _ then _ else bif Lv s E82 then _ else _)=_;cases h1:Lv s ⟨#[]⟩;(case true=>rfl);simp only[cond_false,auI,dm,gt_iff_lt];by_cases h2:(24:Int)<(s.data.toList.length:Int);(have:¬s.data.toList.length<=24:=by omega);simp only[h2,this,decide_true,decide_false,cond_true,sS];(have hl:s.data.toList.length<=24:=by omega);simp only[h2,decide_false,cond_false,hl,decide_true,dm];cases h3:Lv s E82;(case true=>rfl);simp only[cond_false,auI,dm];have:=Ma (f:=E6n) s.data.toList (λi=>(s,(s.data.toList.length:Int),(i:Int))) (λi c=>!E4S c&&(decide (i=0)||!E5s c)) (λ_=>.inl false) (.inr ()) (λi hi=>F3v s i hi hl) (by simp only[E6n,ba,decide_false,cond_false]);simp only[av]at this;rw[this];generalize hL:s.data.toList=L;(have hne:L≠[]:=by intro h0;rw[h0]at hL;(have:s=⟨#[]⟩:=by cases s;congr 1;exact aSY.1 hL);rw[E5K.2 this]at h1;cases h1);cases L with|nil=>exact absurd rfl hne|cons c r=>simp only[tm,decide_true,tB,fQ];cases hc:E4S c;simp;simp only[bO,aI,if_false,dm];(have key:∀(r:List UInt8)(k:Nat),0<k->(tm (λi c=>!E4S c&&(decide (i=0)||!E5s c)) r k).isNone=r.all λc=>E4S c||E5s c:=by intro r;induction r with|nil=>intro k _;rfl|cons a r ih=>intro k hk;have hk0:decide (k=0)=false:=decide_eq_false (by omega);simp only[tm,hk0,gL,List.all_cons];cases ha:E4S a<;>cases hd:E5s a<;>simp[ih (k+1) (by omega)]);have:=key r (0+1) (by omega);rw[<-this];cases tm (λi c=>!E4S c&&(decide (i=0)||!E5s c)) r (0+1)<;>rfl
theorem E83(s:ByteArray):E5M s=some (E47 s):=by unfold E5M E47;rw[E78];generalize hL:s.data.toList=L;cases L with|nil=>(have:s=⟨#[]⟩:=by cases s;congr 1;exact aSY.1 hL);rw[E5K.2 this];rfl|cons c r=>(have hne:Lv s ⟨#[]⟩=false:=by cases h:Lv s ⟨#[]⟩with|false=>rfl|true=>rw[E5K.1 h]at hL;cases hL);(have e0:(((c::r).length:Int)==0)=false:=by rw[beq_eq_false_iff_ne];simp only[bf];omega);(have hd:s.data[0]?=some c:=by rw[<-kB,hL];rfl);simp only[e0,cond_false,hne,auI,dm,gt_iff_lt,hd,ai,E9l];by_cases h2:(24:Int)<((c::r).length:Int);(have:¬(c::r).length<=24:=by omega);simp only[h2,this,decide_true,decide_false,cond_true,sS];(have hl:(c::r).length<=24:=by omega);simp only[h2,decide_false,cond_false,hl,decide_true,dm];cases hc:E4S c;simp;simp only[bO,cond_false,dm];show(bif Lv s E82 then _ else _)=_;cases h3:Lv s E82;(case true=>rfl);simp only[cond_false,auI,dm];rw[<-hL]at hl;have:=wo (f:=E6t) s.data.toList (λi=>(s,(i:Int))) (λc=>!(E4S c||E5s c)) (.inl false) (.inr ()) (λi hi=>by(have hi':(i:Int)<s.size:=by rw[E78];omega);simp only[E6t,hi',decide_true,cond_true,aq,ar,E9W s i hi,ai,E9l,iQ (show i<9223372036854775807 by omega)];generalize s.data.toList[i]=c;unfold E5s;simp only[gt_iff_lt,show((c.toNat:Int)<48)↔¬48<=c.toNat by omega,show((57:Int)<c.toNat)↔¬c.toNat<=57 by omega,decide_not];cases E4S c<;>cases decide (48<=c.toNat)<;>cases decide (c.toNat<=57)<;>rfl) (by simp only[E6t,E78,ba,decide_false,cond_false]);simp only[av]at this;rw[this,hL];simp only[List.any_cons,hc,tB,bO,gL];(have h2:r.any (λc=>!(E4S c||E5s c))=!r.all (λc=>E4S c||E5s c):=by rw[gm];simp);rw[h2];cases r.all (λc=>E4S c||E5s c)<;>rfl
def E5m(l:List ByteArray)(a:ByteArray):Bool:=l.any λb=>Lv b a
theorem F0f(l:List ByteArray)(a:ByteArray)(hl:l.length<=9223372036854775807):E4F (l,a)=some (E5m l a):=by unfold E4F E5L E5m;have:=Ma (f:=E4L) l (λi=>(l,a,(l.length:Int),(i:Int))) (λ_ b=>Lv b a) (λi=>.inl (i:Int)) (.inr ()) (λi hi=>by(have hi':(i:Int)<l.length:=by omega);simp only[E4L,hi',decide_true,cond_true,aq,ar,ah hi,ai,F0e a,iQ (show i<9223372036854775807 by omega)];cases Lv l[i] a<;>rfl) (by simp only[E4L,ba,decide_false,cond_false]);simp only[av]at this;rw[this,<-Qm (λb=>Lv b a) l 0];cases tm (λ_ b=>Lv b a) l 0 with|none=>rfl|some i=>simp
theorem E8O(l:List ByteArray)(a:ByteArray)(hl:l.length<=9223372036854775807):E48 (l,a)=some (match l.findIdx? λb=>Lv b a with|some i=>(i:Int)|none=>-1):=by unfold E48;have:=Ma (f:=E6m) l (λi=>(l,a,(i:Int))) (λ_ b=>Lv b a) (λi=>.inl (i:Int)) (.inr ()) (λi hi=>by(have hi':(i:Int)<l.length:=by omega);simp only[E6m,hi',decide_true,cond_true,aq,ar,ah hi,ai,iQ (show i<9223372036854775807 by omega)];cases Lv l[i] a<;>rfl) (by simp only[E6m,ba,decide_false,cond_false]);simp only[av]at this;rw[this,D86];cases l.findIdx? (λb=>Lv b a)<;>simp
theorem E7z(l:List ByteArray)(a:ByteArray):E5m l a=decide ((match l.findIdx? λb=>Lv b a with|some i=>(i:Int)|none=>-1)>=0):=by unfold E5m;rw[<-Qm (λb=>Lv b a) l 0,D86];cases l.findIdx? (λb=>Lv b a)<;>simp
def E7M:List ByteArray->List ByteArray->Bool|_,[]=>true|p,a::r=>E47 a&&!E5m p a&&E7M (p++[a]) r
theorem F0g{B:Type}(bad aGg:B)(L:List ByteArray):∀(l:List ByteArray)(i:Nat),L.drop i=l->i<=L.length->Fu (S:=Unit) (λi _ a=>if(!E47 a||E5m (L.take i) a)=true then some (.inr bad)else some (.inl ())) (λ_=>some aGg) l i ()=some (if E7M (L.take i) l then aGg else bad):=by intro l;induction l with|nil=>intro i _ _;rfl|cons a r ih=>intro i hd hi;(have hi':i<L.length:=by have:=congrArg List.length hd;simp at this;omega);(have hx:L[i]=a/\L.drop (i+1)=r:=by rw[List.drop_eq_getElem_cons hi']at hd;exact List.cons.inj hd);(have ht:L.take (i+1)=L.take i++[a]:=by rw[auR hi',hx.1]);simp only[Fu,E7M];rcases nv (E47 a)with h1|h1<;>rcases nv (E5m (L.take i) a)with h2|h2<;>simp only[h1,h2,bO,auI,Bool.or_true,Bool.or_false,fQ,Bool.and_false,dm,sS,aI,if_true,if_false];rw[ih (i+1) hx.2 hi',ht]
theorem F3U(L:List ByteArray)(hl:L.length<=9223372036854775807):E6G L=some (E7M [] L):=by unfold E6G;have:=C7j (S:=Unit) (f:=E57) L (λi _=>(L,(i:Int))) (λi _ a=>if(!E47 a||E5m (L.take i) a)=true then some (.inr (.inl false))else some (.inl ())) (λ_=>some (.inr ())) (λi hi _=>by(have hi':(i:Int)<L.length:=by omega);have hb:i.ble L.length=true:=auP (by omega);have ha:=E8O (L.take i) L[i] (by rw[aW];omega);have hh:=E7z (L.take i) L[i];simp only[E57,hi',decide_true,cond_true,aq,ar,ah hi,ai,E83,hb,ha,<-hh,iQ (show i<9223372036854775807 by omega)];cases E47 L[i]<;>cases E5m (L.take i) L[i]<;>rfl) (λ_=>by simp only[E57,ba,decide_false,cond_false];rfl) ();simp only[av]at this;rw[this,F0g (B:=Bool⊕PUnit) (.inl false) (.inr ()) L L 0 rfl (dg _)];simp only[ff];rcases nv (E7M [] L)with h|h<;>simp[h]
def E8k(n:Nat):Int->List F2L->Int|_,[]=>0|p,r::l=>if r.1<=p then 1 else if r.2.length≠n then 6 else if r.2.all E4N then E8k n r.1 l else 1
def E8b(t:E4Z):Int:=if E47 t.1 then(if t.2.1.length>16 then 3 else if t.2.2.length>1000 then 3 else if E7M [] t.2.1 then E8k t.2.1.length 0 t.2.2 else 1)else 1
def F0s(t:E4Z):Prop:=∀r∈t.2.2,r.2.length<=9223372036854775807
theorem F0I{B:Type}(b:Int->B)(n:Nat):∀(l:List F2L)(i:Nat)(p:Int),Fu (S:=Int) (λ_ p r=>if r.1<=p then some (.inr (b 1))else if r.2.length≠n then some (.inr (b 6))else if r.2.all E4N then some (.inl r.1)else some (.inr (b 1))) (λ_=>some (b 0)) l i p=some (b (E8k n p l)):=by intro l;induction l with|nil=>intro i p;rfl|cons r l ih=>intro i p;simp only[Fu,E8k];by_cases h1:r.1<=p;simp[h1];by_cases h2:r.2.length≠n;simp[h1,h2];by_cases h3:r.2.all E4N=true;simp only[h1,h2,h3,if_false,if_true,ih];simp only[h1,h2,h3,if_false];rfl
theorem F3w(a b:Nat):((a:Int)!=(b:Int))=decide (a≠b):=by rw[dk];simp;omega
theorem F0t(t:E4Z)(h:F0s t):E71 t=some (E8b t):=by obtain⟨nm,aas,rs⟩:=t;unfold E71 E8b;simp only[F0H,ai,gt_iff_lt];cases hn:E47 nm;rfl;simp only[bO,cond_false,if_true];by_cases h1:(16:Int)<(aas.length:Int);(have:16<aas.length:=by omega);simp[h1,this];(have vR:¬16<aas.length:=by omega);by_cases h2:(1000:Int)<(rs.length:Int);(have:1000<rs.length:=by omega);simp[h1,h2,vR,this];(have sA:¬1000<rs.length:=by omega);simp only[h1,h2,vR,sA,decide_false,cond_false,if_false];have e1:=C7j (S:=Unit) (f:=E7p) aas (λi _=>((aas,(aas.length:Int),(i:Int)),nm,aas,rs)) (λi _ a=>if(!E47 a||E5m (aas.take i) a)=true then some (.inr (.inl 1))else some (.inl ())) (λ_=>some (.inr (nm,aas,rs))) (λi hi _=>by(have hi':(i:Int)<aas.length:=by omega);have hb:i.ble aas.length=true:=auP (by omega);have ha:=F0f (aas.take i) aas[i] (by rw[aW];omega);simp only[E7p,hi',decide_true,cond_true,aq,ar,ah hi,ai,F0H,hb,ha,iQ (show i<9223372036854775807 by omega)];cases E47 aas[i]<;>cases E5m (aas.take i) aas[i]<;>rfl) (λ_=>by simp only[E7p,ba,decide_false,cond_false];rfl) ();have e2:=C7j (S:=Int) (f:=E7q) rs (λi p=>((p,rs,(rs.length:Int),(i:Int)),nm,aas,rs)) (λ_ p r=>if r.1<=p then some (.inr (.inl 1))else if r.2.length≠aas.length then some (.inr (.inl 6))else if r.2.all E4N then some (.inl r.1)else some (.inr (.inl 1))) (λ_=>some (.inr ())) (λi hi p=>by(have hi':(i:Int)<rs.length:=by omega);have hr:=h rs[i] (aM hi);simp only[E7q,hi',decide_true,cond_true,aq,ar,ah hi,ai,F0r _ hr,F3w,iQ (show i<9223372036854775807 by omega)];by_cases c1:(rs[i]).1<=p;simp[c1];by_cases c2:(rs[i]).2.length≠aas.length;simp[c1,c2];cases c3:(rs[i]).2.all E4N<;>simp[c1,c2,c3]) (λp=>by simp only[E7q,ba,decide_false,cond_false];rfl) 0;simp only[av]at e1 e2;rw[e1,F0g (B:=Int⊕E4Z) (.inl 1) (.inr (nm,aas,rs)) aas aas 0 rfl (dg _)];simp only[ff];by_cases nu:E7M [] aas=true;(case neg=>simp[nu]);simp only[nu,if_true,ai,Sum.elim_inr];rw[e2];have:=F0I (B:=Int⊕PUnit) (λe=>if e=0 then .inr ()else .inl e) aas.length rs 0 0;simp only[show(1:Int)≠0 by decide,show(6:Int)≠0 by decide,if_false,if_true]at this;rw[this];by_cases h0:E8k aas.length 0 rs=0;simp[h0];simp[h0]
theorem E9m(t:E4Z)(h:F0s t):E6H t=some (E8b t):=by obtain⟨nm,aas,rs⟩:=t;unfold E6H E8b;simp only[E83,ai,gt_iff_lt];cases hn:E47 nm;rfl;simp only[bO,cond_false,if_true];by_cases h1:(16:Int)<(aas.length:Int);(have:16<aas.length:=by omega);simp[h1,this];(have vR:¬16<aas.length:=by omega);by_cases h2:(1000:Int)<(rs.length:Int);(have:1000<rs.length:=by omega);simp[h1,h2,vR,this];(have sA:¬1000<rs.length:=by omega);simp only[h1,h2,vR,sA,decide_false,cond_false,if_false];rw[F3U aas (by omega)];simp only[ai];cases E7M [] aas;rfl;simp only[if_true,bO,cond_false];have e2:=C7j (S:=Int) (f:=E58) rs (λi p=>((p,(i:Int)),nm,aas,rs)) (λ_ p r=>if r.1<=p then some (.inr (.inl 1))else if r.2.length≠aas.length then some (.inr (.inl 6))else if r.2.all E4N then some (.inl r.1)else some (.inr (.inl 1))) (λ_=>some (.inr ())) (λi hi p=>by(have hi':(i:Int)<rs.length:=by omega);have hr:=h rs[i] (aM hi);simp only[E58,hi',decide_true,cond_true,aq,ar,ah hi,ai,F3u _ hr,F3w,iQ (show i<9223372036854775807 by omega)];by_cases c1:(rs[i]).1<=p;simp[c1];by_cases c2:(rs[i]).2.length≠aas.length;simp[c1,c2];cases c3:(rs[i]).2.all E4N<;>simp[c1,c2,c3]) (λp=>by simp only[E58,ba,decide_false,cond_false];rfl) 0;simp only[av]at e2;rw[e2];have:=F0I (B:=Int⊕PUnit) (λe=>if e=0 then .inr ()else .inl e) aas.length rs 0 0;simp only[show(1:Int)≠0 by decide,show(6:Int)≠0 by decide,if_false,if_true]at this;rw[this];by_cases h0:E8k aas.length 0 rs=0;simp[h0];simp[h0]
end Go.Mid
namespace Go.Mid
theorem F2e(l:List (ByteArray×Int))(a:ByteArray)(hl:l.length<=9223372036854775807):E5g (l,a)=some (match l.findIdx? λb=>Lv b.1 a with|some i=>(i:Int)|none=>-1):=by unfold E5g;have:=Ma (f:=E6v) l (λi=>(l,a,(i:Int))) (λ_ b=>Lv b.1 a) (λi=>.inl (i:Int)) (.inr ()) (λi hi=>by(have hi':(i:Int)<l.length:=by omega);simp only[E6v,hi',decide_true,cond_true,aq,ar,ah hi,ai,iQ (show i<9223372036854775807 by omega)];cases Lv l[i].1 a<;>rfl) (by simp only[E6v,ba,decide_false,cond_false]);simp only[av]at this;rw[this,D86];cases l.findIdx? (λb=>Lv b.1 a)<;>simp
theorem E7T(l:List ByteArray)(a:ByteArray)(hl:l.length<=9223372036854775807):E4R (l,a)=some (E4Y l a):=by unfold E4R;rw[E8O l a hl,ai];exact congrArg some (E7z l a).symm
structure Lst (l:List ByteArray)(P:ByteArray->Prop):Prop where
 nd:l.Nodup
 mem:∀ z,z∈l↔P z
theorem Lst.snoc{l:List ByteArray}{P:ByteArray->Prop}(h:Lst l P){a:ByteArray}(ha:E4Y l a=false):Lst (l++[a]) (λz=>P z\/z=a)where
 nd:=by(have:a∉l:=λm=>by rw[E5Q.2 m]at ha;cases ha);rw[aT];refine⟨h.nd,by simp,?_⟩;rintro x hx y hy rfl;simp at hy;subst hy;exact this hx
 mem:=λz=>by simp[h.mem]
theorem Lst.aBn{l:List ByteArray}{P Q:ByteArray->Prop}(h:Lst l P)(e:∀z,P z↔Q z):Lst l Q:=⟨h.nd,λz=>by rw[h.mem,e]⟩
theorem Lst.has{l:List ByteArray}{P:ByteArray->Prop}(h:Lst l P)(a:ByteArray):E4Y l a=true↔P a:=by rw[E5Q,h.mem]
theorem Lst.not{l:List ByteArray}{P:ByteArray->Prop}(h:Lst l P){a:ByteArray}(e:E4Y l a=false):¬P a:=λq=>by rw[(h.has a).2 q]at e;cases e
end Go.Mid
namespace Go.Mid
abbrev w32:Nat:=4294967296
theorem F1s{x:Int}(h1:0<=x)(h2:x<4294967296):cG.wrap x=x:=by simp only[IntKind.wrap,IntKind.bits,IntKind.signed];simp;omega
theorem E9n{n:Nat}(h:n<w32):cG.wrap (n:Int)=(n:Int):=F1s (by omega) (by unfold w32 at h;omega)
theorem E8z(m:Nat):b8 32 (m:Int)=BitVec.ofNat 32 m:=by simp
theorem F2f{m n:Nat}(hm:m<w32)(hn:n<w32):pL .u32 (m:Int) (n:Int)=((m&&&n:Nat):Int):=by(have h:(b8 cG.bits (m:Int)&&&b8 cG.bits (n:Int)).toNat=m&&&n:=by show(b8 32 (m:Int)&&&b8 32 (n:Int)).toNat=_;rw[E8z,E8z,BitVec.toNat_and,iu,iu,aSU (by exact hm),aSU (by exact hn)]);unfold pL;rw[h];exact E9n (Nat.lt_of_le_of_lt Nat.and_le_left hm)
theorem F5y{m n:Nat}(hm:m<w32)(hn:n<w32):uS .u32 (m:Int) (n:Int)=((m|||n:Nat):Int):=by(have h:(b8 cG.bits (m:Int)|||b8 cG.bits (n:Int)).toNat=m|||n:=by show(b8 32 (m:Int)|||b8 32 (n:Int)).toNat=_;rw[E8z,E8z,BitVec.toNat_or,iu,iu,aSU (by exact hm),aSU (by exact hn)]);unfold uS;rw[h];exact E9n (Nat.or_lt_two_pow (n:=32) hm hn)
theorem F4M{m i:Nat}(hi:i<=32):jK .u32 (m:Int) (i:Int)=((m>>>i:Nat):Int):=by unfold jK;(have e:min ((i:Int).toNat) cG.bits=i:=by show min i 32=i;omega);rw[e,mz];(have:((2:Int)^i)=((2^i:Nat):Int):=by simp);rw[this];exact Int.ofNat_fdiv m (2^i)|>.symm
end Go.Mid
namespace Go.Mid
theorem F4N(i:Nat):(2^i-1)|||2^i=2^(i+1)-1:=by apply Nat.eq_of_testBit_eq;intro j;rw[Nat.testBit_or,iJ,iJ,Nat.testBit_two_pow];by_cases h1:j<i;simp[h1,Nat.lt_succ_of_lt h1];by_cases h2:i=j;subst h2;simp;(have:¬j<i+1:=by omega);simp[h1,h2,this]
theorem F4O{i:Nat}(hi:i<32):qZ cG 1 (i:Int)=((2^i:Nat):Int):=by unfold qZ;(have e:min ((i:Int).toNat) cG.bits=i:=by show min i 32=i;omega);rw[e,Int.one_mul];(have:((2:Int)^i)=((2^i:Nat):Int):=by simp);rw[this];exact E9n (oM (by decide) hi)
theorem F1t{i:Nat}(hi:i<=32):2^i<=w32:=Nat.pow_le_pow_right (show 2>0 by decide) hi
theorem F2g{n:Nat}(hn:n<32):E6l (n:Int)=some ((2^n-1:Nat):Int):=by unfold E6l;have:A0d E5E ((n:Int),0,0)=some ((2^n-1:Nat):Int):=tQ (f:=E5E) n (λi=>((n:Int),((2^i-1:Nat):Int),(i:Int))) ((2^n-1:Nat):Int) (λi hi=>by(have hi':(i:Int)<n:=by omega);(have h32:(i:Int)<32:=by omega);have hp:=F1t (show i<=32 by omega);have JR:2^i<w32:=oM (by decide) (show i<32 by omega);have tK:0<2^i:=fD i;simp only[E5E,hi',h32,decide_true,cond_true,aq,F4O (show i<32 by omega),F5y (show 2^i-1<w32 by omega) JR,F4N,iQ (show i<9223372036854775807 by omega)]) (by simp only[E5E,ba,decide_false,cond_false]);rw[this];rfl
end Go.Mid
namespace Go.Mid
def E4I{α:Type}(e:Nat->α->Int):List α->Nat->Int|[],_=>0|x::r,i=>if e i x=0 then E4I e r (i+1)else e i x
theorem E5R{A B α:Type}{f:A->Option (A⊕B)}(l:List α)(st:Nat->A)(e:Nat->α->Int)(mk:Int->B)(fin:B)(h1:∀i(h:i<l.length),f (st i)=if e i l[i]=0 then some (.inl (st (i+1)))else some (.inr (mk (e i l[i]))))(h2:f (st l.length)=some (.inr fin)):A0d f (st 0)=some (if E4I e l 0=0 then fin else mk (E4I e l 0)):=by rw[C7j (S:=Unit) (f:=f) l (λi _=>st i) (λi _ x=>if e i x=0 then some (.inl ())else some (.inr (mk (e i x)))) (λ_=>some fin) (λi h _=>by rw[h1 i h];split<;>rfl) (λ_=>by rw[h2];rfl) ()];(have:∀(r:List α)(i:Nat),Fu (S:=Unit) (λi _ x=>if e i x=0 then some (.inl ())else some (.inr (mk (e i x)))) (λ_=>some fin) r i ()=some (if E4I e r i=0 then fin else mk (E4I e r i)):=by intro r;induction r with|nil=>intro i;rfl|cons x r ih=>intro i;simp only[Fu,E4I];by_cases h:e i x=0;simp only[h,if_true];exact ih (i+1);simp only[h,if_false]);exact this l 0
theorem E7A{α:Type}{e:Nat->α->Int}:∀{l:List α}{i:Nat},E4I e l i=0↔∀j(h:j<l.length),e (i+j) l[j]=0|[],i=>by simp[E4I]|x::r,i=>by simp only[E4I];constructor;intro h j hj;split at h;rename_i h0;(cases j with|zero=>exact h0|succ j=>have:=E7A.1 h j (by simpa using hj);rw[show i+1+j=i+(j+1)by omega]at this;exact this);rename_i h0;exact(h0 h).elim;intro h;rw[if_pos (show e i x=0 from h 0 (by simp))];exact E7A.2 λj hj=>by have:=h (j+1) (by simpa using hj);rw[show i+1+j=i+(j+1)by omega];exact this
def E6S(l:List E4Z)(a:ByteArray):Option Nat:=l.findIdx? λt=>Lv t.1 a
def E9o(o:Option Nat):Int:=match o with|some i=>(i:Int)|none=>-1
theorem F1u(l:List E4Z)(a:ByteArray)(hl:l.length<=1000000):E51 (l,a)=some (E9o (E6S l a)):=by unfold E51 E4C;have:=Ma (f:=E4q) l (λi=>(l,a,(l.length:Int),(i:Int))) (λ_ t=>Lv t.1 a) (λi=>.inl (i:Int)) (.inr ()) (λi hi=>by(have hi':(i:Int)<l.length:=by omega);simp only[E4q,E7G,hi',decide_true,cond_true,aq,ar,ah hi,ai,iQ (show i<9223372036854775807 by omega)];cases Lv l[i].1 a<;>rfl) (by simp only[E4q,ba,decide_false,cond_false]);simp only[av]at this;rw[this,D86];unfold E6S E9o;cases l.findIdx? (λt=>Lv t.1 a)<;>simp
theorem E9p(l:List E4Z)(a:ByteArray)(hl:l.length<=1000000):E5y (l,a)=some (E9o (E6S l a)):=by unfold E5y;have:=Ma (f:=E59) l (λi=>(l,a,(i:Int))) (λ_ t=>Lv t.1 a) (λi=>.inl (i:Int)) (.inr ()) (λi hi=>by(have hi':(i:Int)<l.length:=by omega);simp only[E59,hi',decide_true,cond_true,aq,ar,ah hi,ai,iQ (show i<9223372036854775807 by omega)];cases Lv l[i].1 a<;>rfl) (by simp only[E59,ba,decide_false,cond_false]);simp only[av]at this;rw[this,D86];unfold E6S E9o;cases l.findIdx? (λt=>Lv t.1 a)<;>simp
def E9X(l:List E4Z)(i:Nat)(t:E4Z):Int:=if E8b t=0 then(if(E6S (l.take i) t.1).isSome then 5 else 0)else E8b t
def dbE(l:List E4Z):Int:=if l.length>50 then 3 else E4I (E9X l) l 0
theorem F2h(o:Option Nat):decide (E9o o>=0)=o.isSome:=by cases o with|none=>rfl|some i=>simp[E9o]
theorem E8P{l:List E4Z}(h:dbE l=0):l.length<=50:=by unfold dbE at h;split at h;cases h;omega
theorem F3x(l:List E4Z)(h:∀t∈l,F0s t):E6U l=some (dbE l):=by unfold E6U dbE;by_cases h50:l.length>50;(have:(l.length:Int)>50:=by omega);simp only[this,decide_true,cond_true,if_pos h50];(have h51:¬(l.length:Int)>50:=by omega);simp only[h51,decide_false,cond_false,if_neg h50];have:=E5R (f:=E6o) l (λi=>((l,(l.length:Int),(i:Int)),l)) (E9X l) .inl (.inr ()) (λi hi=>by(have hi':(i:Int)<l.length:=by omega);have ht:=F0t l[i] (h _ (aM hi));have hf:=F1u (l.take i) l[i].1 (by rw[aW];omega);simp only[E6o,hi',decide_true,cond_true,aq,ar,ah hi,ai,ht,jE (fH hi),hf,F2h,iQ (show i<9223372036854775807 by omega),E9X];by_cases h0:E8b l[i]=0;simp only[h0,bne_self_eq_false,cond_false,if_true];cases(E6S (l.take i) l[i].1).isSome<;>rfl;simp only[bne_iff_ne.2 h0,cond_true,if_neg h0]) (by simp only[E6o,ba,decide_false,cond_false]);simp only[av]at this;rw[this,ai];split;rename_i h0;rw[h0];rfl;rfl
theorem F5z(l:List E4Z)(h:∀t∈l,F0s t):E6a l=some (dbE l):=by unfold E6a dbE;by_cases h50:l.length>50;(have:(l.length:Int)>50:=by omega);simp only[this,decide_true,cond_true,if_pos h50];(have h51:¬(l.length:Int)>50:=by omega);simp only[h51,decide_false,cond_false,if_neg h50];have:=E5R (f:=E5A) l (λi=>((i:Int),l)) (E9X l) .inl (.inr ()) (λi hi=>by(have hi':(i:Int)<l.length:=by omega);have ht:=E9m l[i] (h _ (aM hi));have hf:=E9p (l.take i) l[i].1 (by rw[aW];omega);simp only[E5A,hi',decide_true,cond_true,aq,ar,ah hi,ai,ht,jE (fH hi),hf,F2h,iQ (show i<9223372036854775807 by omega),E9X];by_cases h0:E8b l[i]=0;simp only[h0,bne_self_eq_false,cond_false,if_true];cases(E6S (l.take i) l[i].1).isSome<;>rfl;simp only[bne_iff_ne.2 h0,cond_true,if_neg h0]) (by simp only[E5A,ba,decide_false,cond_false]);simp only[av]at this;rw[this,ai];split;rename_i h0;rw[h0];rfl;rfl
theorem F0u{l:List E4Z}(h:dbE l=0){t:E4Z}(ht:t∈l):E8b t=0:=by unfold dbE at h;split at h;cases h;obtain⟨j,hj,rfl⟩:=pd ht;have:=E7A.1 h j hj;unfold E9X at this;split at this;assumption;rename_i h0;exact(h0 this).elim
theorem E9q{t:E4Z}(h:E8b t=0):E47 t.1=true/\t.2.1.length<=16:=by unfold E8b at h;split at h;rename_i h1;split at h;cases h;exact⟨h1,by omega⟩;cases h
end Go.Mid
namespace Go.Mid
def occ(ts:List E5b)(n:Nat)(z:ByteArray):Prop:=z≠{data:=#[]}/\∃k u,k<n/\ts[k]?=some u/\u.1=z
theorem E9Y{ts:List E5b}{n:Nat}{u:E5b}(hu:ts[n]?=some u)(z:ByteArray):occ ts (n+1) z↔(occ ts n z\/(z≠{data:=#[]}/\z=u.1)):=by constructor;rintro⟨h0,k,v,hk,h1,h2⟩;rcases mV.1 hk with hk|rfl;exact .inl ⟨h0,k,v,hk,h1,h2⟩;rw[hu,aa]at h1;subst h1;exact .inr ⟨h0,h2.symm⟩;rintro(⟨h0,k,v,hk,h1,h2⟩|⟨h0,h1⟩);exact⟨h0,k,v,by omega,h1,h2⟩;exact⟨h0,n,u,by omega,hu,h1.symm⟩
theorem F2N{l:List tI}{i:Nat}(hi:i<l.length)(ht:l[i].2.length<=1000){P:ByteArray->Prop}{s0:List ByteArray}(h0:Lst s0 P)(hs:s0.length<=1000000):∃s,A0d E4Q ((l,s0.length,(i:Int),(0:Int)),s0)=some ((l,s.length,(i:Int)),s)/\Lst s (λz=>P z\/occ l[i].2 l[i].2.length z)/\s.length<=s0.length+l[i].2.length:=by have key:=V4 (f:=E4Q) (S:=List ByteArray) l[i].2.length (λk s=>((l,s.length,(i:Int),(k:Int)),s)) (λk s=>Lst s (λz=>P z\/occ l[i].2 k z)/\s.length<=s0.length+k) (λr=>∃s,r=((l,s.length,(i:Int)),s)/\Lst s (λz=>P z\/occ l[i].2 l[i].2.length z)/\s.length<=s0.length+l[i].2.length) s0 ⟨h0.aBn λz=>⟨.inl,λq=>q.elim id (λ⟨_,k,u,hk,_⟩=>by omega)⟩,by omega⟩ (λk s hk hs=>?_) (λs hs=>?_);obtain⟨r,h1,s,rfl,h3⟩:=key;exact⟨s,h1,h3⟩;left;obtain⟨h1,h2⟩:=hs;(have nq:(k:Int)<l[i].2.length:=by omega);have hu:l[i].2[k]?=some l[i].2[k]:=ah hk;by_cases he:l[i].2[k].1={data:=#[]};refine⟨s,?_,h1.aBn λz=>?_,by omega⟩;simp only[E4Q,aq,decide_true,cond_true,ar,ah hi,ai,nq,hu,show Lv l[i].2[k].1 {data:=#[]}=true from E5z.2 he,bO,cond_false,iQ (show k<9223372036854775807 by omega)];rw[E9Y hu];refine⟨λq=>q.elim .inl λq=>.inr (.inl q),?_⟩;rintro(q|q|⟨q,rfl⟩);exact .inl q;exact .inr q;exact(q he).elim;have hne:Lv l[i].2[k].1 {data:=#[]}=false:=aSQ.2 λe=>he (E5z.1 e);have ha:=E8O s l[i].2[k].1 (by omega);have Nt:=E7z s l[i].2[k].1;(have eC:∀x:Int,decide (x<0)=!decide (x>=0):=λx=>by by_cases h:x<0;rw[decide_eq_true h,decide_eq_false (by omega)];rfl;rw[decide_eq_false h,decide_eq_true (by omega)];rfl);(cases hh:E4Y s l[i].2[k].1 with|true=>refine⟨s,?_,h1.aBn λz=>?_,by omega⟩;simp only[E4Q,aq,decide_true,cond_true,ar,ah hi,ai,nq,hu,hne,auI,jE (ay _),pN,ha,eC,<-Nt,show E5m s l[i].2[k].1=true from hh,bO,cond_false,iQ (show k<9223372036854775807 by omega)];rw[E9Y hu];refine⟨λq=>q.elim .inl λq=>.inr (.inl q),?_⟩;rintro(q|q|⟨q,rfl⟩);exact .inl q;exact .inr q;exact(h1.has _).1 hh|false=>refine⟨s++[l[i].2[k].1],?_,(h1.snoc hh).aBn λz=>?_,by simp;omega⟩;simp only[E4Q,aq,decide_true,cond_true,ar,ah hi,ai,nq,hu,hne,auI,jE (ay _),pN,ha,eC,<-Nt,show E5m s l[i].2[k].1=false from hh,jE (show(s.length+1)*16<=140737488355328 by omega),iQ (show k<9223372036854775807 by omega),aR,bf,List.length_nil];rw[E9Y hu];constructor;rintro((q|q)|rfl);exact .inl q;exact .inr (.inl q);exact .inr (.inr ⟨he,rfl⟩);rintro(q|q|⟨_,q⟩);exact .inl (.inl q);exact .inl (.inr q);exact .inr q);refine⟨_,?_,s,rfl,hs⟩;simp only[E4Q,aq,decide_true,cond_true,ar,ah hi,ai,ba,decide_false,cond_false]
def E9Z(l:List tI)(n:Nat)(z:ByteArray):Prop:=∃j a,j<n/\l[j]?=some a/\occ a.2 a.2.length z
theorem E8r{l:List tI}(hl:l.length<=1000)(ht:∀a∈l,a.2.length<=1000):∃s,E40 l=some s/\Lst s (E9Z l l.length)/\s.length<=l.length*1000:=by have key:=V4 (f:=E5o) (S:=List ByteArray) l.length (λi s=>((l,s.length,(i:Int)),s)) (λi s=>Lst s (E9Z l i)/\s.length<=i*1000) (λr=>∃s,r=(s.length,s)/\Lst s (E9Z l l.length)/\s.length<=l.length*1000) [] ⟨⟨List.nodup_nil,λz=>by simp[E9Z]⟩,by simp⟩ (λi s hi hs=>?_) (λs hs=>?_);obtain⟨r,h1,s,rfl,h3⟩:=key;refine⟨s,?_,h3⟩;unfold E40;refine(congrArg (λo=>bc o _) h1).trans ?_;simp only[ai,jE (ay _),cond_true,pN];left;obtain⟨h1,h2⟩:=hs;(have hi':(i:Int)<l.length:=by omega);have Ge:=ht _ (aM hi);obtain⟨t,e,t1,t2⟩:=F2N hi Ge h1 (by omega);refine⟨t,?_,t1.aBn λz=>?_,by omega⟩;simp only[E5o,hi',decide_true,cond_true];refine(congrArg (λo=>bc o _) e).trans ?_;simp only[ai,iQ (show i<9223372036854775807 by omega)];constructor;rintro(⟨j,a,hj,h⟩|h);exact⟨j,a,by omega,h⟩;exact⟨i,l[i],by omega,ah hi,h⟩;rintro⟨j,a,hj,ha,h⟩;rcases mV.1 hj with hj|rfl;exact .inl ⟨j,a,hj,ha,h⟩;rw[ah hi,aa]at ha;subst ha;exact .inr h;refine⟨_,?_,s,rfl,hs⟩;simp only[E5o,ba,decide_false,cond_false]
end Go.Mid
namespace Go.Mid
def E5t(u:E5b):Bool:=bif Lv u.1 ⟨#[]⟩then E4N u.2 else E47 u.1&&(u.2.1==0&&(u.2.2.1==0&&Lv u.2.2.2 ⟨#[]⟩))
theorem E9s(l:List E4Z)(a:ByteArray):l.find? (λt=>Lv t.1 a)=(E6S l a).bind λi=>l[i]?:=by unfold E6S;induction l with|nil=>rfl|cons t r ih=>rw[List.find?_cons,List.findIdx?_cons];cases Lv t.1 a with|true=>rfl|false=>rw[ih];cases r.findIdx? (λt=>Lv t.1 a)<;>rfl
theorem F0v{l:List E4Z}{a:ByteArray}{i:Nat}(h:E6S l a=some i):i<l.length:=by unfold E6S at h;have:=aSV.1 h;omega
def E84(aSP:List E4Z)(_:Nat)(a:tI):Int:=match aSP.find? (λt=>Lv t.1 a.1)with|none=>4|some t=>bif t.2.1.length==a.2.length then(bif a.2.all E5t then 0 else 1)else 6
def E9t(ats:List tI)(v:ByteArray):Bool:=ats.any λa=>a.2.any λu=>Lv u.1 v
theorem E6P{α:Type}{x:Int}{A B:α}:(if x=0 then A else B)=bif x==0 then A else B:=by by_cases h:x=0;rw[if_pos h,h];rfl;rw[if_neg h,beq_false_of_ne h];rfl
def E8s(head:List ByteArray)(ats:List tI)(i:Nat)(v:ByteArray):Int:=bif Lv v ⟨#[]⟩||E4Y (head.take i) v||!E9t ats v then 1 else 0
def E7g(aSP:List E4Z)(head:List ByteArray)(ats:List tI):Int:=if dbE aSP=0 then(if ats.length<1\/6<ats.length then 1 else if E4I (E84 aSP) ats 0=0 then(if E4I (E8s head ats) head 0=0 then 0 else 1)else E4I (E84 aSP) ats 0)else dbE aSP
structure Sz (aSP:List E4Z)(keys:List (ByteArray×Int))(head:List ByteArray)(ats:List tI):Prop where
 tb:∀ t∈aSP,F0s t∧t.2.1.length<=1000000
 nk:keys.length<=1000000
 kr:∀ k∈keys,0<=k.2∧k.2<4294967296
 nh:head.length<=1000000
 na:ats.length<=1000
 nt:∀ a∈ats,a.2.length<=1000
section
variable{aSP:List E4Z}{keys:List (ByteArray×Int)}{head:List ByteArray}{ats:List tI}(z:Sz aSP keys head ats)
include z
end
end Go.Mid
namespace Go.Mid
end Go.Mid
namespace Go.Mid
inductive Cl (L:List (fb×fb)) (v:fb) (but:Int):Txt->Prop
 | base {z:Txt} (h:z∈nb v):Cl L v but z
 | step {z:Txt} (i:Nat) (a:fb×fb) (hi:L[i]?=some a) (hb:(i:Int)≠but) (hk:∀ x∈nb a.1,Cl L v but x) (hz:z∈nb a.2):Cl L v but z
section
variable{L:List (fb×fb)}{v:fb}{but:Int}
end
end Go.Mid
namespace Go.Mid
section
variable{L:List (fb×fb)}{v:fb}{but:Int}
def univ(L:List (fb×fb))(v:fb):List Txt:=nb v++L.flatMap λa=>nb a.2
theorem Cl.univ{z:Txt}(h:Cl L v but z):z∈univ L v:=by cases h with|base h=>exact cV _ h|step i a hi hb hk hz=>exact List.mem_append_right _ (List.mem_flatMap.2 ⟨a,bH hi,hz⟩)
open Classical in
noncomputable def F5S(L:List (fb×fb))(v out:fb):Nat:=((univ L v).filter λz=>decide (z∉nb out)).length
end
end Go.Mid
namespace Go.Mid
namespace AG
variable{V:Type}(N:Nat)(key all:Nat->V->Prop)
inductive D (but:Option Nat) (S:V->Prop):V->Prop
 | base {z:V} (h:S z):D but S z
 | step {z:V} (j:Nat) (hj:j<N) (hb:some j≠but) (hk:∀ x,key j x->D but S x) (hz:all j z):D but S z
def G1R(i:Nat):V->Prop:=D N key all (some i) (key i)
inductive Rch (i:Nat):Nat->Prop
 | refl:Rch i i
 | step {a b:Nat} (h:Rch i a) (hb:b<N) (x:V) (h1:all a x) (h2:all b x) (h3:¬ G1R N key all i x):Rch i b
def att(i k:Nat):Prop:=i<N/\k<N/\k≠i/\Rch N key all i k
def aJU(i k:Nat):Prop:=∀x,key k x->D N key all none (key i) x
variable{N key all}
theorem D.mono{but:Option Nat}{S T:V->Prop}(h:∀x,S x->D N key all but T x){z:V}(hz:D N key all but S z):D N key all but T z:=by induction hz with|base hz=>exact h _ hz|step j hj hb _ hz ih=>exact .step j hj hb ih hz
inductive Way (N:Nat) (key all:Nat->V->Prop):Nat->Nat->Nat->Prop
 | one {a b:Nat} (h:att N key all a b):Way N key all 1 a b
 | more {n a b c:Nat} (h:att N key all a b) (r:Way N key all n b c):Way N key all (n+1) a c
end AG
end Go.Mid
namespace Go.Mid
def E5S(l:List (fb×fb))(i:Nat)(z:Txt):Prop:=∃a,l[i]?=some a/\z∈nb a.1
def E50(l:List (fb×fb))(i:Nat)(z:Txt):Prop:=∃a,l[i]?=some a/\z∈nb a.2
end Go.Mid
namespace Go.Mid
structure QV (keys:List (ByteArray×Int))(head:List ByteArray)(ats:List tI):Prop where
 nk:keys.length<=1000000
 nh:head.length<=1000000
 na:ats.length<=6
 nt:∀ a∈ats,a.2.length<=16
 fk:∀ a∈ats,(keys.findIdx? λp=>Lv p.1 a.1).isSome=true
def E4j(keys:List (ByteArray×Int))(head:List ByteArray)(ats:List tI):List (fb×fb):=ats.map (E6K keys head)
end Go.Mid
namespace Go.Mid
theorem F3A(l:List E4Z)(a:ByteArray)(hl:l.length<=1000000):E7R (l,a)=some (match l.find? (λt=>Lv t.1 a)with|some t=>(t,true)|none=>((⟨#[]⟩,[],[]),false)):=by unfold E7R E4G;have:=Ma (f:=E4r) l (λi=>(l,a,(l.length:Int),(i:Int))) (λ_ t=>Lv t.1 a) (λi=>.inl (i:Int)) (.inr ()) (λi hi=>by(have hi':(i:Int)<l.length:=by omega);simp only[E4r,E7W,hi',decide_true,cond_true,aq,ar,ah hi,ai,iQ (show i<9223372036854775807 by omega)];cases Lv l[i].1 a<;>rfl) (by simp only[E4r,ba,decide_false,cond_false]);simp only[av]at this;rw[this,D86,E9s];cases hx:E6S l a with|none=>unfold E6S at hx;rw[hx];rfl|some k=>have hk:=F0v hx;unfold E6S at hx;(have n1:¬((k:Int)<0):=by omega);rw[hx];simp only[ak,dG,ai,Sum.elim_inl,n1,decide_false,cond_false,aq,decide_true,cond_true,ar,ah hk]
theorem F32{k:Int}(h0:0<=k)(h1:k<4294967296){n:Nat}(hn:n<=16):(pL cG k ((2^n-1:Nat):Int)==k)=(jK cG k (n:Int)==0):=by obtain⟨m,rfl⟩:=Int.eq_ofNat_of_zero_le h0;(have hm:m<w32:=by unfold w32;omega);have hp:=F1t (show n<=32 by omega);have tK:0<2^n:=fD n;rw[F2f hm (by omega),F4M (by omega),Nat.and_two_pow_sub_one_eq_mod,mz,dk,beq_iff_eq,beq_iff_eq];constructor;intro h;(have h:m%2^n=m:=by omega);(have:m<2^n:=by rw[<-h];exact Nat.mod_lt _ tK);rw[Nat.div_eq_of_lt this];rfl;intro h;(have h:m/2^n=0:=by omega);(have:m<2^n:=by rcases Nat.div_eq_zero_iff.1 h with h|h;omega;exact h);rw[aSU this]
def E8I(aSP:List E4Z)(keys:List (ByteArray×Int))(i:Nat)(k:ByteArray×Int):Int:=match aSP.find? (λt=>Lv t.1 k.1)with|none=>4|some t=>bif jK cG k.2 (t.2.1.length:Int)==0 then(bif(E5O (keys.take i) k.1).2 then 5 else 0)else 1
theorem F0j(keys:List (ByteArray×Int))(a:ByteArray):(E5O keys a).2=(keys.findIdx? λp=>Lv p.1 a).isSome:=by unfold E5O;cases keys.findIdx? (λp=>Lv p.1 a)<;>rfl
theorem F0M(keys:List (ByteArray×Int))(a:ByteArray)(hl:keys.length<=9223372036854775807):∃r,E5g (keys,a)=some r/\decide (r>=0)=(E5O keys a).2/\decide (r<0)=!(E5O keys a).2:=by refine⟨_,F2e keys a hl,?_,?_⟩<;>rw[F0j]<;>cases keys.findIdx? (λb=>Lv b.1 a)with|none=>rfl|some i=>simp
def E9x(ats:List tI)(i:Nat)(a:tI):Int:=bif(ats.take i).any (λb=>Lv b.1 a.1)then 14 else 0
def F0w(keys:List (ByteArray×Int))(_:Nat)(a:tI):Int:=bif(E5O keys a.1).2 then 0 else 4
def E7w(aSP:List E4Z)(keys:List (ByteArray×Int))(head:List ByteArray)(ats:List tI):Int:=if E7g aSP head ats=0 then(if E4I (E8I aSP keys) keys 0=0 then(if E4I (E9x ats) ats 0=0 then E4I (F0w keys) ats 0 else E4I (E9x ats) ats 0)else E4I (E8I aSP keys) keys 0)else E7g aSP head ats
section
variable{aSP:List E4Z}{keys:List (ByteArray×Int)}{head:List ByteArray}{ats:List tI}(z:Sz aSP keys head ats)
theorem F3B(nk:keys.length<=1000000)(hdb:dbE aSP=0):E7S (aSP,keys)=some (E4I (E8I aSP keys) keys 0):=by have hl:=E8P hdb;unfold E7S;have:=E5R (f:=E6Z) keys (λi=>((keys,keys,(keys.length:Int),(i:Int)),aSP)) (E8I aSP keys) .inl (.inr ()) (λi hi=>by(have hi':(i:Int)<keys.length:=by omega);rw[E6P];simp only[E6Z,hi',decide_true,cond_true,aq,ar,ah hi,ai,F3A aSP _ (show aSP.length<=1000000 by omega),jE (fH hi),F1r (keys.take i) keys[i].1 (by rw[aW];omega),iQ (show i<9223372036854775807 by omega),E8I];cases aSP.find? (λt=>Lv t.1 keys[i].1)with|none=>rfl|some t=>simp only[bO,cond_false,bne];cases jK cG keys[i].2 (t.2.1.length:Int)==0<;>cases(E5O (keys.take i) keys[i].1).2<;>rfl) (by simp only[E6Z,ba,decide_false,cond_false]);simp only[av]at this;rw[this,ai];split;rename_i h0;rw[h0];rfl;rfl
theorem F33(nk:keys.length<=1000000)(kr:∀k∈keys,0<=k.2/\k.2<4294967296)(hdb:dbE aSP=0):E64 (aSP,keys)=some (E4I (E8I aSP keys) keys 0):=by have hl:=E8P hdb;unfold E64;have:=E5R (f:=E6w) keys (λi=>((keys,(i:Int)),aSP)) (E8I aSP keys) .inl (.inr ()) (λi hi=>by(have hi':(i:Int)<keys.length:=by omega);obtain⟨r,hr,Iw,_⟩:=F0M (keys.take i) keys[i].1 (by rw[aW];omega);rw[E6P];simp only[E6w,hi',decide_true,cond_true,aq,ar,ah hi,ai,E9p aSP _ (show aSP.length<=1000000 by omega),jE (fH hi),hr,Iw,iQ (show i<9223372036854775807 by omega),E8I,E9s];cases hx:E6S aSP keys[i].1 with|none=>rfl|some k=>have hk:=F0v hx;(have n1:¬((k:Int)<0):=by omega);have h16:=(E9q (F0u hdb (aM hk))).2;have hkr:=kr _ (aM hi);simp only[E9o,n1,decide_false,cond_false,aq,decide_true,cond_true,ar,ah hk,ai,F2g (show aSP[k].2.1.length<32 by omega),E7Y,F32 hkr.1 hkr.2 h16];cases jK cG keys[i].2 (aSP[k].2.1.length:Int)==0<;>cases(E5O (keys.take i) keys[i].1).2<;>rfl) (by simp only[E6w,ba,decide_false,cond_false]);simp only[av]at this;rw[this,ai];split;rename_i h0;rw[h0];rfl;rfl
include z
end
end Go.Mid
namespace Go.Mid
abbrev E8l:=List (List Int×Int)×List Int
def aCi:List ByteArray:=[⟨#[120]⟩,⟨#[121]⟩,⟨#[122]⟩,⟨#[117]⟩,⟨#[118]⟩]
def aCE:List ByteArray:=[⟨#[114]⟩,⟨#[115]⟩,⟨#[116]⟩,⟨#[117]⟩]
def aB0:List ByteArray:=[⟨#[97]⟩,⟨#[98]⟩,⟨#[99]⟩,⟨#[100]⟩]
def E86(n:Int):ByteArray:=(aCi[(n.tmod 5).toNat]?).getD ⟨#[]⟩
theorem F34{n:Int}(h:0<=n):aCi[(n.tmod 5).toNat]?=some (E86 n):=by(have h1:(n.tmod 5).toNat<aCi.length:=by have:=Int.tmod_lt_of_pos n (show(0:Int)<5 by omega);show _<5;omega);unfold E86;rw[ah h1];rfl
theorem E75{n:Int}(h:0<=n):E5q n=some (E86 n):=by unfold E5q;have h1:0<=n.tmod 5:=Int.tmod_nonneg _ h;simp only[h1,decide_true,cond_true];show(aCi[(n.tmod 5).toNat]?).bind _=_;rw[F34 h];rfl
def E6L(c:Int):E5b:=bif decide (c<5)then(E86 c,0,0,⟨#[]⟩)else(⟨#[]⟩,1,IntKind.i64.wrap (c.tmod 3),⟨#[]⟩)
def nmT(i:Nat):ByteArray:=(aCE[i]?).getD ⟨#[]⟩
def atC(l:List (List Int×Int))(i:Nat):List Int×Int:=(l[i]?).getD ([],0)
theorem F2j{l:List (List Int×Int)}{i:Nat}(h:i<l.length):l[i]=atC l i:=by unfold atC;rw[ah h];rfl
def E4P(l:List (List Int×Int))(n:Nat):List tI:=(bA n).map λi=>(nmT i,(atC l i).1.map E6L)
def E5p(l:List (List Int×Int))(n:Nat):List E4Z:=(bA n).map λi=>(nmT i,aB0.take (atC l i).1.length,[])
def E5f(l:List (List Int×Int))(n:Nat):List (ByteArray×Int):=(bA n).map λi=>(nmT i,pL cG (cG.wrap (atC l i).2) ((2^(atC l i).1.length-1:Nat):Int))
theorem E8m(l:List (List Int×Int))(n:Nat):(E4P l n).length=n:=by simp[E4P]
theorem F0O(l:List (List Int×Int))(n:Nat):(E5p l n).length=n:=by simp[E5p]
theorem E9z(l:List (List Int×Int))(n:Nat):(E5f l n).length=n:=by simp[E5f]
def OkC(c:E8l):Prop:=(∀a∈c.1,(∀x∈a.1,0<=x/\x<=255)/\0<=a.2/\a.2<=255)/\∀x∈c.2,0<=x/\x<=255
theorem F35{c:E8l}(ok:OkC c){i:Nat}(hi:i<c.1.length)(hl:c.1[i].1.length<=4)(kn:Nat)(name:ByteArray)(T2:List E4Z)(n2:Nat)(H4:List ByteArray)(h4:Nat)(A4:List tI)(a4:Nat)(T6:List E4Z)(n6:Nat)(K:List (ByteArray×Int))(H8:List ByteArray)(h8:Nat)(A8:List tI)(a8:Nat):A0d E5u ((kn,(i:Int),(c.1[i].1.length:Int),name,(0:Int)),c,(T2,n2),((H4,h4),A4,a4),(T6,n6),K,((H8,h8),A8,a8),name,[],0)=some ((kn,(i:Int),(c.1[i].1.length:Int),name),c,(T2,n2),((H4,h4),A4,a4),(T6,n6),K,((H8,h8),A8,a8),name,c.1[i].1.map E6L,c.1[i].1.length):=by have:=tQ (f:=E5u) c.1[i].1.length (λj=>((kn,(i:Int),(c.1[i].1.length:Int),name,(j:Int)),c,(T2,n2),((H4,h4),A4,a4),(T6,n6),K,((H8,h8),A8,a8),name,(c.1[i].1.take j).map E6L,j)) ((kn,(i:Int),(c.1[i].1.length:Int),name),c,(T2,n2),((H4,h4),A4,a4),(T6,n6),K,((H8,h8),A8,a8),name,c.1[i].1.map E6L,c.1[i].1.length) (λj hj=>?_) ?_;simpa using this;(have Dy:(j:Int)<(c.1[i].1.length:Int):=by omega);have hx:=(ok.1 _ (aM hi)).1 _ (aM hj);(have hlen:((c.1[i].1.take j).map E6L).length=j:=by simp;omega);(have e:(c.1[i].1.take (j+1)).map E6L=(c.1[i].1.take j).map E6L++[E6L c.1[i].1[j]]:=by rw[vz hj,List.map_append];rfl);rw[e];(have b1:(j+1)*48<=140737488355328:=by omega);have t1:((c.1[i].1.take j).map E6L).take j=(c.1[i].1.take j).map E6L:=List.take_of_length_le (by rw[hlen];exact ay _);(have hb:j<=((c.1[i].1.take j).map E6L).length:=by rw[hlen];exact ay _);by_cases h5:c.1[i].1[j]<5;simp only[E5u,Dy,decide_true,cond_true,aq,ar,ah hi,ah hj,ai,h5,E75 hx.1,beq_self_eq_true,jE hb,jE b1,t1,iQ (show j<9223372036854775807 by omega),E6L];rw[jE (by rw[aR,hlen];exact ay _)];rfl;simp only[E5u,Dy,decide_true,cond_true,aq,ar,ah hi,ah hj,ai,h5,decide_false,cond_false,beq_self_eq_true,jE hb,jE b1,t1,iQ (show j<9223372036854775807 by omega),E6L];rw[jE (by rw[aR,hlen];exact ay _)];rfl;simp only[E5u,ba,decide_false,cond_false,dM]
end Go.Mid
