/- Composite literals: how the model fills the zero value's cells. -/
import Derived.Test.YthegpbgejckjlaaGreatDoorM2
import Derived.Laws.MakeOwn
set_option linter.unusedSimpArgs false
set_option linter.unusedVariables false
set_option maxHeartbeats 1000000
open Array renaming ext'->gG,eq_empty_of_size_eq_zero->eP,length_toList->dX,toList_map->jh,range->wM,map->rf
open Bool renaming and_eq_true->aj,false_eq_true->aI
open Go renaming run_underlying->aZ,heap_alloc_old->oF,heap_alloc_new->sP,run_newObj->pX,growslice_fits->mf,run_firstCells_none->jw,run_firstCells_some->gP,grownCap_le_maxLen->jS,run_storeCells_cells->iX
open Go.Builtin renaming append_->cY,zeroCells->aY,nextslicecap->oG,firstCells->ig,lenOf->gI
open Go.Instr renaming fill->pV,build->wL,buildSlice->aBI
open Go.Program renaming bytesOf->nZ,cellsOf->jL
open Go.Result renaming andThen_ok->aU
open Go.Sem renaming run_bind->bn,run_pure->bL
open Go.World renaming size_alloc->re,cell?->mL,cell?_setCells_out->zE
open List renaming length_cons->bf,length_append->aR,append_nil->bD,length_nil->cM,find?_cons->iz,set_cons_succ->aSR,flatten_cons->ec,take_succ_cons->bU,map_cons->aF,nodup_cons->bZ,size_toArray->fx,mem_map_of_mem->dY,length->cz,take_append_drop->bM,nodup_nil->gV,mem_cons->aG,sum_cons->mT,all_eq_true->bB,map_map->sk,mem_map->bp,length_map->aB,getElem?_eq_some_iff->aJ,map_take->bP,getElem?_map->aL,replicate->au,replicate_succ->cB,getElem?_replicate->jY,take_replicate->Lz,map_replicate->jR,getElem?_append_right->bG,getElem?_append_left->cN,cons_append->aS,nil_append->a7,map_append->b9,flatten_append->aBv,getElem?_eq_none->bJ,mem_append->az,eq_of_mem_replicate->eY,length_replicate->fZ,take_zero->ff,nodup_append->aT,length_take->aW,take_nil->gH,mem_of_mem_take->dh,getElem?_take_of_lt->dL,eq_nil_of_length_eq_zero->bu,mem_singleton->aX,all_cons->dC,drop_zero->fh
open Nat renaming zero_le->dg,zero_add->bS,succ_mul->du,min_eq_left->cX,le_refl->ay,le_succ->au6,mul_eq_zero->aBW,le_trans->dF,le_mul_of_pos_right->gW,pos_of_ne_zero->ew,add_mul->hY,add_zero->dG,lt_of_lt_of_le->br,mul_le_mul_right->iY,zero_mul->da
open Option renaming map_some->ak,bind_some->ai,toList->cg,getD_some->bI
open Option.some renaming injEq->aa,inj->s8
open Prod.mk renaming injEq->ae
namespace Go.Mid
open Go.RowKit
theorem YZ(A B:List Value):∀(new old done:List Value),new.length=old.length->((new.zipIdx done.length).foldl (λ(cs:Array Value)(p:Value×Nat)=>cs.setIfInBounds (A.length+p.2) p.1) (A++done++old++B).toArray)=(A++done++new++B).toArray|[],[],done,_=>rfl|v::r,x::q,done,h=>by simp only[bf,Nat.add_right_cancel_iff]at h;rw[List.zipIdx_cons,List.foldl_cons];(have e:(A++done++x::q++B).toArray.setIfInBounds (A.length+done.length) v=(A++(done++[v])++q++B).toArray:=by apply gG;simp only[Array.toList_setIfInBounds];(have:A++done++x::q++B=(A++done)++(x::(q++B)):=by simp);rw[this,List.set_append_right _ _ (by simp)];simp);simp only[e];have:=YZ A B r q (done++[v]) h;rw[aR,List.length_singleton]at this;rw[this];simp|[],x::q,done,h=>by simp at h|v::r,[],done,h=>by simp at h
theorem C6f(A B old:List Value)(new:Array Value)(h:new.size=old.length):(new.zipIdx.foldl (λ(cs:Array Value)(x:Value×Nat)=>match x with|(c,j)=>cs.setIfInBounds (A.length+j) c) (A++old++B).toArray)=(A++new.toList++B).toArray:=by have:=YZ A B new.toList old [] (by simpa using h);simp only[bD,cM]at this;rw[<-this,<-Array.foldl_toList,Array.toList_zipIdx]
def E7n(ps:List (Nat×Value))(i:Nat)(c:List Value):List Value:=match ps.find? (·.1==i)with|some (_,v)=>v.cells.toList|none=>c
def w9(ps:List (Nat×Value)):Nat->List (List Value)->List (List Value)|_,[]=>[]|i,c::r=>E7n ps i c::w9 ps (i+1) r
theorem Y0:∀(i:Nat)(l:List (List Value)),w9 [] i l=l|_,[]=>rfl|i,c::r=>by simp[w9,E7n,Y0]
theorem Y1{k:Nat}{v:Value}{ps:List (Nat×Value)}(hk:∀p∈ps,p.1≠k):∀(i:Nat)(l:List (List Value)),i<=k->w9 ((k,v)::ps) i l=w9 ps i (l.set (k-i) v.cells.toList)|_,[],_=>by simp[w9]|i,c::r,hi=>by by_cases e:k=i;subst e;simp only[Nat.sub_self,List.set_cons_zero,w9];(have h1:E7n ((k,v)::ps) k c=v.cells.toList:=by simp[E7n]);(have h2:E7n ps k v.cells.toList=v.cells.toList:=by unfold E7n;rw[List.find?_eq_none.2 (λp hp=>by simpa using hk p hp)]);rw[h1,h2];congr 1;(have:∀(i:Nat)(l:List (List Value)),k<i->w9 ((k,v)::ps) i l=w9 ps i l:=by intro i l;induction l generalizing i with|nil=>intro _;rfl|cons c r ih=>intro hi;simp only[w9];rw[ih _ (by omega)];congr 1;simp only[E7n,iz,show((k,v).1==i)=false by simp;omega]);exact this _ _ (by omega);(have e1:k-i=(k-(i+1))+1:=by omega);rw[e1,aSR,w9,w9,Y1 hk (i+1) r (by omega)];congr 1;simp only[E7n,iz,show((k,v).1==i)=false by simp;omega]
theorem C4E{l:List (List Value)}{i:Nat}{c d:List Value}(h:l[i]?=some c):(l.set i d).flatten=(l.take i).flatten++d++(l.drop (i+1)).flatten:=by induction l generalizing i with|nil=>simp at h|cons x r ih=>cases i with|zero=>simp|succ i=>simp at h;simp[ih h]
theorem C4F{l:List (List Value)}{i:Nat}{c:List Value}(h:l[i]?=some c):l.flatten=(l.take i).flatten++c++(l.drop (i+1)).flatten:=by induction l generalizing i with|nil=>simp at h|cons x r ih=>cases i with|zero=>simp at h;subst h;simp|succ i=>simp at h;rw[ec,ih h];simp
theorem C2z{l:List (List Value)}{i:Nat}{c d:List Value}(h:l[i]?=some c)(hd:d.length=c.length)(j:Nat):((l.set i d).take j).flatten.length=(l.take j).flatten.length:=by induction l generalizing i j with|nil=>simp|cons x r ih=>cases j with|zero=>simp|succ j=>cases i with|zero=>simp at h;subst h;simp[hd]|succ i=>simp at h;simp only[aSR,bU,ec,aR];rw[ih h j]
theorem Y2(place:Nat->Option (Nat×Nat)):∀(ps:List (Nat×Value))(qV:List (List Value)),(ps.map (·.1)).Nodup->(∀p∈ps,∃c,qV[p.1]?=some c/\p.2.cells.size=c.length)->(∀i c,qV[i]?=some c->place i=some ((qV.take i).flatten.length,c.length))->pV place qV.flatten.toArray ps=some (w9 ps 0 qV).flatten.toArray|[],qV,_,_,_=>by simp[pV,Y0]|(k,v)::ps,qV,hn,hp,qN=>by simp only[aF,bZ]at hn;obtain⟨c,hc,hJ⟩:=hp (k,v) (by simp);simp only at hc hJ;simp only[pV,qN k c hc];have e:=C4F hc;(have hle:(qV.take k).flatten.length+v.cells.size<=qV.flatten.toArray.size:=by simp only[fx];rw[e];simp only[aR];omega);rw[if_neg (by simp only[ne_eq,gt_iff_lt,Bool.or_eq_true,decide_eq_true_eq,not_or,Nat.not_lt,Decidable.not_not];exact⟨hJ,hle⟩)];(have sB:(v.cells.zipIdx.foldl (λ(cs:Array Value)(x:Value×Nat)=>match x with|(c,j)=>cs.setIfInBounds ((qV.take k).flatten.length+j) c) qV.flatten.toArray)=(qV.set k v.cells.toList).flatten.toArray:=by rw[C4E hc,e];exact C6f _ _ _ _ hJ);rw[sB];(have hlen:v.cells.toList.length=c.length:=by simpa using hJ);rw[Y2 place ps (qV.set k v.cells.toList) hn.2 ?_ ?_,Y1 (k:=k) (v:=v) (ps:=ps) ?_ 0 qV (dg _),Nat.sub_zero];intro p iw e;exact hn.1 (by rw[<-e];exact dY (f:=(·.1)) iw);intro p iw;obtain⟨c',zm,F8⟩:=hp p (by simp[iw]);by_cases e':k=p.1;exact absurd (dY (f:=(·.1)) iw) (by rw[<-e'];exact hn.1);exact⟨c',by rw[List.getElem?_set_ne e'];exact zm,F8⟩;intro i ci hi;rw[C2z hc hlen];rw[List.getElem?_set]at hi;split at hi;rename_i Dp;split at hi;cases hi;subst Dp;rw[qN k c hc,hlen];cases hi;exact qN i ci hi
section
variable{w:World}{A:Nat->Prop}{E:dP An}{nx:di}
mutual
theorem Oo:∀{v:PV}{cs r:List Value},zf v cs=some r->∃c,cs=c++r/\dU w A v c|.int k n,cs,r,h=>by simp only[zf]at h;split at h;split at h;rename_i hc;obtain⟨rfl,rfl⟩:=hc;cases h;exact⟨[_],rfl,by simp only[dU]⟩;cases h;cases h|.bool b,cs,r,h=>by simp only[zf]at h;split at h;split at h;rename_i hc;subst hc;cases h;exact⟨[_],rfl,by simp only[dU]⟩;cases h;cases h|.str s,cs,r,h=>by simp only[zf]at h;split at h;rename_i s' _;split at h;rename_i hc;cases h;refine⟨[_],rfl,?_⟩;simp only[dU];(have h1:s=⟨#[]⟩:=by obtain⟨d⟩:=s;congr 1;exact eP hc.1);(have h2:s'=⟨#[]⟩:=by obtain⟨d⟩:=s';congr 1;exact eP hc.2);rw[h1,h2];cases h;cases h|.agg l,cs,r,h=>by simp only[zf]at h;obtain⟨c,h1,h2⟩:=Y3 h;exact⟨c,h1,by simp only[dU];exact h2⟩|.eM,cs,r,h=>by simp only[zf]at h;split at h;cases h;exact⟨[_],rfl,by simp only[dU]⟩;cases h|.fa,cs,r,h=>by simp only[zf]at h;split at h;cases h;exact⟨[_],rfl,by simp only[dU]⟩;cases h|.mp ks vs,cs,r,h=>by simp only[zf]at h;split at h;split at h;rename_i hc;simp only[aj,List.isEmpty_iff]at hc;obtain⟨rfl,rfl⟩:=hc;cases h;exact⟨[_],rfl,by simp only[dU];exact .inl ⟨trivial,trivial,trivial⟩⟩;cases h;cases h|.sl _,cs,r,h=>by simp[zf]at h|.ref _,cs,r,h=>by simp[zf]at h|.fn ..,cs,r,h=>by simp[zf]at h
theorem Y3:∀{l:List PV}{cs r:List Value},JX l cs=some r->∃c,cs=c++r/\cK w A l c|[],cs,r,h=>by simp only[JX,aa]at h;subst h;exact⟨[],rfl,by simp only[cK]⟩|x::q,cs,r,h=>by simp only[JX]at h;split at h;rename_i d hd;obtain⟨c,rfl,h1⟩:=Oo hd;obtain⟨c',rfl,h2⟩:=Y3 h;exact⟨c++c',by simp,by simp only[cK];exact⟨c,c',rfl,h1,h2⟩⟩;cases h
end
def uu(w:World)(A:Nat->Prop)(E:dP An)(nx:di)(x:MV)(cs:List Value):Prop:=∃v:Value,v.cells.toList=cs/\v.cells.size=x.cs/\(∀c,v=.agg c->x.isAgg=true\/∃n,x=.dead n)/\bR w A E nx x v
theorem uu.cons{x:MV}{r:List MV}{c d:List Value}(h:uu w A E nx x c)(k:dW w A E nx r d):dW w A E nx (x::r) (c++d):=by obtain⟨v,rfl,h1,h2,h3⟩:=h;simp only[dW];exact⟨v,d,rfl,h1,h2,h3,k⟩
theorem dU.vV{v:PV}{c:List Value}(h:dU w A v c):uu w A E nx (.p v) c:=by refine⟨pk v.isAgg c,by rw[h.avn],by rw[h.avn];simpa[MV.cs]using h.len,?_,by simp only[bR,pD];exact⟨c,h,rfl⟩⟩;intro c' e;cases hg:v.isAgg with|true=>exact .inl hg|false=>rw[hg]at e;obtain⟨x,rfl,hx⟩:=h.one hg;simp only[pk,aI,if_false,List.headD_cons]at e;subst e;exact(YD hx).elim
theorem Oq:∀{l:List MV}{cs:List Value},dW w A E nx l cs->cs.length=MV.b5 l|[],cs,h=>by simp only[dW]at h;subst h;rfl|x::r,cs,h=>by simp only[dW]at h;obtain⟨v,d,rfl,h1,_,_,h4⟩:=h;rw[aR,dX,h1,Oq h4];rfl
theorem bR.vV{x:MV}{v:Value}(h:bR w A E nx x v)(hl:tw x=true):uu w A E nx x v.cells.toList:=by cases x with|p pv=>simp only[bR,pD]at h;obtain⟨c,hc,rfl⟩:=h;have:=hc.vV (E:=E) (nx:=nx);rwa[hc.avn]|agg l=>have h0:=h;simp only[bR]at h;obtain⟨cs,rfl,eV⟩:=h;exact⟨.agg cs.toArray,rfl,by simpa[Value.cells,MV.cs]using Oq eV,λ_ _=>.inl rfl,h0⟩|eI=>simp[tw]at hl|dead=>simp[tw]at hl|auG=>have h0:=h;simp only[bR]at h;obtain⟨_,a,rfl,_⟩:=h;exact⟨_,rfl,rfl,by rintro c⟨⟩,h0⟩|nil z=>have h0:=h;simp only[bR]at h;obtain⟨a,rfl⟩:=h;exact⟨_,rfl,rfl,by rintro c⟨⟩,h0⟩|own=>have h0:=h;simp only[bR]at h;obtain⟨_,a,cap,rfl,_⟩:=h;exact⟨_,rfl,rfl,by rintro c⟨⟩,h0⟩|ptr=>have h0:=h;simp only[bR]at h;obtain⟨_,a,rfl,_⟩:=h;exact⟨_,rfl,rfl,by rintro c⟨⟩,h0⟩|fn f0 l0=>have h0:=h;simp only[bR]at h;obtain⟨vs,hv,_⟩:=h;obtain⟨g,i,c,hq⟩:=RL f0 vs.toArray;rw[hq]at hv;subst hv;exact⟨_,rfl,rfl,by rintro c⟨⟩,h0⟩
mutual
theorem Si:∀{v:MV}{cs r:List Value},uo v cs=some r->∃c,cs=c++r/\uu w A E nx v c|.p v,cs,r,h=>by simp only[uo]at h;obtain⟨c,h1,h2⟩:=Oo (w:=w) (A:=A) h;exact⟨c,h1,h2.vV⟩|.nil z,cs,r,h=>by simp only[uo]at h;split at h;rename_i a r';cases h;refine⟨[.slice a 0 0],rfl,.slice a 0 0,rfl,rfl,by rintro c⟨⟩,by simp only[bR];exact⟨_,rfl⟩⟩;cases h|.agg l,cs,r,h=>by simp only[uo]at h;obtain⟨c,h1,h2⟩:=Y4 h;exact⟨c,h1,.agg c.toArray,rfl,by simpa[Value.cells,MV.cs]using Oq h2,λ_ _=>.inl rfl,by simp only[bR];exact⟨c,rfl,h2⟩⟩|.own ..,cs,r,h=>by simp[uo]at h|.ptr ..,cs,r,h=>by simp[uo]at h|.auG ..,cs,r,h=>by simp[uo]at h|.fn ..,cs,r,h=>by simp[uo]at h|.eI _,cs,r,h=>by simp[uo]at h|.dead _,cs,r,h=>by simp[uo]at h
theorem Y4:∀{l:List MV}{cs r:List Value},EB l cs=some r->∃c,cs=c++r/\dW w A E nx l c|[],cs,r,h=>by simp only[EB,aa]at h;subst h;exact⟨[],rfl,by simp only[dW]⟩|x::q,cs,r,h=>by simp only[EB]at h;split at h;rename_i d hd;obtain⟨c,rfl,h1⟩:=Si hd;obtain⟨c',rfl,h2⟩:=Y4 h;exact⟨c++c',by simp,h1.cons h2⟩;cases h
end
end
end Go.Mid
namespace Go.Mid
open Go.RowKit
section
variable{P:Program}{w:World}{A:Nat->Prop}{E:dP An}{nx:di}{s:gB}{a:Act}
theorem Y5{z:Nat}{zs:List Nat}{v:MV}{vs:List MV}(h:okB (z::zs) (v::vs)=true):v.cs=z/\tw v=true/\okB zs vs=true:=by simp only[okB,aj,beq_iff_eq]at h;exact⟨h.1.1,h.1.2,h.2⟩
def EM(a:Act)(parts:List (Nat×Operand)):List (Nat×Value):=parts.map λp=>(p.1,a.eval p.2)
theorem Y6(parts:List (Nat×Operand))(i:Nat):(EM a parts).find? (·.1==i)=(parts.find? (·.1==i)).map λp=>(p.1,a.eval p.2):=by unfold EM;rw[List.find?_map];rfl
theorem Sj(hs:qM P w A E nx s a){parts:List (Nat×Operand)}:∀{ts:List TypeId}{i:Nat}{rest:List Value}{os:List dJ},z7 P parts ts i rest=some os->∃qV:List (List Value),rest=qV.flatten/\qV.map cz=ts.map P.cellsOf/\os.length=ts.length/\(okB (ts.map P.cellsOf) (os.map (cJ s))=true->dW w A E nx (os.map (cJ s)) (w9 (EM a parts) i qV).flatten/\∀j k x,i<=j->j<i+ts.length->parts.find? (·.1==j)=some (k,x)->∃c,qV[j-i]?=some c/\(a.eval x).cells.size=c.length)|[],i,rest,os,h=>by simp only[z7]at h;split at h;rename_i hr;cases h;refine⟨[],by simpa using hr,rfl,rfl,λ_=>⟨by simp[w9,dW],λj k x h1 h2=>by simp at h2;omega⟩⟩;cases h|t::r,i,rest,os,h=>by simp only[z7]at h;split at h;rename_i hlen;split at h;rename_i o Yl ho hos;cases h;obtain⟨qV,h1,h2,h3,h4⟩:=Sj hs hos;refine⟨rest.take (P.cellsOf t)::qV,?_,?_,by simp[h3],λkN=>?_⟩;rw[ec,<-h1,bM];simp only[aF,hlen,h2];simp only[aF]at kN;obtain⟨hz,hl,kN⟩:=Y5 kN;obtain⟨h5,h6⟩:=h4 kN;(have EN:uu w A E nx (cJ s o) (E7n (EM a parts) i (rest.take (P.cellsOf t)))/\∀k x,parts.find? (·.1==i)=some (k,x)->(a.eval x).cells.size=P.cellsOf t:=by split at ho;rename_i k x hf;have hv:=jP hs ho;have hc:=hv.vV hl;(have e:E7n (EM a parts) i (rest.take (P.cellsOf t))=(a.eval x).cells.toList:=by unfold E7n;rw[Y6,hf];rfl);refine⟨by rw[e];exact hc,λk' x' F9=>?_⟩;rw[hf]at F9;cases F9;obtain⟨v',e1,e2,_⟩:=hc;rw[<-hz,<-e2,<-dX,<-dX,e1];rename_i hf;(have e:E7n (EM a parts) i (rest.take (P.cellsOf t))=rest.take (P.cellsOf t):=by unfold E7n;rw[Y6,hf];rfl);refine⟨?_,λk' x' F9=>by rw[hf]at F9;cases F9⟩;rw[e];split at ho;rename_i v hv;split at ho;rename_i hc;cases ho;obtain⟨c,e1,e2⟩:=Si (w:=w) (A:=A) (E:=E) (nx:=nx) hc;rw[bD]at e1;rw[e1];exact e2;cases ho;cases ho);constructor;simp only[aF,w9,ec];exact EN.1.cons h5;intro j k x gM hj hf;by_cases e:j=i;subst e;refine⟨_,by simp;rfl,?_⟩;rw[hlen];exact EN.2 k x hf;obtain⟨c,e1,e2⟩:=h6 j k x (by omega) (by simp only[bf]at hj;omega) hf;refine⟨c,?_,e2⟩;rw[show j-i=(j-(i+1))+1 by omega,List.getElem?_cons_succ];exact e1;cases h;cases h
theorem Y7:∀{l:List Nat},NS l=true->l.Nodup|[],_=>gV|x::r,h=>by simp only[NS,aj,Bool.not_eq_true',List.contains_eq_mem,decide_eq_false_iff_not]at h;exact bZ.2 ⟨h.1,Y7 h.2⟩
theorem C75{parts:List (Nat×Operand)}(hn:(parts.map (·.1)).Nodup){p:Nat×Operand}(hp:p∈parts):parts.find? (·.1==p.1)=some p:=by induction parts with|nil=>simp at hp|cons q r ih=>simp only[aF,bZ]at hn;rcases aG.1 hp with rfl|hp;simp;(have:q.1≠p.1:=by rintro e;exact hn.1 (by rw[e];exact dY (f:=(·.1)) hp));rw[iz,show(q.1==p.1)=false by simpa using this];exact ih hn.2 hp
theorem Y8:∀{qV:List (List Value)}{zs:List Nat}(i:Nat),qV.map cz=zs->(qV.take i).flatten.length=(zs.take i).sum|[],zs,i,h=>by simp at h;subst h;simp|c::r,zs,0,h=>by simp|c::r,zs,i+1,h=>by subst h;simp only[aF,bU,ec,aR,mT];rw[Y8 i rfl]
theorem Sk(hs:qM P w A E nx s a){parts:Array (Nat×Operand)}{ts:List TypeId}{rest:List Value}{os:List dJ}(hp:z7 P parts.toList ts 0 rest=some os)(kN:Ck ts.length parts.toList=true)(hb:okB (ts.map P.cellsOf) (os.map (cJ s))=true)(place:Nat->Option (Nat×Nat))(qN:∀i t,ts[i]?=some t->place i=some (((ts.take i).map P.cellsOf).sum,P.cellsOf t)):∃cs,dW w A E nx (os.map (cJ s)) cs/\pV place rest.toArray (parts.map λ(i,x)=>(i,a.eval x)).toList=some cs.toArray:=by obtain⟨qV,h1,h2,_,h3⟩:=Sj hs hp;obtain⟨h4,h5⟩:=h3 hb;simp only[Ck,aj,bB,decide_eq_true_eq]at kN;have hn:=Y7 kN.2.1;refine⟨_,h4,?_⟩;(have e:(parts.map λ(i,x)=>(i,a.eval x)).toList=EM a parts.toList:=by rw[jh];rfl);rw[e,h1];refine Y2 place _ qV ?_ ?_ ?_;unfold EM;rw[sk];exact hn;intro p hp;obtain⟨q,hq,rfl⟩:=bp.1 hp;have:=h5 q.1 q.1 q.2 (dg _) (by rw[bS];exact kN.1 q hq) (C75 hn hq);simpa using this;intro i c hi;(have eC:i<ts.length:=by have h6:=congrArg cz h2;simp only[aB]at h6;have:=(aJ.1 hi).1;omega);rw[qN i ts[i] (by simp[eC]),Y8 i h2,bP];congr 2;have:=congrArg (·[i]?) h2;simp only[aL,hi,ak]at this;rw[List.getElem?_eq_getElem eC]at this;simpa using this.symm
theorem EO{t:TypeId}{zc:List Value}(h:xA P t=some zc)(w:World):∃z,(zeroValue t).run P w=.ok z w/\z.cells=zc.toArray/\∃i,P.info? t=some i/\i.zero=some z:=by unfold xA at h;split at h;rename_i i hi;split at h;rename_i z hz;cases h;exact⟨z,by simp[zeroValue,typeInfo,hi,hz],by simp,i,hi,hz⟩;cases h;cases h
theorem Y9{α β:Type}(f:α->Sem β)(g:α->β)(w:World):∀(l:List α),(∀x∈l,(f x).run P w=.ok (g x) w)->(l.mapM f).run P w=.ok (l.map g) w|[],_=>by simp|x::r,h=>by rw[List.mapM_cons];simp only[bn,h x (by simp),aU,Y9 f g w r (λy hy=>h y (by simp[hy])),bL,aF]
theorem Sl:∀{fs:List Field}{o i:Nat}{f:Field},C9 P fs o=true->fs[i]?=some f->f.offset=o+((fs.take i).map λf=>P.cellsOf f.type).sum/\rS P f.type=true|[],o,i,f,_,h=>by simp at h|x::r,o,0,f,h,k=>by simp at k;subst k;simp only[C9,aj,beq_iff_eq]at h;exact⟨by simp[h.1.1],h.1.2⟩|x::r,o,i+1,f,h,k=>by simp at k;simp only[C9,aj,beq_iff_eq]at h;obtain⟨h1,h2⟩:=Sl h.2 k;exact⟨by rw[h1,bU,aF,mT];omega,h2⟩
theorem Za(n z:Nat):(au n z).sum=n*z:=by induction n with|zero=>simp|succ n ih=>rw[cB,mT,ih,du];omega
end
section
variable{P:Program}{o:Oper}{a:Act}{w:World}{A:Nat->Prop}{E:dP An}{nx:di}{γ:Nat}{v:MV}{h h':cj}{s:gB}{K:jm}{d:Option Nat}(hs:qM P w A E nx s a)(hm:MR w A E h nx)
include hs hm
theorem C6g {t:TypeId}{parts:Array (Nat×Operand)}{zc:List Value}{fs:Array Field}{l:List dJ}(ho:o.op=.build t parts)(hz:xA P t=some zc)(hu:P.underlying t=some (.struct fs))
 (kN:Ck fs.size parts.toList=true) (lD:C9 P fs.toList 0=true) (hl:z7 P parts.toList (fs.toList.map (·.type)) 0 zc=some l)
 (he:cb K γ d s h (.build (fs.toList.map λf=>P.cellsOf f.type) l)=some (v,h')):cC P o a w A E nx γ v h':=by
 simp only [cb] at he
 split at he
 . rename_i hb
   simp only [aa,ae] at he
   obtain ⟨rfl,rfl⟩:=he
   obtain ⟨z,Ga,tF,_⟩:=EO hz w
   have Dq:(fs.mapM λ(f:Field)=>do pure (f.offset,← sizeOf f.type)).run P w=.ok (fs.map λ(f:Field)=>(f.offset,P.cellsOf f.type)) w:=by
    have e:fs=fs.toList.toArray:=by simp
    rw [e,List.mapM_toArray]
    simp only [map_eq_pure_bind,bn]
    rw [Y9 _ (λ(f:Field)=>(f.offset,P.cellsOf f.type)) w fs.toList ?_]
    . simp only [aU,bL]
      congr 1
      apply gG
      simp
    . intro f hf
      obtain ⟨i,hi⟩:=List.getElem?_of_mem hf
      have:=(Sl lD hi).2
      simp only [bn,FX w this,aU,bL]
   obtain ⟨cs,h1,h2⟩:=Sk hs hl (by simpa using kN) (by rw [sk];exact hb) (λi=>(fs.map λ(f:Field)=>(f.offset,P.cellsOf f.type))[i]?) (by
    intro i t ht
    rw [aL] at ht
    cases hf:fs.toList[i]? with
    | none=>rw [hf] at ht;cases ht
    | some f =>
      rw [hf] at ht
      simp only [ak,aa] at ht
      subst ht
      have h3:=(Sl lD hf).1
      have F9:fs[i]?=some f:=by simpa using hf
      simp only [Array.getElem?_map,F9,ak,h3,bS]
      congr 2
      rw [← bP,sk];rfl)
   refine cC.idle (val:=.agg cs.toArray) ?_ (N7 h1) hm
   simp only [execOp,ho,wL,bn,Ga,aU,aZ hu,Dq,tF]
   rw [h2]
   rfl
 . cases he
theorem C6h{t e:TypeId}{n:Nat}{parts:Array (Nat×Operand)}{zc:List Value}{l:List dJ}(ho:o.op=.build t parts)(hz:xA P t=some zc)(hu:P.underlying t=some (.array n e))(kN:Ck n parts.toList=true)(hU:rS P e=true)(hl:z7 P parts.toList (au n e) 0 zc=some l)(he:cb K γ d s h (.build (au n (P.cellsOf e)) l)=some (v,h')):cC P o a w A E nx γ v h':=by simp only[cb]at he;split at he;rename_i hb;simp only[aa,ae]at he;obtain⟨rfl,rfl⟩:=he;obtain⟨z,Ga,tF,_⟩:=EO hz w;obtain⟨cs,h1,h2⟩:=Sk hs hl (by simpa using kN) (by simpa using hb) (λi=>some (i*P.cellsOf e,P.cellsOf e)) (by intro i t ht;rw[jY]at ht;split at ht;rename_i hi;cases ht;rw[Lz,jR,Za,cX (by omega)];cases ht);refine cC.idle (val:=.agg cs.toArray) ?_ (N7 h1) hm;simp only[execOp,ho,wL,bn,Ga,aU,aZ hu,FX w hU,tF];rw[h2];rfl;cases he
end
end Go.Mid
namespace Go.Mid
open Go.RowKit
structure Grown (w w':World)(cs:Array Value):Prop where
 size:w'.heap.size=w.heap.size+1
 old:∀ b,b<w.heap.size->w'.heap[b]?=w.heap[b]?
 new:∃ ty,w'.heap[w.heap.size]?=some (.cells cs ty (0,0))
 rest:w'.os=w.os∧w'.tape=w.tape∧w'.output=w.output∧w.drawn<=w'.drawn
theorem Grown.alloc(w:World)(cs:Array Value)(ty:TypeId):Grown w (w.alloc (.cells cs ty)) cs:=⟨re _ _,λb hb=>oF w _ b hb,⟨ty,sP w _⟩,⟨rfl,rfl,rfl,ay _⟩⟩
theorem Grown.drew(w:World)(cs:Array Value)(ty:TypeId):Grown w (w.drew.alloc (.cells cs ty)) cs:=⟨re _ _,λb hb=>oF w.drew _ b hb,⟨ty,sP w.drew _⟩,⟨rfl,rfl,rfl,au6 _⟩⟩
theorem Grown.blk{w w':World}{cs:Array Value}(g:Grown w w' cs):lX w' w.heap.size cs.size:=by obtain⟨ty,h⟩:=g.new;exact⟨cs,ty,h,rfl⟩
theorem Grown.row{w w':World}{cs:Array Value}(g:Grown w w' cs){p c q:List Value}(h:cs.toList=p++c++q):Row w' w.heap.size p.length c:=by obtain⟨ty,hn⟩:=g.new;intro j v hj;(have hc:cs=(p++c++q).toArray:=by rw[<-h]);simp only[mL,hn,hc,Option.isSome_none,aI,if_false,List.getElem?_toArray];rw[List.append_assoc,bG (by omega),cN (by have:=(aJ.1 hj).1;omega)];rw[<-hj];congr 1;omega
theorem Grown.Kf{w w':World}{cs:Array Value}(g:Grown w w' cs):Row w' w.heap.size 0 cs.toList:=g.row (p:=[]) (q:=[]) (by simp)
section
variable{w w':World}{A:Nat->Prop}{E E1:dP An}{nx:di}{γ:Nat}{h h1:cj}
theorem MR.fresh(m:MR w A E1 h1 nx)(hγ:¬nx γ){cs:Array Value}(g:Grown w w' cs){o':Obj An}(d:Nat)(hg:∀np y,fc (some o') np=some y->y.1.g=γ)(hb:∀b∈o'.blk,b=w.heap.size\/(b<w.heap.size/\¬A b/\¬jr E1 b))(hnd:o'.blk.Nodup)(hst:o'.st (nx.add γ)):nW w w' A E1 nx (nx.add γ) d o' where
 hn:=nx.eF γ
 sz:=by rw[g.size];omega
 ch:=λb hb _=>g.old b hb
 ns:=λnp y hy eC=>by rw[hg np y hy]at eC;exact(hγ eC).elim
 lt:=λb hbm=>by rw[g.size];rcases hb b hbm with rfl|h;exact⟨by omega,λhA=>absurd (m.im _ hA) (by omega)⟩;exact⟨by omega,h.2.1⟩
 nd:=hnd
 dj:=λb hbm j o _ ho lZ=>by rcases hb b hbm with rfl|h;have:=(m.j6 ho lZ).1;omega;exact h.2.2 ⟨j,o,ho,lZ⟩
 st:=hst
theorem gC.fresh(m:MR w A E h nx)(hγ:¬nx γ){cs:Array Value}(g:Grown w w' cs){o':Obj An}{d:Nat}(hg:∀np y,fc (some o') np=some y->y.1.g=γ)(hb:∀b∈o'.blk,b=w.heap.size\/jr E b)(dK:∀b,jr E1 b->jr E b)(xH:jt E E1):gC w A E nx w' A (cq E1 d (some o')):=by refine gC.of (E1:=E1) ⟨g.rest.1,g.rest.2.1,g.rest.2.2⟩ (by rw[g.size];omega) (λb hb _=>g.old b hb) ?_ (xH.F7 nx) ?_;intro b eC ho;rcases Cv ho with h1|⟨i,oi,hi,tE,Cx⟩;rcases hb b h1 with rfl|h2;omega;exact h2;exact dK b ⟨i,oi,tE,Cx⟩;intro i np an z bW eC;by_cases e:i=d;subst e;rw[nV]at bW;have:=hg np _ bW;simp only at this;rw[this]at eC;exact(hγ eC).elim;rwa[A0C E1 _ e]at bW
theorem C4G{α:Type}{a:α}{t:T α}{np:Option (List Nat)}{y:α×Option Nat}(h:fc (some (.cell a t)) np=some y):y=(a,none)\/∃q,fE t q=some y:=by cases np with|none=>simp only[fc,aa]at h;exact .inl h.symm|some q=>rw[uJ]at h;exact .inr ⟨q,h⟩
theorem Zb{α:Type}{a:α}{z:Nat}{l:List (T α)}{np:Option (List Nat)}{y:α×Option Nat}(h:fc (some (.vec a z l)) np=some y):y=(a,some z)\/∃(i:Nat)(t:T α)(q:List Nat),l[i]?=some t/\fE t q=some y:=by cases np with|none=>simp[fc]at h|some q=>rw[uJ]at h;cases q with|nil=>exact .inl (by simp only[Obj.qk,fE,cR,aa]at h;exact h.symm)|cons i r=>simp only[Obj.qk,Di]at h;cases hl:l[i]? with|none=>simp[hl]at h|some t=>simp only[hl,ai]at h;exact .inr ⟨i,t,r,hl,h⟩
theorem C9Q(m:MR w A E h nx)(hγ:¬nx γ){cs:List Value}{t:T Nat}{tA:T An}(k:pF w A E nx γ cs t h1 E1 tA)(g:Grown w w' cs.toArray)(d:Nat):∃E2,MR w' A E2 (cq h1 d (some (.cell γ t))) (nx.add γ)/\gC w A E nx w' A E2/\bR w' A E2 (nx.add γ) (.ptr d none [] γ 0) (.pointer (some ⟨w.heap.size,0,none⟩)):=by(have ql:∀np y,fc (some (.cell ⟨γ,some w.heap.size,0⟩ tA)) np=some y->y.1.g=γ:=by intro np y hy;rcases C4G hy with rfl|⟨q,hq⟩;rfl;exact k.new q y hq);(have iM:∀b∈(Obj.cell ⟨γ,some w.heap.size,0⟩ tA).blk,b=w.heap.size\/b∈tA.blk:=by intro b hb;simpa[Obj.blk]using hb);have eC:∀b∈tA.blk,b<w.heap.size/\¬A b:=λb hb=>m.lt b (k.own b hb).1;have s:=k.mr.fresh hγ g (o':=.cell ⟨γ,some w.heap.size,0⟩ tA) d ql (λb hb=>(iM b hb).imp id λhb=>⟨(eC b hb).1,(eC b hb).2,(k.own b hb).2⟩) (by simp only[Obj.blk,cg,aS,a7];exact bZ.2 ⟨λhb=>by have:=(eC _ hb).1;omega,k.nd⟩) ⟨nx.iG γ,k.st⟩;have f:=s.fr k.mr;have htc:=k.tc.frame f (λx hx=>g.old x (eC x hx).1);have hrow:=g.Kf;simp only at hrow;refine⟨cq E1 d (some (.cell ⟨γ,some w.heap.size,0⟩ tA)),?_,gC.fresh m hγ g ql (λb hb=>(iM b hb).imp id λhb=>(k.own b hb).1) k.sub k.ns,?_⟩;have:=k.mr.set s (by simp only[OAt];refine⟨w.heap.size,rfl,?_,htc.at_ hrow⟩;have:=g.blk;have e:cs.toArray.size=tA.cs:=k.tc.len;rwa[e]at this);simpa only[Obj.mapA,k.er]using this;simp only[bR];refine⟨nx.iG γ,_,rfl,λan z hn _=>?_⟩;rw[nV]at hn;simp only[fc,aa,ae]at hn;exact⟨w.heap.size,by rw[<-hn.1],rfl⟩
theorem Sm(m:MR w A E h nx)(hγ:¬nx γ){cs cells:List Value}{ts:List (T Nat)}{lA:List (T An)}{z cap:Nat}(k:l4 w A E nx γ cs ts h1 E1 lA)(g:Grown w w' cells.toArray)(d:Nat){q:List Value}(hc:cells=cs++q)(hz:∀t∈lA,t.cs=z)(oq:cells.length=cap*z)(hle:lA.length<=cap)(Gb:cap<=9223372036854775807):∃E2,MR w' A E2 (cq h1 d (some (.vec γ z ts))) (nx.add γ)/\gC w A E nx w' A E2/\bR w' A E2 (nx.add γ) (.own d [] 0 lA.length γ) (.slice (some ⟨w.heap.size,0,none⟩) lA.length cap):=by(have ql:∀np y,fc (some (.vec ⟨γ,some w.heap.size,cap⟩ z lA)) np=some y->y.1.g=γ:=by intro np y hy;rcases Zb hy with rfl|⟨i,t,q,hl,hq⟩;rfl;exact k.new i t hl q y hq);(have iM:∀b∈(Obj.vec ⟨γ,some w.heap.size,cap⟩ z lA).blk,b=w.heap.size\/b∈T.dc lA:=by intro b hb;simpa[Obj.blk]using hb);have eC:∀b∈T.dc lA,b<w.heap.size/\¬A b:=λb hb=>m.lt b (k.own b hb).1;have s:=k.mr.fresh hγ g (o':=.vec ⟨γ,some w.heap.size,cap⟩ z lA) d ql (λb hb=>(iM b hb).imp id λhb=>⟨(eC b hb).1,(eC b hb).2,(k.own b hb).2⟩) (by simp only[Obj.blk,cg,aS,a7];exact bZ.2 ⟨λhb=>by have:=(eC _ hb).1;omega,k.nd⟩) ⟨nx.iG γ,k.st⟩;have f:=s.fr k.mr;have htc:=k.tc.frame f (λx hx=>g.old x (eC x hx).1);have hrow:=g.row (p:=[]) (c:=cs) (q:=q) (by simp[hc]);refine⟨cq E1 d (some (.vec ⟨γ,some w.heap.size,cap⟩ z lA)),?_,gC.fresh m hγ g ql (λb hb=>(iM b hb).imp id λhb=>(k.own b hb).1) k.sub k.ns,?_⟩;have:=k.mr.set s (by simp only[OAt,VB];refine⟨?_,hle,hz,htc.at_ hrow⟩;have:=g.blk;have e:cells.toArray.size=cap*z:=oq;rwa[e]at this);simpa only[Obj.mapA,T.mapAs_eq,k.er]using this;simp only[bR];refine⟨nx.iG γ,_,_,rfl,hle,λan z' hn _=>?_⟩;rw[nV]at hn;simp only[fc,aa,ae]at hn;obtain⟨rfl,rfl⟩:=hn;exact⟨⟨rfl,Gb⟩,.inr (by simp)⟩
end
end Go.Mid
namespace Go.Mid
open Go.RowKit
section
variable{w w':World}{A:Nat->Prop}{E:dP An}{nx:di}{γ:Nat}{h:cj}
theorem MR.imm{A':Nat->Prop}(m:MR w A E h nx)(hA:∀b,A b->A' b)(h1:∀b,A' b->b<w.heap.size/\¬jr E b):MR w A' E h nx where
 er:=m.er
 at_:=λi o ho=>OAt.frame ⟨hA,λ_ _=>rfl,pf.refl _ _,di.le_refl _⟩ (λ_ _=>rfl) (m.at_ i o ho)
 lt:=λb hb=>⟨(m.lt b hb).1,λh=>(h1 b h).2 hb⟩
 nd:=m.nd
 dj:=m.dj
 im:=λb hb=>(h1 b hb).1
 st:=m.st
theorem MR.grow(m:MR w A E h nx){cs:Array Value}(g:Grown w w' cs){A':Nat->Prop}(Ot:∀b,A' b↔A b\/b=w.heap.size):MR w' A' E h (nx.add γ)/\gC w A E nx w' A' E:=by have f:Fr w w' A A' E E nx (nx.add γ):=⟨λb hb=>(Ot b).2 (.inl hb),λb hb=>g.old b (m.im b hb),pf.refl _ _,nx.eF γ⟩;refine⟨⟨m.er,λi o ho=>OAt.frame f (λx hx=>g.old x (m.j6 ho hx).1) (m.at_ i o ho),λb hb=>?_,m.nd,m.dj,λb hb=>?_,λi o ho=>Obj.ka (nx.eF γ) (m.st i o ho)⟩,?_⟩;have:=m.lt b hb;refine⟨by rw[g.size];omega,λh=>?_⟩;rcases(Ot b).1 h with h|h;exact this.2 h;omega;rw[g.size];rcases(Ot b).1 hb with h|h;have:=m.im b h;omega;omega;refine⟨g.rest.1,g.rest.2.1,g.rest.2.2,by rw[g.size];omega,λb hb _=>g.old b hb,f.hA,λb hb h=>?_,λ_ _ h=>h,pf.refl _ _⟩;rcases(Ot b).1 h with h|h;exact .inl h;omega
theorem D1N{l:List PV}{cs:List Value}{z:Nat}(hz:∀v∈l,v.cs=z)(h:cK w A l cs){b o:Nat}(hr:Row w b o cs):fB w A l b o z:=by induction l generalizing cs o with|nil=>simp only[fB]|cons x r ih=>simp only[cK]at h;obtain⟨c,d,rfl,h1,h2⟩:=h;have hr:=Row.append.1 hr;have hx:=hz x (by simp);have hlen:=h1.len;simp only[fB];refine⟨⟨c,h1,by rw[hlen,hx],hr.1⟩,?_⟩;refine ih (λv hv=>hz v (by simp[hv])) h2 ?_;rw[<-hx,<-hlen];exact hr.2
theorem Sn:∀{n z:Nat}{l:List MV},okB (au n z) l=true->l.length=n/\∀v∈l,v.cs=z/\tw v=true|0,z,[],_=>⟨rfl,by simp⟩|0,z,x::r,h=>by simp[okB]at h|n+1,z,[],h=>by simp[cB,okB]at h|n+1,z,x::r,h=>by rw[cB]at h;obtain⟨h1,h2,h3⟩:=Y5 h;obtain⟨h4,h5⟩:=Sn h3;exact⟨by simp[h4],λv hv=>by rcases aG.1 hv with rfl|hv;exact⟨h1,h2⟩;exact h5 v hv⟩
theorem Sp{zc:List Value}{z:Nat}(hz:zc.length=z):∀n,((List.range (n*z)).map λi=>zc.toArray[i%zc.toArray.size]!)=(au n zc).flatten|0=>by simp|n+1=>by rw[du,List.range_add,b9,Sp hz n,List.replicate_succ',aBv];congr 1;simp only[sk,ec,List.flatten_nil,bD];apply List.ext_getElem?;intro i;by_cases hi:i<z;(have h2:(n*z+i)%z=i:=by rw[Nat.add_comm,Nat.add_mul_mod_self_right,Nat.mod_eq_of_lt hi]);(have h3:zc[i]?=some zc[i]:=by simp);rw[h3];simp only[aL,List.getElem?_range hi,ak,Function.comp,fx,hz,h2];simp[List.getElem!_toArray,List.getElem!_eq_getElem?_getD,h3];rw[bJ (by simp;omega),bJ (by omega)]
theorem Sq{zc:List Value}{z:Nat}(hz:zc.length=z)(n:Nat):madeCells zc.toArray (n*z)=(au n zc).flatten.toArray:=by apply gG;rw[madeCells];simp only[jh,Array.toList_range,Sp hz n]
theorem Sr{zc:List Value}(n:Nat):(au n zc).flatten.length=n*zc.length:=by induction n with|zero=>simp|succ n ih=>rw[cB,ec,aR,ih,du];omega
structure aC9 (w:World)(A:Nat->Prop)(E:dP An)(nx:di)(γ:Nat)(cs:List Value)(t:T Nat)(tA:T An):Prop where
 er:tA.mapA An.g=t
 tc:TC w A E nx tA cs
 blk:tA.blk=[]
 st:tA.st (nx.add γ)
 new:∀ q y,fE tA q=some y->y.1.g=γ
 one:∀ c∈cs,c.oneCell'=true
theorem Ou{α:Type}:∀(q:List Nat)(v:PV),fE (.p v:T α) q=none|[],v=>rfl|i::r,v=>by(cases v<;>try rfl);rename_i l;simp only[fE,cR];cases hl:l[i]? with|none=>rfl|some x=>simp only;have:=Ou (α:=α) r x;simpa only[fE]using this
mutual
theorem Ss:∀{v:MV}{cs r:List Value}{t:T Nat},uo v cs=some r->zT γ v=some t->∃c tA,cs=c++r/\aC9 w A E nx γ c t tA|.p v,cs,r,t,h,k=>by simp only[zT,aa]at k;subst k;simp only[uo]at h;obtain⟨c,h1,h2⟩:=Oo (w:=w) (A:=A) h;exact⟨c,.p v,h1,rfl,by simp only[TC];exact h2,rfl,trivial,(λq y hy=>by rw[Ou]at hy;cases hy),h2.ke⟩|.nil z,cs,r,t,h,k=>by simp only[zT,aa]at k;subst k;simp only[uo]at h;split at h;rename_i a r';cases h;refine⟨[.slice a 0 0],.vec ⟨γ,none,0⟩ z [] 0,rfl,rfl,?_,rfl,⟨nx.iG γ,trivial⟩,?_,by intro c hc;simp at hc;subst hc;rfl⟩;simp only[TC,VB];exact⟨a,0,rfl,ay _,⟨rfl,rfl⟩,trivial,trivial⟩;intro q y hy;(cases q with|nil=>simp[fE,cR]at hy;rw[<-hy]|cons i r=>simp[fE,cR]at hy);cases h|.agg l,cs,r,t,h,k=>by simp only[zT]at k;split at k;rename_i ts hts;cases k;simp only[uo]at h;obtain⟨c,lA,h1,h2,h3,h4,h5,h6,h7⟩:=Zc h hts;refine⟨c,A0z lA,h1,by rw[Ob,h2],YT.2 h3,by rw[Oc,h4],R3 h5,?_,h7⟩;intro q y hy;(cases q with|nil=>rw[R6]at hy;cases hy|cons i r=>rw[R4]at hy;cases hl:lA[i]? with|none=>simp[hl]at hy|some t=>simp only[hl,ai]at hy;exact h6 t (List.mem_of_getElem? hl) r y hy);cases k|.own ..,cs,r,t,h,k=>by simp[zT]at k|.ptr ..,cs,r,t,h,k=>by simp[zT]at k|.auG ..,cs,r,t,h,k=>by simp[zT]at k|.fn ..,cs,r,t,h,k=>by simp[zT]at k|.eI _,cs,r,t,h,k=>by simp[zT]at k|.dead _,cs,r,t,h,k=>by simp[zT]at k
theorem Zc:∀{l:List MV}{cs r:List Value}{ts:List (T Nat)},EB l cs=some r->zT.Ev γ l=some ts->∃c lA,cs=c++r/\lA.map (T.mapA An.g)=ts/\j7 w A E nx lA c/\T.dc lA=[]/\T.j9 (nx.add γ) lA/\(∀t∈lA,∀q y,fE t q=some y->y.1.g=γ)/\∀c'∈c,c'.oneCell'=true|[],cs,r,ts,h,k=>by simp only[zT.Ev,aa]at k;subst k;simp only[EB,aa]at h;subst h;exact⟨[],[],rfl,rfl,by simp only[j7],rfl,trivial,by simp,by simp⟩|x::q,cs,r,ts,h,k=>by simp only[zT.Ev]at k;split at k;rename_i t Sh ht hts;cases k;simp only[EB]at h;split at h;rename_i d hd;obtain⟨c,tA,rfl,z⟩:=Ss hd ht;obtain⟨c',lA,rfl,h2,h3,h4,h5,h6,h7⟩:=Zc h hts;refine⟨c++c',tA::lA,by simp,by simp[z.er,h2],by simp only[j7];exact⟨c,c',rfl,z.tc,h3⟩,by simp[T.dc,z.blk,h4],⟨z.st,h5⟩,?_,λx hx=>(az.1 hx).elim (z.one x) (h7 x)⟩;intro t ht;rcases aG.1 ht with rfl|ht;exact z.new;exact h6 t ht;cases h;cases k
end
theorem Kg{P:Program}{t:TypeId}{v:MV}(h:C8 P t=some v):∃zc,xA P t=some zc/\uo v zc=some []:=by unfold C8 at h;split at h;rename_i v' zc hv tF;split at h;rename_i hc;cases h;exact⟨zc,tF,hc⟩;cases h;cases h
end
theorem C76{P:Program}{t:TypeId}{v:PV}(h:NR P t=some v):∃zc,xA P t=some zc/\∀(w:World)(A:Nat->Prop),dU w A v zc:=by unfold NR at h;split at h;rename_i v' hz;cases h;obtain⟨zc,tF,Ac⟩:=Kg hz;refine⟨zc,tF,λw A=>?_⟩;simp only[uo]at Ac;obtain⟨c,h1,h2⟩:=Oo (w:=w) (A:=A) Ac;rw[bD]at h1;rw[h1];exact h2;rename_i z hz;cases h;obtain⟨zc,tF,Ac⟩:=Kg hz;refine⟨zc,tF,λw A=>?_⟩;simp only[uo]at Ac;split at Ac;rename_i q r;simp only[aa]at Ac;subst Ac;simp only[dU];exact⟨_,0,rfl,ay _,.inl trivial⟩;cases Ac;cases h
section
variable{P:Program}{o:Oper}{a:Act}{w:World}{A:Nat->Prop}{E:dP An}{nx:di}{γ:Nat}{v:MV}{h h':cj}{s:gB}{K:jm}{d:Option Nat}(hs:qM P w A E nx s a)(hm:MR w A E h nx)(hγ:¬nx γ)
theorem cC.of{val:Value}{w':World}{E':dP An}(hr:(execOp a.eval o).run P w=.ok (.value val) w')(hm:MR w' A E' h' (nx.add γ))(hg:gC w A E nx w' A E')(hv:bR w' A E' (nx.add γ) v val):cC P o a w A E nx γ v h':=⟨val,w',A,E',.inl hr,hv,hm,hg⟩
include hm hγ
theorem Zd{x:MV}{val:Value}{cs:List Value}(hc:val.cells.toList=cs)(hv:bR w A E nx x val){ty:TypeId}(hr:(execOp a.eval o).run P w=.ok (.value (.pointer (some ⟨w.heap.size,0,none⟩))) (w.alloc (.cells cs.toArray ty)))(he:(match pA γ h x with|some (t,h1)=>(match A0O d h1 (.cell γ t)with|some h'=>some (MV.ptr (d.getD 0) none [] γ 0,h')|none=>none)|none=>none)=some (v,h')):cC P o a w A E nx γ v h':=by split at he;rename_i t h1 hi;(cases d with|none=>simp[A0O]at he|some d=>simp only[A0O,bI,aa,ae]at he;obtain⟨rfl,rfl⟩:=he;obtain⟨E1,tA,k⟩:=Se x hi hm hv;rw[hc]at k;obtain⟨E2,k1,k2,k3⟩:=C9Q hm hγ k (Grown.alloc w cs.toArray ty) d;exact cC.of hr k1 k2 k3);cases he
theorem C77{t:TypeId}{z:MV}(ho:o.op=.alloc t)(hz:C8 P t=some z)(he:cb K γ d s h (.box (.c z))=some (v,h')):cC P o a w A E nx γ v h':=by obtain⟨zc,h1,h2⟩:=Kg hz;obtain⟨zv,h3,h4,_⟩:=EO h1 w;obtain⟨c,h5,val,h6,_,_,h7⟩:=Si (w:=w) (A:=A) (E:=E) (nx:=nx) h2;rw[bD]at h5;subst h5;simp only[cb,cJ]at he;refine Zd (ty:=t) hm hγ h6 h7 ?_ he;simp only[execOp,ho,Instr.alloc,bn,h3,aU,newVar,newRow,h4,pX,bL];rfl
include hs
theorem D1O{t t0:TypeId}{x:Operand}{x':dJ}(ho:o.op=.box t x)(hx:fu P t0 x=some x')(he:cb K γ d s h (.box x')=some (v,h')):cC P o a w A E nx γ v h':=by have hv:=jP hs hx;simp only[cb]at he;refine Zd (ty:=t) hm hγ rfl hv ?_ he;simp only[execOp,ho,Instr.box,bn,aU,newVar,newRow,pX,bL];rw[Array.toArray_toList];rfl
end
end Go.Mid
namespace Go.Mid
open Go.RowKit
section
variable{P:Program}{o:Oper}{a:Act}{w:World}{A:Nat->Prop}{E:dP An}{nx:di}{γ:Nat}{v:MV}{h h':cj}{s:gB}{K:jm}{d:Option Nat}(hs:qM P w A E nx s a)(hm:MR w A E h nx)(hγ:¬nx γ)
include hs hm hγ
omit hs in
theorem C9R{z:Nat}{e:TypeId}(ho:o.op=.assign (.const (.slice none 0 0)))(he:cb K γ d s h (.nilv z)=some (v,h')):cC P o a w A E nx γ v h':=by simp only[cb]at he;cases d with|none=>simp[A0O]at he|some d=>simp only[A0O,bI,aa,ae]at he;obtain⟨rfl,rfl⟩:=he;(have ql:∀np y,fc (some (Obj.vec (⟨γ,none,0⟩:An) z [])) np=some y->y.1.g=γ:=by intro np y hy;rcases Zb hy with rfl|⟨i,t,q,hl,_⟩;rfl;simp at hl);have iM:(Obj.vec (⟨γ,none,0⟩:An) z []).blk=[]:=rfl;have s:nW w w A E nx (nx.add γ) d (.vec ⟨γ,none,0⟩ z []):=⟨nx.eF γ,ay _,λ_ _ _=>rfl,λnp y hy eC=>by rw[ql np y hy]at eC;exact(hγ eC).elim,by simp[iM],by simp[iM],by simp[iM],⟨nx.iG γ,trivial⟩⟩;have Ab:=hm.set s (by simp only[OAt,VB];exact⟨trivial,trivial⟩);refine⟨.slice none 0 0,w,A,_,.inl ?_,?_,Ab,?_⟩;simp[execOp,ho,FZ];simp only[bR];refine⟨nx.iG γ,none,0,rfl,ay _,λan z' hn _=>?_⟩;rw[nV]at hn;simp only[fc,aa,ae]at hn;obtain⟨rfl,rfl⟩:=hn;exact⟨rfl,rfl⟩;refine gC.of (E1:=E) ⟨rfl,rfl,rfl,ay _⟩ (ay _) (λ_ _ _=>rfl) ?_ (pf.refl _ _) (s.fr hm).hE;intro b _ hb;rcases Cv hb with hb|⟨i,oi,_,tE,Cx⟩;simp[iM]at hb;exact⟨i,oi,tE,Cx⟩
omit hm hγ in
theorem F4l{t e:TypeId}{n:Nat}{parts:Array (Nat×Operand)}{zc:List Value}{l:List dJ}(ho:o.op=.buildSlice t n parts)(hu:P.underlying t=some (.slice e))(tf:P.cellsOf e≠0)(kO:n*P.cellsOf e<=16777216)(hz:xA P e=some zc)(hzl:zc.length=P.cellsOf e)(kN:Ck n parts.toList=true)(hl:z7 P parts.toList (au n e) 0 (au n zc).flatten=some l)(hb:okB (au l.length (P.cellsOf e)) (l.map (cJ s))=true):∃cs,dW w A E nx (l.map (cJ s)) cs/\cs.length=n*P.cellsOf e/\l.length=n/\(execOp a.eval o).run P w=.ok (.value (.slice (some ⟨w.heap.size,0,none⟩) n n)) (w.alloc (.cells cs.toArray e)):=by(have Dr:l.length=n:=by obtain⟨qV,_,_,h3,_⟩:=Sj hs hl;simpa using h3);rw[Dr]at hb;obtain⟨zv,Ga,tF,_⟩:=EO hz w;obtain⟨cs,h1,h2⟩:=Sk hs hl (by simpa using kN) (by simpa using hb) (λi=>some (i*P.cellsOf e,P.cellsOf e)) (by intro i t ht;rw[jY]at ht;split at ht;rename_i hi;cases ht;rw[Lz,jR,Za,cX (by omega)];cases ht);(have nX:cs.length=n*P.cellsOf e:=by rw[Oq h1];obtain⟨h3,h4⟩:=Sn hb;(have:∀{l:List MV}{z:Nat},(∀v∈l,v.cs=z)->MV.b5 l=l.length*z:=by intro l z;induction l with|nil=>intro _;simp[MV.b5]|cons x r ih=>intro hx;rw[MV.b5,hx x (by simp),ih (λv hv=>hx v (by simp[hv])),bf,du];omega);rw[this (λv hv=>(h4 v hv).1),h3]);(have auU:(execOp a.eval o).run P w=.ok (.value (.slice (some ⟨w.heap.size,0,none⟩) n n)) (w.alloc (.cells cs.toArray e)):=by(have Gc:n*P.cellsOf e=0->(wM (n*P.cellsOf e)).map (λi=>(#[]:Array Value)[i%(#[]:Array Value).size]!)=(au n zc).flatten.toArray:=by intro h0;(have:n=0:=by rcases aBW.1 h0 with h|h;exact h;exact absurd h tf);subst this;simp);(have Gd:(wM (n*P.cellsOf e)).map (λi=>zc.toArray[i%zc.toArray.size]!)=(au n zc).flatten.toArray:=by have:=Sq hzl n;rw[<-this];rfl);simp only[execOp,ho,aBI,bn,aZ hu,aU,Dc w tf];rw[if_neg (by omega)];by_cases h0:n*P.cellsOf e=0;rw[if_pos h0];simp only[bn,bL,aU,Gc h0];rw[h2];simp only[bn,newRow,pX,aU,bL];rfl;rw[if_neg h0];simp only[bn,bL,Ga,aU,tF,Gd];rw[h2];simp only[bn,newRow,pX,aU,bL];rfl);exact⟨cs,h1,nX,Dr,auU⟩
theorem Ze{t e:TypeId}{n:Nat}{mt:Bool}{parts:Array (Nat×Operand)}{zc:List Value}{l:List dJ}(ho:o.op=.buildSlice t n parts)(hu:P.underlying t=some (.slice e))(tf:P.cellsOf e≠0)(kO:n*P.cellsOf e<=16777216)(hz:xA P e=some zc)(hzl:zc.length=P.cellsOf e)(kN:Ck n parts.toList=true)(hl:z7 P parts.toList (au n e) 0 (au n zc).flatten=some l)(Su:n=0->mt=true)(he:cb K γ d s h (.bsl mt (P.cellsOf e) l)=some (v,h')):cC P o a w A E nx γ v h':=by simp only[cb]at he;split at he;rename_i hb;(have Dr:l.length=n:=by obtain⟨qV,_,_,h3,_⟩:=Sj hs hl;simpa using h3);rw[Dr]at hb;obtain⟨zv,Ga,tF,_⟩:=EO hz w;obtain⟨cs,h1,h2⟩:=Sk hs hl (by simpa using kN) (by simpa using hb) (λi=>some (i*P.cellsOf e,P.cellsOf e)) (by intro i t ht;rw[jY]at ht;split at ht;rename_i hi;cases ht;rw[Lz,jR,Za,cX (by omega)];cases ht);(have nX:cs.length=n*P.cellsOf e:=by rw[Oq h1];obtain⟨h3,h4⟩:=Sn hb;(have:∀{l:List MV}{z:Nat},(∀v∈l,v.cs=z)->MV.b5 l=l.length*z:=by intro l z;induction l with|nil=>intro _;simp[MV.b5]|cons x r ih=>intro hx;rw[MV.b5,hx x (by simp),ih (λv hv=>hx v (by simp[hv])),bf,du];omega);rw[this (λv hv=>(h4 v hv).1),h3]);(have auU:(execOp a.eval o).run P w=.ok (.value (.slice (some ⟨w.heap.size,0,none⟩) n n)) (w.alloc (.cells cs.toArray e)):=by(have Gc:n*P.cellsOf e=0->(wM (n*P.cellsOf e)).map (λi=>(#[]:Array Value)[i%(#[]:Array Value).size]!)=(au n zc).flatten.toArray:=by intro h0;(have:n=0:=by rcases aBW.1 h0 with h|h;exact h;exact absurd h tf);subst this;simp);(have Gd:(wM (n*P.cellsOf e)).map (λi=>zc.toArray[i%zc.toArray.size]!)=(au n zc).flatten.toArray:=by have:=Sq hzl n;rw[<-this];rfl);simp only[execOp,ho,aBI,bn,aZ hu,aU,Dc w tf];rw[if_neg (by omega)];by_cases h0:n*P.cellsOf e=0;rw[if_pos h0];simp only[bn,bL,aU,Gc h0];rw[h2];simp only[bn,newRow,pX,aU,bL];rfl;rw[if_neg h0];simp only[bn,bL,Ga,aU,tF,Gd];rw[h2];simp only[bn,newRow,pX,aU,bL];rfl);have hg:=Grown.alloc w cs.toArray e;split at he;rename_i vs fN;simp only[aa,ae]at he;obtain⟨rfl,rfl⟩:=he;(have kF:qb (l.map (cJ s))=some vs/\mt=false:=by cases mt;exact⟨by simpa using fN,rfl⟩;simp at fN);have hp:=EH kF.1;rw[hp]at h1 hb;obtain⟨h3,h4⟩:=Sn hb;obtain⟨k1,k2⟩:=hm.grow (γ:=γ) hg (A':=λb=>A b\/b=w.heap.size) (λ_=>Iff.rfl);refine⟨_,_,_,E,.inl auU,?_,k1,k2⟩;(have Ds:vs.length=n:=by simpa using h3);refine xD.2 ⟨_,n,by rw[Ds],by omega,?_⟩;right;refine⟨_,0,P.cellsOf e,rfl,.inr rfl,?_⟩;refine D1N (cs:=cs) ?_ ?_ hg.Kf;intro v hv;have:=(h4 (.p v) (dY hv)).1;simpa[MV.cs]using this;exact(RT h1).frame k2.sub (λb hb=>hg.old b (hm.im b hb));split at he;rename_i ts vR hts;split at he;rename_i eV;(cases d with|none=>simp[A0O]at he|some d=>simp only[A0O,bI,aa,ae]at he;obtain⟨rfl,rfl⟩:=he;obtain⟨vs,fN,rfl⟩:=h1.vs;obtain⟨E1,lA,k⟩:=Sf _ hts hm fN;(have om:lA.length=ts.length:=by rw[<-k.er];simp);(have Ov:ts.length=n:=by(have:∀(l:List MV)(h:cj)(ts:List (T Nat))(h1:cj),vB γ h l=some (ts,h1)->ts.length=l.length:=by intro l;induction l with|nil=>intro h ts h1 hi;simp only[vB,aa,ae]at hi;rw[<-hi.1];rfl|cons x r ih=>intro h ts h1 hi;simp only[vB]at hi;split at hi;split at hi;rename_i h3;simp only[aa,ae]at hi;rw[<-hi.1,bf,ih _ _ _ h3,bf];cases hi;cases hi);rw[this _ _ _ _ hts,aB,Dr]);(have Co:∀t∈lA,t.cs=P.cellsOf e:=by intro t ht;(have h3:T.mapA An.g t∈ts:=by rw[<-k.er];exact dY ht);simp only[qe,bB,beq_iff_eq]at eV;have:=eV _ h3;rwa[T.kb]at this);obtain⟨E2,k1,k2,k3⟩:=Sm hm hγ k hg d (q:=[]) (by simp) Co (cap:=n) nX (by omega) (by simp only[Ck,aj,decide_eq_true_eq]at kN;exact kN.2.2);rw[om,Ov]at k3;rw[Ov];exact cC.of auU k1 k2 k3);cases he;cases he;cases he
end
end Go.Mid
namespace Go.Mid
open Go.RowKit
section
variable{w w':World}{A:Nat->Prop}{E:dP An}{nx:di}{γ:Nat}{h:cj}
theorem aC9.replicate{cs:List Value}{t:T Nat}{tA:T An}(z:aC9 w A E nx γ cs t tA)(m:MR w A E h nx)(n:Nat):l4 w A E nx γ (au n cs).flatten (au n t) h E (au n tA)where
 er:=by rw[jR,z.er]
 mr:=m
 tc:=by induction n with|zero=>simp[j7]|succ n ih=>rw[cB,cB,ec];simp only[j7];exact⟨_,_,rfl,z.tc,ih⟩
 nd:=by(have:T.dc (au n tA)=[]:=by induction n with|zero=>rfl|succ n ih=>rw[cB,T.dc,z.blk,ih];rfl);rw[this];exact gV
 own:=by(have:T.dc (au n tA)=[]:=by induction n with|zero=>rfl|succ n ih=>rw[cB,T.dc,z.blk,ih];rfl);rw[this];intro b hb;simp at hb
 sub:=λ_ h=>h
 st:=by induction n with|zero=>trivial|succ n ih=>rw[cB];exact⟨z.st,ih⟩
 ns:=jt.refl E
 new:=by intro i t ht;rw[jY]at ht;split at ht;cases ht;exact z.new;cases ht
 one:=by intro c hc;obtain⟨l,hl,nX⟩:=List.mem_flatten.1 hc;rw[eY hl]at nX;exact z.one c nX
 ls:=mS.refl E
end
theorem C2E{P:Program}{w:World}{t ti ty e:TypeId}{i:TypeInfo}{z:Value}{k:IntKind}{kd:IntKind}(ht:P.underlying t=some (.slice e))(Ge:P.underlying ti=some (.int k))(hi:P.info? e=some i)(hz:i.zero=some z)(hJ:0<i.size){a:Option Addr}{n:Nat}(hn:0<n)(su:n*i.bytes<=140737488355328)(aif:n<=140737488355328):(cY #[t,ti] ty #[.slice a 0 0,.int kd n]).run P w=.ok (.slice (some ⟨w.heap.size,0,none⟩) n (grownCap w n 0 e)) (w.drew.alloc (.cells ((aY z.cells n).toList++(aY z.cells (grownCap w n 0 e-n)).toList).toArray e)):=by(have hw:IntKind.i64.wrap (n:Int)=(n:Int):=by simp only[IntKind.wrap,IntKind.bits,IntKind.signed];simp;omega);(have h0:¬((n:Int)<0):=by omega);(have h1:¬(281474976710656<(n:Int)*(i.bytes:Int)):=by(have:((n*i.bytes:Nat):Int)<=140737488355328:=by omega);rw[Int.natCast_mul]at this;omega);(have h2:¬(n<=0):=by omega);(have h3:¬(9223372036854775807<(n:Int)):=by omega);have hc:=mf (need:=n) (old:=0) (bytes:=i.bytes) hn su;(have h4:¬(281474976710656<oG n 0*i.bytes):=by omega);(have h5:¬(n*i.size=0):=by have:=Nat.mul_pos hn hJ;omega);(have h6:¬(n=0):=by omega);(have h7:¬(i.size=0):=by omega);(have hf:∀w':World,(ig i.size 0 (.slice a 0 0)).run P w'=.ok #[] w':=by intro w';cases a with|none=>exact jw w' _ _ _ _|some a=>exact gP w' i.size 0 a 0 0 [] (by simp) (λj v h=>by simp at h));simp[cY,aZ ht,aZ Ge,sizeOf,typeInfo,zeroValue,hi,hz,asInt,asIntOf,hw,h0,h1,h3,h4,h5,h6,Question.forced,newRow,grownCap,hf];congr 2;apply gG;simp
theorem Zf{z:Array Value}{k:Nat}(n:Nat)(hz:z.size=k):(aY z n).toList=(au n z.toList).flatten:=by have h:=Sq (zc:=z.toList) (z:=k) (by simpa using hz) n;(have e:aY z n=madeCells z.toList.toArray (n*k):=by unfold aY madeCells;rw[hz]);rw[e,h]
section
variable{P:Program}{o:Oper}{a:Act}{w:World}{A:Nat->Prop}{E:dP An}{nx:di}{γ:Nat}{v:MV}{h h':cj}{s:gB}{K:jm}{d:Option Nat}(hs:qM P w A E nx s a)(hm:MR w A E h nx)(hγ:¬nx γ)
include hs hm hγ
theorem C9S{t e t1 t2:TypeId}{zero:MV}{lx cx:Operand}{l' c':dJ}(ho:o.op=.makeSlice t lx cx)(hu:P.underlying t=some (.slice e))(tf:P.cellsOf e≠0)(yF:P.bytesOf e≠0)(hz:C8 P e=some zero)(hl:fu P t1 lx=some l')(hc:fu P t2 cx=some c')(he:cb K γ d s h (.mksl (P.cellsOf e) (P.bytesOf e) zero l' c')=some (v,h')):cC P o a w A E nx γ v h':=by simp only[cb]at he;split at he;rename_i l c Sv H6;obtain⟨kl,Dt⟩:=J2 Sv (jP hs hl);obtain⟨kc,Cp⟩:=J2 H6 (jP hs hc);split at he;rename_i tz Sw;split at he;rename_i dV;obtain⟨h0,nU,fO,zn⟩:=dV;(cases d with|none=>simp[A0O]at he|some d=>simp only[A0O,bI,aa,ae]at he;obtain⟨rfl,rfl⟩:=he;obtain⟨zc,tF,Ac⟩:=Kg hz;obtain⟨zv,_,mH,i,hi,EP⟩:=EO tF w;obtain⟨zc',tA,h1,zt⟩:=Ss (w:=w) (A:=A) (E:=E) (nx:=nx) Ac Sw;rw[bD]at h1;subst h1;(have sC:P.bytesOf e=i.bytes:=by simp[nZ,hi]);(have ow:P.cellsOf e=i.size:=by simp[jL,hi]);(have A6:tA.cs=P.cellsOf e:=by rw[<-zn,<-zt.er,T.kb]);(have hzl:zc.length=P.cellsOf e:=by rw[zt.tc.len,A6]);(have Sx:0<=c:=by omega);have Kh:c.toNat<=E5C:=dF (gW _ (ew yF)) fO;(have Sy:((c.toNat*P.bytesOf e:Nat):Int)<=140737488355328:=by have:c.toNat*P.bytesOf e<=140737488355328:=fO;omega);have hcI:(c.toNat:Int)=c:=Int.toNat_of_nonneg Sx;have auU:=run_make (P:=P) w t e i zv hu hi EP kl kc l c h0 nU (by rw[Int.natCast_mul,hcI,sC]at Sy;rw[Int.mul_comm];omega) (by have:c.toNat<=140737488355328:=Kh;omega);(have oq:(au c.toNat zc).flatten.length=c.toNat*P.cellsOf e:=by rw[Sr,hzl]);(have Ki:madeCells zv.cells (c.toNat*i.size)=(au c.toNat zc).flatten.toArray:=by rw[mH,<-ow];exact Sq hzl _);rw[Ki]at auU;have k:=zt.replicate hm l.toNat;obtain⟨E2,k1,k2,k3⟩:=Sm hm hγ k (Grown.alloc w _ e) d (q:=(au (c.toNat-l.toNat) zc).flatten) (by rw[<-aBv,List.replicate_append_replicate];congr 2;omega) (λt ht=>by rw[eY ht,A6]) oq (by simp;omega) (by have:c.toNat<=140737488355328:=Kh;omega);rw[fZ]at k3;refine cC.of (w':=_) ?_ k1 k2 k3;simp only[execOp,ho,Dt,Cp,bn,auU,aU,bL]);cases he;cases he;cases he
theorem C9T{t ti e t1 t2:TypeId}{c:Call}{zero:MV}{x y:Operand}{x' y':dJ}{k:IntKind}(ho:o.op=.call c)(qg:c.callee=.builtin .append)(pg:c.args=#[x,y])(ur:c.argTypes=#[t,ti])(hu:P.underlying t=some (.slice e))(Ge:P.underlying ti=some (.int k))(tf:P.cellsOf e≠0)(yF:P.bytesOf e≠0)(hz:C8 P e=some zero)(hx:fu P t1 x=some x')(hy:fu P t2 y=some y')(he:cb K γ d s h (.appn (P.cellsOf e) (P.bytesOf e) zero x' y')=some (v,h')):cC P o a w A E nx γ v h':=by have dI:=jP hs hx;simp only[cb]at he;split at he;rename_i zz l zo Sv;obtain⟨kl,Dt⟩:=J2 Sv (jP hs hy);split at he;rename_i tz Sw;split at he;rename_i dV;obtain⟨h0,fO,zn⟩:=dV;(cases d with|none=>simp[A0O]at he|some d=>simp only[A0O,bI,aa,ae]at he;obtain⟨rfl,rfl⟩:=he;rw[zo]at dI;simp only[bR]at dI;obtain⟨ax,hax⟩:=dI;obtain⟨zc,tF,Ac⟩:=Kg hz;obtain⟨zv,_,mH,i,hi,EP⟩:=EO tF w;obtain⟨zc',tA,h1,zt⟩:=Ss (w:=w) (A:=A) (E:=E) (nx:=nx) Ac Sw;rw[bD]at h1;subst h1;(have sC:P.bytesOf e=i.bytes:=by simp[nZ,hi]);(have ow:P.cellsOf e=i.size:=by simp[jL,hi]);(have A6:tA.cs=P.cellsOf e:=by rw[<-zn,<-zt.er,T.kb]);(have hzl:zc.length=P.cellsOf e:=by rw[zt.tc.len,A6]);have Kh:l.toNat<=E5C:=dF (gW _ (ew yF)) fO;have hlI:(l.toNat:Int)=l:=Int.toNat_of_nonneg (by omega);(have Cy:0<l.toNat:=by omega);(have SA:0<i.size:=by rw[<-ow];exact ew tf);rw[sC]at fO;have auU:=C2E (P:=P) (w:=w) (ty:=o.type) (kd:=kl) (a:=ax) hu Ge hi EP SA Cy fO Kh;have yG:=grownCap_ge w l.toNat 0 e;(have uK:zv.cells.size=P.cellsOf e:=by rw[mH];simpa using hzl);(have hzt:zv.cells.toList=zc:=by rw[mH]);rw[Zf l.toNat uK,Zf (grownCap w l.toNat 0 e-l.toNat) uK,hzt]at auU;have kk:=zt.replicate hm l.toNat;obtain⟨E2,k1,k2,k3⟩:=Sm hm hγ kk (Grown.drew w _ e) d (cap:=grownCap w l.toNat 0 e) (q:=(au (grownCap w l.toNat 0 e-l.toNat) zc).flatten) rfl (λt ht=>by rw[eY ht,A6]) (by rw[aR,Sr,Sr,hzl,<-hY];congr 1;omega) (by simp;omega) (jS w l.toNat 0 e (by have:l.toNat<=140737488355328:=Kh;unfold maxLen;omega));rw[fZ]at k3;refine cC.of (w':=_) ?_ k1 k2 k3;rw[De ho qg];simp only[builtin,pg,ur];(have e1:rf a.eval #[x,y]=#[.slice ax 0 0,.int kl l.toNat]:=by simp[hax,Dt,hlI]);rw[e1];simp only[bn,auU,aU,bL]);cases he;cases he;cases he
end
end Go.Mid
namespace Go.Mid
open Go.RowKit
section
variable{w w':World}{A:Nat->Prop}{E:dP An}{nx:di}{h:cj}
mutual
theorem TAt.cells:∀{t:T An}{b o:Nat},TAt w A E nx t b o->∀j,j<t.cs->(w.cell? ⟨b,o+j,none⟩).isSome=true|.p v,b,o,h,j,hj=>by simp only[TAt]at h;obtain⟨cs,h1,h2⟩:=h;(have:j<cs.length:=by rw[h1.len];exact hj);rw[h2 j cs[j] (by simp[this])];rfl|.m v,b,o,h,j,hj=>by simp only[TAt]at h;obtain⟨h0,_,val,_,h2⟩:=h;simp only[T.cs,h0]at hj;(have:j=0:=by omega);subst this;rw[h2 0 val rfl];rfl|.agg l,b,o,h,j,hj=>by simp only[TAt]at h;exact cD.cells h j hj|.vec ..,b,o,h,j,hj=>by simp only[TAt]at h;obtain⟨a,cap,h2,_⟩:=h;simp only[T.cs]at hj;(have:j=0:=by omega);subst this;rw[h2 0 _ rfl];rfl|.mp ..,b,o,h,j,hj=>by simp only[TAt]at h|.hole n,b,o,h,j,hj=>by simp only[TAt]at h;obtain⟨v,hv⟩:=h j hj;rw[hv];rfl
theorem cD.cells:∀{l:List (T An)}{b o:Nat},cD w A E nx l b o->∀j,j<T.b5 l->(w.cell? ⟨b,o+j,none⟩).isSome=true|[],b,o,_,j,hj=>by simp[T.b5]at hj|t::r,b,o,h,j,hj=>by simp only[cD]at h;simp only[T.b5]at hj;by_cases eC:j<t.cs;exact TAt.cells h.1 j eC;have:=cD.cells h.2 (j-t.cs) (by omega);rwa[show o+t.cs+(j-t.cs)=o+j by omega]at this
end
mutual
theorem TAt.qm:∀{t:T An}{b o:Nat},TAt w A E nx t b o->∀x∈t.blk,∃m,lX w x m|.p _,b,o,_,x,hx=>by simp[T.blk]at hx|.m _,b,o,_,x,hx=>by simp[T.blk]at hx|.agg l,b,o,h,x,hx=>by simp only[TAt]at h;exact cD.qm h x hx|.vec an z l n,b,o,h,x,hx=>(by simp only[TAt]at h;obtain⟨a,cap,_,_,_,h⟩:=h;cases hb:an.b with|none=>simp only[hb]at h;simp[T.blk,hb,h.1,T.dc]at hx|some b'=>simp only[hb]at h;simp only[T.blk,hb,cg,aS,a7,aG]at hx;rcases hx with rfl|hx;exact⟨_,h.1⟩;exact cD.qm h.2.2.2 x hx)|.mp ..,b,o,h,_,_=>by simp only[TAt]at h|.hole _,b,o,_,x,hx=>by simp[T.blk]at hx
theorem cD.qm:∀{l:List (T An)}{b o:Nat},cD w A E nx l b o->∀x∈T.dc l,∃m,lX w x m|[],b,o,_,x,hx=>by simp[T.dc]at hx|t::r,b,o,h,x,hx=>by simp only[cD]at h;simp only[T.dc,az]at hx;rcases hx with hx|hx;exact TAt.qm h.1 x hx;exact cD.qm h.2 x hx
end
theorem OAt.qm{o:Obj An}(hp:∀a ks vs,o≠.mp a ks vs)(h:OAt w A E nx o):∀x∈o.blk,∃m,lX w x m:=by intro x hx;cases o with|cell an t=>simp only[OAt]at h;obtain⟨b,hb,h1,h2⟩:=h;simp only[Obj.blk,hb,cg,aS,a7,aG]at hx;rcases hx with rfl|hx;exact⟨_,h1⟩;exact h2.qm x hx|vec an z l=>(simp only[OAt,VB]at h;cases hb:an.b with|none=>simp only[hb]at h;simp[Obj.blk,hb,h.1,T.dc]at hx|some b'=>simp only[hb]at h;simp only[Obj.blk,hb,cg,aS,a7,aG]at hx;rcases hx with rfl|hx;exact⟨_,h.1⟩;exact h.2.2.2.qm x hx)|mp=>exact absurd rfl (hp _ _ _)|gone=>simp[Obj.blk]at hx
theorem lX.frozen{b m j:Nat}(h:lX w b m):w.frozen? ⟨b,j,none⟩=false:=by obtain⟨c,ty,h1,_⟩:=h;simp[World.frozen?,h1]
theorem Wr.setCells{b o:Nat}(cs:List Value)(X:List Nat):Wr w (w.setCells b o cs) b o cs.length X where
 other:=λb' _ hne _=>yC hne cs o w
 blk:=λm hm=>hm.setCells cs o w
 cell:=λj hj=>zE b cs o w ⟨b,j,none⟩ (λ_ _=>hj)
theorem Row.setCells{b o:Nat}{cs:List Value}(h:∀j,j<cs.length->(w.cell? ⟨b,o+j,none⟩).isSome=true):Row (w.setCells b o cs) b o cs:=by intro j v hj;obtain⟨eC,hv⟩:=aJ.1 hj;rw[World.cell?_setCells_in b cs o w h j eC,hv]
end
end Go.Mid
namespace Go.Mid
open Go.RowKit
section
variable{w:World}{A:Nat->Prop}{E:dP An}{nx:di}{γ:Nat}{h:cj}
theorem Zg(m:MR w A E h nx){id:Nat}{o o':Obj An}{p:List Nat}{u tA:T An}{b o1:Nat}{cs:List Value}(hE:E id=some o)(hs:iE (some o) p=some u)(hl:rW (some o) p=some (b,o1))(tc:TC w A E nx tA cs)(eV:tA.cs=u.cs)(eN:put (some o) p tA=some o')(hnd:tA.blk.Nodup)(iL:∀x∈tA.blk,(x<w.heap.size/\¬A x)/\(x∈u.blk\/¬jr E x))(hst:tA.st (nx.add γ))(ql:∀q y,fE tA q=some y->nx y.1.g->fE u q=some y):MR (w.setCells b o1 cs) A (cq E id (some o')) (cq h id (some (o'.mapA An.g))) (nx.add γ)/\jr E b/\(∀x,jr (cq E id (some o')) x->x∈tA.blk\/jr E x)/\pf nx E (cq E id (some o'))/\(∀j,j<cs.length->(w.cell? ⟨b,o1+j,none⟩).isSome=true)/\∀j,w.frozen? ⟨b,j,none⟩=false:=by obtain⟨b',Dm,h1,h2,h3,h4,h5⟩:=Cw hs (m.at_ id o hE);rw[hl]at h1;cases h1;(have hlen:cs.length=u.cs:=by rw[tc.len,eV]);have lZ:jr E b:=⟨id,o,hE,h3⟩;have hbt:b∉tA.blk:=λhb=>(iL b hb).2.elim (h5 (m.nd id o hE)) (λk=>k lZ);have gS:∀j,j<cs.length->(w.cell? ⟨b,o1+j,none⟩).isSome=true:=λj hj=>h2.cells j (by omega);(have W:Wr w (w.setCells b o1 cs) b o1 u.cs u.blk:=by rw[<-hlen];exact Wr.setCells cs u.blk);have hp:ph w (w.setCells b o1 cs) A E nx (nx.add γ) id o p u tA b o1:=⟨nx.eF γ,by rw[(zi b cs o1 w).1];exact ay _,hE,hs,hl,eV,W,ql,λx hx=>by rw[(zi b cs o1 w).1];exact(iL x hx).1,hnd,λx hx=>(iL x hx).2,hst⟩;have hm:=m.put hp eN (λf=>(tc.frame f (λx hx=>yC (λe:x=b=>hbt (e▸hx)) cs o1 w)).at_ (Row.setCells gS));refine⟨hm,lZ,λx hx=>(hp.owned m eN hx).imp (λh=>h) (·.1),((hp.vS m eN).fr m).hE,gS,λj=>?_⟩;obtain⟨mm,RR⟩:=(m.at_ id o hE).qm (by rintro a ks vs rfl;cases p<;>simp[iE]at hs) b h3;exact RR.frozen
end
section
variable{P:Program}{o:Oper}{a:Act}{w:World}{A:Nat->Prop}{E:dP An}{nx:di}{γ:Nat}{v:MV}{h h':cj}{s:gB}{K:jm}{d:Option Nat}
theorem Zh{t:TypeId}{x y:Operand}{b o1:Nat}(ho:o.op=.store t x y)(hU:rS P t=true)(hx:a.eval x=.pointer (some ⟨b,o1,none⟩))(hn:(a.eval y).cells.size=P.cellsOf t)(hc:∀j,j<(a.eval y).cells.toList.length->(w.cell? ⟨b,o1+j,none⟩).isSome=true)(hf:∀j,w.frozen? ⟨b,j,none⟩=false)(h1:∀c∈(a.eval y).cells.toList,c.oneCell'=true):(execOp a.eval o).run P w=.ok .skip (w.setCells b o1 (a.eval y).cells.toList):=by have hst:=iX (P:=P) b o1 (a.eval y).cells.toList 0 w (by simpa using hc) (λj _=>hf _) h1;simp only[dG]at hst;simp only[execOp,ho,hx,Instr.storeAt,Instr.sureAddr,bn,bL,aU,storeVar,FX w hU];rw[if_neg (by simp[hn])];simp only[bn,hst,aU,bL]
end
end Go.Mid
namespace Go.Mid
open Go.RowKit
section
variable{P:Program}{o:Oper}{a:Act}{w:World}{A:Nat->Prop}{E:dP An}{nx:di}{γ:Nat}{v:MV}{h h':cj}{s:gB}{K:jm}{d:Option Nat}
theorem MR.lg(m:MR w A E h nx){id:Nat}{p:List Nat}{u:T An}(hs:iE (E id) p=some u):∃ob,E id=some ob:=by cases hE:E id with|none=>rw[hE]at hs;cases p<;>simp[iE]at hs|some ob=>exact⟨ob,rfl⟩
theorem D1P(m:MR w A E h nx){id:Nat}{np:Option (List Nat)}{rp:List Nat}{g o0:Nat}{val:Value}{old:T Nat}(hv:bR w A E nx (.ptr id np rp g o0) val)(hl:look (h id) np rp=some (old,g,o0)):∃b ob u,val=.pointer (some ⟨b,o0,none⟩)/\E id=some ob/\rW (some ob) (sZ np rp)=some (b,o0)/\iE (some ob) (sZ np rp)=some u/\old=u.mapA An.g:=by obtain⟨an,tA,om,hg,rfl⟩:=m.look hl;obtain⟨b,hb,_⟩:=m.uH om;simp only[bR]at hv;obtain⟨_,ad,rfl,sx⟩:=hv;obtain⟨z,hn⟩:=A8q om;obtain⟨b',js,rfl⟩:=sx an z hn hg;rw[hb]at js;cases js;have dK:=N4 om;obtain⟨ob,hE⟩:=m.lg dK;rw[hE]at om dK;exact⟨b,ob,tA,rfl,hE,m.yD hE om hb,dK,rfl⟩
theorem Zi(hm:MR w A E h nx)(hγ:¬nx γ){t:TypeId}{x y:Operand}{id:Nat}{path:List Nat}{b o1:Nat}{ob:Obj An}{yv:MV}(ho:o.op=.store t x y)(hU:rS P t=true)(hx:a.eval x=.pointer (some ⟨b,o1,none⟩))(hE:E id=some ob)(hl:rW (some ob) path=some (b,o1)){u:T An}(hu:iE (some ob) path=some u)(SB:u.cs=P.cellsOf t)(hy:bR w A E nx yv (a.eval y))(he:AL γ h (P.cellsOf t) id path yv=some (v,h')):cC P o a w A E nx γ v h':=by unfold AL at he;split at he;rename_i t1 h1 hi;split at he;rename_i eV;split at he;rename_i on eN;simp only[aa,ae]at he;obtain⟨rfl,rfl⟩:=he;obtain⟨E1,tA,k⟩:=Se yv hi hm hy;(have zn:tA.cs=P.cellsOf t:=by rw[<-eV,<-k.er,T.kb]);rw[k.mr.er id,<-k.er,B0J]at eN;(cases iw:put (E1 id) path tA with|none=>simp[iw]at eN|some o'=>simp only[iw,ak,aa]at eN;subst eN;(have ox:∃u1,iE (E1 id) path=some u1:=by(have key:∀(p:List Nat)(t v t':T An),c8 t p v=some t'->∃u,cR t p=some u:=by intro p;induction p with|nil=>intro t v t' _;exact⟨t,by simp[cR]⟩|cons i r ih=>intro t v t' hk;cases t with|p pv=>cases pv<;>simp only[c8,reduceCtorEq]at hk;rename_i l;simp only[cR];split at hk;rename_i x0 A7;(try simp only[A7]);split at hk;rename_i w0 zp;exact ih _ _ _ zp;cases hk;cases hk|m=>simp[c8]at hk|agg l=>simp only[c8]at hk;simp only[cR];split at hk;rename_i x0 A7;(try simp only[A7]);split at hk;rename_i w0 zp;exact ih _ _ _ zp;cases hk;cases hk|vec a0 z l n=>simp only[c8]at hk;simp only[cR];split at hk;rename_i x0 A7;(try simp only[A7]);split at hk;rename_i w0 zp;exact ih _ _ _ zp;cases hk;cases hk|mp a0 ks l=>simp[c8]at hk|hole=>simp[c8]at hk);cases rC:E1 id with|none=>rw[rC]at iw;cases path<;>simp[put]at iw|some Zj=>rw[rC]at iw;cases Zj with|cell a0 t0=>simp only[put]at iw;split at iw;rename_i w0 zp;rw[Dl];exact key _ _ _ _ zp;cases iw|vec a0 z l=>(cases path with|nil=>simp[put]at iw|cons i r=>simp only[put]at iw;simp only[iE];split at iw;rename_i x0 A7;(try simp only[A7]);split at iw;rename_i w0 zp;exact key _ _ _ _ zp;cases iw;cases iw)|mp a0 ks l=>cases path<;>simp[put]at iw|gone=>cases path<;>simp[put]at iw);obtain⟨u1,Ii⟩:=ox;obtain⟨Zj,rC⟩:=k.mr.lg Ii;obtain⟨u',e1,e2,e3⟩:=k.ls id path u1 Ii;rw[hE,hu]at e1;cases e1;rw[hE,rC]at e3;rw[rC]at Ii iw;obtain⟨k1,k2,k3,k4,k5,k6⟩:=Zg k.mr rC Ii (by rw[e3];exact hl) k.tc (by rw[zn,<-SB,e2]) iw k.nd (λx hx=>⟨hm.lt x (k.own x hx).1,.inr (k.own x hx).2⟩) k.st (λq y hy eC=>by rw[k.new q y hy]at eC;exact(hγ eC).elim);(have hJ:(a.eval y).cells.size=P.cellsOf t:=by rw[<-dX,k.tc.len,zn]);have auU:=Zh ho hU hx hJ k5 k6 k.one;refine⟨undef,_,A,_,.inr ⟨auU,rfl⟩,by simp only[bR],k1,?_⟩;obtain⟨s1,s2,s3,s4⟩:=zi b (a.eval y).cells.toList o1 w;refine gC.of (E1:=E1) ⟨s2,s3,s4⟩ (by rw[s1];exact ay _) (λx _ hx=>yC (λe:x=b=>hx (e▸k.sub b k2)) _ _ _) ?_ (k.ns.F7 nx) k4;intro x _ hx;rcases k3 x hx with hx|hx;exact(k.own x hx).1;exact k.sub x hx);cases he;cases he;cases he
end
end Go.Mid
namespace Go.Mid
open Go.RowKit
theorem SC:∀(l:List (T An))(n:Nat),(T.dc (l.take n)).Sublist (T.dc l)|[],n=>by simp[T.dc]|t::r,0=>by simp[T.dc]|t::r,n+1=>by simp only[bU,T.dc];exact(List.Sublist.refl _).append (SC r n)
theorem Zk{nx:di}:∀{l:List (T An)}{n:Nat},T.j9 nx l->T.j9 nx (l.take n)|[],n,h=>by simpa using h|t::r,0,h=>by simp only[ff,T.j9]|t::r,n+1,h=>by simp only[bU,T.j9]at h|-;exact⟨h.1,Zk h.2⟩
theorem Zl{w:World}{A:Nat->Prop}{E:dP An}{nx:di}:∀{l:List (T An)}{n b o:Nat},cD w A E nx l b o->cD w A E nx (l.take n) b o|[],n,b,o,h=>by simpa using h|t::r,0,b,o,h=>by simp only[ff,cD]|t::r,n+1,b,o,h=>by simp only[bU,cD]at h|-;exact⟨h.1,Zl h.2⟩
section
variable{P:Program}{o:Oper}{a:Act}{w:World}{A:Nat->Prop}{E:dP An}{nx:di}{γ:Nat}{v:MV}{h h':cj}{s:gB}{K:jm}{d:Option Nat}(hs:qM P w A E nx s a)(hm:MR w A E h nx)(hγ:¬nx γ)
include hs hm hγ
theorem C78{t t1 t2:TypeId}{x y:Operand}{x' y':dJ}(ho:o.op=.store t x y)(hx:fu P t1 x=some x')(hy:fu P t2 y=some y')(hU:rS P t=true)(he:cb K γ d s h (.store (P.cellsOf t) x' y')=some (v,h')):cC P o a w A E nx γ v h':=by have dI:=jP hs hx;have w8:=jP hs hy;simp only[cb,HW]at he;split at he;rename_i id np rp g0 o0 hp;rw[hp]at dI;split at he;rename_i old s' oo hl;split at he;rename_i hc;obtain⟨rfl,rfl,eV⟩:=hc;obtain⟨b,ob,u,cE,hE,jC,hu,rfl⟩:=D1P hm dI hl;rw[T.kb]at eV;split at he;rename_i id' sr off len g' ag z l n' hyv hold;split at he;rename_i pg;obtain⟨rfl,rfl,rfl,rfl,hlen⟩:=pg;split at he;rename_i on eN;simp only[aa,ae]at he;obtain⟨rfl,rfl⟩:=he;cases u<;>simp only[T.mapA,reduceCtorEq,T.vec.injEq]at hold;rename_i an z0 lA n0;obtain⟨rfl,rfl,rfl,rfl⟩:=hold;rw[hyv]at w8;simp only[bR]at w8;obtain⟨_,ad,cap,ER,nU,hh⟩:=w8;(have bW:fc (E id') (some (sZ np rp))=some (an,some z0):=by rw[hE];have:=Om (r:=[]) hu;rw[bD]at this;exact this);have kG:=hh an z0 bW rfl;(have hT:(T.vec an.g z0 ((T.cI An.g lA).take len) len:T Nat)=(T.vec an z0 (lA.take len) len).mapA An.g:=by simp only[T.mapA,T.mapAs_eq,bP]);rw[hm.er id',hT,B0J,hE]at eN;(cases iw:put (some ob) (sZ np rp) (T.vec an z0 (lA.take len) len)with|none=>simp[iw]at eN|some o'=>simp only[iw,ak,aa]at eN;subst eN;obtain⟨b',Dm,e1,kV,_,iM,_⟩:=Cw hu (hm.at_ id' ob hE);simp only[TAt]at kV;obtain⟨_,_,_,Du,_,l5⟩:=kV;have hst:(T.vec an z0 lA n0).st nx:=hm.vP (by rw[hE];exact hu);(have hnd:(T.vec an z0 lA n0).blk.Nodup:=by obtain⟨rest,p1,_⟩:=F6 hu iw;exact(aT.1 (p1.nodup_iff.1 (hm.nd id' ob hE))).1);(have yH:∀x,x∈(T.vec an z0 (lA.take len) len).blk->x∈(T.vec an z0 lA n0).blk:=by intro x hx;simp only[T.blk,az]at hx|-;exact hx.imp (λh=>h) (λh=>(SC lA len).subset h));(have tc:TC w A E nx (T.vec an z0 (lA.take len) len) [.slice ad len cap]:=by simp only[TC,VB];refine⟨ad,cap,rfl,by rw[aW];omega,kG,?_⟩;cases hb:an.b with|none=>simp only[hb]at l5;exact⟨by rw[l5.1,gH],l5.2⟩|some b2=>simp only[hb]at l5;exact⟨l5.1,dF (by rw[aW];exact Nat.min_le_right _ _) l5.2.1,λt ht=>l5.2.2.1 t (dh ht),Zl l5.2.2.2⟩);(have tD:(T.vec an z0 (lA.take len) len).blk.Nodup:=by simp only[T.blk]at hnd|-;exact hnd.sublist ((List.Sublist.refl _).append (SC lA len)));(have SD:(T.vec an z0 (lA.take len) len).st nx:=by simp only[T.st]at hst|-;exact⟨hst.1,Zk hst.2⟩);obtain⟨k1,k2,k3,k4,k5,k6⟩:=Zg hm hE hu jC tc rfl iw tD (λx hx=>⟨hm.j6 hE (iM x (yH x hx)),.inl (yH x hx)⟩) (T.ka (nx.eF γ) SD) (λq y hy _=>by cases q with|nil=>exact hy|cons i r=>simp only[Di]at hy|-;cases ht:(lA.take len)[i]? with|none=>rw[ht]at hy;cases hy|some t=>(have h1:lA[i]?=some t:=by have eC:=(aJ.1 ht).1;rw[dL (by rw[aW]at eC;omega)]at ht;exact ht);rw[ht]at hy;rw[h1];exact hy);(have zk:(a.eval y).cells.toList=[.slice ad len cap]:=by rw[ER];rfl);have auU:=Zh ho hU cE (by rw[ER,<-eV];rfl) (by rw[zk];exact k5) k6 (by rw[zk];intro c hc;simp at hc;subst hc;rfl);rw[zk]at auU;obtain⟨s1,s2,s3,s4⟩:=zi b [Value.slice ad len cap] oo w;refine⟨undef,_,A,_,.inr ⟨auU,rfl⟩,by simp only[bR],k1,?_⟩;refine gC.of (E1:=E) ⟨s2,s3,s4⟩ (by rw[s1];exact ay _) (λx _ hx=>yC (λe:x=b=>hx (e▸k2)) _ _ _) ?_ (pf.refl _ _) k4;intro x _ hx;rcases k3 x hx with hx|hx;exact⟨id',ob,hE,iM x (yH x hx)⟩;exact hx);cases he;exact Zi hm hγ ho hU cE hE jC hu eV w8 he;exact Zi hm hγ ho hU cE hE jC hu eV w8 he;cases he;cases he;cases he
end
end Go.Mid
namespace Go.Mid
open Go.RowKit
section
variable{w w':World}{A:Nat->Prop}{E:dP An}{nx nx':di}{h:cj}
mutual
theorem TAt.tc:∀{t:T An}{b o:Nat},TAt w A E nx t b o->∃cs,TC w A E nx t cs/\Row w b o cs|.p v,b,o,k=>by simp only[TAt]at k;obtain⟨cs,h1,h2⟩:=k;exact⟨cs,by simpa only[TC]using h1,h2⟩|.m v,b,o,k=>by simp only[TAt]at k;obtain⟨h0,Db,val,h1,h2⟩:=k;exact⟨[val],by simp only[TC];exact⟨h0,Db,val,h1,rfl⟩,h2⟩|.agg l,b,o,k=>by simp only[TAt]at k;obtain⟨cs,h1,h2⟩:=cD.tc k;exact⟨cs,by simpa only[TC]using h1,h2⟩|.vec an z l n,b,o,k=>by simp only[TAt]at k;obtain⟨a,cap,h1,h2,h3,h4⟩:=k;exact⟨[.slice a n cap],by simp only[TC,VB];exact⟨a,cap,rfl,h2,h3,h4⟩,h1⟩|.mp ..,b,o,k=>by simp only[TAt]at k|.hole n,b,o,k=>by simp only[TAt]at k;obtain⟨cs,h1,h2⟩:=RS n k;exact⟨cs,by simpa only[TC]using h1,h2⟩
theorem cD.tc:∀{l:List (T An)}{b o:Nat},cD w A E nx l b o->∃cs,j7 w A E nx l cs/\Row w b o cs|[],b,o,_=>⟨[],by simp only[j7],Row.nil⟩|t::r,b,o,k=>by simp only[cD]at k;obtain⟨c,h1,h2⟩:=TAt.tc k.1;obtain⟨d,h3,h4⟩:=cD.tc k.2;refine⟨c++d,by simp only[j7];exact⟨c,d,rfl,h1,h3⟩,Row.append.2 ⟨h2,?_⟩⟩;rw[h1.len];exact h4
end
theorem j7.append{l m:List (T An)}{cs ds:List Value}(h:j7 w A E nx l cs)(k:j7 w A E nx m ds):j7 w A E nx (l++m) (cs++ds):=by induction l generalizing cs with|nil=>simp only[j7]at h;subst h;exact k|cons t r ih=>simp only[j7,aS]at h|-;obtain⟨c,d,rfl,h1,h2⟩:=h;exact⟨c,d++ds,by simp,h1,ih h2⟩
theorem cD.append{l m:List (T An)}{b o:Nat}:cD w A E nx (l++m) b o↔cD w A E nx l b o/\cD w A E nx m b (o+T.b5 l):=by induction l generalizing o with|nil=>simp only[a7,cD,T.b5,dG,true_and]|cons t r ih=>simp only[aS,cD,ih,T.b5,Nat.add_assoc,and_assoc]
structure aC_ (w w':World)(A:Nat->Prop)(E:dP An)(nx nx':di)(id:Nat)(o':Obj An):Prop where
 hn:nx.le nx'
 sz:w.heap.size<=w'.heap.size
 ch:∀ b,b<w.heap.size->(A b∨∃ j o,j≠id∧E j=some o∧b∈o.blk)->w'.heap[b]?=w.heap[b]?
 ns:∀ np y,fc (some o') np=some y->nx y.1.g->fc (E id) np=some y
 lt:∀ b∈o'.blk,b<w'.heap.size∧¬ A b
 nd:o'.blk.Nodup
 dj:∀ b∈o'.blk,∀ j o,j≠id->E j=some o->b∉o.blk
 st:o'.st nx'
theorem aC_.fr{id:Nat}{o':Obj An}(m:MR w A E h nx)(s:aC_ w w' A E nx nx' id o'):Fr w w' A A E (cq E id (some o')) nx nx':=⟨λ_ h=>h,λb hb=>s.ch b (m.im b hb) (.inl hb),λi np an z bW hg=>by by_cases e:i=id;subst e;rw[nV]at bW;exact s.ns np _ bW hg;rw[A0C E _ e]at bW;exact bW,s.hn⟩
theorem MR.Gf(m:MR w A E h nx){id:Nat}{o':Obj An}(s:aC_ w w' A E nx nx' id o')(kV:OAt w' A (cq E id (some o')) nx' o'):MR w' A (cq E id (some o')) (cq h id (some (o'.mapA An.g))) nx':=by have f:=s.fr m;constructor;intro i;by_cases e:i=id;subst e;simp[cq];simp[cq,e,m.er i];intro i o ho;by_cases e:i=id;subst e;rw[nV]at ho;cases ho;exact kV;rw[A0C E _ e]at ho;exact OAt.frame f (λx hx=>s.ch x (m.j6 ho hx).1 (.inr ⟨i,o,e,ho,hx⟩)) (m.at_ i o ho);rintro b⟨i,o,ho,hb⟩;by_cases e:i=id;subst e;rw[nV]at ho;cases ho;exact s.lt b hb;rw[A0C E _ e]at ho;have:=m.j6 ho hb;exact⟨br this.1 s.sz,this.2⟩;intro i o ho;by_cases e:i=id;subst e;rw[nV]at ho;cases ho;exact s.nd;rw[A0C E _ e]at ho;exact m.nd i o ho;intro i j o o1 gM ho nr b hb ot;by_cases e:i=id;subst e;rw[nV]at ho;cases ho;rw[A0C E _ (Ne.symm gM)]at nr;exact s.dj b hb j o1 (Ne.symm gM) nr ot;rw[A0C E _ e]at ho;by_cases e':j=id;subst e';rw[nV]at nr;cases nr;exact s.dj b ot i o e ho hb;rw[A0C E _ e']at nr;exact m.dj i j o o1 gM ho nr b hb ot;intro b hb;exact br (m.im b hb) s.sz;intro i o ho;by_cases e:i=id;subst e;rw[nV]at ho;cases ho;exact s.st;rw[A0C E _ e]at ho;exact Obj.ka s.hn (m.st i o ho)
end
section
variable{P:Program}{w:World}
structure lh (P:Program)(w:World)(size:Nat)(x:Value)(n:Nat)(news:List Value):Prop where
 val:∃ xb cap,x=.slice xb n cap
 len:news.length=n*size
 rd:∀ w',w'.heap=w.heap->(ig size n x).run P w'=.ok news.toArray w'
 pre:∀ k,k<=n->(ig size k x).run P w=.ok (news.take (k*size)).toArray w
theorem lh.pG{size n cap:Nat}{news:List Value}{a:Option Addr}(hl:news.length=n*size)(h:n=0\/∃b o,a=some ⟨b,o,none⟩/\Row w b o news):lh P w size (.slice a n cap) n news where
 val:=⟨a,cap,rfl⟩
 len:=hl
 rd:=by intro w' hw';cases a with|none=>rcases h with rfl|⟨_,_,h,_⟩;have:news=[]:=bu (by simpa using hl);subst this;exact jw w' _ _ _ _;cases h|some a=>refine gP w' size n a n cap news hl ?_;intro j v hj;rcases h with rfl|⟨b,o,h,hr⟩;have:news=[]:=bu (by simpa using hl);subst this;simp at hj;simp only[aa]at h;subst h;rw[vQ,show w'.cell? ⟨b,o+j,none⟩=w.cell? ⟨b,o+j,none⟩by simp[mL,hw']];exact hr j v hj
 pre:=by intro k hk;(have zq:(news.take (k*size)).length=k*size:=by rw[aW,hl];exact cX (iY _ hk));cases a with|none=>rcases h with rfl|⟨_,_,h,_⟩;have:news=[]:=bu (by simpa using hl);subst this;rw[gH];exact jw w _ _ _ _;cases h|some a=>refine gP w size k a n cap _ zq ?_;intro j v hj;rcases h with rfl|⟨b,o,h,hr⟩;have:news=[]:=bu (by simpa using hl);subst this;simp at hj;simp only[aa]at h;subst h;rw[vQ];refine hr j v ?_;have eC:=(aJ.1 hj).1;rw[aW]at eC;rwa[dL (by omega)]at hj
section
variable{t ty e:TypeId}{i:TypeInfo}{z:Value}(ht:P.underlying t=some (.slice e))(hi:P.info? e=some i)
include ht hi
theorem B0Z{x:Value}(a:Option Addr)(len cap:Nat)(hx:lh P w i.size x 0 [])(hc:len<=cap):(cY #[t,t] ty #[.slice a len cap,x]).run P w=.ok (.slice a len cap) w:=by obtain⟨xb,xc,rfl⟩:=hx.val;have hf:=hx.rd w rfl;cases a<;>simp[cY,aZ ht,sizeOf,typeInfo,hi,gI,hf,hc,storeCells]
theorem C4H{x:Value}{b len n cap:Nat}{news:List Value}(hx:lh P w i.size x n news)(hc:len+n<=cap)(h1:∀u∈news,u.oneCell'=true)(gS:∀j,j<news.length->(w.cell? ⟨b,len*i.size+j,none⟩).isSome=true)(hf:∀j,w.frozen? ⟨b,j,none⟩=false):(cY #[t,t] ty #[.slice (some ⟨b,0,none⟩) len cap,x]).run P w=.ok (.slice (some ⟨b,0,none⟩) (len+n) cap) (w.setCells b (len*i.size) news):=by obtain⟨xb,xc,rfl⟩:=hx.val;have SF:=hx.rd w rfl;have hst:=iX (P:=P) b (len*i.size) news 0 w (by simpa using gS) (λj _=>hf _) h1;simp only[dG]at hst;simp[cY,aZ ht,sizeOf,typeInfo,hi,gI,SF,hc,vQ,hst]
theorem C2F(hz:i.zero=some z){x:Value}{a:Option Addr}{len n cap:Nat}{olds news:List Value}(hs:lh P w i.size (.slice a len cap) len olds)(hx:lh P w i.size x n news)(hc:cap<len+n)(Gb:((len+n:Nat):Int)<=9223372036854775807)(su:(len+n)*i.bytes<=140737488355328):(cY #[t,t] ty #[.slice a len cap,x]).run P w=.ok (.slice (some ⟨w.heap.size,0,none⟩) (len+n) (grownCap w (len+n) cap e)) (w.drew.alloc (.cells (olds++news++(aY z.cells (grownCap w (len+n) cap e-(len+n))).toList).toArray e)):=by obtain⟨xb,xc,rfl⟩:=hx.val;(have hn:¬(len+n<=cap):=by omega);(have Kj:¬(9223372036854775807<((len:Int)+(n:Int))):=by omega);have h48:=mf hc su;(have SG:¬(281474976710656<oG (len+n) cap*i.bytes):=by omega);have hf:=hx.rd w.drew rfl;have Ow:=hs.rd w.drew rfl;simp[cY,aZ ht,sizeOf,typeInfo,zeroValue,hi,hz,gI,hn,Kj,SG,Question.forced,hf,Ow,newRow,grownCap];congr 2;apply gG;simp
end
structure Gg (w w':World)(an:An)(γ z len n:Nat)(a':Option Addr)(pH:Nat)(bo:Option Nat)(capn:Nat)(cs:List Value):Prop where
 os:w'.os=w.os
 tape:w'.tape=w.tape
 output:w'.output=w.output∧w.drawn<=w'.drawn
 size:w.heap.size<=w'.heap.size
 aSO:∀ b,b<w.heap.size->an.b≠some b->w'.heap[b]?=w.heap[b]?
 le:len+n<=pH
 kG:kU ⟨γ,bo,capn⟩ z 0 (len+n) a' pH
 non:bo=none->len+n=0∧capn=0
 Zm:∀ b,bo=some b->(an.b=some b∨b=w.heap.size∧b<w'.heap.size)∧lX w' b (capn*z)∧len+n<=capn∧Row w' b 0 cs
theorem SH{t ty e:TypeId}{i:TypeInfo}{zv:Value}(ht:P.underlying t=some (.slice e))(hi:P.info? e=some i)(hz:i.zero=some zv)(uK:zv.cells.size=i.size)(γ:Nat){x:Value}{a:Option Addr}{len n cap:Nat}{an:An}{olds news:List Value}(hh:kU an i.size 0 len a cap)(nU:len<=cap)(qn:an.b=none->an.cap=0)(Kk:olds.length=len*i.size)(hb:∀b,an.b=some b->lX w b (an.cap*i.size)/\len<=an.cap/\Row w b 0 olds)(hx:lh P w i.size x n news)(h1:∀u∈news,u.oneCell'=true)(Gb:len+n<=E5C)(su:(len+n)*i.bytes<=E5C):∃a' pH w' bo capn,(cY #[t,t] ty #[.slice a len cap,x]).run P w=.ok (.slice a' (len+n) pH) w'/\Gg w w' an γ i.size len n a' pH bo capn (olds++news):=by have Kj:len+n<=140737488355328:=Gb;have Kl:(len+n)*i.bytes<=140737488355328:=su;by_cases hn:n=0;subst hn;have:news=[]:=bu (by simpa using hx.len);subst this;refine⟨a,cap,w,an.b,an.cap,B0Z ht hi a len cap hx nU,rfl,rfl,⟨rfl,ay _⟩,ay _,λ_ _ _=>rfl,nU,?_,?_,?_⟩;simp only[kU]at hh|-;exact hh;intro Cz;simp only[kU,Cz]at hh;exact⟨hh.1,qn Cz⟩;intro b yH;obtain⟨h2,h3,h4⟩:=hb b yH;exact⟨.inl yH,h2,h3,by rw[bD];exact h4⟩;by_cases hc:len+n<=cap;(cases kE:an.b with|none=>simp only[kU,kE]at hh;omega|some b=>obtain⟨h2,h3,h4⟩:=hb b kE;simp only[kU,kE]at hh;obtain⟨oq,hh⟩:=hh;rcases hh with⟨h5,h6⟩|h5;omega;(have ha:a=some ⟨b,0,none⟩:=by rw[h5,da]);subst ha;(have hle:len*i.size+news.length<=an.cap*i.size:=by rw[hx.len,<-hY];exact iY _ (by omega));have gS:∀j,j<news.length->(w.cell? ⟨b,len*i.size+j,none⟩).isSome=true:=λj hj=>(h2.cell (by omega)).1;have hr:=C4H (ty:=ty) ht hi hx hc h1 gS (λj=>h2.frozen);obtain⟨s1,s2,s3,s4⟩:=zi b news (len*i.size) w;refine⟨_,_,_,some b,an.cap,hr,s2,s3,s4,by rw[s1];exact ay _,λx _ hx=>yC (λe:x=b=>hx (e▸kE)) _ _ _,by omega,?_,by simp,?_⟩;simp only[kU];exact⟨oq,.inr (by rw[da])⟩;intro b' js;cases js;refine⟨.inl kE,h2.setCells _ _ _,by omega,Row.append.2 ⟨?_,?_⟩⟩;refine h4.iT (λj Df ES=>?_);exact zE b news (len*i.size) w ⟨b,j,none⟩ (λ_ _=>.inl (by simp only;omega));rw[bS,Kk];exact Row.setCells gS);(have hso:lh P w i.size (.slice a len cap) len olds:=by refine lh.pG Kk ?_;by_cases hl0:len=0;exact .inl hl0;cases kE:an.b with|none=>simp only[kU,kE]at hh;omega|some b=>obtain⟨h2,h3,h4⟩:=hb b kE;simp only[kU,kE]at hh;obtain⟨oq,hh⟩:=hh;rcases hh with⟨h5,h6⟩|h5;omega;exact .inr ⟨b,0,by rw[h5,da],h4⟩);have hr:=C2F (ty:=ty) ht hi hz hso hx (by omega) (by omega) Kl;have yG:=grownCap_ge w (len+n) cap e;have aix:grownCap w (len+n) cap e<=9223372036854775807:=jS w (len+n) cap e (by unfold maxLen;omega);refine⟨_,_,_,some w.heap.size,grownCap w (len+n) cap e,hr,rfl,rfl,⟨rfl,au6 _⟩,by simp,λb hb _=>oF w.drew _ b hb,yG,?_,by simp,?_⟩;simp only[kU];exact⟨by omega,.inr (by rw[da])⟩;intro b' js;cases js;have g:=Grown.drew w (olds++news++(aY zv.cells (grownCap w (len+n) cap e-(len+n))).toList).toArray e;(have hJ:(olds++news++(aY zv.cells (grownCap w (len+n) cap e-(len+n))).toList).toArray.size=grownCap w (len+n) cap e*i.size:=by simp only[fx,aR,Kk,hx.len,dX,size_zeroCells,uK,<-hY];congr 1;omega);refine⟨.inr ⟨rfl,by rw[g.size];omega⟩,?_,yG,g.row (p:=[]) (c:=olds++news) (q:=(aY zv.cells (grownCap w (len+n) cap e-(len+n))).toList) (by simp)⟩;have:=g.blk;rwa[hJ]at this
end
end Go.Mid
namespace Go.Mid
open Go.RowKit
section
variable{w w':World}{A:Nat->Prop}{E:dP An}{nx nx':di}{h:cj}
mutual
theorem C6i(g:Nat):∀{t:T An}{cs:List Value},TC w A E nx t cs->TC w A E nx (t.mapA (A0Q g)) cs|.p v,cs,h=>h|.m v,cs,h=>h|.agg l,cs,h=>by simp only[TC,T.mapA]at h|-;exact Ox g h|.vec an z l n,cs,h=>by simp only[TC,T.mapA]at h|-;obtain⟨a,cap,h1,h2,h3,h4⟩:=h;exact⟨a,cap,h1,by rw[T.mapAs_eq,aB];exact h2,h3,YU g h4⟩|.mp ..,cs,h=>by simp only[TC]at h|.hole n,cs,h=>h
theorem Ox(g:Nat):∀{l:List (T An)}{cs:List Value},j7 w A E nx l cs->j7 w A E nx (T.cI (A0Q g) l) cs|[],cs,h=>by simpa only[j7,T.cI]using h|t::r,cs,h=>by simp only[j7,T.cI]at h|-;obtain⟨c,d,h1,h2,h3⟩:=h;exact⟨c,d,h1,C6i g h2,Ox g h3⟩
end
mutual
theorem TC.one:∀{t:T An}{cs:List Value},Et (t.mapA An.g)=true->TC w A E nx t cs->∀c∈cs,c.oneCell'=true|.p v,cs,_,h=>by simp only[TC]at h;exact h.ke|.m v,cs,hs,h=>by simp only[TC]at h;obtain⟨_,_,val,h1,rfl⟩:=h;intro c hc;simp only[aX]at hc;subst hc;cases v<;>simp only[T.mapA,Et,reduceCtorEq]at hs<;>simp only[bR]at h1;obtain⟨_,_,_,rfl,_⟩:=h1;rfl;obtain⟨_,_,rfl,_⟩:=h1;rfl;obtain⟨_,_,rfl,_⟩:=h1;rfl;obtain⟨_,rfl,_⟩:=h1;unfold xC;split<;>rfl|.agg l,cs,hs,h=>by simp only[TC]at h;simp only[T.mapA,Et]at hs;exact j7.one hs h|.vec ..,cs,_,h=>by simp only[TC]at h;obtain⟨_,_,rfl,_⟩:=h;intro c hc;simp only[aX]at hc;subst hc;rfl|.mp ..,cs,_,h=>by simp only[TC]at h|.hole n,cs,hs,_=>by simp[T.mapA,Et]at hs
theorem j7.one:∀{l:List (T An)}{cs:List Value},Cf (T.cI An.g l)=true->j7 w A E nx l cs->∀c∈cs,c.oneCell'=true|[],cs,_,h=>by simp only[j7]at h;subst h;intro c hc;cases hc|t::r,cs,hs,h=>by simp only[j7]at h;simp only[T.cI,Cf,aj]at hs;obtain⟨c,d,rfl,h1,h2⟩:=h;intro x hx;rcases az.1 hx with hx|hx;exact TC.one hs.1 h1 x hx;exact j7.one hs.2 h2 x hx
end
theorem SI{l:List (T An)}(h:(l.map (T.mapA An.g)).all vm=true):∃vs:List PV,l=vs.map .p:=by induction l with|nil=>exact⟨[],rfl⟩|cons t r ih=>simp only[aF,dC,aj]at h;obtain⟨vs,fN⟩:=ih h.2;cases t<;>simp only[T.mapA,vm,reduceCtorEq]at h;exact⟨_::vs,by rw[fN];rfl⟩;all_goals exact absurd h.1 (by simp)
theorem D1Q{ts:List (T Nat)}(h:ts.all vm=true):∃vs:List PV,ts=vs.map .p:=by induction ts with|nil=>exact⟨[],rfl⟩|cons t r ih=>simp only[dC,aj]at h;obtain⟨vs,fN⟩:=ih h.2;cases t<;>simp only[vm,reduceCtorEq]at h;exact⟨_::vs,by rw[fN];rfl⟩;all_goals exact absurd h.1 (by simp)
theorem Oy(g:Nat)(vs:List PV):A0N g (vs.map .p)=vs.map .p:=by induction vs with|nil=>rfl|cons x r ih=>simp only[aF,A0N,jy,iS]at ih|-;rw[ih]
theorem Zn{z:Nat}{l:List (T Nat)}(h:qe z l=true):T.b5 l=l.length*z:=by induction l with|nil=>simp[T.b5]|cons t r ih=>simp only[qe,dC,aj,beq_iff_eq]at h;simp only[T.b5,bf,ih h.2,h.1,du];omega
theorem l4.plain{γ:Nat}(hm:MR w A E h nx){vs:List PV}{cs:List Value}(hc:cK w A vs cs):l4 w A E nx γ cs (vs.map .p) h E (vs.map .p)where
 er:=by rw[sk];rfl
 mr:=hm
 tc:=vT.2 hc
 nd:=by rw[F4];exact gV
 own:=by rw[F4];intro b hb;cases hb
 sub:=λ_ h=>h
 st:=Of vs
 ns:=jt.refl E
 new:=by intro i t ht q y hy;rw[aL]at ht;cases hv:vs[i]? with|none=>simp[hv]at ht|some v=>simp only[hv,ak,aa]at ht;subst ht;rw[Ou]at hy;cases hy
 one:=hc.ke
 ls:=mS.refl E
theorem fB.row:∀{l:List PV}{b o z:Nat},fB w A l b o z->∃cs,cK w A l cs/\Row w b o cs|[],b,o,z,_=>⟨[],by simp only[cK],Row.nil⟩|x::r,b,o,z,k=>by simp only[fB]at k;obtain⟨⟨c,h1,h2,h3⟩,h4⟩:=k;obtain⟨d,h5,h6⟩:=fB.row h4;exact⟨c++d,by simp only[cK];exact⟨c,d,rfl,h1,h5⟩,Row.append.2 ⟨h3,by rw[h2];exact h6⟩⟩
theorem Zo{l:List (T An)}{b z:Nat}(k:cD w A E nx l b 0)(hz:∀t∈l,t.cs=z){off len:Nat}(hl:off+len<=l.length):cD w A E nx ((l.drop off).take len) b (off*z):=by(have e:l=l.take off++((l.drop off).take len++(l.drop off).drop len):=by rw[bM,bM]);rw[e]at k;have h1:=(cD.append.1 k).2;rw[Cq hz (by omega),bS]at h1;exact(cD.append.1 h1).1
theorem SJ{n:di}:∀{l m:List (T An)},(∀t∈m,t∈l)->T.j9 n l->T.j9 n m:=by(have get:∀{l:List (T An)}{t:T An},t∈l->T.j9 n l->t.st n:=by intro l;induction l with|nil=>intro t ht;cases ht|cons x r ih=>intro t ht k;simp only[T.j9]at k;rcases aG.1 ht with rfl|ht;exact k.1;exact ih ht k.2);intro l m;induction m with|nil=>intro _ _;trivial|cons x r ih=>intro h k;simp only[T.j9];exact⟨get (h x (by simp)) k,ih (λt ht=>h t (by simp[ht])) k⟩
theorem SK{P:Program}{γ:Nat}(hm:MR w A E h nx){y:MV}{val:Value}{ts:List (T Nat)}{h1:cj}{z:Nat}(hv:bR w A E nx y val)(ht:tu h y=some (ts,h1))(hz:qe z ts=true):∃news E1 lA,lh P w z val ts.length news/\l4 w A E nx γ news (A0N γ ts) h1 E1 lA:=by unfold tu at ht;split at ht;cases ht;rename_i Sh ia;split at ht;rename_i qN;simp only[aa,ae]at ht;obtain⟨rfl,rfl⟩:=ht;obtain⟨vs,rfl⟩:=D1Q qN;(have hlen:∀{cs:List Value},cK w A vs cs->cs.length=(vs.map (T.p (α:=Nat))).length*z:=by intro cs hc;rw[hc.len,<-EI (α:=Nat),Zn hz]);rw[Oy];(cases y with|p v=>cases v<;>simp only[elems,reduceCtorEq]at ia;rename_i l;simp only[aa]at ia;(have hl:l=vs:=by have:=congrArg ml ia;rw[Dg,Dg]at this;exact s8 this);subst hl;obtain⟨p,cap,rfl,nU,oc⟩:=xD.1 hv;rcases oc with rfl|⟨b,o,z',rfl,hb,ia⟩;refine⟨[],E,[],?_,l4.plain hm (vs:=[]) (by simp only[cK])⟩;exact lh.pG (by simp) (.inl rfl);obtain⟨cs,h2,h3⟩:=ia.row;refine⟨cs,E,_,?_,l4.plain hm h2⟩;rw[aB];exact lh.pG (by have:=hlen h2;rwa[aB]at this) (.inr ⟨b,o,rfl,h3⟩)|nil zz=>simp only[elems,aa]at ia;simp only[bR]at hv;obtain⟨a,rfl⟩:=hv;(have:vs=[]:=by cases vs with|nil=>rfl|cons x r=>simp at ia);subst this;exact⟨[],E,[],lh.pG (by simp) (.inl rfl),l4.plain hm (vs:=[]) (by simp only[cK])⟩|own id path off len g=>simp only[elems]at ia;split at ia;rename_i g' z0 l iD;split at ia;rename_i hc;obtain⟨rfl,hle⟩:=hc;simp only[aa]at ia;obtain⟨an,lA,nB,rfl,rfl⟩:=hm.vec iD;have hB:=hm.vO nB;have bW:=uG nB;simp only[bR]at hv;obtain⟨_,a,cap,rfl,nU,hh⟩:=hv;have kG:=hh an z0 bW rfl;rw[aB]at hle;(have Gi:((lA.drop off).take len).map (T.mapA An.g)=vs.map .p:=by rw[<-ia];simp);obtain⟨Ad,Gj⟩:=SI (l:=(lA.drop off).take len) (by rw[Gi];exact qN);(have Ij:Ad=vs:=by rw[Gj,sk]at Gi;have:(Ad.map (T.p (α:=Nat)))=vs.map .p:=Gi;have:=congrArg ml this;rw[Dg,Dg]at this;exact s8 this);subst Ij;(have A9:Ad.length=len:=by have:=congrArg cz Gj;simp at this;omega);simp only[VB]at hB;(cases hb:an.b with|none=>simp only[hb]at hB;(have:len=0:=by have:=hB.1;subst this;simp at hle;omega);subst this;have:Ad=[]:=bu A9;subst this;exact⟨[],E,[],lh.pG (by simp) (.inl rfl),l4.plain hm (vs:=[]) (by simp only[cK])⟩|some b=>simp only[hb]at hB;obtain⟨_,_,J6,kV⟩:=hB;have dK:=Zo kV J6 hle;rw[Gj]at dK;obtain⟨cs,h2,h3⟩:=(sy.1 dK).tc;simp only[TC,dU]at h2;refine⟨cs,E,_,?_,l4.plain hm h2⟩;rw[aB,A9];refine lh.pG (by have:=hlen h2;rwa[aB,A9]at this) ?_;simp only[kU,hb]at kG;rcases kG.2 with⟨h5,_⟩|h5;exact .inl h5;exact .inr ⟨b,off*z0,h5,h3⟩);cases ia;cases ia|ptr=>simp only[elems,reduceCtorEq]at ia|auG=>simp only[elems,reduceCtorEq]at ia|agg=>simp only[elems,reduceCtorEq]at ia|fn=>simp only[elems,reduceCtorEq]at ia|eI=>simp only[elems,reduceCtorEq]at ia|dead=>simp only[elems,reduceCtorEq]at ia);split at ht;rename_i id len g;split at ht;rename_i g1 z1 l gk;split at ht;rename_i hc;obtain⟨rfl,SM⟩:=hc;simp only[aa,ae]at ht;obtain⟨rfl,rfl⟩:=ht;simp only[elems]at ia;split at ia;rename_i g' z0 l2 iD;split at ia;rename_i hc;obtain⟨rfl,hle⟩:=hc;simp only[aa]at ia;obtain⟨an,lA,Km,rfl,Dv,Ab,l5,hnd,iL,dK⟩:=hm.vU gk;(have Kn:jq (h id) []=some (an.g,z1,l):=by rw[gk];rfl);rw[Kn]at iD;simp only[aa,ae]at iD;obtain⟨rfl,rfl,rfl⟩:=iD;rw[fh,List.take_length]at ia;subst ia;(have bW:fc (E id) (some [])=some (an,some z1):=by rw[Km];rfl);simp only[bR]at hv;obtain⟨_,a,cap,rfl,nU,hh⟩:=hv;have kG:=hh an z1 bW rfl;have hst:=hm.st id _ Km;simp only[Obj.st]at hst;have Ba:VB w A (cq E id (some .gone)) nx an z1 lA:=l5.frame (jt.fr (jt.gone E id) (di.le_refl nx)) (λ_ _=>rfl);have Ko:(T.cI An.g lA)=lA.map (T.mapA An.g):=T.mapAs_eq _ _;(have eV:∃news,j7 w A (cq E id (some .gone)) nx lA news/\(l.length=0\/∃b o,a=some ⟨b,o,none⟩/\Row w b o news):=by simp only[VB]at Ba;cases hb:an.b with|none=>simp only[hb]at Ba;have h0:=Ba.1;subst h0;refine⟨[],by simp only[j7],.inl (by rw[Dv];rfl)⟩|some b=>simp only[hb]at Ba;obtain⟨cs,h2,h3⟩:=Ba.2.2.2.tc;refine⟨cs,h2,?_⟩;simp only[kU,hb]at kG;rcases kG.2 with⟨h5,_⟩|h5;exact .inl h5;exact .inr ⟨b,0,by rw[h5,da],h3⟩);obtain⟨news,Bb,hrow⟩:=eV;refine⟨news,cq E id (some .gone),T.cI (A0Q γ) lA,lh.pG (by rw[Bb.len,<-T.si An.g,Ko,<-Dv,Zn hz]) hrow,?_⟩;constructor;rw[<-T.mapAs_eq,EL,Ko,<-Dv];exact Ab;exact Ox γ Bb;rw[AZ];exact(aT.1 hnd).2.1;rw[AZ];exactλb hb=>iL b (by simp[hb]);exact dK;exact EK nx γ lA;exact jt.gone E id;intro i t ht q y hy;rw[T.mapAs_eq,aL]at ht;(cases hl:lA[i]? with|none=>simp[hl]at ht|some u=>simp only[hl,ak,aa]at ht;subst ht;exact Ke hy);exact j7.one (by rw[Ko,<-Dv];exact SM) Bb;exact mS.gone E id;cases ia;cases ia;cases ht;cases ht;cases ht
end
end Go.Mid
namespace Go.Mid
open Go.RowKit
section
variable{w w':World}{A:Nat->Prop}{E Eb:dP An}{nx:di}{γ:Nat}{h hb:cj}
theorem Oz(hγ:¬nx γ)(m:MR w A E h nx)(mb:MR w A Eb hb nx)(dK:∀b,jr Eb b->jr E b)(hnE:pf nx E Eb){an:An}{z len n capn pH d:Nat}{a':Option Addr}{bo:Option Nat}{cs:List Value}{l:List (T An)}(k:Gg w w' an γ z len n a' pH bo capn cs)(hlen:l.length=len+n)(hz:∀t∈l,t.cs=z)(htc:j7 w A Eb nx l cs)(hnd:(T.dc l).Nodup)(iL:∀b∈T.dc l,jr E b/\(∀j o,j≠d->Eb j=some o->b∉o.blk)/\an.b≠some b)(Ik:∀b,an.b=some b->jr E b/\∀j o,j≠d->Eb j=some o->b∉o.blk)(hst:T.j9 (nx.add γ) l)(ql:∀(i:Nat)(t:T An),l[i]?=some t->∀q y,fE t q=some y->nx y.1.g->fc (Eb d) (some (i::q))=some y):∃E2,MR w' A E2 (cq hb d (some (.vec γ z (l.map (T.mapA An.g))))) (nx.add γ)/\gC w A E nx w' A E2/\bR w' A E2 (nx.add γ) (.own d [] 0 (len+n) γ) (.slice a' (len+n) pH):=by have Cz:∀b,bo=some b->(an.b=some b\/b=w.heap.size/\b<w'.heap.size):=λb hb=>(k.Zm b hb).1;(have xH:∀np y,fc (some (.vec ⟨γ,bo,capn⟩ z l)) np=some y->nx y.1.g->fc (Eb d) np=some y:=by intro np y hy hg;cases np with|none=>simp[fc]at hy|some q=>have Gk:=hy;rw[uJ]at hy;cases q with|nil=>simp only[Obj.qk,fE,cR,aa]at hy;subst hy;exact(hγ hg).elim|cons i r=>simp only[Obj.qk,Di]at hy;cases hl:l[i]? with|none=>simp[hl]at hy|some t=>simp only[hl,ai]at hy;exact ql i t hl r y hy hg);(have iM:∀b∈(Obj.vec ⟨γ,bo,capn⟩ z l).blk,bo=some b\/b∈T.dc l:=by intro b hb;simp only[Obj.blk,az,Option.mem_toList]at hb;exact hb);have Bc:∀b,jr E b->b<w.heap.size/\¬A b:=m.lt;(have s:aC_ w w' A Eb nx (nx.add γ) d (.vec ⟨γ,bo,capn⟩ z l):=by refine⟨nx.eF γ,k.size,?_,xH,?_,?_,?_,⟨nx.iG γ,hst⟩⟩;intro b hb oc;refine k.aSO b hb (λe=>?_);rcases oc with hA|⟨j,o,hj,ho,lZ⟩;exact(Bc b (Ik b e).1).2 hA;exact(Ik b e).2 j o hj ho lZ;intro b hb;rcases iM b hb with hb|hb;rcases Cz b hb with e|⟨rfl,h2⟩;have:=Bc b (Ik b e).1;exact⟨br this.1 k.size,this.2⟩;exact⟨h2,λhA=>absurd (m.im _ hA) (by omega)⟩;have:=Bc b (iL b hb).1;exact⟨br this.1 k.size,this.2⟩;simp only[Obj.blk];(cases lZ:bo with|none=>simpa using hnd|some b=>simp only[cg,aS,a7];refine bZ.2 ⟨λhb=>?_,hnd⟩;rcases Cz b lZ with e|⟨rfl,_⟩;exact(iL b hb).2.2 e;have:=(Bc _ (iL _ hb).1).1;omega);intro b hb j o hj ho lZ;rcases iM b hb with hb|hb;rcases Cz b hb with e|⟨rfl,_⟩;exact(Ik b e).2 j o hj ho lZ;have:=(mb.j6 ho lZ).1;omega;exact(iL b hb).2.1 j o hj ho lZ);have f:=s.fr mb;have uL:∀x∈T.dc l,w'.heap[x]?=w.heap[x]?:=λx hx=>k.aSO x (Bc x (iL x hx).1).1 (iL x hx).2.2;have Kp:=htc.frame f uL;(have kV:OAt w' A (cq Eb d (some (.vec ⟨γ,bo,capn⟩ z l))) (nx.add γ) (.vec ⟨γ,bo,capn⟩ z l):=by simp only[OAt,VB];cases lZ:bo with|none=>have:=k.non lZ;refine⟨bu (by omega),this.2⟩|some b=>obtain⟨_,h2,h3,h4⟩:=k.Zm b lZ;rw[lZ]at Kp;exact⟨h2,by omega,hz,Kp.at_ h4⟩);refine⟨cq Eb d (some (.vec ⟨γ,bo,capn⟩ z l)),?_,?_,?_⟩;have:=mb.Gf s kV;simpa only[Obj.mapA,T.mapAs_eq]using this;refine gC.of (E1:=Eb) ⟨k.os,k.tape,k.output⟩ k.size (λb hb ho=>k.aSO b hb (λe=>ho (Ik b e).1)) ?_ hnE f.hE;intro b eC ho;rcases Cv ho with h1|⟨i,oi,hi,tE,Cx⟩;rcases iM b h1 with h2|h2;rcases Cz b h2 with e|⟨rfl,_⟩;exact(Ik b e).1;omega;exact(iL b h2).1;exact dK b ⟨i,oi,tE,Cx⟩;simp only[bR];refine⟨nx.iG γ,_,_,rfl,k.le,λrU z' hn _=>?_⟩;rw[nV]at hn;simp only[fc,aa,ae]at hn;obtain⟨rfl,rfl⟩:=hn;exact k.kG
end
section
variable{P:Program}{o:Oper}{a:Act}{w:World}{A:Nat->Prop}{E:dP An}{nx:di}{γ:Nat}{v:MV}{h h':cj}{s:gB}{K:jm}{d:Option Nat}
theorem SN{c:Call}{t:TypeId}{x y:Operand}(ho:o.op=.call c)(qg:c.callee=.builtin .append)(pg:c.args=#[x,y])(ur:c.argTypes=#[t,t]):(execOp a.eval o).run P w=match(cY #[t,t] o.type #[a.eval x,a.eval y]).run P w with|.ok v w'=>.ok (.value v) w'|.halt e w'=>.halt e w':=by rw[De ho qg];simp only[builtin,pg,ur];simp only[bn,bL];(have e:rf a.eval #[x,y]=#[a.eval x,a.eval y]:=by simp);rw[e];cases(cY #[t,t] o.type #[a.eval x,a.eval y]).run P w<;>rfl
theorem Zp{an:An}{z len:Nat}{l:List (T An)}(k:VB w A E nx an z l)(hl:len<=l.length):∃olds,j7 w A E nx (l.take len) olds/\olds.length=len*z/\(∀t∈l.take len,t.cs=z)/\(an.b=none->an.cap=0)/\∀b,an.b=some b->lX w b (an.cap*z)/\len<=an.cap/\Row w b 0 olds:=by simp only[VB]at k;cases hb:an.b with|none=>simp only[hb]at k;obtain⟨rfl,k2⟩:=k;simp only[cM,Nat.le_zero]at hl;subst hl;exact⟨[],by simp only[gH,j7],by simp,by simp,λ_=>k2,by simp⟩|some b=>simp only[hb]at k;obtain⟨k1,k2,k3,k4⟩:=k;have h1:=Zo k4 k3 (off:=0) (len:=len) (by omega);rw[fh,da]at h1;obtain⟨olds,h2,h3⟩:=h1.tc;have hz:∀t∈l.take len,t.cs=z:=λt ht=>k3 t (dh ht);refine⟨olds,h2,?_,hz,by simp,λb' js=>?_⟩;rw[h2.len];have:=Cq (l:=l) (i:=len) k3 hl;exact this;cases js;exact⟨k1,by omega,h3⟩
theorem Zq{l:List (T An)}{n:Nat}:∃rest,T.dc l=T.dc (l.take n)++rest:=⟨T.dc (l.drop n),by rw[<-yB,bM]⟩
theorem D1R (hm:MR w A E h nx)(hγ:¬ nx γ){t e:TypeId}{xv yv:MV}{vx vy:Value}(ht:P.underlying t=some (.slice e))(tf:P.cellsOf e≠0)(yF:P.bytesOf e≠0)(hz:(xA P e).map cz=some (P.cellsOf e))
 (hx:bR w A E nx xv vx) (hy:bR w A E nx yv vy) (he:A3y γ d h (P.cellsOf e) (P.bytesOf e) xv yv=some (v,h')) (ty:TypeId) :
 ∃ val w' E2,(cY #[t,t] ty #[vx,vy]).run P w=.ok val w'∧MR w' A E2 h' (nx.add γ)∧gC w A E nx w' A E2∧bR w' A E2 (nx.add γ) v val:=by
 cases tF:xA P e with
 | none=>simp [tF] at hz
 | some zc =>
   simp only [tF,ak,aa] at hz
   obtain ⟨zv,_,mH,i,hi,EP⟩:=EO tF w
   have sC:P.bytesOf e=i.bytes:=by simp [nZ,hi]
   have ow:P.cellsOf e=i.size:=by simp [jL,hi]
   have uK:zv.cells.size=i.size:=by rw [mH,← ow];simpa using hz
   rw [ow] at he tf
   rw [sC] at he yF
   unfold A3y at he
   split at he
   . cases he
   . rename_i ts h1 Dw
     split at he
     . cases he
     . rename_i eV
       have Kq:qe i.size ts=true:=by simpa using eV
       obtain ⟨news,E1,lA,jD,kA⟩:=SK (P:=P) (γ:=γ) hm hy Dw Kq
       have om:lA.length=ts.length:=by
        have:=congrArg cz kA.er
        simp only [aB,A0N] at this
        rw [this]
        have:∀ l:List (T Nat),(jy (λv=>v) (λ_=>γ) l).length=l.length:=by
         intro l;induction l with
         | nil=>rfl
         | cons x r ih=>simp only [jy,bf,ih]
        exact this ts
       have SO:∀ t∈lA,t.cs=i.size:=by
        have h2:qe i.size (lA.map (T.mapA An.g))=true:=by
         rw [kA.er]
         have:∀ l:List (T Nat),qe i.size l=true->qe i.size (A0N γ l)=true:=by
          intro l
          have SP:∀ t:T Nat,(iS (λv=>v) (λ_=>γ) t).cs=t.cs:=by
           have key:(∀ t:T Nat,(iS (λv=>v) (λ_=>γ) t).cs=t.cs):=by
            intro t
            refine T.rec (motive_1:=λt=>(iS (λv=>v) (λ_=>γ) t).cs=t.cs) (motive_2:=λl=>T.b5 (jy (λv=>v) (λ_=>γ) l)=T.b5 l) ?_ ?_ ?_ ?_ ?_ ?_ ?_ ?_ t
            . intro v;rfl
            . intro v;rfl
            . intro l ih;simp only [iS,T.cs];exact ih
            . intro a z l n ih;rfl
            . intro a ks vs ih;rfl
            . intro n;rfl
            . rfl
            . intro hd tl h1 h2;simp only [jy,T.b5,h1,h2]
           exact key
          induction l with
          | nil=>intro _;rfl
          | cons x r ih =>
            intro hl
            simp only [qe,dC,aj,beq_iff_eq,A0N,jy] at hl ih ⊢
            exact ⟨by rw [SP];exact hl.1,ih hl.2⟩
         exact this ts Kq
        intro t ht
        simp only [qe,bB,beq_iff_eq] at h2
        have:=h2 _ (dY ht)
        rwa [T.kb] at this
       have yI:∀ b∈T.dc lA,∀ (j:Nat) (o:Obj An),E1 j=some o->b∉o.blk:=λb hb j o ho lZ=>(kA.own b hb).2 ⟨j,o,ho,lZ⟩
       have Dx:1<=i.bytes:=ew yF
       have xI:∀ k,k*i.bytes<=E5C->k<=E5C:=λk hk=>dF (gW k Dx) hk
       split at he
       . -- nil
         split at he
         . rename_i fO
           cases d with
           | none=>simp [A0O] at he
           | some d =>
             simp only [A0O,bI,aa,ae] at he
             obtain ⟨rfl,rfl⟩:=he
             simp only [bR] at hx
             obtain ⟨ax,rfl⟩:=hx
             obtain ⟨a',pH,w',bo,capn,auU,k⟩:=SH (ty:=ty) ht hi EP uK γ (an:=⟨γ,none,0⟩) (a:=ax) (len:=0) (cap:=0) (olds:=[]) ⟨rfl,rfl⟩ (ay _) (λ_=>rfl) (by simp) (by simp) jD kA.one (by rw [bS];exact xI _ fO) (by rw [bS];exact fO)
             rw [a7] at k
             obtain ⟨E2,k1,k2,k3⟩:=Oz (d:=d) hγ hm kA.mr kA.sub (kA.ns.F7 nx) k (by rw [om,bS]) SO kA.tc kA.nd (λb hb=>⟨(kA.own b hb).1,λj o _ ho=>yI b hb j o ho,by simp⟩) (by simp) kA.st
              (λj t hj q y hy hg=>by rw [kA.new j t hj q y hy] at hg;exact (hγ hg).elim)
             rw [kA.er] at k1
             rw [bS] at auU k3
             exact ⟨_,w',E2,auU,k1,k2,k3⟩
         . cases he
       . rename_i id path off len g0
         split at he
         . rename_i lD
           subst lD
           have w7:=hx.frame (jt.fr (w:=w) (A:=A) kA.ns (di.le_refl nx))
           simp only [bR] at w7
           obtain ⟨Ae,ax,cap,rfl,nU,hh⟩:=w7
           split at he
           . -- a root
             rename_i g1 z1 l gk
             unfold FR at he
             split at he
             . rename_i hc
               obtain ⟨rfl,rfl,hle,fO⟩:=hc
               simp only [aa,ae] at he
               obtain ⟨rfl,rfl⟩:=he
               rw [kA.mr.er id] at gk
               cases rC:E1 id with
               | none=>simp [rC] at gk
               | some ob =>
                 cases ob<;>simp only [rC,ak,Obj.mapA,reduceCtorEq,aa,Obj.vec.injEq] at gk
                 rename_i an z' l'
                 obtain ⟨rfl,rfl,rfl⟩:=gk
                 rw [T.mapAs_eq,aB] at hle
                 have kG:=hh an i.size (by rw [rC];rfl) rfl
                 have l5:VB w A E1 nx an i.size l':=by have:=kA.mr.at_ id _ rC;simpa only [OAt] using this
                 obtain ⟨olds,h2,h3,h4,h5,h6⟩:=Zp l5 hle
                 obtain ⟨a',pH,w',bo,capn,auU,k⟩:=SH (ty:=ty) ht hi EP uK γ kG nU h5 h3 h6 jD kA.one (xI _ fO) fO
                 obtain ⟨rest,ou⟩:=Zq (l:=l') (n:=len)
                 have sD:=kA.mr.nd id _ rC
                 simp only [Obj.blk] at sD
                 have Bd:=(aT.1 sD).2.1
                 rw [ou] at Bd
                 have sE:∀ b∈T.dc (l'.take len),b∈(Obj.vec an i.size l').blk:=λb hb=>by simp only [Obj.blk,az];exact .inr (by rw [ou];simp [hb])
                 obtain ⟨E2,k1,k2,k3⟩:=Oz (d:=id) hγ hm kA.mr kA.sub (kA.ns.F7 nx) k (l:=l'.take len++lA) (by rw [aR,aW,om,cX hle])
                  (λt ht=>(az.1 ht).elim (h4 t) (SO t)) (h2.append kA.tc)
                  (by
                    rw [yB]
                    refine aT.2 ⟨(aT.1 Bd).1,kA.nd,?_⟩
                    rintro b hb _ js rfl
                    exact yI b js id _ rC (sE b hb))
                  (λb hb=>by
                    rw [yB] at hb
                    rcases az.1 hb with hb | hb
                    . refine ⟨kA.sub b ⟨id,_,rC,sE b hb⟩,λj o hj ho=>kA.mr.dj id j _ o (Ne.symm hj) rC ho b (sE b hb),λe=>?_⟩
                      rw [e] at sD
                      exact (aT.1 sD).2.2 b (by simp) b (by rw [ou];simp [hb]) rfl
                    . refine ⟨(kA.own b hb).1,λj o _ ho=>yI b hb j o ho,λe=>?_⟩
                      exact yI b hb id _ rC (by simp [Obj.blk,e]))
                  (λb e=>by
                    have hbm:b∈(Obj.vec an i.size l').blk:=by simp [Obj.blk,e]
                    exact ⟨kA.sub b ⟨id,_,rC,hbm⟩,λj o hj ho=>kA.mr.dj id j _ o (Ne.symm hj) rC ho b hbm⟩)
                  (by
                    have hst:=kA.mr.st id _ rC
                    simp only [Obj.st] at hst
                    have h8:T.j9 (nx.add γ) (l'.take len):=T.lY (nx.eF γ) (SJ (λt ht=>dh ht) hst.2)
                    have:∀ l m:List (T An),T.j9 (nx.add γ) l->T.j9 (nx.add γ) m->T.j9 (nx.add γ) (l++m):=by
                     intro l m
                     induction l with
                     | nil=>intro _ h;exact h
                     | cons x r ih=>intro h1 h2;simp only [T.j9,aS] at h1 ⊢;exact ⟨h1.1,ih h1.2 h2⟩
                    exact this _ _ h8 kA.st)
                  (λj t hj q y hy hg=>by
                    by_cases CA:j<(l'.take len).length
                    . rw [cN CA] at hj
                      have Dy:l'[j]?=some t:=by
                       rw [aW] at CA
                       rw [dL (by omega)] at hj;exact hj
                      rw [rC,uJ]
                      simp only [Obj.qk,Di,Dy,ai];exact hy
                    . rw [bG (by omega)] at hj
                      rw [kA.new _ t hj q y hy] at hg;exact (hγ hg).elim)
                 rw [b9,kA.er,bP,← T.mapAs_eq] at k1
                 exact ⟨_,w',E2,auU,k1,k2,k3⟩
             . cases he
           . -- a place
             unfold Cg at he
             split at he
             . rename_i g1 z1 l n dK
               split at he
               . rename_i hc
                 obtain ⟨rfl,rfl,rfl,hle,fO⟩:=hc
                 split at he
                 . rename_i oh eN
                   cases d with
                   | none=>simp [A0O] at he
                   | some d =>
                     simp only [A0O,bI,aa,ae] at he
                     obtain ⟨rfl,rfl⟩:=he
                     obtain ⟨SQ,an,l',Zr,bW,rfl,rfl,Ab,l5,hnd,iL,ET,xH,Ih⟩:=kA.mr.yE dK eN
                     rw [aB] at hle
                     have kG:=hh an i.size bW rfl
                     have SR:VB w A SQ nx an i.size l':=l5.frame (jt.fr xH (di.le_refl nx)) (λ_ _=>rfl)
                     have SS:=kA.tc.frame (jt.fr (w:=w) (A:=A) xH (di.le_refl nx)) (λ_ _=>rfl)
                     obtain ⟨olds,h2,h3,h4,h5,h6⟩:=Zp SR hle
                     obtain ⟨a',pH,w',bo,capn,auU,k⟩:=SH (ty:=ty) ht hi EP uK γ kG nU h5 h3 h6 jD kA.one (xI _ fO) fO
                     obtain ⟨rest,ou⟩:=Zq (l:=l') (n:=len)
                     have Bd:=(aT.1 hnd).2.1
                     rw [ou] at Bd
                     have sE:∀ b∈T.dc (l'.take len),b∈an.b.toList++T.dc l':=λb hb=>az.2 (.inr (by rw [ou];simp [hb]))
                     have nu:∀ b,¬ jr SQ b->∀ (j:Nat) (o:Obj An),SQ j=some o->b∉o.blk:=λb hb j o ho lZ=>hb ⟨j,o,ho,lZ⟩
                     obtain ⟨E2,k1,k2,k3⟩:=Oz (d:=d) hγ hm Ab (λb hb=>kA.sub b (ET b hb)) ((kA.ns.trans xH).F7 nx) k (l:=T.cI (A0Q γ) (l'.take len)++lA)
                      (by rw [aR,T.mapAs_eq,aB,aW,om,cX hle])
                      (λt ht=>(az.1 ht).elim (λht=>by
                        rw [T.mapAs_eq] at ht
                        obtain ⟨u,hu,rfl⟩:=bp.1 ht
                        rw [T.kb];exact h4 u hu) (SO t)) ((Ox γ h2).append SS)
                      (by
                        rw [yB,AZ]
                        refine aT.2 ⟨(aT.1 Bd).1,kA.nd,?_⟩
                        rintro b hb _ js rfl
                        exact (kA.own b js).2 (iL b (sE b hb)).1)
                      (λb hb=>by
                        rw [yB,AZ] at hb
                        rcases az.1 hb with hb | hb
                        . refine ⟨kA.sub b (iL b (sE b hb)).1,λj o _ ho=>nu b (iL b (sE b hb)).2 j o ho,λe=>?_⟩
                          rw [e] at hnd
                          exact (aT.1 hnd).2.2 b (by simp) b (by rw [ou];simp [hb]) rfl
                        . refine ⟨(kA.own b hb).1,λj o _ ho=>nu b (λhc=>(kA.own b hb).2 (ET b hc)) j o ho,λe=>?_⟩
                          exact (kA.own b hb).2 (iL b (by simp [e])).1)
                      (λb e=>by
                        have hbm:=iL b (show b∈an.b.toList++T.dc l' by simp [e])
                        exact ⟨kA.sub b hbm.1,λj o _ ho=>nu b hbm.2 j o ho⟩)
                      (by
                        have:∀ l m:List (T An),T.j9 (nx.add γ) l->T.j9 (nx.add γ) m->T.j9 (nx.add γ) (l++m):=by
                         intro l m
                         induction l with
                         | nil=>intro _ h;exact h
                         | cons x r ih=>intro h1 h2;simp only [T.j9,aS] at h1 ⊢;exact ⟨h1.1,ih h1.2 h2⟩
                        exact this _ _ (EK nx γ _) kA.st)
                      (λj t hj q y hy hg=>by
                        by_cases CA:j<(T.cI (A0Q γ) (l'.take len)).length
                        . rw [cN CA] at hj
                          rw [T.mapAs_eq,aL] at hj
                          cases hu:(l'.take len)[j]? with
                          | none=>simp [hu] at hj
                          | some u =>
                            simp only [hu,ak,aa] at hj
                            subst hj
                            rw [Ke hy] at hg;exact (hγ hg).elim
                        . rw [bG (by omega)] at hj
                          rw [kA.new _ t hj q y hy] at hg;exact (hγ hg).elim)
                     have e:(T.cI (A0Q γ) (l'.take len)++lA).map (T.mapA An.g)=A0N γ ((l'.map (T.mapA An.g)).take len++ts):=by
                      rw [b9,kA.er,← T.mapAs_eq,EL,T.mapAs_eq,bP]
                      have:∀ l m:List (T Nat),A0N γ l++A0N γ m=A0N γ (l++m):=by
                       intro l m
                       induction l with
                       | nil=>rfl
                       | cons x r ih=>simp only [A0N,jy,aS] at ih ⊢;rw [ih]
                      exact this _ _
                     rw [e] at k1
                     exact ⟨_,w',E2,auU,k1,k2,k3⟩
                 . cases he
               . cases he
             . cases he
         . cases he
       . cases he
end
end Go.Mid
