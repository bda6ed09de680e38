/- Pure snapshots of owned memory; a root that becomes immutable. -/
import Derived.Test.YthegpbgejckjlaaGreatDoorM3
import Derived.Laws.BytesString
import Derived.Laws.Externs
set_option linter.unusedSimpArgs false
set_option linter.unusedVariables false
set_option maxHeartbeats 1000000
open Bool renaming and_eq_true->aj,false_eq_true->aI
open Go renaming run_storeCells_cells->iX,run_underlying->aZ,run_callFunc_extern->p0
open Go.Builtin renaming firstCells->ig,copy_->fP,lenOf->gI,clear_->gX,zeroCells->aY
open Go.Extern renaming findNext->j1,find->n8
open Int renaming eq_ofNat_of_zero_le->eB
open List renaming length_cons->bf,length_map->aB,mem_cons->aG,nodup_append->aT,mem_map->bp,replicate->au,map_map->sk,mem_append->az,take_append_drop->bM,mem_of_mem_drop->gy,take_of_length_le->a6,map_cons->aF,take_zero->ff,all_eq_true->bB,mem_map_of_mem->dY,getElem?_map->aL,getElem?_eq_getElem->ah,getElem?_eq_some_iff->aJ,nodup_iff_pairwise_ne->iZ
open Nat renaming le_refl->ay,lt_of_lt_of_le->br,add_assoc->bV,mul_le_mul_right->iY,zero_le->dg,zero_mul->da,min_zero->qy
open Ne renaming symm->dv
open Option renaming map_some->ak,map_none->dx,bind_some->ai,none->ja
open Option.some renaming injEq->aa,inj->s8
open Prod.mk renaming injEq->ae
namespace Go.Mid
open Go.RowKit
theorem OA:∀{l:List (T Nat)}{vs:List PV},lf l=some vs->vs.length=l.length|[],vs,h=>by simp_all[lf]|t::r,vs,h=>by simp[lf]at h;split at h;rename_i h1 h2;cases h;rw[bf,bf,OA h2];grind
section
variable{w:World}{A A':Nat->Prop}{E:dP An}{nx:di}{h:cj}
theorem cK.append{l m:List PV}{cs ds:List Value}(h:cK w A l cs)(k:cK w A m ds):cK w A (l++m) (cs++ds):=by induction l generalizing cs<;>grind[cK]
mutual
theorem OB(hA:∀b,A b->A' b):∀{t:T An}{v:PV}{b o:Nat},uD (t.mapA An.g)=some v->(∀x∈t.blk,A' x)->TAt w A E nx t b o->∃cs,dU w A' v cs/\cs.length=t.cs/\Row w b o cs|.p u,v,b,o,h,_,k=>by simp[T.mapA,uD]at h;subst h;simp[TAt]at k;obtain⟨cs,h1,h2⟩:=k;exact⟨cs,h1.frame hA (λ_ _=>rfl),h1.len,h2⟩|.m u,v,b,o,h,_,k=>by grind[T.mapA,uD]|.agg l,v,b,o,h,hb,k=>by simp[T.mapA,uD]at h;split at h;rename_i vs fN;cases h;simp[TAt]at k;obtain⟨cs,h1,h2,h3⟩:=SU hA fN (by simp_all[T.blk]) k;exact⟨cs,by simp_all[dU],h2,h3⟩;grind|.vec an z l n,v,b,o,h,hb,k=>by simp[T.mapA,uD]at h;split at h;rename_i vs fN;cases h;simp[TAt]at k;obtain⟨a,cap,h1,h2,h3,h4⟩:=k;(have hlen:vs.length=l.length:=by rw[OA fN,T.mapAs_eq,aB]);(have Dr:(vs.take n).length=n:=by simp_all);refine⟨[.slice a n cap],?_,rfl,h1⟩;simp only[dU,Dr];(cases kE:an.b with|none=>grind|some b'=>simp[kE]at h4;simp only[kU,kE]at h3;refine⟨a,cap,rfl,by omega,?_⟩;rcases h3.2 with⟨rfl,_⟩|h5;simp;refine .inr ⟨b',0,z,by simp_all,hb b' (by grind[T.blk]),?_⟩;exact fB.take n (SV hA fN (λx hx=>hb x (by grind[T.blk])) h4.2.2.1 h4.2.2.2));grind|.mp ..,v,b,o,h,_,k=>by simp_all[TAt]|.hole n,v,b,o,h,_,k=>by grind[T.mapA,uD]
theorem SU(hA:∀b,A b->A' b):∀{l:List (T An)}{vs:List PV}{b o:Nat},lf (T.cI An.g l)=some vs->(∀x∈T.dc l,A' x)->cD w A E nx l b o->∃cs,cK w A' vs cs/\cs.length=T.b5 l/\Row w b o cs|[],vs,b,o,h,_,k=>by simp only[T.cI,lf,aa]at h;subst h;exact⟨[],by rfl,rfl,Row.nil⟩|t::r,vs,b,o,h,hb,k=>by simp[T.cI,lf]at h;split at h;rename_i v Ad h1 h2;cases h;simp[cD]at k;simp[T.dc]at hb;obtain⟨c,h3,h4,h5⟩:=OB hA h1 (λx hx=>hb x (.inl hx)) k.1;obtain⟨d,h6,h7,h8⟩:=SU hA h2 (λx hx=>hb x (.inr hx)) k.2;exact⟨c++d,by grind[cK],by simp_all[T.b5],Row.append.2 ⟨h5,by simp_all⟩⟩;grind
theorem SV(hA:∀b,A b->A' b):∀{l:List (T An)}{vs:List PV}{b o z:Nat},lf (T.cI An.g l)=some vs->(∀x∈T.dc l,A' x)->(∀t∈l,t.cs=z)->cD w A E nx l b o->fB w A' vs b o z|[],vs,b,o,z,h,_,_,k=>by simp_all[T.cI,lf,fB]|t::r,vs,b,o,z,h,hb,hz,k=>by simp[T.cI,lf]at h;split at h;rename_i v Ad h1 h2;cases h;simp[cD]at k;simp[T.dc]at hb;have ht:=hz t (by simp);obtain⟨c,h3,h4,h5⟩:=OB hA h1 (λx hx=>hb x (.inl hx)) k.1;have:=SV hA h2 (λx hx=>hb x (.inr hx)) (λt ht=>hz t (by simp[ht])) k.2;grind[fB];grind
end
theorem B9H(m:MR w A E h nx){id:Nat}{path:List Nat}{an:An}{z:Nat}{l:List (T An)}(hv:jq (E id) path=some (an,z,l)):∃o,E id=some o/\∀b∈an.b.toList++T.dc l,b∈o.blk:=by rcases N5 hv with⟨rfl,he⟩|⟨n,hs⟩;simp_all[Obj.blk];obtain⟨ob,hE⟩:=m.lg hs;refine⟨ob,hE,?_⟩;rw[hE]at hs;obtain⟨_,_,_,_,_,h5,_⟩:=Cw hs (m.at_ id ob hE);simp_all[T.blk]
theorem F2p{α β:Type}(f:α->β)(ws:List PV):T.cI f (ws.map T.p)=ws.map T.p:=by induction ws<;>simp_all[T.cI,T.mapA]
theorem E94{α:Type}:∀(ws:List PV){vs:List PV},ml (ws.map (T.p (α:=α)))=some vs->vs=ws|[],vs,h=>by simp_all[ml]|x::r,vs,h=>by simp[ml]at h;split at h;rename_i l hl;simp at h;subst h;rw[E94 r hl];grind
mutual
theorem EU(m:MR w A E h nx)(hA:∀b,A b->A' b):∀{x:MV}{v:PV}{val:Value},mE h x=some v->(∀i∈va x,∀o,E i=some o->∀b∈o.blk,A' b)->bR w A E nx x val->pD w A' v val|.p u,v,val,hp,_,hv=>by simp[mE]at hp;subst hp;simp[bR]at hv;exact hv.frame hA (λ_ _=>rfl)|.nil _,v,val,hp,_,hv=>by simp[mE]at hp;subst hp;simp[bR]at hv;obtain⟨a,rfl⟩:=hv;exact⟨[.slice a 0 0],by simp_all[dU],rfl⟩|.own id path off len g,v,val,hp,hr,hv=>by simp[mE]at hp;split at hp;rename_i g' z l iD;split at hp;rename_i hc;obtain⟨rfl,hle⟩:=hc;split at hp;rename_i vs fN;cases hp;obtain⟨an,lA,nB,rfl,rfl⟩:=m.vec iD;have hB:=m.vO nB;obtain⟨ob,hE,iM⟩:=B9H m nB;simp[bR]at hv;obtain⟨_,a,cap,rfl,nU,hh⟩:=hv;have kG:=hh an z (uG nB) rfl;rw[<-T.mapAs_eq]at fN;(have hlen:vs.length=lA.length:=by grind[OA,T.mapAs_eq]);rw[aB]at hle;(have Dr:((vs.drop off).take len).length=len:=by grind);refine⟨[.slice a len cap],?_,rfl⟩;simp only[dU,Dr];simp[VB]at hB;(cases hb:an.b with|none=>grind|some b=>simp[hb]at hB;simp[kU,hb]at kG;refine⟨a,cap,rfl,nU,?_⟩;rcases kG.2 with⟨rfl,_⟩|h5;simp;refine .inr ⟨b,off*z,z,h5,hr id (by simp[va]) ob hE b (iM b (by simp[hb])),?_⟩;have:=SV hA fN (λx hx=>hr id (by simp[va]) ob hE x (iM x (by simp[hx]))) hB.2.2.1 hB.2.2.2;have:=(this.drop off).take len;simp_all);simp_all;simp_all;simp_all|.ptr id np rp g o,v,val,hp,hr,hv=>by simp[mE]at hp;split at hp;rename_i t s' o' hl;split at hp;rename_i hc;obtain⟨rfl,rfl⟩:=hc;split at hp;rename_i u hu;cases hp;obtain⟨an,tA,om,rfl,rfl⟩:=m.look hl;obtain⟨b,hb,kV⟩:=m.uH om;simp[bR]at hv;obtain⟨_,ad,rfl,sx⟩:=hv;obtain⟨z,hn⟩:=A8q om;obtain⟨b',js,rfl⟩:=sx an z hn rfl;rw[hb]at js;cases js;have dK:=N4 om;obtain⟨ob,hE⟩:=m.lg dK;rw[hE]at om dK;have jC:=m.yD hE om hb;obtain⟨b2,o2,h1,h2,h3,h4,_⟩:=Cw dK (m.at_ id ob hE);rw[jC]at h1;cases h1;have pE:=hr id (by simp[va]) ob hE;obtain⟨cs,h5,_,h6⟩:=OB hA hu (λx hx=>pE x (h4 x hx)) kV;exact⟨_,by simp[dU];exact⟨b,o',rfl,pE b h3,cs,h5,h6⟩,rfl⟩;simp_all;simp_all;simp_all|.auG id path g,v,val,hp,hr,hv=>by simp[mE]at hp;split at hp;rename_i g' ks vs hmp;split at hp;rename_i hg;subst hg;split at hp;rename_i ws hws;cases hp;obtain⟨rfl,an,lA,hE,hg,hl⟩:=m.avR hmp;have kV:=m.at_ _ _ hE;simp[OAt]at kV;obtain⟨b,es,clock,ws2,h1,h2,rfl,hwf,VL,JR,h4,h5⟩:=kV.map (hl▸hws);(have hw2:ws=ws2:=by grind[F2p,E94]);subst hw2;simp[bR]at hv;obtain⟨_,b',rfl,hb⟩:=hv;have kE:=hb an none (by rw[hE];rfl) hg;rw[h1]at kE;cases kE;refine⟨[.map (some b)],?_,rfl⟩;simp only[dU];exact .inr ⟨b,es,clock,rfl,hr id (by simp[va]) _ hE b (by grind[Obj.blk]),h2,hwf,VL,JR,h4.frame hA (λ_ _=>rfl),h5.frame hA (λ_ _=>rfl)⟩;simp_all;simp_all;simp_all|.agg l,v,val,hp,hr,hv=>by simp[mE]at hp;split at hp;rename_i vs fN;cases hp;simp[bR]at hv;obtain⟨cs,rfl,hv⟩:=hv;exact⟨cs,by simp[dU];exact Zs m hA fN (by grind[va]) hv,rfl⟩;simp_all|.fn f l,v,val,hp,hr,hv=>by simp[mE]at hp;split at hp;rename_i vs fN;cases hp;simp[bR]at hv;obtain⟨ws,rfl,hv⟩:=hv;exact⟨_,by simp[dU];exact⟨ws,rfl,OC m hA fN (by grind[va]) hv⟩,rfl⟩;simp_all|.eI _,v,val,hp,_,hv=>by simp_all[mE]|.dead _,v,val,hp,_,hv=>by simp_all[mE]
theorem Zs(m:MR w A E h nx)(hA:∀b,A b->A' b):∀{l:List MV}{vs:List PV}{cs:List Value},A2C h l=some vs->(∀i∈mF l,∀o,E i=some o->∀b∈o.blk,A' b)->dW w A E nx l cs->cK w A' vs cs|[],vs,cs,hp,_,hv=>by simp_all[A2C,dW,cK]|x::r,vs,cs,hp,hr,hv=>by simp[A2C]at hp;split at hp;rename_i v Ad h1 h2;cases hp;simp[dW]at hv;obtain⟨u,d,rfl,_,_,h5,h6⟩:=hv;simp[mF]at hr;obtain⟨c,h7,rfl⟩:=EU m hA h1 (λi hi=>hr i (.inl hi)) h5;have h8:=Zs m hA h2 (λi hi=>hr i (.inr hi)) h6;simp[cK];exact⟨c,d,by rw[h7.avn],h7,h8⟩;simp_all
theorem OC(m:MR w A E h nx)(hA:∀b,A b->A' b):∀{l:List MV}{vs:List PV}{ws:List Value},A2C h l=some vs->(∀i∈mF l,∀o,E i=some o->∀b∈o.blk,A' b)->c9 w A E nx l ws->kM w A' vs ws|[],vs,cs,hp,_,hv=>by simp_all[A2C,c9,kM]|x::r,vs,cs,hp,hr,hv=>by simp[A2C]at hp;split at hp;rename_i v Ad h1 h2;cases hp;simp[c9]at hv;obtain⟨u,d,rfl,h5,h6⟩:=hv;simp[mF]at hr;obtain⟨c,h7,rfl⟩:=EU m hA h1 (λi hi=>hr i (.inl hi)) h5;have h8:=OC m hA h2 (λi hi=>hr i (.inr hi)) h6;grind[kM];simp_all
end
theorem MR.froze(m:MR w A E h nx){id:Nat}{o:Obj An}(hE:E id=some o):MR w (λb=>A b\/b∈o.blk) (cq E id (some .gone)) (cq h id (some .gone)) nx/\gC w A E nx w (λb=>A b\/b∈o.blk) (cq E id (some .gone)):=by(have own:∀b,jr (cq E id (some .gone)) b->b∉o.blk/\jr E b:=by intro b hb;rcases Cv hb with h1|⟨i,oi,hi,tE,Cx⟩;grind[Obj.blk];exact⟨λlZ=>m.dj id i o oi (dv hi) hE tE b lZ Cx,i,oi,tE,Cx⟩);refine⟨(m.gone id).imm (λb hb=>.inl hb) ?_,?_⟩;rintro b(hb|hb);exact⟨m.im b hb,λho=>(m.lt b (own b ho).2).2 hb⟩;exact⟨(m.j6 hE hb).1,λho=>(own b ho).1 hb⟩;exact⟨rfl,rfl,⟨rfl,ay _⟩,ay _,λ_ _ _=>rfl,λb hb=>.inl hb,λb _ hb=>hb.imp (λh=>h) (λhb=>⟨id,o,hE,hb⟩),λb _ hb=>(own b hb).2,(jt.gone E id).F7 nx⟩
theorem MR.eO{w':World}{nx':di}(m:MR w A E h nx){A':Nat->Prop}{id:Nat}{o':Obj An}(s:nW w w' A E nx nx' id o')(hA:∀b,A b->A' b)(kV:Fr w w' A A' E (cq E id (some o')) nx nx'->OAt w' A' (cq E id (some o')) nx' o')(nu:∀b,jr (cq E id (some o')) b->¬A' b)(OD:∀b,A' b->b<w'.heap.size):MR w' A' (cq E id (some o')) (cq h id (some (o'.mapA An.g))) nx':=by have f0:=s.fr m;have f:Fr w w' A A' E (cq E id (some o')) nx nx':=⟨hA,f0.hw,f0.hE,f0.hn⟩;constructor;intro i;by_cases e:i=id;simp_all[cq];simp[cq,e,m.er i];intro i o ho;by_cases e:i=id;simp_all[nV];rw[A0C E _ e]at ho;exact OAt.frame f (λx hx=>s.ch x (m.j6 ho hx).1 (λo1 nr w7=>m.dj i id o o1 e ho nr x hx w7)) (m.at_ i o ho);intro b hb;refine⟨?_,nu b hb⟩;rcases Cv hb with h1|⟨i,oi,_,tE,h1⟩;exact(s.lt b h1).1;exact br (m.j6 tE h1).1 s.sz;intro i o ho;by_cases e:i=id;subst e;rw[nV]at ho;cases ho;exact s.nd;rw[A0C E _ e]at ho;exact m.nd i o ho;intro i j o o1 gM ho nr b hb ot;by_cases e:i=id;subst e;rw[nV]at ho;cases ho;rw[A0C E _ (dv gM)]at nr;exact s.dj b hb j o1 (dv gM) nr ot;rw[A0C E _ e]at ho;by_cases e':j=id;subst e';rw[nV]at nr;cases nr;exact s.dj b ot i o e ho hb;rw[A0C E _ e']at nr;exact m.dj i j o o1 gM ho nr b hb ot;omega;intro i o ho;by_cases e:i=id;subst e;rw[nV]at ho;cases ho;exact s.st;rw[A0C E _ e]at ho;exact Obj.ka s.hn (m.st i o ho)
theorem Zt{z:Nat}(hA:∀b,A b->A' b):∀{l:List (T An)}{vs:List PV}{b o:Nat},lf (T.cI An.g l)=some vs->(∀x∈T.dc l,A' x)->(∀t∈l,t.cs=z)->cD w A E nx l b o->∀v∈vs,v.cs=z|[],vs,b,o,h,_,_,k=>by simp_all[T.cI,lf]|t::r,vs,b,o,h,hb,hz,k=>by simp[T.cI,lf]at h;split at h;rename_i v Ad h1 h2;cases h;simp[cD]at k;simp[T.dc]at hb;obtain⟨c,h3,h4,_⟩:=OB hA h1 (λx hx=>hb x (.inl hx)) k.1;intro u hu;rcases aG.1 hu with e|e;subst e;rw[<-h3.len,h4];simp_all;exact Zt hA h2 (λx hx=>hb x (.inr hx)) (λt ht=>hz t (by simp[ht])) k.2 u e;grind
theorem MR.Gl(m:MR w A E h nx){id γ z:Nat}(hγ:¬nx γ)(hs:h id=none):∃E',MR w A E' (cq h id (some (.vec γ z []))) (nx.add γ)/\gC w A E nx w A E'/\fc (E' id) (some [])=some (⟨γ,none,0⟩,some z):=by(have s:nW w w A E nx (nx.add γ) id (.vec ⟨γ,none,0⟩ z []):=by refine⟨di.eF _ _,ay _,λ_ _ _=>rfl,?_,by simp[Obj.blk,T.dc],by simp[Obj.blk,T.dc],by simp[Obj.blk,T.dc],⟨nx.iG γ,trivial⟩⟩;intro np y hy hg;cases np with|none=>grind[fc]|some p=>cases p<;>grind[fc,iE]);have f:=s.fr m;have hm:=m.set s (by simp_all[OAt,VB]);refine⟨_,hm,⟨rfl,rfl,⟨rfl,ay _⟩,ay _,λ_ _ _=>rfl,λ_ h=>h,λ_ _ h=>.inl h,λb _ hb=>?_,f.hE⟩,by rw[nV];rfl⟩;rcases Cv hb with h1|⟨i,oi,_,tE,h1⟩;grind[Obj.blk,T.dc];exact⟨i,oi,tE,h1⟩
theorem MR.uv(m:MR w A E h nx){id γ:Nat}(hγ:¬nx γ){a:Nat}{t:T Nat}(hs:h id=some (.cell a t)):∃E',MR w A E' (cq h id (some (.cell a (Cc γ t)))) (nx.add γ)/\gC w A E nx w A E':=by rw[m.er id]at hs;cases hE:E id with|none=>simp_all|some o=>cases o<;>simp[hE,Obj.mapA]at hs;rename_i an t';obtain⟨rfl,rfl⟩:=hs;(have iM:(Obj.cell an (t'.mapA (A0Q γ))).blk=(Obj.cell an t').blk:=by grind[Obj.blk,YV]);(have s:nW w w A E nx (nx.add γ) id (.cell an (t'.mapA (A0Q γ))):=by refine⟨di.eF _ _,ay _,λ_ _ _=>rfl,?_,?_,?_,?_,?_⟩;intro np y hy hg;rw[hE];(cases np with|none=>simp_all[fc]|some p=>rw[uJ]at hy;have:=Ke (t:=t') hy;simp_all);rw[iM];exactλb hb=>m.j6 hE hb;rw[iM];exact m.nd id _ hE;rw[iM];exactλb hb j oj hj Dn=>m.dj id j _ oj (dv hj) hE Dn b hb;exact⟨.inl (m.st id _ hE).1,YW nx γ t'⟩);have f:=s.fr m;have k:=OAt.frame f (λ_ _=>rfl) (m.at_ id _ hE);have hm:=m.set s (by grind[OAt,T.kb,Sd]);refine⟨_,?_,rfl,rfl,⟨rfl,ay _⟩,ay _,λ_ _ _=>rfl,λ_ h=>h,λ_ _ h=>.inl h,λb _ hb=>?_,f.hE⟩;simp_all[Obj.mapA,YX];rcases Cv hb with h1|⟨i,oi,_,tE,h1⟩;rw[iM]at h1;exact⟨id,_,hE,h1⟩;exact⟨i,oi,tE,h1⟩
theorem MR.aXF(m:MR w A E h nx){id γ g z:Nat}{l:List (T Nat)}(hγ:¬nx γ)(hs:h id=some (.vec g z l)):∃E' an,MR w A E' (cq h id (some (.vec γ z l))) (nx.add γ)/\gC w A E nx w A E'/\fc (E id) (some [])=some (an,some z)/\an.g=g/\fc (E' id) (some [])=some ({an with g:=γ},some z):=by rw[m.er id]at hs;cases hE:E id with|none=>simp[hE]at hs|some o=>cases o<;>simp only[hE,ak,Obj.mapA,reduceCtorEq,aa,Obj.vec.injEq]at hs;rename_i an z' l';obtain⟨rfl,rfl,rfl⟩:=hs;have iM:(Obj.vec {an with g:=γ} z' l').blk=(Obj.vec an z' l').blk:=rfl;(have s:nW w w A E nx (nx.add γ) id (.vec {an with g:=γ} z' l'):=by refine⟨di.eF _ _,ay _,λ_ _ _=>rfl,?_,?_,?_,?_,nx.iG γ,T.lY (di.eF _ _) (m.st id _ hE).2⟩;intro np y hy hg;rw[hE];(cases np with|none=>simp[fc]at hy|some p=>cases p with|nil=>simp only[fc,aa]at hy;subst hy;exact(hγ hg).elim|cons i r=>simpa[fc,iE]using hy);rw[iM];exactλb hb=>m.j6 hE hb;rw[iM];exact m.nd id _ hE;rw[iM];exactλb hb j oj hj Dn=>m.dj id j _ oj (dv hj) hE Dn b hb);have f:=s.fr m;have k:=OAt.frame f (λ_ _=>rfl) (m.at_ id _ hE);have hm:=m.set s k;refine⟨_,an,hm,⟨rfl,rfl,⟨rfl,ay _⟩,ay _,λ_ _ _=>rfl,λ_ h=>h,λ_ _ h=>.inl h,λb _ hb=>?_,f.hE⟩,rfl,rfl,by rw[nV];rfl⟩;rcases Cv hb with h1|⟨i,oi,_,tE,h1⟩;rw[iM]at h1;exact⟨id,_,hE,h1⟩;exact⟨i,oi,tE,h1⟩
theorem MR.Dz(m:MR w A E h nx){id γ:Nat}(hγ:¬nx γ){path:List Nat}{g z n:Nat}{l:List (T Nat)}{oh:Obj Nat}(hs:iE (h id) path=some (.vec g z l n))(hp:Mid.put (h id) path (.vec g z (A0N γ l) n)=some oh):∃E',MR w A E' (cq h id (some oh)) (nx.add γ)/\gC w A E nx w A E':=by obtain⟨t',ht,he⟩:=m.sub hs;cases t'<;>simp[T.mapA]at he;rename_i an z' l' n';obtain⟨rfl,rfl,rfl,rfl⟩:=he;cases hE:E id with|none=>simp_all[iE]|some o=>rw[hE]at ht;(have zr:(T.vec an.g z (A0N γ (T.cI An.g l')) n:T Nat)=(T.vec an z (T.cI (A0Q γ) l') n:T An).mapA An.g:=by grind[T.mapA,EL]);rw[m.er id,hE,zr,B0J]at hp;cases iw:Mid.put (some o) path (T.vec an z (T.cI (A0Q γ) l') n:T An)with|none=>simp_all|some o'=>simp[iw]at hp;obtain⟨b1,o1,h1,h2,h3,h4,h5⟩:=Cw ht (m.at_ id o hE);obtain⟨rest,p1,_⟩:=F6 ht iw;have DA:(an.b.toList++T.dc l').Nodup:=(aT.1 (p1.nodup_iff.1 (m.nd id o hE))).1;(have l5:(T.vec an z (T.cI (A0Q γ) l') n:T An).blk=(T.vec an z l' n:T An).blk:=by grind[T.blk,AZ]);(have xG:ph w w A E nx (nx.add γ) id o path (.vec an z l' n) (.vec an z (T.cI (A0Q γ) l') n) b1 o1:=by refine⟨di.eF _ _,ay _,hE,ht,h1,rfl,Wr.refl _ _ _ _ _,?_,?_,?_,?_,?_⟩;intro r y hy hg;(cases r with|nil=>simp_all[fE,cR]|cons i r=>(have e:∀(L:List (T An)),fE (T.vec an z L n) (i::r)=match L[i]? with|some t=>fE t r|none=>none:=λL=>by grind[fE,cR]);grind[T.mapAs_eq,Ke]);intro b hb;rw[l5]at hb;exact m.j6 hE (h4 b hb);rw[l5];exact DA;simp_all;have hst:(T.vec an z l' n:T An).st nx:=m.vP (id:=id) (p:=path) (by simp_all);exact⟨.inl hst.1,EK nx γ l'⟩);have s:=xG.vS m iw;refine⟨cq E id (some o'),?_,rfl,rfl,⟨rfl,ay _⟩,ay _,λ_ _ _=>rfl,λ_ h=>h,λ_ _ h=>.inl h,λb _ hb=>?_,(s.fr m).hE⟩;rw[<-hp];refine m.put xG iw λf=>?_;have k:=TAt.frame f rfl (λ_ _=>rfl) h2;have k2:=Sd γ k;simp[T.mapA]at k2;simp[TAt]at k k2|-;obtain⟨a,cap,q1,q2,q3,q4⟩:=k;obtain⟨_,_,_,r2,_,r4⟩:=k2;exact⟨a,cap,q1,r2,q3,r4⟩;rcases xG.owned m iw hb with k|k;rw[l5]at k;exact⟨id,o,hE,h4 b k⟩;simp_all
theorem MR.Kr(m:MR w A E h nx){id:Nat}{path:List Nat}{g z n:Nat}{l:List (T Nat)}{vs:List PV}{oh:Obj Nat}(hs:iE (h id) path=some (.vec g z l n))(fN:lf l=some vs)(hp:Mid.put (h id) path (.vec g z (vs.map .p) n)=some oh):∃A' E',MR w A' E' (cq h id (some oh)) nx/\gC w A E nx w A' E':=by obtain⟨t',ht,he⟩:=m.sub hs;cases t'<;>simp[T.mapA]at he;rename_i an z' l' n';obtain⟨rfl,rfl,rfl,rfl⟩:=he;cases hE:E id with|none=>simp_all[iE]|some o=>rw[hE]at ht;(have zr:(T.vec an.g z (vs.map .p) n:T Nat)=(T.vec an z (vs.map .p) n:T An).mapA An.g:=by(have:∀us:List PV,T.cI An.g (us.map .p:List (T An))=(us.map .p:List (T Nat)):=λus=>by induction us<;>simp_all[T.cI,T.mapA]);simp_all[T.mapA]);rw[m.er id,hE,zr,B0J]at hp;cases iw:Mid.put (some o) path (T.vec an z (vs.map .p) n:T An)with|none=>simp_all|some o'=>simp[iw]at hp;obtain⟨b1,o1,h1,h2,h3,h4,h5⟩:=Cw ht (m.at_ id o hE);have hnd:=m.nd id o hE;obtain⟨rest,p1,_⟩:=F6 ht iw;have DA:(an.b.toList++T.dc l').Nodup:=(aT.1 (p1.nodup_iff.1 hnd)).1;(have l5:(T.vec an z (vs.map .p) n:T An).blk=an.b.toList:=by simp_all[T.blk,F4]);(have xG:ph w w A E nx nx id o path (.vec an z l' n) (.vec an z (vs.map .p) n) b1 o1:=by refine⟨di.le_refl _,ay _,hE,ht,h1,rfl,Wr.refl _ _ _ _ _,?_,?_,?_,?_,?_⟩;intro r y hy _;(cases r with|nil=>simp_all[fE,cR]|cons i r=>simp[fE,cR]at hy;cases hi:vs[i]? with|none=>simp_all|some v=>simp[hi]at hy;(have:∀(r:List Nat)(v:PV),fE (T.p v:T An) r=none:=by intro r;induction r with|nil=>intro v;rfl|cons j r ih=>intro v;cases v<;>grind[fE,cR]);simp_all[fE]);intro b hb;rw[l5]at hb;exact m.j6 hE (h4 b (by grind[T.blk]));grind;simp_all[T.blk];have hst:(T.vec an z l' n:T An).st nx:=m.vP (id:=id) (p:=path) (by simp_all);exact⟨hst.1,Of vs⟩);have s:=xG.vS m iw;have hA:∀b,A b->(A b\/b∈T.dc l'):=λb hb=>.inl hb;have vn:∀b∈T.dc l',b∈o.blk:=λb hb=>h4 b (by grind[T.blk]);refine⟨λb=>A b\/b∈T.dc l',cq E id (some o'),?_,rfl,rfl,⟨rfl,ay _⟩,ay _,λ_ _ _=>rfl,hA,λb _ hb=>hb.imp (λh=>h) λhb=>⟨id,o,hE,vn b hb⟩,λb _ hb=>?_,(s.fr m).hE⟩;rw[<-hp];refine m.eO s hA (λf=>OAt.put f ht iw h1 rfl (Wr.refl _ _ _ _ _) hnd (λy hy=>(m.j6 hE hy).1) (m.at_ id o hE) ?_) ?_ ?_;simp only[TAt]at h2|-;obtain⟨a,cap,k1,k2,k3,k4⟩:=h2;(have hlen:vs.length=l'.length:=by rw[OA fN,T.mapAs_eq,aB]);refine⟨a,cap,k1,by simp_all,k3,?_⟩;(cases hb:an.b with|none=>simp_all|some b'=>simp[hb]at k4;obtain⟨k5,k6,k7,k8⟩:=k4;obtain⟨cs,k9,_,k10⟩:=SU hA fN (λx hx=>.inr hx) k8;refine⟨k5,by simp_all,λt ht=>?_,sy.2 ⟨cs,by simp_all[dU],k10⟩⟩;obtain⟨v,hv,rfl⟩:=bp.1 ht;exact Zt hA fN (λx hx=>.inr hx) k7 k8 v hv);intro b hb;rcases xG.owned m iw hb with k|k;rw[l5]at k;rintro(e|e);exact(m.j6 hE (h4 b (by simp[T.blk,k]))).2 e;simp_all;rintro(e|e);exact(m.lt b k.1).2 e;simp_all[T.blk];rintro b(e|e);exact m.im b e;exact(m.j6 hE (vn b e)).1;rcases xG.owned m iw hb with k|k;rw[l5]at k;exact⟨id,o,hE,h4 b (by simp[T.blk,k])⟩;simp_all
end
section
variable{w:World}{A:Nat->Prop}{E:dP An}{nx:di}{h:cj}
theorem MR.aDa:∀(l:List Nat){A:Nat->Prop}{E:dP An}{h:cj},MR w A E h nx->(∀i∈l,∃o,E i=some o)->∃A' E',MR w A' E' (E7k h l) nx/\gC w A E nx w A' E'/\∀i∈l,∀o,E i=some o->∀b∈o.blk,A' b|[],A,E,h,m,_=>⟨A,E,m,gC.refl w A E nx,λi hi=>by cases hi⟩|i::r,A,E,h,m,hx=>by obtain⟨o,ho⟩:=hx i (by simp);obtain⟨m1,g1⟩:=m.froze ho;obtain⟨A2,E2,m2,g2,h2⟩:=MR.aDa r m1 (λj hj=>by grind[nV,A0C]);refine⟨A2,E2,m2,g1.trans g2 (di.le_refl _),λj hj oj Dn b hb=>?_⟩;by_cases e:j=i;subst e;rw[ho]at Dn;cases Dn;exact g2.sub b (.inr hb);grind[A0C]
mutual
theorem F3H(m:MR w A E h nx):∀{x:MV}{v:PV},mE h x=some v->∀i∈va x,∃o,E i=some o|.p _,v,_,i,hi=>by grind[va]|.nil _,v,_,i,hi=>by grind[va]|.own id path off len g,v,hp,i,hi=>by simp[va]at hi;subst hi;simp[mE]at hp;split at hp;rename_i iD;obtain⟨an,l',nB,_⟩:=m.vec iD;obtain⟨o',oZ,_⟩:=B9H m nB;simp_all;simp_all|.ptr id np rp g o,v,hp,i,hi=>by simp[va]at hi;subst hi;simp[mE]at hp;split at hp;rename_i t s' o' hl;obtain⟨an,tA,om,_⟩:=m.look hl;exact m.lg (N4 om);simp_all|.auG id path g,v,hp,i,hi=>by simp[va]at hi;subst hi;simp[mE]at hp;split at hp;rename_i g' ks vs hmp;obtain⟨_,an,lA,hE,_⟩:=m.avR hmp;simp_all;simp_all|.agg l,v,hp,i,hi=>by simp[mE]at hp;split at hp;rename_i vs fN;exact E8v m fN i (by simp_all[va]);simp_all|.fn f l,v,hp,i,hi=>by simp[mE]at hp;split at hp;rename_i vs fN;exact E8v m fN i (by simp_all[va]);simp_all|.eI _,v,hp,i,hi=>by simp_all[mE]|.dead _,v,hp,i,hi=>by simp_all[mE]
theorem E8v(m:MR w A E h nx):∀{l:List MV}{vs:List PV},A2C h l=some vs->∀i∈mF l,∃o,E i=some o|[],vs,_,i,hi=>by grind[mF]|x::r,vs,hp,i,hi=>by simp[A2C]at hp;split at hp;rename_i v Ad h1 h2;simp[mF]at hi;rcases hi with hi|hi;exact F3H m h1 i hi;exact E8v m h2 i hi;simp_all
end
theorem E95:∀{l:List MV}{vs:List PV},A2C h l=some vs->vs.length=l.length|[],vs,hp=>by simp_all[A2C]|x::r,vs,hp=>by simp[A2C]at hp;split at hp;rename_i v Ad h1 h2;simp at hp;subst hp;simp[E95 h2];simp_all
mutual
theorem F00:∀{x:MV}{v:PV},mE h x=some v->v.cs=x.cs|.p _,v,hp=>by simp[mE]at hp;subst hp;rfl|.nil _,v,hp=>by simp[mE]at hp;subst hp;rfl|.own ..,v,hp=>by simp[mE]at hp;split at hp;split at hp;split at hp;cases hp;rfl;simp_all;simp_all;simp_all|.ptr ..,v,hp=>by simp[mE]at hp;split at hp;split at hp;split at hp;cases hp;rfl;simp_all;simp_all;simp_all|.auG ..,v,hp=>by simp[mE]at hp;split at hp;split at hp;split at hp;cases hp;rfl;simp_all;simp_all;simp_all|.agg l,v,hp=>by simp[mE]at hp;split at hp;rename_i vs fN;cases hp;simp[PV.cs,MV.cs];exact E9G fN;simp_all|.fn f l,v,hp=>by simp[mE]at hp;split at hp;cases hp;rfl;simp_all|.eI _,v,hp=>by simp_all[mE]|.dead _,v,hp=>by simp_all[mE]
theorem E9G:∀{l:List MV}{vs:List PV},A2C h l=some vs->PV.b5 vs=MV.b5 l|[],vs,hp=>by simp only[A2C,aa]at hp;subst hp;rfl|x::r,vs,hp=>by simp[A2C]at hp;split at hp;rename_i v Ad h1 h2;simp at hp;subst hp;simp[PV.b5,MV.b5,F00 h1,E9G h2];simp_all
end
theorem E96{z:Nat}:∀{l:List MV}{vs:List PV},A2C h l=some vs->(∀x∈l,x.cs=z)->∀v∈vs,v.cs=z|[],vs,hp,_,v,hv=>by simp_all[A2C]|x::r,vs,hp,hz,v,hv=>by simp[A2C]at hp;split at hp;rename_i u Ad h1 h2;simp at hp;subst hp;rcases aG.1 hv with e|hv;subst e;rw[F00 h1];simp_all;exact E96 h2 (λy hy=>hz y (by simp[hy])) v hv;simp_all
end
section
variable{P:Program}{o:Oper}{a:Act}{w:World}{A:Nat->Prop}{E:dP An}{nx:di}{γ:Nat}{v:MV}{h h':cj}{s:gB}{K:jm}{d:Option Nat}(hs:qM P w A E nx s a)(hm:MR w A E h nx)(hγ:¬nx γ)
include hs hm hγ
theorem D1S{c:Call}{t e:TypeId}{x y:Operand}{x' y':dJ}{t1 t2:TypeId}{pz:Bool}(ho:o.op=.call c)(qg:c.callee=.builtin .append)(pg:c.args=#[x,y])(ur:c.argTypes=#[t,t])(hx:fu P t1 x=some x')(hy:fu P t2 y=some y')(ht:P.underlying t=some (.slice e))(tf:P.cellsOf e≠0)(yF:P.bytesOf e≠0)(hz:(xA P e).map List.length=some (P.cellsOf e))(he:cb K γ d s h (.app pz (P.cellsOf e) (P.bytesOf e) x' y')=some (v,h')):cC P o a w A E nx γ v h':=by simp[cb]at he;split at he;rename_i id Ks len g1 h1 Af;obtain⟨val,w',E2,h2,h3,h4,h5⟩:=D1R hm hγ ht tf yF hz (jP hs hx) (jP hs hy) Af o.type;(have hr:(execOp a.eval o).run P w=.ok (.value val) w':=by grind[SN]);split at he;split at he;rename_i u hu;simp at he;obtain⟨rfl,rfl⟩:=he;(have hex:∃o',E2 id=some o':=by simp[mE]at hu;split at hu;rename_i iD;obtain⟨an,l',nB,_⟩:=h3.vec iD;obtain⟨o',oZ,_⟩:=B9H h3 nB;simp_all;simp_all);obtain⟨o',DB⟩:=hex;obtain⟨k1,k2⟩:=h3.froze DB;refine⟨val,w',_,_,.inl hr,?_,k1,h4.trans k2 (nx.eF γ)⟩;grind[bR,EU,va];simp_all;simp at he;obtain⟨rfl,rfl⟩:=he;exact⟨val,w',A,E2,.inl hr,h5,h3,h4⟩;simp_all
theorem C9U{t e:TypeId}{n:Nat}{parts:Array (Nat×Operand)}{zc:List Value}{l:List dJ}(ho:o.op=.buildSlice t n parts)(hu:P.underlying t=some (.slice e))(tf:P.cellsOf e≠0)(kO:n*P.cellsOf e<=16777216)(hz:xA P e=some zc)(hzl:zc.length=P.cellsOf e)(kN:Ck n parts.toList=true)(hl:z7 P parts.toList (au n e) 0 (au n zc).flatten=some l)(he:cb K γ d s h (.bslp (P.cellsOf e) l)=some (v,h')):cC P o a w A E nx γ v h':=by simp only[cb]at he;split at he;rename_i hb;split at he;rename_i Ab;split at he;rename_i vs fN;simp at he;obtain⟨rfl,rfl⟩:=he;obtain⟨cs,h1,nX,Dr,auU⟩:=F4l hs ho hu tf kO hz hzl kN hl hb;obtain⟨A1,E1,m1,g1,CT⟩:=hm.aDa (mF (l.map (cJ s))) (E8v hm fN);have z8:=Zs hm (A':=A1) g1.sub fN CT h1;have hg:=Grown.alloc w cs.toArray e;obtain⟨k1,k2⟩:=m1.grow (γ:=γ) hg (A':=λb=>A1 b\/b=w.heap.size) (λ_=>Iff.rfl);refine⟨_,_,_,E1,.inl auU,?_,k1,g1.trans k2 (di.le_refl _)⟩;obtain⟨h3,h4⟩:=Sn hb;(have Ds:vs.length=n:=by grind[E95]);refine xD.2 ⟨_,n,by rw[Ds],by omega,?_⟩;right;refine⟨_,0,P.cellsOf e,rfl,.inr rfl,?_⟩;refine D1N (cs:=cs) ?_ ?_ hg.Kf;intro v hv;exact E96 fN (λx hx=>(h4 x hx).1) v hv;exact z8.frame k2.sub (λb hb=>hg.old b (m1.im b hb));simp_all;rename_i Ab;split at he;rename_i ts h1 hi;split at he;rename_i eV;split at he;rename_i h2 uM;split at he;rename_i u rD;simp at he;obtain⟨rfl,rfl⟩:=he;(have js:cb K γ d s h (.bsl true (P.cellsOf e) l)=some (.own (d.getD 0) [] 0 ts.length γ,h2):=by simp_all[cb]);obtain⟨val,w',A1,E2,hr,h5,h3,h4⟩:=Ze hs hm hγ ho hu tf kO hz hzl kN hl (λ_=>rfl) js;(have hex:∃o',E2 (d.getD 0)=some o':=by simp only[mE]at rD;split at rD;rename_i iD;obtain⟨an,l',nB,_⟩:=h3.vec iD;obtain⟨o',oZ,_⟩:=B9H h3 nB;simp_all;simp_all);obtain⟨o',DB⟩:=hex;obtain⟨k1,k2⟩:=h3.froze DB;refine⟨val,w',_,_,hr,?_,k1,h4.trans k2 (nx.eF γ)⟩;grind[bR,EU,va];simp_all;simp_all;simp_all;simp_all;simp_all
end
end Go.Mid
namespace Go.Mid
open Go.RowKit
section
variable{w w':World}{A A':Nat->Prop}{E E':dP An}{nx nx':di}{h:cj}
theorem T.pI{α:Type}(l m:List (T α)):T.b5 (l++m)=T.b5 l+T.b5 m:=by induction l<;>simp_all[T.b5,bV]
theorem SX{α:Type}{l:List (T α)}{off:Nat}{vs:List PV}(hle:off+vs.length<=l.length):(oa l off vs).length=l.length:=by grind[oa]
theorem Zu{α β:Type}(f:α->β)(l:List (T α))(off:Nat)(vs:List PV):(oa l off vs).map (T.mapA f)=oa (l.map (T.mapA f)) off vs:=by simp only[oa,List.map_append,List.map_take,List.map_drop,sk];rfl
theorem Zv{α:Type}{l:List (T α)}{off z:Nat}{vs:List PV}(hz:∀t∈l,t.cs=z)(hv:∀v∈vs,v.cs=z):∀t∈oa l off vs,t.cs=z:=by intro t ht;simp only[oa,az,bp]at ht;rcases ht with(ht|⟨v,hv',rfl⟩)|ht;grind;exact hv v hv';grind
theorem Zw(l:List (T An))(off:Nat)(vs:List PV):T.dc (oa l off vs)=T.dc (l.take off)++T.dc (l.drop (off+vs.length)):=by simp_all[oa,yB,F4]
theorem OE{l:List (T An)}{off:Nat}{vs:List PV}{b:Nat}(hb:b∈T.dc (oa l off vs)):b∈T.dc l:=by rw[Zw]at hb;rcases az.1 hb with hb|hb;grind[bM,yB];rw[<-bM (off+vs.length) l,yB];simp[hb]
theorem Zx{l:List (T An)}{off:Nat}{vs:List PV}(h:(T.dc l).Nodup):(T.dc (oa l off vs)).Nodup:=by(have e:l=l.take off++((l.drop off).take vs.length++l.drop (off+vs.length)):=by grind[List.drop_drop,bM]);grind[yB,Zw]
theorem Zy{n:di}{l:List (T An)}{off:Nat}{vs:List PV}(h:T.j9 n l):T.j9 n (oa l off vs):=by(have app:∀l m:List (T An),T.j9 n l->T.j9 n m->T.j9 n (l++m):=by intro l m;induction l<;>simp_all[T.j9]);exact app _ _ (app _ _ (SJ (λt ht=>List.mem_of_mem_take ht) h) (Of vs)) (SJ (λt ht=>gy ht) h)
theorem Zz{l:List (T An)}{off:Nat}{vs:List PV}(hle:off+vs.length<=l.length){i:Nat}{q:List Nat}{y:An×Option Nat}(h:(((oa l off vs)[i]?).bind λt=>fE t q)=some y):((l[i]?).bind λt=>fE t q)=some y:=by grind[oa,Ou]
theorem ZA(f:Fr w w' A A' E E' nx nx'){l:List (T An)}{vs:List PV}{b z off:Nat}{cs:List Value}(k:cD w A E nx l b 0)(hz:∀t∈l,t.cs=z)(hle:off+vs.length<=l.length)(hc:cK w A vs cs)(hv:∀v∈vs,v.cs=z)(hw:w'=w.setCells b (off*z) cs)(Ag:b∉T.dc l)(gS:∀j,j<cs.length->(w.cell? ⟨b,off*z+j,none⟩).isSome=true):cD w' A' E' nx' (oa l off vs) b 0:=by(have nX:cs.length=vs.length*z:=by rw[hc.len];clear hc gS hw hle;induction vs<;>grind[PV.b5]);(have Kt:∀j,(j<off*z\/off*z+cs.length<=j)->w'.cell? ⟨b,j,none⟩=w.cell? ⟨b,j,none⟩:=by simp_all[World.cell?_setCells_out]);(have iM:∀x∈T.dc l,w'.heap[x]?=w.heap[x]?:=λx hx=>by grind[yC]);(have e:l=l.take off++((l.drop off).take vs.length++l.drop (off+vs.length)):=by grind[bM]);have kk:=k;rw[e]at kk;obtain⟨k1,k2⟩:=cD.append.1 kk;obtain⟨_,k3⟩:=cD.append.1 k2;have c1:T.b5 (l.take off)=off*z:=Cq hz (by omega);have c2:T.b5 ((l.drop off).take vs.length)=vs.length*z:=Cq (λt ht=>hz t (gy ht)) (by grind);rw[c1,c2]at k3;simp only[oa];refine cD.append.2 ⟨cD.append.2 ⟨?_,?_⟩,?_⟩;refine k1.iT f (λj _ hj=>Kt j (.inl (by omega))) (λx hx=>iM x ?_);grind[yB];rw[c1];refine j7.at_ (vT.2 (cK.frame f.hA f.hw hc)) ?_;grind[Row.setCells];rw[T.pI,c1,EI];(have:PV.b5 vs=vs.length*z:=by rw[<-hc.len,nX]);rw[this];rw[bV]at k3;refine k3.iT f (λj hj _=>Kt j (.inr (by omega))) (λx hx=>iM x ?_);grind[yB]
theorem Ku {an:An}{h':cj}(m:MR w A E h nx){id:Nat}{EV:List Nat}{z off:Nat}{vs:List PV}{cs:List Value}(hn:fc (E id) (some EV)=some (an,some z))(jn:qT h id EV an.g z off vs=some h')(hc:cK w A vs cs) :
 (an.b=none->cs=[])∧∃ E',(∀ b,an.b=some b->MR (w.setCells b (off*z) cs) A E' h' nx∧gC w A E nx (w.setCells b (off*z) cs) A E'∧(∀ j,j<cs.length->(w.cell? ⟨b,off*z+j,none⟩).isSome=true)∧∀ j,w.frozen? ⟨b,j,none⟩=false) ∧
   (an.b=none->MR w A E' h' nx∧gC w A E nx w A E'):=by
 unfold qT at jn
 split at jn
 . rename_i kF
   have yK:∀ v∈vs,v.cs=z:=λv hv=>by simp_all
   split at jn
   . -- a root
     rename_i a z' l gk
     split at jn
     . rename_i dV
       obtain ⟨rfl,rfl,hle⟩:=dV
       simp at jn
       subst jn
       rw [m.er id] at gk
       cases hE:E id with
       | none=>simp_all
       | some ob =>
         cases ob<;>simp [hE,Obj.mapA] at gk
         rename_i rU vW l'
         obtain ⟨hg,rfl,rfl⟩:=gk
         rw [hE] at hn
         simp only [fc,aa,ae] at hn
         obtain ⟨rfl,_⟩:=hn
         rw [T.mapAs_eq,aB] at hle
         have kV:=m.at_ id _ hE
         have sD:=m.nd id _ hE
         have Gm:=m.st id _ hE
         simp only [OAt,VB] at kV
         simp [Obj.blk] at sD
         simp [Obj.st] at Gm
         have zr:(Obj.vec rU vW (oa l' off vs)).mapA An.g=.vec rU.g vW (oa (T.cI An.g l') off vs):=by
          grind [Obj.mapA,T.mapAs_eq,Zu]
         have dK:∀ b∈(Obj.vec rU vW (oa l' off vs)).blk,b∈(Obj.vec rU vW l').blk:=by
          grind [Obj.blk,OE]
         have sB:∀ w1:World,w.heap.size<=w1.heap.size->(∀ b,b<w.heap.size->rU.b≠some b->w1.heap[b]?=w.heap[b]?)->aC_ w w1 A E nx nx id (.vec rU vW (oa l' off vs)):=by
          intro w1 xd uL
          refine ⟨di.le_refl _,xd,λb hb oc=>uL b hb (λe=>?_),?_,λb hb=>?_,?_,λb hb j o hj ho=>m.dj id j _ o (dv hj) hE ho b (dK b hb),⟨Gm.1,Zy Gm.2⟩⟩
          . have hbm:b∈(Obj.vec rU vW l').blk:=by simp [Obj.blk,e]
            rcases oc with hA | ⟨j,o,hj,ho,lZ⟩
            . exact (m.j6 hE hbm).2 hA
            . exact m.dj id j _ o (dv hj) hE ho b hbm lZ
          . intro np y hy _
            rw [hE]
            cases np with
            | none=>grind [fc]
            | some q =>
              rw [uJ] at hy ⊢
              cases q with
              | nil=>exact hy
              | cons i r=>simp [Obj.qk,Di] at hy ⊢;exact Zz hle hy
          . have:=m.j6 hE (dK b hb);grind
          grind [Obj.blk,Zx,OE]
         have DC:∀ w1:World,(w1.os=w.os∧w1.tape=w.tape∧w1.output=w.output∧w.drawn<=w1.drawn)->w.heap.size<=w1.heap.size->(∀ b,b<w.heap.size->rU.b≠some b->w1.heap[b]?=w.heap[b]?)->gC w A E nx w1 A (cq E id (some (.vec rU vW (oa l' off vs)))):=by
          intro w1 h3 xd uL
          refine gC.of (E1:=E) h3 xd (λb hb ho=>uL b hb (λe=>ho ⟨id,_,hE,by simp [Obj.blk,e]⟩)) ?_ (pf.refl _ _) ((sB w1 xd uL).fr m).hE
          intro b _ ho
          rcases Cv ho with h1 | ⟨i,oi,_,tE,Cx⟩
          . exact ⟨id,_,hE,dK b h1⟩
          . exact ⟨i,oi,tE,Cx⟩
         refine ⟨λhb=>?_,cq E id (some (.vec rU vW (oa l' off vs))),λb hb=>?_,λhb=>?_⟩
         . simp_all [cK]
         . simp [hb] at kV
           obtain ⟨h1,h2,h3,h4⟩:=kV
           have nX:cs.length=vs.length*vW:=by
            rw [hc.len,← EI (α:=An)]
            have:=Cq (α:=An) (l:=vs.map .p) (i:=vs.length) (z:=vW) (λt ht=>by obtain ⟨v,hv,rfl⟩:=bp.1 ht;exact yK v hv) (by simp)
            simp_all [a6]
           have gS:∀ j,j<cs.length->(w.cell? ⟨b,off*vW+j,none⟩).isSome=true:=by
            intro j hj
            refine (h1.cell ?_).1
            have:(off+vs.length)*vW<=rU.cap*vW:=iY _ (by omega)
            grind
           have uL:∀ x,x<w.heap.size->rU.b≠some x->(w.setCells b (off*vW) cs).heap[x]?=w.heap[x]?:=λx _ hx=>yC (λe:x=b=>hx (e ▸ hb)) _ _ _
           obtain ⟨s1,s2,s3,s4⟩:=zi b cs (off*vW) w
           have hs:=sB (w.setCells b (off*vW) cs) (by omega) uL
           have Ag:b∉T.dc l':=by
            simp_all
           refine ⟨?_,DC _ ⟨s2,s3,s4⟩ (by omega) uL,gS,λj=>h1.frozen⟩
           rw [← zr]
           refine m.Gf hs ?_
           simp [OAt,VB,hb]
           exact ⟨h1.setCells _ _ _,by simp_all [SX],Zv h3 yK,ZA (hs.fr m) h4 h3 hle hc yK rfl Ag gS⟩
         . have hs:=sB w (ay _) (λ_ _ _=>rfl)
           refine ⟨?_,DC w ⟨rfl,rfl,rfl,ay _⟩ (ay _) (λ_ _ _=>rfl)⟩
           rw [← zr]
           refine m.Gf hs ?_
           simp_all [OAt,VB,oa]
     simp_all
   . -- a place
     rename_i EV _ _ _
     split at jn
     . rename_i a z' l n dK
       split at jn
       . rename_i dV
         obtain ⟨rfl,rfl,hle⟩:=dV
         split at jn
         . rename_i oh eN
           simp at jn
           subst jn
           obtain ⟨tA,Gn,he⟩:=m.sub dK
           cases tA<;>simp [T.mapA] at he
           rename_i an vW l' n
           obtain ⟨hg,rfl,rfl,rfl⟩:=he
           obtain ⟨ob,hE⟩:=m.lg Gn
           rw [hE] at Gn hn
           have CB:=Om (r:=[]) Gn
           rw [List.append_nil] at CB
           rw [CB] at hn
           simp only [fE,cR,aa,ae] at hn
           obtain ⟨rfl,_⟩:=hn
           rw [T.mapAs_eq,aB] at hle
           have hT:(T.vec an.g z' (oa (T.cI An.g l') off vs) n:T Nat)=(T.vec an z' (oa l' off vs) n).mapA An.g:=by
            grind [T.mapA,T.mapAs_eq,Zu]
           rw [m.er id,hE,hT,B0J] at eN
           cases iw:put (some ob) EV (T.vec an z' (oa l' off vs) n) with
           | none=>simp_all
           | some o' =>
             simp [iw] at eN
             subst eN
             obtain ⟨b1,o1,hl,kV,ot,iM,SY⟩:=Cw Gn (m.at_ id ob hE)
             have hst:(T.vec an z' l' n).st nx:=m.vP (by rw [hE];omega)
             obtain ⟨rest,p1,_⟩:=F6 Gn iw
             have hnd:(T.vec an z' l' n).blk.Nodup:=(aT.1 (p1.nodup_iff.1 (m.nd id ob hE))).1
             have Be:=SY (m.nd id ob hE)
             have aiG:=kV
             simp [TAt] at kV
             obtain ⟨ad,cap,hrow,Du,kG,l5⟩:=kV
             simp only [T.blk] at hnd Be
             simp [T.st] at hst
             have Bf:∀ b∈(T.vec an z' (oa l' off vs) n).blk,b∈(T.vec an z' l' n).blk:=by
              grind [T.blk,OE]
             have xG:∀ w1:World,w.heap.size<=w1.heap.size->(∀ b,an.b≠some b->w1.heap[b]?=w.heap[b]?)->(∀ m b,lX w b m->lX w1 b m)->ph w w1 A E nx nx id ob EV (.vec an z' l' n) (.vec an z' (oa l' off vs) n) b1 o1:=by
              intro w1 xd uL tg
              refine ⟨di.le_refl _,xd,hE,Gn,hl,rfl,⟨λx hx Il hxu=>?_,λk hk=>tg k _ hk,λj hj=>?_⟩,?_,?_,?_,?_,⟨hst.1,Zy hst.2⟩⟩
              . simp_all [T.blk]
              . grind [cell_of_heap]
              . intro r y hy _
                cases r with
                | nil=>exact hy
                | cons i r=>simp [Di] at hy ⊢;exact Zz hle hy
              . intro b hb
                have:=m.j6 hE (iM b (Bf b hb));grind
              all_goals grind [T.blk,Zx,OE]
             have DC:∀ w1:World,(w1.os=w.os∧w1.tape=w.tape∧w1.output=w.output∧w.drawn<=w1.drawn)->w.heap.size<=w1.heap.size->(∀ b,an.b≠some b->w1.heap[b]?=w.heap[b]?)->(∀ m b,lX w b m->lX w1 b m)->gC w A E nx w1 A (cq E id (some o')):=by
              intro w1 h3 xd uL tg
              have hp:=xG w1 xd uL tg
              refine gC.of (E1:=E) h3 xd (λb _ ho=>uL b (λe=>ho ⟨id,ob,hE,iM b (by simp [T.blk,e])⟩)) ?_ (pf.refl _ _) ((hp.vS m iw).fr m).hE
              intro b _ ho
              rcases hp.owned m iw ho with k | k
              . exact ⟨id,ob,hE,iM b (Bf b k)⟩
              simp_all
             refine ⟨λhb=>?_,cq E id (some o'),λb hb=>?_,λhb=>?_⟩
             . simp_all [cK]
             . simp [hb] at l5
               obtain ⟨h1,h2,h3,h4⟩:=l5
               have nX:cs.length=vs.length*z':=by
                rw [hc.len,← EI (α:=An)]
                have:=Cq (α:=An) (l:=vs.map .p) (i:=vs.length) (z:=z') (λt ht=>by obtain ⟨v,hv,rfl⟩:=bp.1 ht;exact yK v hv) (by simp)
                simp_all [a6]
               have gS:∀ j,j<cs.length->(w.cell? ⟨b,off*z'+j,none⟩).isSome=true:=by
                intro j hj
                refine (h1.cell ?_).1
                have:(off+vs.length)*z'<=an.cap*z':=iY _ (by omega)
                grind
               have uL:∀ x,an.b≠some x->(w.setCells b (off*z') cs).heap[x]?=w.heap[x]?:=λx hx=>yC (λe:x=b=>hx (e ▸ hb)) _ _ _
               obtain ⟨s1,s2,s3,s4⟩:=zi b cs (off*z') w
               have tg:∀ m x,lX w x m->lX (w.setCells b (off*z') cs) x m:=λm x hx=>hx.setCells _ _ _
               have hp:=xG (w.setCells b (off*z') cs) (by omega) uL tg
               have Ag:b∉T.dc l':=by
                simp_all
               refine ⟨m.put hp iw (λf=>?_),DC _ ⟨s2,s3,s4⟩ (by omega) uL tg,gS,λj=>h1.frozen⟩
               simp [TAt,hb]
               refine ⟨ad,cap,hrow.frame (uL b1 (λe=>Be (by simp [e]))),by simp_all [SX],kG,h1.setCells _ _ _,by simp_all [SX],Zv h3 yK,?_⟩
               grind [ZA]
             . have hp:=xG w (ay _) (λ_ _=>rfl) (λ_ _ h=>h)
               refine ⟨m.put hp iw (λf=>?_),DC w ⟨rfl,rfl,rfl,ay _⟩ (ay _) (λ_ _=>rfl) (λ_ _ h=>h)⟩
               simp_all [TAt,oa]
         simp_all
       simp_all
     simp_all
 simp_all
end
section
variable{P:Program}{o:Oper}{a:Act}{w:World}{A:Nat->Prop}{E:dP An}{nx:di}{γ:Nat}{v:MV}{h h':cj}{s:gB}{K:jm}{d:Option Nat}
theorem C79{vs:List PV}{cs:List Value}{z n:Nat}(h:cK w A vs cs)(hz:∀v∈vs,v.cs=z):cK w A (vs.take n) (cs.take (n*z)):=by induction vs generalizing cs n with|nil=>simp_all[cK]|cons x r ih=>cases n with|zero=>simp[cK]|succ n=>simp[cK]at h;obtain⟨c,d,rfl,h1,h2⟩:=h;(have hl:c.length=z:=by rw[h1.len];simp_all);simp[cK];grind[Nat.succ_mul]
theorem B9I{v:PV}{c:List Value}(h:dU w A v c)(n:Nat):cK w A (au n v) (au n c).flatten:=by induction n<;>grind[cK]
theorem A8P{ob:Option (Obj Nat)}{p:List Nat}{g z n:Nat}{l:List (T Nat)}(nu:∀g z l,ob=some (.vec g z l)->p=[]->False)(hs:iE ob p=some (.vec g z l n)):jq ob p=some (g,z,l):=by simp_all[jq]
theorem ZB{b off z:Nat}{cs:List Value}(gS:∀j,j<cs.length->(w.cell? ⟨b,off*z+j,none⟩).isSome=true)(hf:∀j,w.frozen? ⟨b,j,none⟩=false)(h1:∀u∈cs,u.oneCell'=true):(storeCells ⟨b,off*z,none⟩ cs).run P w=.ok () (w.setCells b (off*z) cs):=by simp_all[iX]
variable(hs:qM P w A E nx s a)(hm:MR w A E h nx)
include hm
theorem SZ{id:Nat}{path:List Nat}{off len g z:Nat}{vs:List PV}{val:Value}(hv:bR w A E nx (.own id path off len g) val)(jn:qT h id path g z off vs=some h'):∃an ad cap,an.g=g/\val=.slice ad len cap/\len<=cap/\fc (E id) (some path)=some (an,some z)/\kU an z off len ad cap:=by simp[bR]at hv;obtain⟨_,ad,cap,rfl,nU,hh⟩:=hv;(have iD:∃l,jq (h id) path=some (g,z,l):=by unfold qT at jn;split at jn;split at jn;rename_i gk;split at jn;rename_i hc;obtain⟨rfl,rfl,_⟩:=hc;exact⟨_,by rw[gk];rfl⟩;simp_all;rename_i EV _ _ nu;split at jn;rename_i dK;split at jn;rename_i hc;obtain⟨rfl,rfl,_⟩:=hc;exact⟨_,A8P nu dK⟩;simp_all;simp_all;simp_all);obtain⟨l,iD⟩:=iD;obtain⟨an,lA,nB,rfl,_⟩:=hm.vec iD;grind[uG]
theorem C9V{id:Nat}{path:List Nat}{off len k g z:Nat}{vs:List PV}{val:Value}(hv:bR w A E nx (.own id path off len g) val)(jn:qT h id path g z k vs=some h'):∃an ad cap,an.g=g/\val=.slice ad len cap/\len<=cap/\fc (E id) (some path)=some (an,some z)/\kU an z off len ad cap:=by simp[bR]at hv;obtain⟨q,ad,cap,rfl,nU,hh⟩:=hv;have h2:bR w A E nx (.own id path k 0 g) (.slice none 0 cap)\/True:=.inr trivial;(have iD:∃l,jq (h id) path=some (g,z,l):=by unfold qT at jn;split at jn;split at jn;rename_i gk;split at jn;rename_i hc;obtain⟨rfl,rfl,_⟩:=hc;exact⟨_,by rw[gk];rfl⟩;simp_all;rename_i EV _ _ nu;split at jn;rename_i dK;split at jn;rename_i hc;obtain⟨rfl,rfl,_⟩:=hc;exact⟨_,A8P nu dK⟩;simp_all;simp_all;simp_all);obtain⟨l,iD⟩:=iD;obtain⟨an,lA,nB,rfl,_⟩:=hm.vec iD;grind[uG]
theorem C8a{id:Nat}{path:List Nat}{k z:Nat}{vs:List PV}{an:An}{z':Nat}(jn:qT h id path an.g z k vs=some h')(hn:fc (E id) (some path)=some (an,some z')):match an.b with|none=>k+vs.length=0|some _=>k+vs.length<=an.cap:=by(have iD:∃l,jq (h id) path=some (an.g,z,l)/\k+vs.length<=l.length:=by unfold qT at jn;split at jn;split at jn;rename_i gk;split at jn;rename_i hc;obtain⟨rfl,rfl,hle⟩:=hc;exact⟨_,by rw[gk];rfl,hle⟩;simp_all;grind[A8P];simp_all);obtain⟨l,iD,hle⟩:=iD;obtain⟨OG,lA,nB,_,rfl⟩:=hm.vec iD;have CB:=uG nB;rw[CB]at hn;cases hn;have hB:=hm.vO nB;grind[VB]
omit hm in
theorem G2O:∀{vs:List PV}{ns:List Int},u8s vs=some ns->qe 1 (vs.map .p)=true/\vs=ns.map (PV.int .u8)|[],ns,h=>by cases h;exact⟨rfl,rfl⟩|.int .u8 n::r,ns,h=>by simp only[u8s]at h;split at h;rename_i l hl;cases h;obtain⟨h1,h2⟩:=G2O hl;refine⟨?_,by rw[h2];rfl⟩;simp only[qe,aF,List.all_cons,aj]at h1|-;exact⟨rfl,h1⟩;cases h
omit hm in
theorem G1V:∀{ns:List Int}{cs:List Value},cK w A (ns.map (PV.int .u8)) cs->cs=ns.map (Value.int .u8)|[],cs,h=>h|n::r,cs,h=>by simp only[aF,cK,dU]at h;obtain⟨c,d,rfl,h1,h2⟩:=h;rw[G1V h2,h1];rfl
include hs
theorem G2P{src dst e:TypeId}{x:Operand}{x':dJ}(ho:o.op=.convert src dst x)(hx:fu P src x=some x')(h0:P.underlying src=some (.slice e))(h1:P.underlying e=some (.int .u8))(h2:P.underlying dst=some .string)(he:cb K γ d s h (.convB x')=some (v,h')):cC P o a w A E nx γ v h':=by have dI:=jP hs hx;simp only[cb,G1q]at he;cases ia:elems h (cJ s x')with|none=>rw[ia]at he;cases he|some ts=>rw[ia]at he;simp only at he;cases fN:ml ts with|none=>rw[fN]at he;cases he|some vs=>rw[fN]at he;simp only at he;cases xH:u8s vs with|none=>rw[xH]at he;cases he|some ns=>rw[xH]at he;cases he;have hts:=H7 fN;subst hts;obtain⟨eV,rfl⟩:=G2O xH;(have qN:((ns.map (PV.int .u8)).map (T.p (α:=Nat))).all vm=true:=by simp[vm]);(have Dw:tu h (cJ s x')=some ((ns.map (PV.int .u8)).map .p,h):=by simp only[tu,ia,qN,if_true]);obtain⟨news,E1,lA,jD,kA⟩:=SK (P:=P) (γ:=γ) hm dI Dw eV;(have om:lA=(ns.map (PV.int .u8)).map .p:=by have h2:=kA.er;rw[Oy]at h2;obtain⟨us,Kv⟩:=SI (l:=lA) (by rw[h2];exact qN);subst Kv;rw[sk]at h2;have h3:(us.map (T.p (α:=Nat)))=(ns.map (PV.int .u8)).map .p:=h2;have:=congrArg ml h3;rw[Dg,Dg]at this;rw[s8 this]);subst om;have OH:cK w A (ns.map (PV.int .u8)) news:=vT.1 kA.tc;have Bb:=G1V OH;subst Bb;obtain⟨xb,xc,CC⟩:=jD.val;have GD:=jD.rd w rfl;rw[CC]at GD;refine cC.idle (val:=.string (G1F ns)) ?_ (Cm.2 rfl) hm;(have auU:(convert src dst (a.eval x)).run P w=.ok (.string (G1F ns)) w:=by rw[CC,run_convert_bytes_string w src dst e xb _ xc h0 h1 h2];cases xb with|none=>(have:ns=[]:=by simp only[ig,Sem.run_pure,Result.ok.injEq,and_true]at GD;cases ns with|nil=>rfl|cons n r=>simp at GD);subst this;rfl|some xa=>refine run_bytesToString w xa _ xc ns ?_;simp only[ig,Nat.mul_one]at GD;exact GD);simp[execOp,ho,auU]
theorem D1T{c:Call}{t t' e:TypeId}{x y:Operand}{x' y':dJ}{t1 t2:TypeId}(ho:o.op=.call c)(qg:c.callee=.builtin .copy)(pg:c.args=#[x,y])(ur:c.argTypes=#[t,t'])(hx:fu P t1 x=some x')(hy:fu P t2 y=some y')(ht:P.underlying t=some (.slice e))(tf:P.cellsOf e≠0)(he:cb K γ d s h (.cpy (P.cellsOf e) x' y')=some (v,h')):cC P o a w A E nx γ v h':=by have dI:=jP hs hx;have w8:=jP hs hy;obtain⟨i,hi,qW⟩:=RN tf;simp only[cb,HV]at he;split at he;cases he;rename_i ts ia;split at he;cases he;rename_i vs fN;split at he;rename_i eV;have hts:=H7 fN;subst hts;(have qN:(vs.map (T.p (α:=Nat))).all vm=true:=by simp[vm]);(have Dw:tu h (cJ s y')=some (vs.map .p,h):=by simp_all[tu]);(have vX:∀{src:Value}{w1:World},(fP #[t,t'] o.type #[a.eval x,a.eval y]).run P w=.ok src w1->(execOp a.eval o).run P w=.ok (.value src) w1:=by simp_all[De,builtin]);obtain⟨news,E1,lA,jD,kA⟩:=SK (P:=P) (γ:=γ) hm w8 Dw eV;obtain⟨xb,xc,CC⟩:=jD.val;rw[aB]at jD CC;rw[CC]at jD;split at he;rename_i zz zo;simp[yr]at he;obtain⟨rfl,rfl⟩:=he;rw[zo]at dI;simp[bR]at dI;obtain⟨ax,xe⟩:=dI;have pJ:=jD.pre 0 (dg _);rw[<-qW,da,ff]at pJ;refine cC.idle (val:=.int .i64 0) (vX ?_) (A1W.2 rfl) hm;rw[xe,CC];cases ax<;>simp[fP,aZ ht,sizeOf,typeInfo,hi,gI,pJ,goInt,storeCells];rename_i id path off len g zo;split at he;rename_i h1 jn;simp[yr]at he;obtain⟨rfl,rfl⟩:=he;rw[zo]at dI;obtain⟨an,ad,cap,rfl,xe,nU,bW,kG⟩:=SZ hm dI jn;(have yK:∀v∈vs,v.cs=P.cellsOf e:=by intro v hv;simp only[qe,bB,beq_iff_eq]at eV;exact eV (.p v) (dY hv));(have om:lA=vs.map .p:=by have h2:=kA.er;rw[Oy]at h2;obtain⟨us,Kv⟩:=SI (l:=lA) (by simp_all);subst Kv;rw[sk]at h2;have h3:(us.map (T.p (α:=Nat)))=vs.map .p:=h2;grind[Dg]);subst om;have OH:cK w A vs news:=vT.1 kA.tc;have hk:min vs.length len<=vs.length:=Nat.min_le_left _ _;have pJ:=jD.pre (min vs.length len) hk;(have OI:vs.take len=vs.take (min vs.length len):=by grind);rw[OI]at jn;have Kw:=C79 (n:=min vs.length len) OH yK;obtain⟨qn,E',ox,Gp⟩:=Ku hm bW jn Kw;(have ZC:len=0->vs.take (min vs.length len)=[]:=by simp_all);(cases hb:an.b with|none=>obtain⟨k1,k2⟩:=Gp hb;simp[kU,hb]at kG;obtain⟨rfl,rfl⟩:=kG;rw[qy]at pJ|-;rw[<-qW,da,ff]at pJ;refine⟨.int .i64 0,w,A,E',.inl (vX ?_),A1W.2 rfl,k1.mono (nx.eF γ),k2⟩;rw[xe,CC];cases ad<;>simp[fP,aZ ht,sizeOf,typeInfo,hi,gI,pJ,goInt,storeCells]|some b=>obtain⟨k1,k2,k3,k4⟩:=ox b hb;simp[kU,hb]at kG;refine⟨.int .i64 (min vs.length len:Nat),_,A,E',.inl (vX ?_),A1W.2 rfl,k1.mono (nx.eF γ),k2⟩;rw[xe,CC];rcases kG.2 with⟨rfl,rfl⟩|hA;rw[qy]at pJ|-;rw[<-qW,da,ff]at pJ;(have e0:w.setCells b (off*P.cellsOf e) (news.take (0*P.cellsOf e))=w:=by rw[da,ff];rfl);rw[e0];cases ad<;>simp[fP,aZ ht,sizeOf,typeInfo,hi,gI,pJ,goInt,storeCells];have hst:=ZB (P:=P) k3 k4 Kw.ke;simp_all[fP,aZ,sizeOf,typeInfo,gI,goInt]);simp_all;simp_all;simp_all
theorem C9W{c:Call}{t e:TypeId}{x y:Operand}{x' y':dJ}{t1 t2:TypeId}(ho:o.op=.call c)(qg:c.callee=.builtin .append)(pg:c.args=#[x,y])(ur:c.argTypes=#[t,t])(hx:fu P t1 x=some x')(hy:fu P t2 y=some y')(ht:P.underlying t=some (.slice e))(tf:P.cellsOf e≠0)(he:cb K γ d s h (.appk (P.cellsOf e) x' y')=some (v,h')):cC P o a w A E nx γ v h':=by have dI:=jP hs hx;have w8:=jP hs hy;obtain⟨i,hi,qW⟩:=RN tf;simp[cb]at he;split at he;cases he;rename_i ts ia;split at he;cases he;rename_i vs fN;split at he;rename_i eV;have hts:=H7 fN;subst hts;(have qN:(vs.map (T.p (α:=Nat))).all vm=true:=by simp[vm]);(have Dw:tu h (cJ s y')=some (vs.map .p,h):=by simp_all[tu]);obtain⟨news,E1,lA,jD,kA⟩:=SK (P:=P) (γ:=γ) hm w8 Dw eV;obtain⟨xb,xc,CC⟩:=jD.val;rw[aB]at jD CC;rw[CC]at jD;split at he;rename_i id path off len g zo;split at he;rename_i h1 jn;simp at he;obtain⟨rfl,rfl⟩:=he;rw[zo]at dI;obtain⟨an,ad,cap,rfl,xe,nU,bW,kG⟩:=C9V hm dI jn;(have ZD:nx an.g:=by simp_all[bR]);(have yK:∀v∈vs,v.cs=P.cellsOf e:=by intro v hv;simp only[qe,bB,beq_iff_eq]at eV;exact eV (.p v) (dY hv));(have om:lA=vs.map .p:=by have h2:=kA.er;rw[Oy]at h2;obtain⟨us,Kv⟩:=SI (l:=lA) (by simp_all);subst Kv;rw[sk]at h2;have h3:(us.map (T.p (α:=Nat)))=vs.map .p:=h2;grind[Dg]);subst om;have OH:cK w A vs news:=vT.1 kA.tc;have fO:=C8a hm jn bW;obtain⟨qn,E',ox,Gp⟩:=Ku hm bW jn OH;(have n5:∀{w':World},gC w A E nx w' A E'->len+vs.length<=cap->bR w' A E' (nx.add γ) (.own id path off (len+vs.length) an.g) (.slice ad (len+vs.length) cap):=by intro w' hg hle;simp only[bR];refine⟨.inl ZD,ad,cap,rfl,hle,λYH z1 Gq hg1=>?_⟩;have CB:=hg.ns id (some path) YH (some z1) Gq (by simp_all);grind[kU]);(cases hb:an.b with|none=>obtain⟨k1,k2⟩:=Gp hb;have Cy:=qn hb;simp[kU,hb]at kG;obtain⟨rfl,rfl⟩:=kG;(have hv0:vs.length=0:=by simp_all);have pJ:=jD.pre 0 (dg _);rw[da,ff]at pJ;refine⟨_,w,A,E',.inl ?_,n5 k2 (by omega),k1.mono (nx.eF γ),k2⟩;grind[SN,B0Z]|some b=>obtain⟨k1,k2,k3,k4⟩:=ox b hb;(have hle:len+vs.length<=cap:=by grind[kU]);refine⟨_,_,A,E',.inl ?_,n5 k2 hle,k1.mono (nx.eF γ),k2⟩;rw[SN ho qg pg ur,xe,CC];simp[kU,hb]at kG;(have yL:lh P w i.size (.slice xb vs.length xc) vs.length news:=by simp_all);rcases kG.2 with⟨rfl,rfl⟩|hA;(have hv0:vs.length=0:=by omega);have Du:news=[]:=List.eq_nil_of_length_eq_zero (by rw[jD.len,hv0,da]);rw[hv0]at yL|-;rw[Du]at yL|-;rw[B0Z ht hi ad 0 0 yL (ay _)];rfl;rw[hA];have hst:=iX (P:=P) b ((off+len)*i.size) news 0 w (by simp_all) (λj _=>k4 _) OH.ke;simp at hst;have SF:=yL.rd w rfl;(have Gs:(⟨b,off*P.cellsOf e,none⟩:Addr).add (len*i.size)=⟨b,(off+len)*i.size,none⟩:=by grind[vQ]);simp[Builtin.append_,aZ ht,sizeOf,typeInfo,hi,gI,SF,hle,Gs,hst];rw[qW]);simp_all;simp_all;simp_all
theorem D1U{c:Call}{t e:TypeId}{x:Operand}{x':dJ}{t1:TypeId}{zero:PV}(ho:o.op=.call c)(qg:c.callee=.builtin .clear)(pg:c.args=#[x])(ur:c.argTypes=#[t])(hx:fu P t1 x=some x')(ht:P.underlying t=some (.slice e))(hz:NR P e=some zero)(he:cb K γ d s h (.clr (P.cellsOf e) zero x')=some (v,h')):cC P o a w A E nx γ v h':=by have dI:=jP hs hx;obtain⟨zc,tF,S1⟩:=C76 hz;obtain⟨zv,Ga,mH,i,hi,EP⟩:=EO tF w;have Kx:dU w A zero zc:=S1 w A;(have vX:∀{src:Value}{w1:World},(gX #[t] o.type #[a.eval x]).run P w=.ok src w1->(execOp a.eval o).run P w=.ok (.value src) w1:=by simp_all[De,builtin]);(have Ky:bR w A E nx (.eI []) (.tuple #[]):=by simp_all[bR,c9]);simp[cb]at he;split at he;rename_i zo;simp at he;obtain⟨rfl,rfl⟩:=he;rw[zo]at dI;obtain⟨p,cap,xe,_⟩:=xD.1 dI;refine cC.idle (vX ?_) Ky hm;rw[xe];cases p<;>simp[gX,aZ ht];rename_i zz zo;simp at he;obtain⟨rfl,rfl⟩:=he;rw[zo]at dI;simp[bR]at dI;obtain⟨p,xe⟩:=dI;refine cC.idle (vX ?_) Ky hm;rw[xe];cases p<;>simp[gX,aZ ht];rename_i id path off len g zo;split at he;rename_i h1 jn;split at he;rename_i uK;simp at he;obtain⟨rfl,rfl⟩:=he;rw[zo]at dI;obtain⟨an,ad,cap,rfl,xe,nU,bW,kG⟩:=SZ hm dI jn;have Kw:=B9I Kx len;obtain⟨qn,E',ox,Gp⟩:=Ku hm bW jn Kw;(have Kz:∀w1 E1 n1,bR w1 A E1 n1 (.eI []) (.tuple #[]):=by simp_all[bR,c9]);(cases hb:an.b with|none=>obtain⟨k1,k2⟩:=Gp hb;simp[kU,hb]at kG;obtain⟨rfl,rfl⟩:=kG;refine⟨_,w,A,E',.inl (vX ?_),Kz _ _ _,k1.mono (nx.eF γ),k2⟩;rw[xe];cases ad<;>simp[gX,aZ ht]|some b=>obtain⟨k1,k2,k3,k4⟩:=ox b hb;simp[kU,hb]at kG;refine⟨_,_,A,E',.inl (vX ?_),Kz _ _ _,k1.mono (nx.eF γ),k2⟩;rw[xe];rcases kG.2 with⟨rfl,rfl⟩|hA;have e0:w.setCells b (off*P.cellsOf e) (au 0 zc).flatten=w:=rfl;rw[e0];cases ad<;>simp[gX,aZ ht];have hst:=ZB (P:=P) k3 k4 Kw.ke;rw[hA];have hzl:zc.length=zc.length:=rfl;(have J6:(aY zv.cells len).toList=(au len zc).flatten:=by rw[mH];grind[aY,Array.toList_map,Sp]);cases len with|zero=>have e0:w.setCells b (off*P.cellsOf e) (au 0 zc).flatten=w:=rfl;simp_all[gX,aZ]|succ len=>simp_all[gX,aZ]);simp_all;simp_all;simp_all
end
end Go.Mid
namespace Go.Mid
open Go.RowKit
def zA(ζ:Nat->Nat)(an:An):An:={an with g:=ζ an.g}
section
variable{α:Type}(φ:MV->MV)
section
variable(ζ:α->α)
theorem DD(l:List (T α)):jy φ ζ l=l.map (iS φ ζ):=by induction l with|nil=>rfl|cons x r ih=>simp only[jy,aF,ih]
theorem Im:∀(p:List Nat)(t:T α),cR (iS φ ζ t) p=(cR t p).map (iS φ ζ)|[],t=>rfl|i::r,.p v=>(by cases v<;>simp only[iS,cR,dx];rename_i l;cases l[i]? with|none=>rfl|some x=>have:=Im r (.p x);simpa only[iS]using this)|i::r,.m v=>rfl|i::r,.agg l=>(by simp only[iS,cR,DD,aL];cases l[i]? with|none=>rfl|some x=>exact Im r x)|i::r,.vec a z l n=>(by simp only[iS,cR,DD,aL];cases l[i]? with|none=>rfl|some x=>exact Im r x)|i::r,.mp a ks l=>rfl|i::r,.hole n=>rfl
theorem S3(o:Obj α)(np:Option (List Nat)):fc (some (kH φ ζ o)) np=(fc (some o) np).map λy=>(ζ y.1,y.2):=by cases np with|none=>cases o<;>rfl|some p=>rw[uJ,uJ];(have e:(kH φ ζ o).qk=iS φ ζ o.qk:=by cases o<;>rfl);rw[e];simp only[fE,Im];cases cR o.qk p with|none=>rfl|some u=>cases u<;>rfl
mutual
theorem CD(hφ:∀v,(φ v).cs=v.cs):∀(t:T α),(iS φ ζ t).cs=t.cs|.p _=>rfl|.m v=>hφ v|.agg l=>S4 hφ l|.vec ..=>rfl|.mp ..=>rfl|.hole _=>rfl
theorem S4(hφ:∀v,(φ v).cs=v.cs):∀(l:List (T α)),T.b5 (jy φ ζ l)=T.b5 l|[]=>rfl|x::r=>by simp only[jy,T.b5,CD hφ x,S4 hφ r]
end
end
mutual
theorem ZE(ζ:Nat->Nat):∀(t:T An),(iS φ (zA ζ) t).mapA An.g=iS φ ζ (t.mapA An.g)|.p _=>rfl|.m _=>rfl|.agg l=>by simp only[iS,T.mapA,KA ζ l]|.vec an _ l _=>by simp only[iS,T.mapA,KA ζ l];rfl|.mp an _ l=>by simp only[iS,T.mapA,KA ζ l];rfl|.hole _=>rfl
theorem KA(ζ:Nat->Nat):∀(l:List (T An)),T.cI An.g (jy φ (zA ζ) l)=jy φ ζ (T.cI An.g l)|[]=>rfl|x::r=>by simp only[jy,T.cI,ZE ζ x,KA ζ r]
end
theorem ZF(ζ:Nat->Nat)(o:Obj An):(kH φ (zA ζ) o).mapA An.g=kH φ ζ (o.mapA An.g):=by cases o<;>simp only[kH,Obj.mapA,ZE,KA]<;>rfl
mutual
theorem Ah(ζ:An->An)(hζ:∀an,(ζ an).b=an.b):∀(t:T An),(iS φ ζ t).blk=t.blk|.p _=>rfl|.m _=>rfl|.agg l=>DE ζ hζ l|.vec an _ l _=>by simp only[iS,T.blk,DE ζ hζ l,hζ]|.mp an _ l=>by simp only[iS,T.blk,DE ζ hζ l,hζ]|.hole _=>rfl
theorem DE(ζ:An->An)(hζ:∀an,(ζ an).b=an.b):∀(l:List (T An)),T.dc (jy φ ζ l)=T.dc l|[]=>rfl|x::r=>by simp only[jy,T.dc,Ah ζ hζ x,DE ζ hζ r]
end
theorem Gt(ζ:An->An)(hζ:∀an,(ζ an).b=an.b)(o:Obj An):(kH φ ζ o).blk=o.blk:=by cases o<;>simp only[kH,Obj.blk,Ah φ ζ hζ,DE φ ζ hζ,hζ]
mutual
theorem ZG{nx nx':di}(ζ:An->An)(hζ:∀an,nx an.g->nx' (ζ an).g):∀(t:T An),t.st nx->(iS φ ζ t).st nx'|.p _,_=>trivial|.m _,_=>trivial|.agg l,h=>by simp only[iS,T.st]at h|-;exact Io ζ hζ l h|.vec an _ l _,h=>by simp only[iS,T.st]at h|-;exact⟨hζ _ h.1,Io ζ hζ l h.2⟩|.mp an _ l,h=>by simp only[iS,T.st]at h|-;exact hζ _ h|.hole _,_=>trivial
theorem Io{nx nx':di}(ζ:An->An)(hζ:∀an,nx an.g->nx' (ζ an).g):∀(l:List (T An)),T.j9 nx l->T.j9 nx' (jy φ ζ l)|[],_=>trivial|x::r,h=>by simp only[jy,T.j9]at h|-;exact⟨ZG ζ hζ x h.1,Io ζ hζ r h.2⟩
end
theorem D1V{nx nx':di}(ζ:An->An)(hζ:∀an,nx an.g->nx' (ζ an).g){o:Obj An}(h:o.st nx):(kH φ ζ o).st nx':=by cases o<;>simp only[kH,Obj.st]at h|-;exact⟨hζ _ h.1,ZG φ ζ hζ _ h.2⟩;exact⟨hζ _ h.1,Io φ ζ hζ _ h.2⟩;exact hζ _ h
end
theorem OJ{an rU:An}(hb:rU.b=an.b)(hc:rU.cap=an.cap){z off len cap:Nat}{a:Option Addr}(h:kU an z off len a cap):kU rU z off len a cap:=by simp only[kU,hb,hc]at h|-;exact h
section
variable{w:World}{A:Nat->Prop}{E E':dP An}{nx nx':di}{h:cj}
structure vY (w:World)(A:Nat->Prop)(E:dP An)(nx:di)(E':dP An)(nx':di)(φ:MV->MV):Prop where
 val:∀ v val,bR w A E nx v val->bR w A E' nx' (φ v) val
 cs:∀ v,(φ v).cs=v.cs
 agg:∀ v,(φ v).isAgg=v.isAgg
mutual
theorem TAt.ch{φ:MV->MV}{ζ:An->An}(c:vY w A E nx E' nx' φ)(hb:∀an,(ζ an).b=an.b)(hc:∀an,(ζ an).cap=an.cap):∀{t:T An}{b o:Nat},TAt w A E nx t b o->TAt w A E' nx' (iS φ ζ t) b o|.p v,b,o,k=>k|.m v,b,o,k=>by simp only[TAt,iS]at k|-;obtain⟨h1,h2,val,h3,h4⟩:=k;exact⟨by rw[c.cs];exact h1,by rw[c.agg];exact h2,val,c.val v val h3,h4⟩|.agg l,b,o,k=>by simp only[TAt,iS]at k|-;exact cD.ch c hb hc k|.vec an z l n,b,o,k=>(by simp only[TAt,iS]at k|-;obtain⟨a,cap,h1,h2,h3,h4⟩:=k;refine⟨a,cap,h1,by rw[DD,aB];exact h2,OJ (hb an) (hc an) h3,?_⟩;rw[hb,hc];cases kE:an.b with|none=>simp only[kE]at h4|-;exact⟨by rw[h4.1];rfl,h4.2⟩|some b'=>simp only[kE]at h4|-;refine⟨h4.1,by rw[DD,aB];exact h4.2.1,?_,cD.ch c hb hc h4.2.2.2⟩;intro t ht;rw[DD]at ht;obtain⟨u,hu,rfl⟩:=bp.1 ht;rw[CD φ ζ c.cs];exact h4.2.2.1 u hu)|.mp ..,b,o,k=>by simp only[TAt]at k|.hole n,b,o,k=>k
theorem cD.ch{φ:MV->MV}{ζ:An->An}(c:vY w A E nx E' nx' φ)(hb:∀an,(ζ an).b=an.b)(hc:∀an,(ζ an).cap=an.cap):∀{l:List (T An)}{b o:Nat},cD w A E nx l b o->cD w A E' nx' (jy φ ζ l) b o|[],b,o,k=>by simp only[cD,jy]|t::r,b,o,k=>by simp only[cD,jy]at k|-;rw[CD φ ζ c.cs];exact⟨TAt.ch c hb hc k.1,cD.ch c hb hc k.2⟩
end
theorem C5K{α:Type}(φ:MV->MV)(ζ:α->α)(ws:List PV):jy φ ζ (ws.map T.p)=ws.map T.p:=by induction ws with|nil=>rfl|cons x r ih=>simp[jy,iS,ih]
theorem OAt.ch{φ:MV->MV}{ζ:An->An}(c:vY w A E nx E' nx' φ)(hb:∀an,(ζ an).b=an.b)(hc:∀an,(ζ an).cap=an.cap){o:Obj An}(k:OAt w A E nx o):OAt w A E' nx' (kH φ ζ o):=by cases o with|cell an t=>simp only[OAt,kH]at k|-;obtain⟨b,h1,h2,h3⟩:=k;exact⟨b,by rw[hb];exact h1,by rw[CD φ ζ c.cs];exact h2,h3.ch c hb hc⟩|vec an z l=>(simp only[OAt,VB,kH]at k|-;rw[hb,hc];cases kE:an.b with|none=>simp only[kE]at k|-;exact⟨by rw[k.1];rfl,k.2⟩|some b'=>simp only[kE]at k|-;refine⟨k.1,by rw[DD,aB];exact k.2.1,?_,cD.ch c hb hc k.2.2.2⟩;intro t ht;rw[DD]at ht;obtain⟨u,hu,rfl⟩:=bp.1 ht;rw[CD φ ζ c.cs];exact k.2.2.1 u hu)|mp an ks l=>simp only[OAt,kH]at k|-;rcases k with⟨b,es,ck,ws,h1,h2,rfl,h4,h5⟩|⟨b,ty,e,s,OG,h1,h2,rfl,h4⟩;exact .inl ⟨b,es,ck,ws,by rw[hb];exact h1,h2,C5K φ ζ ws,h4,h5⟩;exact .inr ⟨b,ty,e,s,ζ OG,by rw[hb];exact h1,h2,rfl,by rw[hb];exact h4⟩|gone=>trivial
section
variable(h:cj)(ρ:Nat->Option Nat)(ζ:Nat->Nat)
mutual
theorem S5:∀(v:MV),(jW h ρ ζ v).cs=v.cs|.p _=>rfl|.nil _=>rfl|.own id path off len g=>by simp only[jW];split<;>(try split)<;>rfl|.ptr id np rp g o=>by simp only[jW];split<;>(try split)<;>rfl|.auG id path g=>by simp only[jW];split<;>(try split)<;>rfl|.agg l=>ZH l|.fn _ _=>rfl|.eI _=>rfl|.dead _=>rfl
theorem ZH:∀(l:List MV),MV.b5 (uk h ρ ζ l)=MV.b5 l|[]=>rfl|x::r=>by simp only[uk,MV.b5,S5 x,ZH r]
end
theorem ZI(v:MV):(jW h ρ ζ v).isAgg=v.isAgg:=by cases v<;>simp only[jW]<;>(try split)<;>(try split)<;>rfl
end
def tG(E:dP An)(h:cj)(ρ:Nat->Option Nat)(ζ:Nat->Nat)(ζn:Nat->Nat->Nat)(bk:Nat->Option Nat):dP An:=λj=>(bk j).bind λi=>(E i).map (kH (jW h ρ ζ) (zA (ζn i)))
def Bg(h:cj)(ρ:Nat->Option Nat)(ζ:Nat->Nat)(ζn:Nat->Nat->Nat)(bk:Nat->Option Nat):cj:=λj=>(bk j).bind λi=>(h i).map (kH (jW h ρ ζ) (ζn i))
theorem KB{h:cj}{ρ:Nat->Option Nat}{ζ:Nat->Nat}{ζn:Nat->Nat->Nat}{bk:Nat->Option Nat}{i j:Nat}(hb:bk j=some i)(np:Option (List Nat)):fc (tG E h ρ ζ ζn bk j) np=(fc (E i) np).map λy=>(zA (ζn i) y.1,y.2):=by simp only[tG,hb,ai];cases hE:E i with|none=>(simp only[dx];cases np with|none=>rfl|some p=>cases p<;>rfl)|some o=>exact S3 _ _ o np
section
variable{ρ:Nat->Option Nat}{ζ:Nat->Nat}{ζn:Nat->Nat->Nat}{bk:Nat->Option Nat}
mutual
theorem bR.clean(m:MR w A E h nx)(hρ:∀i j,ρ i=some j->bk j=some i)(hn:∀g,nx g->nx' (ζ g)):∀{v:MV}{val:Value},bR w A E nx v val->bR w A (tG E h ρ ζ ζn bk) nx' (jW h ρ ζ v) val|.p v,val,k=>by simp only[bR,jW]at k|-;exact k|.nil _,val,k=>by simp only[bR,jW]at k|-;exact k|.own id path off len g,val,k=>by simp only[bR]at k;obtain⟨hg,a,cap,rfl,hc,hh⟩:=k;simp only[jW];split;rename_i j hj;split;rename_i kN;simp only[bR];refine⟨hn g hg,a,cap,rfl,hc,λan z bW hgg=>?_⟩;rw[KB (hρ id j hj)]at bW;unfold wV at kN;split at kN;rename_i g' z' l' iD;obtain⟨EW,lA,nB,rfl,_⟩:=m.vec iD;simp only[beq_iff_eq]at kN;subst kN;rw[uG nB]at bW;simp only[ak,aa,ae]at bW;obtain⟨rfl,rfl⟩:=bW;exact OJ (an:=EW) rfl rfl (hh EW z' (uG nB) rfl);cases kN;simp only[bR];simp only[bR]|.ptr id np rp g o,val,k=>by simp only[bR]at k;obtain⟨hg,a,rfl,hh⟩:=k;simp only[jW];split;rename_i j hj;split;rename_i kN;simp only[bR];refine⟨hn g hg,a,rfl,λan z bW hgg=>?_⟩;rw[KB (hρ id j hj)]at bW;unfold zU at kN;split at kN;rename_i t s o' hl;obtain⟨EW,tA,om,rfl,_⟩:=m.look hl;simp only[aj,beq_iff_eq]at kN;obtain⟨rfl,rfl⟩:=kN;obtain⟨z0,hnd⟩:=A8q om;rw[hnd]at bW;simp only[ak,aa,ae]at bW;obtain⟨rfl,rfl⟩:=bW;exact hh EW z0 hnd rfl;obtain⟨EW,hnd,rfl⟩:=m.j3 kN;rw[hnd]at bW;simp only[ak,aa,ae]at bW;obtain⟨rfl,rfl⟩:=bW;exact hh EW none hnd rfl;simp only[bR];simp only[bR]|.auG id path g,val,k=>by simp only[bR]at k;obtain⟨hg,a,rfl,hh⟩:=k;simp only[jW];split;rename_i j hj;split;rename_i kN;simp only[bR];refine⟨hn g hg,a,rfl,λan z bW hgg=>?_⟩;rw[KB (hρ id j hj)]at bW;unfold FN at kN;split at kN;rename_i g' JH Ad hmp;obtain⟨rfl,EW,lA,hE,rfl,_⟩:=m.avR hmp;simp only[beq_iff_eq]at kN;subst kN;(have hnd:fc (E id) (some [])=some (EW,none):=by rw[hE];rfl);rw[hnd]at bW;simp only[ak,aa,ae]at bW;obtain⟨rfl,rfl⟩:=bW;exact hh EW none hnd rfl;cases kN;simp only[bR];simp only[bR]|.agg l,val,k=>by simp only[bR,jW]at k|-;obtain⟨cs,rfl,k⟩:=k;exact⟨cs,rfl,dW.clean m hρ hn k⟩|.fn f l,val,k=>by simp only[bR,jW]at k|-;obtain⟨vs,rfl,k⟩:=k;exact⟨vs,rfl,c9.clean m hρ hn k⟩|.eI l,val,k=>by simp only[bR,jW]at k|-;obtain⟨vs,rfl,k⟩:=k;exact⟨vs,rfl,c9.clean m hρ hn k⟩|.dead _,val,k=>by simp only[bR,jW]
theorem dW.clean(m:MR w A E h nx)(hρ:∀i j,ρ i=some j->bk j=some i)(hn:∀g,nx g->nx' (ζ g)):∀{l:List MV}{cs:List Value},dW w A E nx l cs->dW w A (tG E h ρ ζ ζn bk) nx' (uk h ρ ζ l) cs|[],cs,k=>by simp only[dW,uk]at k|-;exact k|x::r,cs,k=>by simp only[dW,uk]at k|-;obtain⟨v,d,rfl,h1,h2,h3,h4⟩:=k;refine⟨v,d,rfl,by rw[S5];exact h1,λc hc=>?_,bR.clean m hρ hn h3,dW.clean m hρ hn h4⟩;rw[ZI];rcases h2 c hc with h5|⟨n,rfl⟩;exact .inl h5;exact .inr ⟨n,rfl⟩
theorem c9.clean(m:MR w A E h nx)(hρ:∀i j,ρ i=some j->bk j=some i)(hn:∀g,nx g->nx' (ζ g)):∀{l:List MV}{vs:List Value},c9 w A E nx l vs->c9 w A (tG E h ρ ζ ζn bk) nx' (uk h ρ ζ l) vs|[],vs,k=>by simp only[c9,uk]at k|-;exact k|x::r,vs,k=>by simp only[c9,uk]at k|-;obtain⟨v,d,rfl,h1,h2⟩:=k;exact⟨v,d,rfl,bR.clean m hρ hn h1,c9.clean m hρ hn h2⟩
end
theorem Gu{j:Nat}{o:Obj An}(ho:tG E h ρ ζ ζn bk j=some o):∃i o0,bk j=some i/\E i=some o0/\o=kH (jW h ρ ζ) (zA (ζn i)) o0:=by simp only[tG]at ho;cases hb:bk j with|none=>simp[hb]at ho|some i=>simp only[hb,ai]at ho;cases hE:E i with|none=>simp[hE]at ho|some o0=>simp only[hE,ak,aa]at ho;exact⟨i,o0,rfl,hE,ho.symm⟩
theorem A8R{b:Nat}(k:jr (tG E h ρ ζ ζn bk) b):jr E b:=by obtain⟨j,o,ho,hb⟩:=k;obtain⟨i,o0,_,hE,rfl⟩:=Gu ho;rw[Gt _ (zA (ζn i)) (λ_=>rfl)]at hb;exact⟨i,o0,hE,hb⟩
theorem MR.clean(m:MR w A E h nx)(hρ:∀i j,ρ i=some j->bk j=some i)(uN:∀i j j',bk j=some i->bk j'=some i->j=j')(hn:∀g,nx g->nx' (ζ g))(Gp:∀i g,nx g->nx' (ζn i g)):MR w A (tG E h ρ ζ ζn bk) (Bg h ρ ζ ζn bk) nx':=by have c:vY w A E nx (tG E h ρ ζ ζn bk) nx' (jW h ρ ζ):=⟨λv val k=>bR.clean m hρ hn k,S5 h ρ ζ,ZI h ρ ζ⟩;constructor;intro j;simp only[tG,Bg];(cases bk j with|none=>rfl|some i=>simp only[ai,m.er i,Option.map_map];cases E i with|none=>rfl|some o=>simp only[ak,Function.comp,ZF]);intro j o ho;obtain⟨i,o0,_,hE,rfl⟩:=Gu ho;exact(m.at_ i o0 hE).ch (ζ:=zA (ζn i)) c (λ_=>rfl) (λ_=>rfl);intro b hb;exact m.lt b (A8R hb);intro j o ho;obtain⟨i,o0,_,hE,rfl⟩:=Gu ho;rw[Gt _ (zA (ζn i)) (λ_=>rfl)];exact m.nd i o0 hE;intro j j' o o' hne ho oZ b hb js;obtain⟨i,o0,hi,hE,rfl⟩:=Gu ho;obtain⟨i',o1,hi',vZ,rfl⟩:=Gu oZ;rw[Gt _ (zA (ζn i)) (λ_=>rfl)]at hb;rw[Gt _ (zA (ζn i')) (λ_=>rfl)]at js;by_cases e:i=i';subst e;exact hne (uN i j j' hi hi');exact m.dj i i' o0 o1 e hE vZ b hb js;exact m.im;intro j o ho;obtain⟨i,o0,_,hE,rfl⟩:=Gu ho;exact D1V _ (zA (ζn i)) (λan hg=>Gp _ _ hg) (m.st i o0 hE)
end
end
end Go.Mid
namespace Go.Mid
open Go.RowKit
def yM(γ g0:Nat)(an:An):An:={an with g:=wX γ g0 an.g}
theorem D5e(γ g0:Nat)(an:An):(yM γ g0 an).b=an.b:=rfl
section
variable{α β:Type}
mutual
theorem ZJ(f:α->β)(ck:Nat->α->α)(rs:α->α)(Ai:Nat->β->β)(nw:β->β)(h1:∀g a,f (ck g a)=Ai g (f a))(h2:∀a,f (rs a)=nw (f a)):∀(t:T Nat)(u:T α),(mY ck rs t u).mapA f=mY Ai nw t (u.mapA f)|.agg l,.agg m=>by simp only[mY,T.mapA,ZK f ck rs Ai nw h1 h2 l m]|.vec g0 _ _ _,.vec a z l n=>by simp only[mY,T.mapA,h1,xJ f rs nw h2]|.mp g0 _ _,.mp a ks l=>by simp only[mY,T.mapA,h1,xJ f rs nw h2]|.p _,u=>by simp only[mY,Ip f rs nw h2]|.m _,u=>by simp only[mY,Ip f rs nw h2]|.hole _,u=>by simp only[mY,Ip f rs nw h2]|.agg _,.p _=>rfl|.agg _,.m _=>rfl|.agg _,.vec ..=>by simp only[mY,T.mapA,iS,h2,xJ f rs nw h2]|.agg _,.mp ..=>by simp only[mY,T.mapA,iS,h2,xJ f rs nw h2]|.agg _,.hole _=>rfl|.vec ..,.p _=>rfl|.vec ..,.m _=>rfl|.vec ..,.agg _=>by simp only[mY,T.mapA,iS,xJ f rs nw h2]|.vec ..,.mp ..=>by simp only[mY,T.mapA,iS,h2,xJ f rs nw h2]|.vec ..,.hole _=>rfl|.mp ..,.p _=>rfl|.mp ..,.m _=>rfl|.mp ..,.agg _=>by simp only[mY,T.mapA,iS,xJ f rs nw h2]|.mp ..,.vec ..=>by simp only[mY,T.mapA,iS,h2,xJ f rs nw h2]|.mp ..,.hole _=>rfl
theorem ZK(f:α->β)(ck:Nat->α->α)(rs:α->α)(Ai:Nat->β->β)(nw:β->β)(h1:∀g a,f (ck g a)=Ai g (f a))(h2:∀a,f (rs a)=nw (f a)):∀(l:List (T Nat))(m:List (T α)),T.cI f (oO ck rs l m)=oO Ai nw l (T.cI f m)|x::r,y::q=>by simp only[oO,T.cI,ZJ f ck rs Ai nw h1 h2 x y,ZK f ck rs Ai nw h1 h2 r q]|[],q=>by simp only[oO,xJ f rs nw h2]|x::r,[]=>by simp only[oO,T.cI,jy]
theorem Ip(f:α->β)(rs:α->α)(nw:β->β)(h2:∀a,f (rs a)=nw (f a)):∀(t:T α),(iS (λv=>v) rs t).mapA f=iS (λv=>v) nw (t.mapA f)|.p _=>rfl|.m _=>rfl|.agg l=>by simp only[iS,T.mapA,xJ f rs nw h2 l]|.vec an _ l _=>by simp only[iS,T.mapA,xJ f rs nw h2 l,h2]|.mp an _ l=>by simp only[iS,T.mapA,xJ f rs nw h2 l,h2]|.hole _=>rfl
theorem xJ(f:α->β)(rs:α->α)(nw:β->β)(h2:∀a,f (rs a)=nw (f a)):∀(l:List (T α)),T.cI f (jy (λv=>v) rs l)=jy (λv=>v) nw (T.cI f l)|[]=>rfl|x::r=>by simp only[jy,T.cI,Ip f rs nw h2 x,xJ f rs nw h2 r]
end
theorem ZL(f:α->β)(ck:Nat->α->α)(rs:α->α)(Ai:Nat->β->β)(nw:β->β)(h1:∀g a,f (ck g a)=Ai g (f a))(h2:∀a,f (rs a)=nw (f a))(t:Option (Obj Nat))(o:Obj α):(sq ck rs t o).mapA f=sq Ai nw t (o.mapA f):=by(have e:∀o:Obj α,(kH (λv=>v) rs o).mapA f=kH (λv=>v) nw (o.mapA f):=by intro o;cases o<;>simp only[kH,Obj.mapA,h2,Ip f rs nw h2,xJ f rs nw h2]);cases t with|none=>exact e o|some t=>cases t<;>cases o<;>simp only[sq,Obj.mapA,kH,h1,h2,ZJ f ck rs Ai nw h1 h2,xJ f rs nw h2,Ip f rs nw h2]
end
section
variable(ck:Nat->An->An)(rs:An->An)
mutual
theorem ZM(hc:∀g a,(ck g a).b=a.b)(hr:∀a,(rs a).b=a.b):∀(t:T Nat)(u:T An),(mY ck rs t u).blk=u.blk|.agg l,.agg m=>ZN hc hr l m|.vec g0 _ _ _,.vec a z l n=>by simp only[mY,T.blk,hc,DE _ _ hr]|.mp g0 _ _,.mp a ks l=>by simp only[mY,T.blk,hc,DE _ _ hr]|.p _,u=>by simp only[mY,Ah _ _ hr]|.m _,u=>by simp only[mY,Ah _ _ hr]|.hole _,u=>by simp only[mY,Ah _ _ hr]|.agg _,.p _=>rfl|.agg _,.m _=>rfl|.agg _,.vec ..=>Ah _ _ hr _|.agg _,.mp ..=>Ah _ _ hr _|.agg _,.hole _=>rfl|.vec ..,.p _=>rfl|.vec ..,.m _=>rfl|.vec ..,.agg _=>Ah _ _ hr _|.vec ..,.mp ..=>Ah _ _ hr _|.vec ..,.hole _=>rfl|.mp ..,.p _=>rfl|.mp ..,.m _=>rfl|.mp ..,.agg _=>Ah _ _ hr _|.mp ..,.vec ..=>Ah _ _ hr _|.mp ..,.hole _=>rfl
theorem ZN(hc:∀g a,(ck g a).b=a.b)(hr:∀a,(rs a).b=a.b):∀(l:List (T Nat))(m:List (T An)),T.dc (oO ck rs l m)=T.dc m|x::r,y::q=>by simp only[oO,T.dc,ZM hc hr x y,ZN hc hr r q]|[],q=>by simp only[oO,DE _ _ hr]|x::r,[]=>by simp only[oO,T.dc,jy]
end
theorem C6j(hc:∀g a,(ck g a).b=a.b)(hr:∀a,(rs a).b=a.b)(t:Option (Obj Nat))(o:Obj An):(sq ck rs t o).blk=o.blk:=by cases t with|none=>exact Gt _ _ hr o|some t=>cases t<;>cases o<;>simp only[sq,kH,Obj.blk,hc,hr,ZM ck rs hc hr,DE _ _ hr,Ah _ _ hr]
end
def KC(ck:Nat->An->An)(rs:An->An)(t:Option (Nat×Option Nat))(y0 y:An×Option Nat):Prop:=y.2=y0.2/\(y.1=rs y0.1\/∃g0 z0,t=some (g0,z0)/\y.1=ck g0 y0.1)
theorem ZO(rs:An->An)(t:T An)(q:List Nat):fE (iS (λv=>v) rs t) q=(fE t q).map λy=>(rs y.1,y.2):=by simp only[fE,Im];cases cR t q with|none=>rfl|some u=>cases u<;>rfl
theorem S6 (ck:Nat->An->An)(rs:An->An):∀ (q:List Nat) (t:T Nat) (u:T An),(∀ y0,fE u q=some y0->∃ y,fE (mY ck rs t u) q=some y∧KC ck rs (fE t q) y0 y)∧(fE u q=none->fE (mY ck rs t u) q=none):=by
 have plain:∀ (q:List Nat) (t:T Nat) (u:T An),(∀ y0,fE u q=some y0->∃ y,fE (iS (λv=>v) rs u) q=some y∧KC ck rs (fE t q) y0 y)∧(fE u q=none->fE (iS (λv=>v) rs u) q=none):=by
  intro q t u
  rw [ZO]
  refine ⟨λy0 h=>⟨(rs y0.1,y0.2),by rw [h];rfl,rfl,.inl rfl⟩,λh=>by rw [h];rfl⟩
 have Gv:∀ (l:List (T An)) (i:Nat) (r:List Nat),((jy (λv=>v) rs l)[i]?).bind (λt=>fE t r)=((l[i]?).bind λt=>fE t r).map λy=>(rs y.1,y.2):=by
  intro l i r
  rw [DD,aL]
  cases l[i]? with
  | none=>rfl
  | some x=>simp only [ak,ai,ZO]
 intro q
 induction q with
 | nil =>
   intro t u
   cases t<;>cases u<;>first
    | exact plain [] _ _
    | exact ⟨λy0 h=>(by cases h),λ_=>rfl⟩
    | (refine ⟨λy0 h=>?_,λh=>(by cases h)⟩
       simp only [fE,cR,aa] at h
       subst h
       exact ⟨_,rfl,rfl,.inr ⟨_,_,rfl,rfl⟩⟩)
 | cons i r ih =>
   intro t u
   cases t<;>cases u<;>try exact plain (i::r) _ _
   . -- agg,agg
     rename_i l m
     simp only [mY,Ka]
     have key:∀ (l:List (T Nat)) (m:List (T An)) (i:Nat),(∀ y0,(m[i]?).bind (λt=>fE t r)=some y0->∃ y,((oO ck rs l m)[i]?).bind (λt=>fE t r)=some y∧KC ck rs ((l[i]?).bind λt=>fE t r) y0 y) ∧
      ((m[i]?).bind (λt=>fE t r)=none->((oO ck rs l m)[i]?).bind (λt=>fE t r)=none):=by
      intro l
      induction l with
      | nil =>
        intro m i
        simp only [oO]
        rw [Gv]
        refine ⟨λy0 h=>⟨(rs y0.1,y0.2),by rw [h];rfl,rfl,.inl rfl⟩,λh=>by rw [h];rfl⟩
      | cons x l' ihl =>
        intro m i
        cases m with
        | nil=>exact ⟨λy0 h=>by simp at h,λ_=>by simp [oO,jy]⟩
        | cons y m' =>
          cases i with
          | zero=>simp only [oO,List.getElem?_cons_zero,ai];exact ih x y
          | succ i=>simp only [oO,List.getElem?_cons_succ];exact ihl m' i
     exact key l m i
theorem S7(ck:Nat->An->An)(rs:An->An)(t:Option (Obj Nat))(u:Obj An)(np:Option (List Nat)):(∀y0,fc (some u) np=some y0->∃y,fc (some (sq ck rs t u)) np=some y/\KC ck rs (fc t np) y0 y)/\(fc (some u) np=none->fc (some (sq ck rs t u)) np=none):=by(have plain:∀(t:Option (Obj Nat))(u:Obj An),(∀y0,fc (some u) np=some y0->∃y,fc (some (kH (λv=>v) rs u)) np=some y/\KC ck rs (fc t np) y0 y)/\(fc (some u) np=none->fc (some (kH (λv=>v) rs u)) np=none):=by intro t u;rw[S3];refine⟨λy0 h=>⟨(rs y0.1,y0.2),by rw[h];rfl,rfl,.inl rfl⟩,λh=>by rw[h];rfl⟩);cases t with|none=>exact plain none u|some t=>cases np with|none=>(cases t<;>cases u<;>first|exact plain _ _|exact⟨λy0 h=>(by cases h),λ_=>rfl⟩|(refine⟨λy0 h=>?_,λh=>(by cases h)⟩;simp only[fc,aa]at h;subst h;exact⟨_,rfl,rfl,.inr ⟨_,_,rfl,rfl⟩⟩))|some p=>(cases t<;>cases u<;>try exact plain _ _);rename_i g0 t a u;simp only[uJ,sq,Obj.qk];exact S6 ck rs p t u;rename_i g0 z0 l0 a z l;simp only[uJ,sq,Obj.qk];exact S6 ck rs p (.vec g0 z0 l0 0) (.vec a z l 0);rename_i g0 ks0 l0 a ks l;simp only[uJ,sq,Obj.qk];exact S6 ck rs p (.mp g0 ks0 l0) (.mp a ks l)
end Go.Mid
namespace Go.Mid
open Go.RowKit
theorem Gw{l:List Nat}{x k:Nat}(h:pB l x=some k):l[k]?=some x:=by unfold pB at h;rw[List.findIdx?_eq_some_iff_getElem]at h;obtain⟨h1,h2,_⟩:=h;simp only[beq_iff_eq]at h2;rw[ah h1,h2]
theorem OL{l:List Nat}{x:Nat}(h:pB l x=none):x∉l:=by unfold pB at h;rw[List.findIdx?_eq_none_iff]at h;intro hx;have:=h x hx;simp at this
theorem Iq{l:List Nat}{x k:Nat}(hn:l.Nodup)(h:l[k]?=some x):pB l x=some k:=by cases hi:pB l x with|none=>exact(OL hi (List.mem_of_getElem? h)).elim|some k'=>have:=Gw hi;congr 1;obtain⟨h1,h2⟩:=aJ.1 this;obtain⟨h3,h4⟩:=aJ.1 h;have hp:=List.pairwise_iff_getElem.1 (iZ.1 hn);rcases Nat.lt_trichotomy k' k with eC|rfl|eC;exact(hp k' k h1 h3 eC (h2.trans h4.symm)).elim;rfl;exact(hp k k' h3 h1 eC (h4.trans h2.symm)).elim
theorem ZP(d:Option Nat)(n k:Nat)(hk:k<n):(j8 d n)[k]?=some (zX (d.getD 0) k):=by simp only[j8,aL,List.getElem?_range hk,ak]
theorem C6k(d:Option Nat)(n:Nat):(j8 d n).Nodup:=by simp only[j8];rw[iZ,List.pairwise_map];refine List.Pairwise.imp ?_ (iZ.1 List.nodup_range);intro a b uO h;simp only[zX]at h;omega
theorem OM{es ids:List Nat}{i j:Nat}(h:mZ es ids i=some j):(∃k,es[k]?=some i/\j=kI+k)\/(i∉es/\∃k,ids[k]?=some i/\j=ep+k):=by unfold mZ at h;split at h;rename_i k hk;cases h;exact .inl ⟨k,Gw hk,rfl⟩;rename_i hk;split at h;rename_i k' nq;cases h;exact .inr ⟨OL hk,k',Gw nq,rfl⟩;cases h
theorem C6l{es ids:List Nat}{i:Nat}(h:mZ es ids i=none):i∉es/\i∉ids:=by unfold mZ at h;split at h;cases h;rename_i hk;split at h;cases h;rename_i nq;exact⟨OL hk,OL nq⟩
mutual
theorem ZQ{n:di}:∀{t:T An},(∀q y,fE t q=some y->n y.1.g)->t.st n|.p _,_=>trivial|.m _,_=>trivial|.agg l,h=>by simp only[T.st];exact Ir λi t ht q y hy=>h (i::q) y (by simp only[Ka,ht,ai];exact hy)|.vec an z l k,h=>by simp only[T.st];exact⟨h [] (an,some z) rfl,Ir λi t ht q y hy=>h (i::q) y (by simp only[Di,ht,ai];exact hy)⟩|.mp an ks l,h=>by simp only[T.st];exact h [] (an,none) rfl|.hole _,_=>trivial
theorem Ir{n:di}:∀{l:List (T An)},(∀(i:Nat)(t:T An),l[i]?=some t->∀q y,fE t q=some y->n y.1.g)->T.j9 n l|[],_=>trivial|x::r,h=>by simp only[T.j9];exact⟨ZQ λq y hy=>h 0 x rfl q y hy,Ir λi t ht q y hy=>h (i+1) t ht q y hy⟩
end
theorem B9K{n:di}{o:Obj An}(h:∀np y,fc (some o) np=some y->n y.1.g):o.st n:=by cases o with|cell an t=>refine⟨h none (an,none) rfl,ZQ λq y hy=>h (some q) y ?_⟩;rw[uJ];exact hy|vec an z l=>refine⟨h (some []) (an,some z) rfl,Ir λi t ht q y hy=>h (some (i::q)) y ?_⟩;rw[uJ];simp only[Obj.qk,Di,ht,ai];exact hy|mp an ks l=>exact h (some []) (an,none) rfl|gone=>trivial
theorem D3g{n:di}:∀(q:List Nat)(t:T An)(y:An×Option Nat),t.st n->fE t q=some y->n y.1.g:=by intro q t y hs h;simp only[fE]at h;split at h<;>rename_i heq;cases h;have:=Dd q t _ heq hs;exact this.1;cases h;have:=Dd q t _ heq hs;exact this;cases h
theorem ZR{n:di}{o:Obj An}{np:Option (List Nat)}{y:An×Option Nat}(hs:o.st n)(h:fc (some o) np=some y):n y.1.g:=by cases np with|none=>cases o<;>simp only[fc,reduceCtorEq,aa]at h;subst h;exact hs.1|some q=>rw[uJ]at h;refine D3g q o.qk y ?_ h;cases o<;>first|exact hs.2|exact hs|trivial
theorem S8{α β:Type}(f:α->β)(ob:Option (Obj α))(np:Option (List Nat)):fc (ob.map (Obj.mapA f)) np=(fc ob np).map λy=>(f y.1,y.2):=by cases ob with|none=>(cases np with|none=>rfl|some p=>cases p<;>rfl)|some o=>cases np with|none=>cases o<;>rfl|some p=>simp only[ak];rw[uJ,uJ];(have e:(o.mapA f).qk=o.qk.mapA f:=by cases o<;>rfl);rw[e,YY]
section
variable{w:World}{A:Nat->Prop}{E:dP An}{nx:di}
theorem vY.id(w:World)(A:Nat->Prop)(E:dP An)(nx:di):vY w A E nx E nx (λv=>v):=⟨λ_ _ h=>h,λ_=>rfl,λ_=>rfl⟩
mutual
theorem S9(ck:Nat->An->An)(rs:An->An):∀(t:T Nat)(u:T An),(mY ck rs t u).cs=u.cs|.agg l,.agg m=>ZS ck rs l m|.vec ..,.vec ..=>rfl|.mp ..,.mp ..=>rfl|.p _,u=>by simp only[mY];exact CD _ _ (λ_=>rfl) u|.m _,u=>by simp only[mY];exact CD _ _ (λ_=>rfl) u|.hole _,u=>by simp only[mY];exact CD _ _ (λ_=>rfl) u|.agg _,.p _=>rfl|.agg _,.m _=>rfl|.agg _,.vec ..=>rfl|.agg _,.mp ..=>rfl|.agg _,.hole _=>rfl|.vec ..,.p _=>rfl|.vec ..,.m _=>rfl|.vec ..,.agg _=>CD _ _ (λ_=>rfl) _|.vec ..,.mp ..=>rfl|.vec ..,.hole _=>rfl|.mp ..,.p _=>rfl|.mp ..,.m _=>rfl|.mp ..,.agg _=>CD _ _ (λ_=>rfl) _|.mp ..,.vec ..=>rfl|.mp ..,.hole _=>rfl
theorem ZS(ck:Nat->An->An)(rs:An->An):∀(l:List (T Nat))(m:List (T An)),T.b5 (oO ck rs l m)=T.b5 m|x::r,y::q=>by simp only[oO,T.b5,S9 ck rs x y,ZS ck rs r q]|[],q=>by simp only[oO];exact S4 _ _ (λ_=>rfl) q|x::r,[]=>by simp only[oO,jy]
end
theorem TAt.KD{an rU:An}{z n b o:Nat}{l:List (T An)}(hb:rU.b=an.b)(hc:rU.cap=an.cap)(h:TAt w A E nx (.vec an z l n) b o):TAt w A E nx (.vec rU z l n) b o:=by simp only[TAt,hb,hc]at h|-;obtain⟨a,cap,h1,h2,h3,h4⟩:=h;exact⟨a,cap,h1,h2,OJ hb hc h3,h4⟩
mutual
theorem ZT{ck:Nat->An->An}{rs:An->An}(DF:∀g a,(ck g a).b=a.b)(vo:∀g a,(ck g a).cap=a.cap)(vp:∀a,(rs a).b=a.b)(vq:∀a,(rs a).cap=a.cap):∀(t:T Nat)(u:T An){b o:Nat},TAt w A E nx u b o->TAt w A E nx (mY ck rs t u) b o|.agg l,.agg m,b,o,h=>by simp only[TAt,mY]at h|-;exact ZU DF vo vp vq l m h|.vec g0 _ _ _,.vec a z l n,b,o,h=>by have:=h.ch (ζ:=rs) (vY.id w A E nx) vp vq;simp only[iS]at this;exact this.KD (by rw[DF,vp]) (by rw[vo,vq])|.mp g0 _ _,.mp a ks l,b,o,h=>by simp only[TAt]at h|.p _,u,b,o,h=>by simp only[mY];exact h.ch (vY.id w A E nx) vp vq|.m _,u,b,o,h=>by simp only[mY];exact h.ch (vY.id w A E nx) vp vq|.hole _,u,b,o,h=>by simp only[mY];exact h.ch (vY.id w A E nx) vp vq|.agg _,.p _,b,o,h=>h|.agg _,.m _,b,o,h=>h|.agg _,.vec ..,b,o,h=>h.ch (vY.id w A E nx) vp vq|.agg _,.mp ..,b,o,h=>by simp only[TAt]at h|.agg _,.hole _,b,o,h=>h|.vec ..,.p _,b,o,h=>h|.vec ..,.m _,b,o,h=>h|.vec ..,.agg _,b,o,h=>h.ch (vY.id w A E nx) vp vq|.vec ..,.mp ..,b,o,h=>by simp only[TAt]at h|.vec ..,.hole _,b,o,h=>h|.mp ..,.p _,b,o,h=>h|.mp ..,.m _,b,o,h=>h|.mp ..,.agg _,b,o,h=>h.ch (vY.id w A E nx) vp vq|.mp ..,.vec ..,b,o,h=>h.ch (vY.id w A E nx) vp vq|.mp ..,.hole _,b,o,h=>h
theorem ZU{ck:Nat->An->An}{rs:An->An}(DF:∀g a,(ck g a).b=a.b)(vo:∀g a,(ck g a).cap=a.cap)(vp:∀a,(rs a).b=a.b)(vq:∀a,(rs a).cap=a.cap):∀(l:List (T Nat))(m:List (T An)){b o:Nat},cD w A E nx m b o->cD w A E nx (oO ck rs l m) b o|x::r,y::q,b,o,h=>by simp only[cD,oO]at h|-;rw[S9];exact⟨ZT DF vo vp vq x y h.1,ZU DF vo vp vq r q h.2⟩|[],q,b,o,h=>by simp only[oO];exact h.ch (vY.id w A E nx) vp vq|x::r,[],b,o,h=>by simp only[oO,jy,cD]
end
theorem C8b{ck:Nat->An->An}{rs:An->An}(DF:∀g a,(ck g a).b=a.b)(vo:∀g a,(ck g a).cap=a.cap)(vp:∀a,(rs a).b=a.b)(vq:∀a,(rs a).cap=a.cap)(t:Option (Obj Nat)){o:Obj An}(h:OAt w A E nx o):OAt w A E nx (sq ck rs t o):=by have plain:=h.ch (ζ:=rs) (vY.id w A E nx) vp vq;cases t with|none=>exact plain|some t=>cases t with|cell g0 t=>(cases o with|cell an u=>simp only[OAt,sq]at h|-;obtain⟨b,h1,h2,h3⟩:=h;exact⟨b,by rw[DF];exact h1,by rw[S9];exact h2,ZT DF vo vp vq t u h3⟩|_=>exact plain)|vec g0 z0 l0=>(cases o with|vec an z l=>simp only[kH,OAt,VB,vp,vq]at plain;simp only[sq,OAt,VB,DF,vo];exact plain|_=>exact plain)|mp g0 ks l0=>(cases o with|mp an ks l=>simp only[kH,OAt]at plain;simp only[sq,OAt];rcases plain with⟨b,es,Ai,ws,h1,h2,h3,h4,h5⟩|⟨b,ty,e,s,OG,h1,h2,h3,h4⟩;exact .inl ⟨b,es,Ai,ws,by rw[DF];rw[vp]at h1;exact h1,h2,h3,h4,h5⟩;exact .inr ⟨b,ty,e,s,OG,by rw[DF];rw[vp]at h1;exact h1,h2,h3,h4⟩|_=>exact plain)|gone=>exact plain
end
end Go.Mid
namespace Go.Mid
open Go.RowKit
def S0:di:=λg=>g=0
section
variable(hr h:cj)(ρ:Nat->Nat)
mutual
theorem Ta:∀(v:MV),(A1a hr h ρ v).cs=v.cs|.p _=>rfl|.nil _=>rfl|.own id path off len g=>by simp[A1a];split<;>(try split)<;>rfl|.ptr id np rp g o=>by simp[A1a];split<;>(try split)<;>rfl|.auG id path g=>by simp[A1a];split<;>(try split)<;>rfl|.agg l=>ZV l|.fn _ _=>rfl|.eI _=>rfl|.dead _=>rfl
theorem ZV:∀(l:List MV),MV.b5 (vC hr h ρ l)=MV.b5 l|[]=>rfl|x::r=>by simp[vC,MV.b5,Ta x,ZV r]
end
theorem ZW(v:MV):(A1a hr h ρ v).isAgg=v.isAgg:=by cases v<;>simp only[A1a]<;>(try split)<;>(try split)<;>rfl
end
section
variable{w w':World}{A A':Nat->Prop}{E E' Ec:dP An}{nx nx':di}{γ:Nat}{h:cj}{d:Option Nat}{ids:List Nat}{ext dH:List (Obj Nat)}{r:MV}
theorem C2M{j:Nat}{o:Obj Nat}(ho:j4 ext dH j=some o):(∃k,k<dH.length/\j=kI+k)\/(∃k,k<ext.length/\j=ep+k):=by unfold j4 at ho;split at ho;grind;. split at ho;all_goals grind
theorem ZX(hl:ext.length=ids.length)(hn:ids.Nodup)(lE:(j8 d dH.length).any ids.contains=false)(kO:ids.length<=1000000){j:Nat}{o:Obj Nat}(ho:j4 ext dH j=some o):mZ (j8 d dH.length) ids (qK (d.getD 0) ids j)=some j:=by rcases C2M ho with⟨k,hk,rfl⟩|⟨k,hk,rfl⟩;(have e:qK (d.getD 0) ids (kI+k)=zX (d.getD 0) k:=by simp_all[qK]);rw[e];unfold mZ;rw[Iq (C6k d _) (ZP d _ k hk)];rw[hl]at hk;(have e:qK (d.getD 0) ids (ep+k)=ids[k]:=by unfold qK;rw[if_neg (by grind[kI,ep])];simp_all);rw[e];(have Tb:pB (j8 d dH.length) ids[k]=none:=by grind[pB]);unfold mZ;rw[Tb,Iq hn (ah hk)]
def DG(γ:Nat)(h:cj)(es ids:List Nat)(E E':dP An):dP An:=λi=>match mZ es ids i with|some j=>(E' j).map (sq (yM γ) (A0Q γ) (if kI<=j then none else h i))|none=>E i
def xK(γ:Nat)(h:cj)(es ids:List Nat)(φ:MV->MV)(E E':dP An):dP An:=λi=>match mZ es ids i with|some j=>(E' j).map (λo=>kH φ (zA λa=>a) (sq (yM γ) (A0Q γ) (if kI<=j then none else h i) o))|none=>E i
theorem Tc{es:List Nat}{φ:MV->MV}(i:Nat)(np:Option (List Nat)):fc (xK γ h es ids φ E E' i) np=fc (DG γ h es ids E E' i) np:=by unfold xK DG;cases mZ es ids i with|none=>rfl|some j=>simp;cases E' j with|none=>rfl|some o=>simp;rw[S3];cases fc (some (sq (yM γ) (A0Q γ) (if kI<=j then none else h i) o)) np<;>rfl
theorem C9X(m:MR w A E h nx)(m':MR w' A' E' (j4 ext dH) nx')(es:List Nat)(i:Nat):(match mZ es ids i with|some j=>(j4 ext dH j).map (sf γ h i j)|none=>h i)=(DG γ h es ids E E' i).map (Obj.mapA An.g):=by unfold DG;cases mZ es ids i with|none=>exact m.er i|some j=>simp[m'.er j];cases E' j with|none=>rfl|some o=>simp only[ak,Function.comp,sf];grind[ZL,yM,A0Q,zV]
structure Entry (E Ec:dP An)(ids:List Nat):Prop where
 nd:ids.Nodup
 node:∀ (k i:Nat) (np:Option (List Nat)) (y:An×Option Nat),ids[k]?=some i->fc (Ec (ep+k)) np=some y->∃ y0,fc (E i) np=some y0∧y.2=y0.2∧y.1.b=y0.1.b∧y.1.cap=y0.1.cap
 own:∀ b,jr Ec b->∃ i,i∈ids∧∃ o,E i=some o∧b∈o.blk
theorem C8c(hγ:¬nx γ)(m:MR w A E h nx)(en:Entry E Ec ids)(g:gC w A Ec S0 w' A' E')(hl:ext.length=ids.length)(kO:ids.length<=1000000)(m':MR w' A' E' (j4 ext dH) nx')(es:List Nat)(φ:MV->MV):pf nx E (xK γ h es ids φ E E'):=by intro i np an z bW hg;rw[Tc]at bW;unfold DG at bW;cases hs:mZ es ids i with|none=>simp_all|some j=>simp[hs]at bW;cases vZ:E' j with|none=>(rw[vZ]at bW;exfalso;cases np with|none=>cases bW|some p=>cases p<;>cases bW)|some o=>simp[vZ]at bW;obtain⟨h1,h2⟩:=S7 (yM γ) (A0Q γ) (if kI<=j then none else h i) o np;cases Gk:fc (some o) np with|none=>simp_all|some y0=>obtain⟨y,hy,hz,oc⟩:=h1 y0 Gk;rw[hy]at bW;cases bW;rcases oc with oc|⟨g0,z0,hold,oc⟩;simp at oc;rw[oc]at hg;exact(hγ hg).elim;simp at oc hz;rcases OM hs with⟨k,_,rfl⟩|⟨_,k,hk,rfl⟩;rw[if_pos (by omega)]at hold;exfalso;(cases np with|none=>cases hold|some p=>cases p<;>cases hold);have nq:k<ids.length:=(aJ.1 hk).1;rw[if_neg (by grind[kI,ep])]at hold;by_cases Ae:y0.1.g=0;have Td:=g.ns (ep+k) np y0.1 y0.2 (by simp_all) Ae;obtain⟨y1,EE,EX,ot,qg⟩:=en.node k i np _ hk Td;(have KE:fc (h i) np=some (y1.1.g,y1.2):=by rw[m.er i,S8,EE];rfl);rw[KE]at hold;simp at hold;obtain⟨rfl,_⟩:=hold;rw[EE];obtain⟨⟨g1,b1,c1⟩,zz1⟩:=y1;obtain⟨⟨gg,bb,cc⟩,zz0⟩:=y0;simp at Ae ot qg EX hz oc;subst Ae ot qg EX;rw[oc,hz];rfl;simp_all[yM,wX]
theorem ZY(m:MR w A E h nx){es:List Nat}{i:Nat}{np:Option (List Nat)}{y:An×Option Nat}(bW:fc (DG γ h es ids E E' i) np=some y):(nx.add γ) y.1.g:=by(have old:∀{g0 z0},fc (h i) np=some (g0,z0)->nx g0:=by intro g0 z0 h1;rw[m.er i,S8]at h1;cases hE:E i with|none=>(rw[hE]at h1;cases np with|none=>cases h1|some p=>cases p<;>cases h1)|some o=>rw[hE]at h1;cases hn:fc (some o) np with|none=>simp_all|some y1=>rw[hn]at h1;simp at h1;rw[<-h1.1];exact ZR (m.st i o hE) hn);unfold DG at bW;cases hs:mZ es ids i with|none=>(simp[hs]at bW;cases hE:E i with|none=>(rw[hE]at bW;exfalso;cases np with|none=>cases bW|some p=>cases p<;>cases bW)|some o=>rw[hE]at bW;exact .inl (ZR (m.st i o hE) bW))|some j=>simp[hs]at bW;cases vZ:E' j with|none=>(rw[vZ]at bW;exfalso;cases np with|none=>cases bW|some p=>cases p<;>cases bW)|some o=>simp[vZ]at bW;obtain⟨h1,h2⟩:=S7 (yM γ) (A0Q γ) (if kI<=j then none else h i) o np;cases Gk:fc (some o) np with|none=>simp_all|some y0=>obtain⟨y',hy,hz,oc⟩:=h1 y0 Gk;rw[hy]at bW;cases bW;rcases oc with oc|⟨g0,z0,hold,oc⟩;rw[oc];exact .inr rfl;rw[oc];simp[yM,wX];split;split at hold;exfalso;(cases np with|none=>cases hold|some p=>cases p<;>cases hold);exact .inl (old hold);exact .inr rfl
section
theorem ZZ(m:MR w A E h nx)(m':MR w' A' E' (j4 ext dH) nx')(hl:ext.length=ids.length)(hn:ids.Nodup)(lE:(j8 d dH.length).any ids.contains=false)(kO:ids.length<=1000000){j:Nat}{np:Option (List Nat)}{y0:An×Option Nat}(bW:fc (E' j) np=some y0)(φ:MV->MV):∃y,fc (xK γ h (j8 d dH.length) ids φ E E' (qK (d.getD 0) ids j)) np=some y/\y.2=y0.2/\y.1.b=y0.1.b/\y.1.cap=y0.1.cap/\(nx.add γ) y.1.g/\fc (match mZ (j8 d dH.length) ids (qK (d.getD 0) ids j)with|some j'=>(j4 ext dH j').map (sf γ h (qK (d.getD 0) ids j) j')|none=>h (qK (d.getD 0) ids j)) np=some (y.1.g,y.2):=by cases vZ:E' j with|none=>(rw[vZ]at bW;exfalso;cases np with|none=>cases bW|some p=>cases p<;>cases bW)|some o=>(have Bh:j4 ext dH j=some (o.mapA An.g):=by rw[m'.er j,vZ];rfl);have jD:=ZX (d:=d) hl hn lE kO Bh;rw[vZ]at bW;obtain⟨y,hy,hz,oc⟩:=(S7 (yM γ) (A0Q γ) (if kI<=j then none else h (qK (d.getD 0) ids j)) o np).1 y0 bW;(have hm:fc (DG γ h (j8 d dH.length) ids E E' (qK (d.getD 0) ids j)) np=some y:=by simp_all[DG]);refine⟨y,by simp_all[Tc],hz,?_,?_,ZY m hm,?_⟩;rcases oc with oc|⟨_,_,_,oc⟩<;>rw[oc]<;>rfl;rcases oc with oc|⟨_,_,_,oc⟩<;>rw[oc]<;>rfl;grind[C9X,S8]
mutual
theorem bR.fresh(m:MR w A E h nx)(m':MR w' A' E' (j4 ext dH) nx')(hl:ext.length=ids.length)(hn:ids.Nodup)(lE:(j8 d dH.length).any ids.contains=false)(kO:ids.length<=1000000)(φ:MV->MV):∀{v:MV}{val:Value},bR w' A' E' nx' v val->bR w' A' (xK γ h (j8 d dH.length) ids φ E E') (nx.add γ) (A1a (j4 ext dH) (λi=>match mZ (j8 d dH.length) ids i with|some j=>(j4 ext dH j).map (sf γ h i j)|none=>h i) (qK (d.getD 0) ids) v) val|.p v,val,k=>by simp_all[bR,A1a]|.nil _,val,k=>by simp_all[bR,A1a]|.own id path off len g,val,k=>by simp[bR]at k;obtain⟨hg,a,cap,rfl,hc,hh⟩:=k;simp[A1a];split;rename_i kN;unfold wV at kN;split at kN;rename_i g' z' l' iD;obtain⟨EW,lA,nB,rfl,_⟩:=m'.vec iD;simp at kN;subst kN;obtain⟨y,h1,h2,h3,h4,h5,h6⟩:=ZZ (γ:=γ) (d:=d) m m' hl hn lE kO (uG nB) φ;grind[bR,uG,OJ];simp_all;simp_all[bR]|.ptr id np rp g o,val,k=>by simp[bR]at k;obtain⟨hg,a,rfl,hh⟩:=k;simp[A1a];split;rename_i kN;unfold zU at kN;split at kN;rename_i t s o' hlk;obtain⟨EW,tA,om,rfl,_⟩:=m'.look hlk;simp at kN;obtain⟨rfl,rfl⟩:=kN;obtain⟨z0,hnd⟩:=A8q om;obtain⟨y,h1,h2,h3,h4,h5,h6⟩:=ZZ (γ:=γ) (d:=d) m m' hl hn lE kO hnd φ;grind[bR];obtain⟨EW,hnd,rfl⟩:=m'.j3 kN;obtain⟨y,h1,h2,h3,h4,h5,h6⟩:=ZZ (γ:=γ) (d:=d) m m' hl hn lE kO hnd φ;grind[bR];simp_all[bR]|.auG id path g,val,k=>by simp[bR]at k;obtain⟨hg,a,rfl,hh⟩:=k;simp[A1a];split;rename_i kN;unfold FN at kN;split at kN;rename_i g' JH Ad hmp;obtain⟨rfl,EW,lA,hE,rfl,_⟩:=m'.avR hmp;simp at kN;subst kN;(have hnd:fc (E' id) (some [])=some (EW,none):=by rw[hE];rfl);obtain⟨y,h1,h2,h3,h4,h5,h6⟩:=ZZ (γ:=γ) (d:=d) m m' hl hn lE kO hnd φ;grind[bR];simp_all;simp_all[bR]|.agg l,val,k=>by simp[bR,A1a]at k|-;obtain⟨cs,rfl,k⟩:=k;exact⟨cs,rfl,dW.fresh m m' hl hn lE kO φ k⟩|.fn f l,val,k=>by simp[bR,A1a]at k|-;obtain⟨vs,rfl,k⟩:=k;exact⟨vs,rfl,c9.fresh m m' hl hn lE kO φ k⟩|.eI l,val,k=>by simp[bR,A1a]at k|-;obtain⟨vs,rfl,k⟩:=k;exact⟨vs,rfl,c9.fresh m m' hl hn lE kO φ k⟩|.dead _,val,k=>by grind[bR,A1a]
theorem dW.fresh(m:MR w A E h nx)(m':MR w' A' E' (j4 ext dH) nx')(hl:ext.length=ids.length)(hn:ids.Nodup)(lE:(j8 d dH.length).any ids.contains=false)(kO:ids.length<=1000000)(φ:MV->MV):∀{l:List MV}{cs:List Value},dW w' A' E' nx' l cs->dW w' A' (xK γ h (j8 d dH.length) ids φ E E') (nx.add γ) (vC (j4 ext dH) (λi=>match mZ (j8 d dH.length) ids i with|some j=>(j4 ext dH j).map (sf γ h i j)|none=>h i) (qK (d.getD 0) ids) l) cs|[],cs,k=>by simp_all[dW,vC]|x::r,cs,k=>by simp[dW,vC]at k|-;obtain⟨v,d',rfl,h1,h2,h3,h4⟩:=k;refine⟨v,d',rfl,by simp_all[Ta],λc hc=>?_,bR.fresh m m' hl hn lE kO φ h3,dW.fresh m m' hl hn lE kO φ h4⟩;rw[ZW];rcases h2 c hc with h5|⟨n,rfl⟩;simp_all;exact .inr ⟨n,rfl⟩
theorem c9.fresh(m:MR w A E h nx)(m':MR w' A' E' (j4 ext dH) nx')(hl:ext.length=ids.length)(hn:ids.Nodup)(lE:(j8 d dH.length).any ids.contains=false)(kO:ids.length<=1000000)(φ:MV->MV):∀{l:List MV}{vs:List Value},c9 w' A' E' nx' l vs->c9 w' A' (xK γ h (j8 d dH.length) ids φ E E') (nx.add γ) (vC (j4 ext dH) (λi=>match mZ (j8 d dH.length) ids i with|some j=>(j4 ext dH j).map (sf γ h i j)|none=>h i) (qK (d.getD 0) ids) l) vs|[],vs,k=>by simp_all[c9,vC]|x::r,vs,k=>by simp[c9,vC]at k|-;obtain⟨v,d',rfl,h1,h2⟩:=k;exact⟨v,d',rfl,bR.fresh m m' hl hn lE kO φ h1,c9.fresh m m' hl hn lE kO φ h2⟩
end
end
theorem Z1{v:MV}{h2:cj}{val:Value}(hγ:¬nx γ)(m:MR w A E h nx)(en:Entry E Ec ids)(g:gC w A Ec S0 w' A' E')(m':MR w' A' E' (j4 ext dH) nx')(ht:AK γ d h ids r ext dH=some (v,h2))(hv:bR w' A' E' nx' r val):∃E2,MR w' A' E2 h2 (nx.add γ)/\gC w A E nx w' A' E2/\bR w' A' E2 (nx.add γ) v val:=by unfold AK at ht;dsimp only at ht;split at ht;cases ht;. rename_i dV;simp only[not_or,ne_eq,Decidable.not_not,Bool.not_eq_true,Nat.not_lt]at dV;obtain⟨hl,_,lE,kO,_⟩:=dV;simp at ht;obtain⟨rfl,rfl⟩:=ht;have hn:=en.nd;let F1:cj:=λi=>match mZ (j8 d dH.length) ids i with|some j=>(j4 ext dH j).map (sf γ h i j)|none=>h i;let φ:MV->MV:=A1a (j4 ext dH) F1 (qK (d.getD 0) ids);have xH:=C8c hγ m en g hl kO m' (j8 d dH.length) φ;have c:vY w' A' E' nx' (xK γ h (j8 d dH.length) ids φ E E') (nx.add γ) φ:=⟨λv val k=>bR.fresh m m' hl hn lE kO φ k,Ta _ _ _,ZW _ _ _⟩;(have ON:∀b,jr Ec b->jr E b:=λb hb=>by obtain⟨i,_,o,ho,lZ⟩:=en.own b hb;exact⟨i,o,ho,lZ⟩);have Gx:∀b,A b->w'.heap[b]?=w.heap[b]?:=λb hb=>g.aSO b (m.im b hb) λho=>(m.lt b (ON b ho)).2 hb;have f:Fr w w' A A' E (xK γ h (j8 d dH.length) ids φ E E') nx (nx.add γ):=⟨g.sub,Gx,xH,nx.eF γ⟩;(have uP:∀i o,mZ (j8 d dH.length) ids i=none->E i=some o->∀b∈o.blk,¬jr Ec b:=by intro i o hs ho b hb hc;obtain⟨i',hi',o',oZ,js⟩:=en.own b hc;by_cases e:i=i';subst e;exact(C6l hs).2 hi';exact m.dj i i' o o' e ho oZ b hb js);(have get:∀{i o},xK γ h (j8 d dH.length) ids φ E E' i=some o->(mZ (j8 d dH.length) ids i=none/\E i=some o)\/∃j o0,mZ (j8 d dH.length) ids i=some j/\E' j=some o0/\o=kH φ (zA λa=>a) (sq (yM γ) (A0Q γ) (if kI<=j then none else h i) o0):=by intro i o ho;unfold xK at ho;cases hs:mZ (j8 d dH.length) ids i with|none=>simp_all|some j=>simp only[hs]at ho;cases vZ:E' j<;>simp_all);(have v7:∀t(o0:Obj An),(kH φ (zA λa=>a) (sq (yM γ) (A0Q γ) t o0)).blk=o0.blk:=by intro t o0;rw[Gt _ _ (by intro an;rfl),C6j _ _ (D5e γ) (by intro an;rfl)]);(have owned:∀b,jr (xK γ h (j8 d dH.length) ids φ E E') b->(∃i o,mZ (j8 d dH.length) ids i=none/\E i=some o/\b∈o.blk)\/jr E' b:=by rintro b⟨i,o,ho,hb⟩;rcases get ho with⟨hs,ho⟩|⟨j,o0,hs,hq,rfl⟩;grind;rw[v7]at hb;exact .inr ⟨j,o0,hq,hb⟩);refine⟨xK γ h (j8 d dH.length) ids φ E E',?_,?_,c.val r val hv⟩;(. constructor;intro i;unfold xK;(cases hs:mZ (j8 d dH.length) ids i with|none=>simp;exact m.er i|some j=>simp[m'.er j];cases E' j with|none=>rfl|some o=>simp only[ak,Function.comp,sf];congr 1;rw[ZF,ZL An.g (yM γ) (A0Q γ) (wX γ) (zV γ) (λ_ _=>rfl) (λ_=>rfl)];rfl);intro i o ho;rcases get ho with⟨hs,ho⟩|⟨j,o0,hs,hq,rfl⟩;exact OAt.frame f (λx hx=>g.aSO x (m.j6 ho hx).1 (uP i o hs ho x hx)) (m.at_ i o ho);exact(C8b (ck:=yM γ) (rs:=A0Q γ) (λ_ _=>rfl) (λ_ _=>rfl) (λ_=>rfl) (λ_=>rfl) _ (m'.at_ j o0 hq)).ch (ζ:=zA λa=>a) c (λ_=>rfl) (λ_=>rfl);(. intro b hb;rcases owned b hb with⟨i,o,hs,ho,lZ⟩|hb;(. have h1:=m.j6 ho lZ;refine⟨br h1.1 g.size,λhA=>?_⟩;rcases g.imm b h1.1 hA with h2|h2;all_goals grind);exact m'.lt b hb);intro i o ho;rcases get ho with⟨hs,ho⟩|⟨j,o0,hs,hq,rfl⟩;exact m.nd i o ho;rw[v7];exact m'.nd j o0 hq;(. intro i i' o o' hne ho oZ b hb js;rcases get ho with⟨hs,ho⟩|⟨j,o0,hs,hq,rfl⟩<;>rcases get oZ with⟨F8,oZ⟩|⟨j',Z2,F8,Z3,rfl⟩;exact m.dj i i' o o' hne ho oZ b hb js;rw[v7]at js;exact uP i o hs ho b hb (g.own b (m.j6 ho hb).1 ⟨j',Z2,Z3,js⟩);rw[v7]at hb;exact uP i' o' F8 oZ b js (g.own b (m.j6 oZ js).1 ⟨j,o0,hq,hb⟩);. rw[v7]at hb js;by_cases e:j=j';(. subst e;(have hr:j4 ext dH j=some (o0.mapA An.g):=by rw[m'.er j,hq];rfl);rcases OM hs with⟨k,hk,rfl⟩|⟨_,k,hk,rfl⟩<;>rcases OM F8 with⟨k',nq,e⟩|⟨_,k',nq,e⟩;all_goals grind[kI,ep]);exact m'.dj j j' o0 Z2 e hq Z3 b hb js);exact m'.im;intro i o ho;refine B9K λnp y hy=>?_;grind[Tc,ZY]);refine⟨g.os,g.tape,g.output,g.size,λb hb ho=>g.aSO b hb λhc=>ho (ON b hc),g.sub,λb hb hA=>(g.imm b hb hA).imp (λh=>h) (ON b),?_,xH⟩;intro b eC hb;rcases owned b hb with⟨i,o,_,ho,lZ⟩|hb;exact⟨i,o,ho,lZ⟩;exact ON b (g.own b eC hb)
end
end Go.Mid
namespace Go.Mid
open Go.RowKit
def Te(P:Program)(o:Oper)(a:Act)(w:World)(A:Nat->Prop)(E:dP An)(nx:di)(γ:Nat)(v:MV)(h':cj):Prop:=∀(next:Act->World->Prop)(Q:Exit->Act->World->Prop),(∀val w' A' E',bR w' A' E' (nx.add γ) v val->MR w' A' E' h' (nx.add γ)->gC w A E nx w' A' E'->next (a.put o.dst val) w')->o.wp P a w next Q
theorem cC.wp{P:Program}{o:Oper}{a:Act}{w:World}{A:Nat->Prop}{E:dP An}{nx:di}{γ:Nat}{v:MV}{h':cj}(k:cC P o a w A E nx γ v h'):Te P o a w A E nx γ v h':=by intro next Q rE;obtain⟨val,w',A',E',hr,h1,h2,h3⟩:=k;grind[RM,C57]
def Gy(P:Program)(f:Nat):Prop:=∃fn,P.funcs[f]?=some fn/\(fn.name== "runtime.NumGoroutine")=false/\fn.body.isNone=false
def CE(P:Program)(K:jm):Prop:=∀f args ext r ext' dH,K f args ext=some (r,ext',dH)->Gy P f/\∀(w:World)(A:Nat->Prop)(E:dP An)(gR:List Value),GL P w A->c9 w A E S0 args gR->MR w A E (nn ext) S0->Calls P f gR.toArray w λe w'=>∃v,e=.returned v/\∃A' E' nx',MR w' A' E' (j4 ext' dH) nx'/\gC w A E S0 w' A' E'/\bR w' A' E' nx' r v
section
variable{w:World}{A A':Nat->Prop}{E:dP An}{nx:di}
mutual
theorem Tf:∀{v:PV}{cs:List Value},xx v=true->dU w A' v cs->dU w A v cs|.int ..,cs,_,h=>by simp_all[dU]|.bool _,cs,_,h=>by simp_all[dU]|.str _,cs,_,h=>by simp_all[dU]|.agg l,cs,hf,h=>by simp[dU]at h|-;exact Z4 (by simp_all[xx]) h|.sl _,cs,hf,h=>by grind[xx]|.ref _,cs,hf,h=>by grind[xx]|.fn ..,cs,hf,h=>by grind[xx]|.mp ..,cs,hf,h=>by grind[xx]|.eM,cs,_,h=>by simp_all[dU]|.fa,cs,_,h=>by simp_all[dU]
theorem Z4:∀{l:List PV}{cs:List Value},FO l=true->cK w A' l cs->cK w A l cs|[],cs,_,h=>by simp_all[cK]|x::r,cs,hf,h=>by simp[cK]at h|-;simp[FO]at hf;obtain⟨c,d,rfl,h1,h2⟩:=h;exact⟨c,d,rfl,Tf hf.1 h1,Z4 hf.2 h2⟩
end
theorem C9Z{v:PV}{val:Value}(hf:xx v=true)(h:pD w A' v val):pD w A v val:=by obtain⟨c,h1,h2⟩:=h;exact⟨c,Tf hf h1,h2⟩
mutual
theorem Tg:∀{v:MV}{val:Value},wZ v=true->bR w A' E nx v val->bR w A E nx v val|.p v,val,hf,h=>by grind[bR,C9Z,wZ]|.nil _,val,_,h=>by simp_all[bR]|.own ..,val,_,h=>by simp_all[bR]|.ptr ..,val,_,h=>by simp_all[bR]|.auG ..,val,_,h=>by simp_all[bR]|.agg l,val,hf,h=>by simp[bR]at h|-;obtain⟨cs,rfl,h⟩:=h;exact⟨cs,rfl,Z5 (by simp_all[wZ]) h⟩|.fn f l,val,hf,h=>by simp[bR]at h|-;obtain⟨vs,rfl,h⟩:=h;exact⟨vs,rfl,Th (by simp_all[wZ]) h⟩|.eI l,val,hf,h=>by simp[bR]at h|-;obtain⟨vs,rfl,h⟩:=h;exact⟨vs,rfl,Th (by simp_all[wZ]) h⟩|.dead _,val,_,h=>by grind[bR]
theorem Z5:∀{l:List MV}{cs:List Value},C3 l=true->dW w A' E nx l cs->dW w A E nx l cs|[],cs,_,h=>by simp_all[dW]|x::r,cs,hf,h=>by simp[dW]at h|-;simp[C3]at hf;obtain⟨v,d,rfl,h1,h2,h3,h4⟩:=h;exact⟨v,d,rfl,h1,h2,Tg hf.1 h3,Z5 hf.2 h4⟩
theorem Th:∀{l:List MV}{vs:List Value},C3 l=true->c9 w A' E nx l vs->c9 w A E nx l vs|[],vs,_,h=>by simp_all[c9]|x::r,vs,hf,h=>by simp[c9]at h|-;simp[C3]at hf;obtain⟨v,d,rfl,h1,h2⟩:=h;exact⟨v,d,rfl,Tg hf.1 h1,Th hf.2 h2⟩
end
mutual
theorem Z6:∀{t:T An}{b o:Nat},AH t=true->TAt w A' E nx t b o->TAt w A E nx t b o|.p v,b,o,hf,h=>by grind[TAt,Tf,AH]|.m v,b,o,hf,h=>by grind[AH]|.agg l,b,o,hf,h=>by simp[TAt]at h|-;exact OO (by simp_all[AH]) h|.vec an z l n,b,o,hf,h=>(by simp[TAt]at h|-;simp[AH]at hf;obtain⟨a,cap,h1,h2,h3,h4⟩:=h;refine⟨a,cap,h1,h2,h3,?_⟩;cases hb:an.b with|none=>simp_all|some b'=>simp[hb]at h4|-;exact⟨h4.1,h4.2.1,h4.2.2.1,OO hf h4.2.2.2⟩)|.mp ..,b,o,hf,h=>by simp_all[TAt]|.hole n,b,o,_,h=>by simp_all[TAt]
theorem OO:∀{l:List (T An)}{b o:Nat},wY l=true->cD w A' E nx l b o->cD w A E nx l b o|[],b,o,_,h=>by grind[cD]|t::r,b,o,hf,h=>by simp[cD]at h|-;simp[wY]at hf;exact⟨Z6 hf.1 h.1,OO hf.2 h.2⟩
end
theorem C90{o:Obj An}(hf:vD o=true)(h:OAt w A' E nx o):OAt w A E nx o:=by cases o<;>grind[OAt,Z6,vD,VB,OO]
end
section
variable{α β:Type}(f:α->β)
mutual
theorem Z7:∀(t:T α),AH (t.mapA f)=AH t|.p _=>rfl|.m _=>rfl|.agg l=>KF l|.vec _ _ l _=>KF l|.mp _ _ l=>KF l|.hole _=>rfl
theorem KF:∀(l:List (T α)),wY (T.cI f l)=wY l|[]=>rfl|x::r=>by simp[T.cI,wY,Z7 x,KF r]
end
theorem C6m(o:Obj α):vD (o.mapA f)=vD o:=by cases o<;>simp[Obj.mapA,vD,Z7,KF]
end
theorem Ti{l:List Nat}{x:Nat}:x∈A8D l↔x∈l:=by induction l<;>grind[A8D]
theorem Tj(l:List Nat):(A8D l).Nodup:=by induction l<;>grind[A8D]
theorem KG{h:cj}:∀{ids:List Nat}{qS:List (Obj Nat)},um h ids=some qS->∀k:Nat,qS[k]?=(ids[k]?).bind h|[],qS,hg,k=>by simp_all[um]|i::r,qS,hg,k=>by simp[um]at hg;split at hg;rename_i o os h1 h2;cases hg;(cases k with|zero=>simp[h1]|succ k=>simpa using KG h2 k);simp_all
section
variable{P:Program}{o:Oper}{a:Act}{w:World}{A:Nat->Prop}{E:dP An}{nx:di}{γ:Nat}{v:MV}{h h':cj}{s:gB}{K:jm}{d:Option Nat}
theorem c9.append:∀{l m:List MV}{vs ws:List Value},c9 w A E nx l vs->c9 w A E nx m ws->c9 w A E nx (l++m) (vs++ws)|[],m,vs,ws,h1,h2=>by simp_all[c9]|x::r,m,vs,ws,h1,h2=>by simp[c9]at h1|-;obtain⟨u,d,rfl,h3,h4⟩:=h1;exact⟨u,d++ws,rfl,h3,h4.append h2⟩
theorem Z8{c:Call}{fo:Operand}{f:Nat}{first iR:Array Value}(ho:o.op=.call c)(hc:c.callee=.value fo)(hv:a.eval fo=.func (.func f) first iR)(he:Gy P f):(execOp a.eval o).run P w=.ok (.enter f (first++c.args.map a.eval++iR)) w:=by obtain⟨fn,h1,h2,h3⟩:=he;simp only[execOp,ho,resolve,hc,hv,Deferred.ofValue,Sem.run_bind,Sem.run_pure,Result.andThen_ok,invoke,callFunc,run_program,h1,h2,h3,aI,if_false]
theorem G2z{fn:Func}(h:fn.name= "math/bits.Add64")(h2:fn.origin= ""):j1 fn=ja/\n8 fn=some add64Entry:=by unfold j1 n8;rw[h,h2];exact⟨by kernel_rfl,by kernel_rfl⟩
def G3E:Array Value->Sem Value:=(Extern.MathBitsCarry.rows.getD 1 ("",λ_=>pure .nilIface)).2
theorem G24{P:Program}(x y b:Nat)(hb:b<=1)(w:World):(G3E #[.int .u64 x,.int .u64 y,.int .u64 b]).run P w=.ok (.tuple #[.int .u64 (((x+18446744073709551616-y-b)%18446744073709551616:Nat):Int),.int .u64 ((if x<y+b then 1 else 0:Nat):Int)]) w:=by(have:b=0\/b=1:=by omega);rcases this with rfl|rfl<;>rfl
theorem G2A{fn:Func}(h:fn.name= "math/bits.Sub64")(h2:fn.origin= ""):j1 fn=ja/\n8 fn=some G3E:=by unfold j1 n8;rw[h,h2];exact⟨by kernel_rfl,by kernel_rfl⟩
theorem G2B{fo:Operand}{sub:Bool}{c:Call}{x y z r q:Int}(ho:o.op=.call c)(hcal:c.callee=.value fo)(hb:G1Y P fo=some sub)(Bi:c.args.map a.eval=#[.int .u64 x,.int .u64 y,.int .u64 z])(he:G1u sub x y z=some (r,q)):(execOp a.eval o).run P w=.ok (.value (.tuple #[.int .u64 r,.int .u64 q])) w:=by unfold G1Y at hb;split at hb;rename_i f;split at hb;rename_i fn hf;split at hb;rename_i dV;simp only[aj,beq_iff_eq]at dV;unfold G1u at he;split at he;rename_i hr;obtain⟨h0,h1,vR,h2,h3⟩:=hr;have hv:a.eval (.func f)=.func (.func f) #[] #[]:=rfl;(have auU:∀{v:Value},(callFunc f #[.int .u64 x,.int .u64 y,.int .u64 z]).run P w=.ok (.value v) w->(execOp a.eval o).run P w=.ok (.value v) w:=λ{v}h=>by simp only[execOp,ho,resolve,hcal,hv,Deferred.ofValue,Sem.run_bind,Sem.run_pure,Result.andThen_ok,invoke];simpa[Bi]using h);split at hb;rename_i hn;cases hb;simp only[beq_iff_eq]at hn;obtain⟨k1,k2⟩:=G2z hn dV.2;simp only[aI,if_false,aa,ae]at he;obtain⟨rfl,rfl⟩:=he;refine auU ?_;rw[p0 hf (by rw[hn];rfl) dV.1 k1 k2,run_add64 x y z h0 h1 h2 h3];rfl;split at hb;rename_i hn;cases hb;simp only[beq_iff_eq]at hn;obtain⟨k1,k2⟩:=G2A hn dV.2;simp only[if_true,aa,ae]at he;obtain⟨rfl,rfl⟩:=he;refine auU ?_;obtain⟨x,rfl⟩:=eB h0;obtain⟨y,rfl⟩:=eB h1;obtain⟨z,rfl⟩:=eB h2;rw[p0 hf (by rw[hn];rfl) dV.1 k1 k2];have:=G24 (P:=P) x y z (by omega) w;(have e1:(((x+18446744073709551616-y-z)%18446744073709551616:Nat):Int)=((x:Int)+18446744073709551616-y-z)%18446744073709551616:=by omega);(have e2:((if x<y+z then 1 else 0:Nat):Int)=if(x:Int)<y+z then 1 else 0:=by split<;>split<;>omega);rw[this,e1,e2];rfl;cases hb;cases he;cases hb;cases hb;cases hb
theorem G2C(hs:qM P w A E nx s a)(hm:MR w A E h nx){c:Call}{fo:Operand}{sub:Bool}{ts:List TypeId}{x y z:dJ}(ho:o.op=.call c)(hcal:c.callee=.value fo)(hb:G1Y P fo=some sub)(hl:rT P ts c.args.toList=some [x,y,z])(he:cb K γ d s h (.n7 sub x y z)=some (v,h')):cC P o a w A E nx γ v h':=by have nD:=H0 hs hl;simp only[cb]at he;split at he;rename_i x1 y1 z1 e1 e2 e3;split at he;rename_i r q hr;cases he;simp only[aF,List.map_nil,e1,e2,e3]at nD;rw[c9]at nD;obtain⟨v1,d1,k1,k2,nD⟩:=nD;rw[c9]at nD;obtain⟨v2,d2,rfl,k3,nD⟩:=nD;rw[c9]at nD;obtain⟨v3,d3,rfl,k4,nD⟩:=nD;rw[c9]at nD;rw[A1W]at k2 k3 k4;subst k2 k3 k4 nD;(have Bi:c.args.map a.eval=#[.int .u64 x1,.int .u64 y1,.int .u64 z1]:=by apply Array.toList_inj.1;rw[Array.toList_map,k1]);refine cC.idle (val:=.tuple #[.int .u64 r,.int .u64 q]) (G2B ho hcal hb Bi hr) ?_ hm;have h1:bR w A E nx (.p (.int .u64 r)) (.int .u64 r):=A1W.2 rfl;have h2:bR w A E nx (.p (.int .u64 q)) (.int .u64 q):=A1W.2 rfl;rw[bR];exact⟨[.int .u64 r,.int .u64 q],rfl,by rw[c9];exact⟨_,_,rfl,h1,by rw[c9];exact⟨_,_,rfl,h2,by rw[c9]⟩⟩⟩;cases he;cases he
theorem C6n{m:MV}{val:Value}{f:Nat}{cs:List MV}(hc:callee m=some (f,cs))(hv:bR w A E nx m val):∃iR:List Value,val=xC f iR.toArray/\c9 w A E nx cs iR:=by unfold callee at hc;grind[N0,AV,bR]
theorem C4I{c:Call}{fo:Operand}{m:MV}{f:Nat}{args al:List MV}(ho:o.op=.call c)(Ow:c.callee=.value fo)(hc:FP m args=some (f,al))(hv:bR w A E nx m (a.eval fo))(ha:c9 w A E nx args (c.args.toList.map a.eval)):∃gR:List Value,c9 w A E nx al gR/\(Gy P f->(execOp a.eval o).run P w=.ok (.enter f gR.toArray) w):=by unfold FP at hc;split at hc;rename_i f0 cs hcal;obtain⟨iR,Gz,Cp⟩:=C6n hcal hv;split at hc;rename_i eC;cases hc;rw[RK eC]at Gz;refine⟨c.args.toList.map a.eval++iR,ha.append Cp,λhe=>?_⟩;rw[Z8 ho Ow Gz he];simp;rename_i yG;simp at hc;obtain⟨rfl,rfl⟩:=hc;rw[Yg (Nat.le_of_not_lt yG)]at Gz;refine⟨iR++c.args.toList.map a.eval,Cp.append ha,λhe=>?_⟩;rw[Z8 ho Ow Gz he];simp;simp_all
theorem MR.none(hA:∀b,A b->b<w.heap.size):MR w A (λ_=>ja) (nn []) S0 where
 er:=λi=>by simp[nn]
 at_:=λi o ho=>by cases ho
 lt:=λb⟨i,o,ho,_⟩=>by cases ho
 nd:=λi o ho=>by cases ho
 dj:=λi j o o' _ ho=>by cases ho
 im:=hA
 st:=λi o ho=>by cases ho
theorem Is{b:Nat}:¬jr (λ_=>ja) b:=λ⟨_,_,ho,_⟩=>by cases ho
theorem Z9(hK:CE P K)(tH:GL P w A)(m:MR w A E h nx){f:Nat}{args:List MV}{vs:List PV}{gR:List Value}{r:MV}{dH:List (Obj Nat)}(hp:A2C h args=some vs)(hk:K f (vs.map .p) []=some (r,[],dH))(hc:(qb args).isSome=true\/(wZ r&&dH.all vD)=true)(hv:c9 w A E nx args gR):Gy P f/\Calls P f gR.toArray w λe w'=>∃v,e=.returned v/\∃A' E' nx',MR w' A' E' (j4 [] dH) nx'/\gC w A (λ_=>ja) S0 w' A' E'/\bR w' A' E' nx' r v:=by obtain⟨k1,k2⟩:=hK _ _ _ _ _ _ hk;refine⟨k1,?_⟩;rcases hc with hc|hc;obtain⟨us,Kv⟩:=Option.isSome_iff_exists.1 hc;have e:=EH Kv;(have fN:vs=us:=by(have:∀l:List PV,A2C h (l.map .p)=some l:=by intro l;induction l<;>simp_all[A2C,mE]);simp_all);subst fN;rw[e]at hv;exact k2 w A _ gR tH (AV.2 (AV.1 hv)) (MR.none m.im);simp only[aj]at hc;have z8:=OC (A':=λb=>A b\/jr E b) m (λb hb=>.inl hb) hp (λi _ o ho b hb=>.inr ⟨i,o,ho,hb⟩) hv;refine(k2 w _ _ gR (tH.frame (λb hb=>.inl hb) (λ_ _=>rfl)) (AV.2 z8) (MR.none λb hb=>hb.elim (m.im b) λho=>(m.lt b ho).1)).mono ?_;rintro e w'⟨v,rfl,A',E',nx',m',g,h1⟩;refine⟨v,rfl,A,E',nx',?_,?_,Tg hc.1 h1⟩;(have hold:∀b,jr E' b->¬A b:=by intro b hb hA;exact Is (g.own b (m.im b hA) hb));refine⟨m'.er,λi o ho=>?_,λb hb=>⟨(m'.lt b hb).1,hold b hb⟩,m'.nd,m'.dj,λb hb=>br (m.im b hb) g.size,m'.st⟩;refine C90 ?_ (m'.at_ i o ho);(have hr:j4 [] dH i=some (o.mapA An.g):=by rw[m'.er i,ho];rfl);grind[j4,C6m];exact⟨g.os,g.tape,g.output,g.size,g.aSO,λ_ h=>h,λ_ _ h=>.inl h,g.own,g.ns⟩
theorem C6o(dH:List (Obj Nat)):j4 [] dH=FQ dH:=by grind[j4,FQ]
theorem Entry.none(E:dP An):Entry E (λ_=>ja) []where
 nd:=List.nodup_nil
 node:=λk i np y h=>by grind
 own:=λb hb=>(Is hb).elim
theorem C6p(m:MR w A E h nx){w':World}{A':Nat->Prop}{E':dP An}{nx':di}{hh:cj}(m':MR w' A' E' hh nx')(g:gC w A (λ_=>ja) S0 w' A' E')(γ:Nat):MR w' (λb=>A' b\/jr E' b) E h (nx.add γ)/\gC w A E nx w' (λb=>A' b\/jr E' b) E:=by have hold:∀b,b<w.heap.size->w'.heap[b]?=w.heap[b]?:=λb hb=>g.aSO b hb Is;have f:Fr w w' A (λb=>A' b\/jr E' b) E E nx (nx.add γ):=⟨λb hb=>.inl (g.sub b hb),λb hb=>hold b (m.im b hb),pf.refl _ _,nx.eF γ⟩;(have KH:∀b,b<w.heap.size->(A' b\/jr E' b)->A b:=by intro b hb h1;rcases h1 with h1|h1;exact(g.imm b hb h1).resolve_right Is;exact(Is (g.own b hb h1)).elim);refine⟨⟨m.er,λi o ho=>OAt.frame f (λx hx=>hold x (m.j6 ho hx).1) (m.at_ i o ho),λb hb=>?_,m.nd,m.dj,λb hb=>?_,λi o ho=>Obj.ka (nx.eF γ) (m.st i o ho)⟩,?_⟩;have:=m.lt b hb;grind;exact hb.elim (m'.im b) λho=>(m'.lt b ho).1;exact⟨g.os,g.tape,g.output,g.size,λb hb _=>hold b hb,λb hb=>.inl (g.sub b hb),λb hb h1=>.inl (KH b hb h1),λ_ _ h=>h,pf.refl _ _⟩
theorem Tk{f:Nat}{args:Array Value}{R:Ending->World->Prop}{next:Act->World->Prop}{Q:Exit->Act->World->Prop}(hr:(execOp a.eval o).run P w=.ok (.enter f args) w)(hc:Calls P f args w R)(hn:∀e w',R e w'->∃v,e=.returned v/\next (a.put o.dst v) w'):o.wp P a w next Q:=by unfold Oper.wp;rw[hr];refine hc.mono ?_;grind
theorem C91 (hs:qM P w A E nx s a)(hm:MR w A E h nx)(hγ:¬ nx γ)(hK:CE P K){c:Call}{fo:Operand}{f':dJ}{l:List dJ}{t0:TypeId}{ts:List TypeId}{md:Nat}(ho:o.op=.call c)(hc:c.callee=.value fo)(hf:fu P t0 fo=some f')(hl:rT P ts c.args.toList=some l)
 (he:cb K γ d s h (.call md f' l)=some (v,h')):Te P o a w A E nx γ v h':=by
 have hvf:=jP hs hf
 have EY:=H0 hs hl
 simp [cb] at he
 split at he
 . rename_i f al hcal
   obtain ⟨gR,Bi,auU⟩:=C4I (P:=P) ho hc hcal hvf EY
   split at he
   . -- a KJ
     unfold AJ at he
     split at he
     . rename_i vs fN
       split at he
       . rename_i u fr rD
         split at he
         . rename_i dV
           simp at he
           obtain ⟨rfl,rfl⟩:=he
           unfold zW at rD
           split at rD
           . rename_i r dH hk
             have GA:fr=(wZ r&&dH.all vD):=by
              grind
             have oc:(qb al).isSome=true∨(wZ r&&dH.all vD)=true:=by
              grind
             obtain ⟨k1,k2⟩:=Z9 hK hs.gl hm fN hk oc Bi
             intro next Q rE
             refine Tk (auU k1) k2 ?_
             rintro e w' ⟨v,rfl,A',E',nx',m',g,h1⟩
             refine ⟨v,rfl,?_⟩
             obtain ⟨q1,q2⟩:=C6p hm m' g γ
             refine rE v w' _ E ?_ q1 q2
             rw [C6o] at m'
             split at rD
             . rename_i ll
               split at rD
               . rename_i ws hws
                 simp at rD
                 rw [← rD.1]
                 simp [bR] at h1 ⊢
                 obtain ⟨vs1,rfl,h1⟩:=h1
                 refine ⟨vs1,rfl,AV.2 ?_⟩
                 exact OC m' (λb hb=>.inl hb) hws (λi _ o ho b hb=>.inr ⟨i,o,ho,hb⟩) h1
               simp_all
             . split at rD
               . rename_i u1 Ii
                 simp at rD
                 rw [← rD.1]
                 simp [bR]
                 exact EU m' (λb hb=>.inl hb) Ii (λi _ o ho b hb=>.inr ⟨i,o,ho,hb⟩) h1
               simp_all
           simp_all
         simp_all
       simp_all
     simp_all
   . -- shared memory
     unfold C4 at he
     dsimp only at he
     split at he
     . cases he
     . rename_i qS uw
       split at he
       . cases he
       . rename_i r ext dH hk
         obtain ⟨k1,k2⟩:=hK _ _ _ _ _ _ hk
         generalize DH:jd h (jd h (mF al))=ids at he hk uw k2
         have hnd:ids.Nodup:=by rw [← DH];exact Tj _
         let bk:Nat->Option Nat:=λj=>if ep<=j then ids[j-ep]? else none
         have hρ:∀ i j,vE ids i=some j->bk j=some i:=by
          intro i j hj
          unfold vE at hj
          cases hi:pB ids i<;>grind [Gw]
         have uN:∀ i j j',bk j=some i->bk j'=some i->j=j':=by
          intro i j j' h1 h2
          simp only [bk] at h1 h2
          split at h1
          . split at h2
            . have e1:=Iq hnd h1
              have e2:=Iq hnd h2
              grind
            simp_all
          simp_all
         have m1:MR w A (tG E h (vE ids) (λ_=>0) (λ_ _=>0) bk) (Bg h (vE ids) (λ_=>0) (λ_ _=>0) bk) S0:=hm.clean hρ uN (λ_ _=>rfl) (λ_ _ _=>rfl)
         have OP:Bg h (vE ids) (λ_=>0) (λ_ _=>0) bk=nn (qS.map (kH (jW h (vE ids) (λ_=>0)) (λ_=>0))):=by
          funext j
          simp only [Bg,nn,bk]
          split
          . rw [aL,KG uw]
            grind
          . rfl
         rw [OP] at m1
         have GB:c9 w A (tG E h (vE ids) (λ_=>0) (λ_ _=>0) bk) S0 (uk h (vE ids) (λ_=>0) al) gR:=c9.clean (nx':=S0) (ζ:=λ_=>0) hm hρ (λ_ _=>rfl) Bi
         have Bj:=k2 w A _ _ hs.gl GB m1
         intro next Q rE
         refine Tk (auU k1) Bj ?_
         rintro e w' ⟨v1,rfl,A',E',nx',m',g,h1⟩
         refine ⟨v1,rfl,?_⟩
         have en:Entry E (tG E h (vE ids) (λ_=>0) (λ_ _=>0) bk) ids:=by
          refine ⟨hnd,λk i np y hk bW=>?_,λb hb=>?_⟩
          . have hb:bk (ep+k)=some i:=by
             simp only [bk]
             simp_all
            rw [KB hb] at bW
            cases hn:fc (E i) np with
            | none=>simp_all
            | some y0 =>
              simp [hn] at bW
              subst bW
              exact ⟨y0,rfl,rfl,rfl,rfl⟩
          . obtain ⟨j,o1,nr,hb⟩:=hb
            grind [Gu,Gt,zA]
         grind [Z1]
   . -- pure arguments,an owned result
     unfold Cd at he
     split at he
     . rename_i vs fN
       split at he
       . rename_i r dH hk
         split at he
         . rename_i dV
           have oc:(qb al).isSome=true∨(wZ r&&dH.all vD)=true:=by simp_all
           obtain ⟨k1,k2⟩:=Z9 hK hs.gl hm fN hk oc Bi
           intro next Q rE
           refine Tk (auU k1) k2 ?_
           rintro e w' ⟨v1,rfl,A',E',nx',m',g,h1⟩
           refine ⟨v1,rfl,?_⟩
           obtain ⟨E2,q1,q2,q3⟩:=Z1 hγ hm (Entry.none E) g m' he h1
           grind
         simp_all
       simp_all
     simp_all
 simp_all
end
end Go.Mid
