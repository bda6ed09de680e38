/- slices.Sort of numbers: the shelf's contract as a primitive of the middle semantics. -/
import Derived.Test.YtdohjmmogbefmaaGreatM9
import Derived.Sort.Row
import Derived.Sort.Grow
import Derived.Test.YtdohjmmogbefmaaGreatM6
import Derived.Sort.Statements
import Derived.Shelf.SlSortCmp.WholeK
import Derived.Shelf.SlSortCmp.Whole1
set_option linter.unusedSimpArgs false
set_option linter.unusedVariables false
set_option maxHeartbeats 1000000
open Array renaming ext_getElem?->aBz,getElem?_modify->kJ,getElem?_mapIdx->avt,getElem?_eq_getElem->jo,getElem?_eq_none->ik,getElem?_eq_some_iff->c7,getElem?_append_left->jb
open Bool renaming and_eq_true->aj
open Classical renaming axiomOfChoice->auY
open Go.Sort renaming mapBlock->jJ,putCells->ud,putRow->fq,Holds->ym,grow->oY,ahead->nN
open Go.Value renaming int->bX,string->bq
open List renaming length_cons->bf,size_toArray->fx,length_map->aB,getElem?_map->aL,getElem?_eq_getElem->ah,map_cons->aF,pairwise_cons->bN,mem_cons->aG,perm_cons->av7,getElem?_eq_none->bJ,length->cz,length_take->aW,length_drop->cm,eq_nil_of_length_eq_zero->bu,getElem?_take_of_lt->dL,getElem?_drop->fY,map_map->sk,all_eq_true->bB,mem_map->bp,map_take->bP,map_drop->eZ,finRange->Z0
open Nat renaming lt_of_lt_of_le->br,zero_le->dg,pos_of_ne_zero->ew,mul_one->gz,add_zero->dG,le_add_right->fT,ble->cQ,blt->cP,ble_eq->cp,blt_eq->il
open Option renaming map_some->ak,none->ja
open Option.some renaming injEq->aa
open Prod.mk renaming injEq->ae
namespace Go.Mid
open Go.RowKit
variable{P:Program}
theorem MR.more{w w':World}{A:Nat->Prop}{E:dP An}{h:cj}{nx:di}(m:MR w A E h nx)(hs:w.heap.size<=w'.heap.size)(hk:∀b,b<w.heap.size->w'.heap[b]?=w.heap[b]?):MR w' A E h nx where
 er:=m.er
 at_:=λi o ho=>(m.at_ i o ho).frame ⟨λ_ hb=>hb,λb hb=>hk b (m.im b hb),pf.refl _ _,di.le_refl _⟩ (λx hx=>hk x (m.lt x ⟨i,o,ho,hx⟩).1)
 lt:=λb hb=>⟨br (m.lt b hb).1 hs,(m.lt b hb).2⟩
 nd:=m.nd
 dj:=m.dj
 im:=λb hb=>br (m.im b hb) hs
 st:=m.st
theorem gC.more{w w':World}{A:Nat->Prop}{E:dP An}{nx:di}(h1:w'.os=w.os)(h2:w'.tape=w.tape)(h3:w'.output=w.output/\w.drawn<=w'.drawn)(hs:w.heap.size<=w'.heap.size)(hk:∀b,b<w.heap.size->w'.heap[b]?=w.heap[b]?):gC w A E nx w' A E where
 os:=h1
 tape:=h2
 output:=h3
 size:=hs
 aSO:=λb hb _=>hk b hb
 sub:=λ_ hb=>hb
 imm:=λ_ _ hb=>.inl hb
 own:=λ_ _ hb=>hb
 ns:=pf.refl _ _
def Md:Nat->List Value->Array Value->Array Value|_,[],c=>c|o,v::r,c=>Md (o+1) r (c.setIfInBounds o v)
theorem B5B(b:Nat):∀(vs:List Value)(o:Nat)(w:World),w.setCells b o vs=jJ w b (Md o vs)|[],o,w=>by show w=jJ w b λc=>c;unfold jJ;(have:Sort.onCells (λc:Array Value=>c)=id:=by funext ob;cases ob<;>rfl);(have hm:w.heap.modify b id=w.heap:=by apply aBz;intro i;rw[kJ];split<;>simp);rw[this,hm]|v::r,o,w=>by rw[World.setCells,B5B b r (o+1),Sort.setCell_eq,Sort.mapBlock_mapBlock];rfl
theorem B6X:∀(vs:List Value)(o:Nat)(c:Array Value)(k:Nat),(Md o vs c)[k]?=if o<=k/\k<o+vs.length/\k<c.size then vs[k-o]? else c[k]?|[],o,c,k=>by(have:¬(o<=k/\k<o+([]:List Value).length/\k<c.size):=by simp;omega);rw[if_neg this];rfl|v::r,o,c,k=>by rw[Md,B6X r (o+1)];simp only[Array.size_setIfInBounds,bf];by_cases h1:k=o;subst h1;rw[if_neg (by omega)];by_cases h2:k<c.size;rw[if_pos ⟨Nat.le_refl _,by omega,h2⟩];simp[h2];rw[if_neg (by omega)];simp[h2];by_cases h2:o+1<=k/\k<o+1+r.length/\k<c.size;rw[if_pos h2,if_pos ⟨by omega,by omega,h2.2.2⟩];(have:k-o=(k-(o+1))+1:=by omega);rw[this,List.getElem?_cons_succ];rw[if_neg h2,if_neg (by omega),Array.getElem?_setIfInBounds_ne (by omega)]
theorem C3K(o:Nat)(zs:List Int)(c:Array Value):Md o (zs.map (bX .i64)) c=ud (bX .i64) o zs.toArray c:=by apply aBz;intro k;rw[B6X];unfold ud;rw[avt];by_cases hk:k<c.size;rw[jo hk];simp only[ak,fx,aB];by_cases h:o<=k/\k<o+zs.length;rw[if_pos ⟨h.1,h.2,hk⟩,if_pos h];(have eC:k-o<zs.length:=by omega);rw[aL,ah eC];simp[eC];rw[if_neg (by omega),if_neg h];rw[ik (by omega)];rw[if_neg (by omega)];rfl
theorem C1Q(w:World)(b o:Nat)(zs:List Int):w.setCells b o (zs.map (bX .i64))=fq (bX .i64) w b o zs.toArray:=by rw[B5B];unfold fq;congr 1;funext c;exact C3K o zs c
theorem Wb:∀{vs:List PV}{zs:List Int},Cj vs=some zs->vs=zs.map (PV.int .i64)|[],zs,h=>by simp only[Cj,aa]at h;subst h;rfl|v::r,zs,h=>by cases v with|int k n=>cases k<;>simp only[Cj,reduceCtorEq]at h;split at h;rename_i l hl;simp only[aa]at h;subst h;rw[Wb hl];rfl;cases h|_=>simp[Cj]at h
theorem C1z{w:World}{A:Nat->Prop}:∀zs:List Int,cK w A (zs.map (PV.int .i64)) (zs.map (bX .i64))|[]=>by simp[cK]|n::r=>by simp only[aF,cK];exact⟨[.int .i64 n],r.map (bX .i64),rfl,by simp only[dU],C1z r⟩
theorem Wc(x:Int):∀l:List Int,(FV x l).Perm (x::l)|[]=>.refl _|y::r=>by unfold FV;split;exact .refl _;exact((Wc x r).cons y).trans (.swap x y r)
theorem Me:∀l:List Int,(A0K l).Perm l|[]=>.refl _|x::r=>(Wc x _).trans ((Me r).cons x)
theorem C5L(x:Int):∀l:List Int,l.Pairwise (·<=·)->(FV x l).Pairwise (·<=·)|[],_=>by simp[FV]|y::r,h=>by unfold FV;have h':=bN.1 h;split;rename_i xL;refine bN.2 ⟨λz hz=>?_,h⟩;rcases aG.1 hz with e|e;subst e;exact xL;exact Int.le_trans xL (h'.1 z e);rename_i xL;refine bN.2 ⟨λz hz=>?_,C5L x r h'.2⟩;rcases aG.1 ((Wc x r).mem_iff.1 hz)with e|e;subst e;omega;exact h'.1 z e
theorem B5E:∀l:List Int,(A0K l).Pairwise (·<=·)|[]=>.nil|x::r=>C5L x _ (B5E r)
theorem B9b:∀{l m:List Int},l.Perm m->l.Pairwise (·<=·)->m.Pairwise (·<=·)->l=m|[],m,h,_,_=>h.nil_eq|a::l,[],h,_,_=>by have:=h.length_eq;simp at this|a::l,b::m,h,hl,hm=>by have zj:=bN.1 hl;have xM:=bN.1 hm;(have uO:a=b:=by have h1:a∈b::m:=h.mem_iff.1 (by simp);have h2:b∈a::l:=h.mem_iff.2 (by simp);rcases aG.1 h1 with e|e;exact e;rcases aG.1 h2 with e2|e2;exact e2.symm;have:=zj.1 b e2;have:=xM.1 a e;omega);subst uO;rw[B9b (av7 a|>.1 h) zj.2 xM.2]
theorem C3L(l:List Int):A0K l=l.mergeSort λx y=>decide (x<=y):=by refine B9b ((Me l).trans (List.mergeSort_perm l _).symm) (B5E l) ?_;have:=List.pairwise_mergeSort (le:=λx y:Int=>decide (x<=y)) (λa b c h1 h2=>by simp at*;omega) (λa b=>by simp;omega) l;exact this.imp λh=>by simpa using h
theorem Hv(l:List Int):(A0K l).length=l.length:=(Me l).length_eq
def D1A(P:Program)(f:Nat):Prop:=∀(b off cap:Nat)(zs:List Int)(w:World),ym (bX .i64) w b off zs.toArray->b<w.heap.size->zs.length<4611686018427387904->Calls P f #[.slice (some ⟨b,off,none⟩) zs.length cap] w λe w'=>e=.returned (.tuple #[])/\∃n os,w'=oY (fq (bX .i64) (nN w n) b off (A0K zs).toArray) os
def We(P:Program)(f:Nat):Prop:=∃Φ:lW,∃n,pj P Φ/\og Φ (run Φ n) f [.p (.sl [])] []=some (.eI [],[],[])
theorem Wf{f:Nat}(hn:We P f){w:World}{A:Nat->Prop}{E:dP An}{h:cj}(tH:GL P w A)(hm:MR w A E h S0)(a:Option Addr)(cap:Nat):Calls P f #[.slice a 0 cap] w λe w'=>e=.returned (.tuple #[])/\MR w' A E h S0/\gC w A E S0 w' A E:=by obtain⟨Φ,n,hT,hk⟩:=hn;obtain⟨_,hc⟩:=C5e hT n f _ _ _ _ _ hk;have V1:MR w A (λ_=>ja) (nn []) S0:=MR.none hm.im;(have hv:c9 w A (λ_=>ja) S0 [.p (.sl [])] [.slice a 0 cap]:=by simp only[c9];exact⟨_,[],rfl,(xD (E:=λ_=>ja) (nx:=S0)).2 ⟨a,cap,rfl,dg _,.inl rfl⟩,rfl⟩);refine(hc w A _ [.slice a 0 cap] tH hv V1).mono ?_;rintro e w'⟨v,he,A',E',nx',q1,q2,q3⟩;have hk:∀b,b<w.heap.size->w'.heap[b]?=w.heap[b]?:=λb hb=>q2.aSO b hb (λho=>by obtain⟨i,o,ho,_⟩:=ho;cases ho);simp only[bR,c9]at q3;obtain⟨vs,Cs,xF⟩:=q3;subst xF;exact⟨by rw[he,Cs],hm.more q2.size hk,gC.more q2.os q2.tape q2.output q2.size hk⟩
theorem Mf{w:World}{A:Nat->Prop}{E:dP An}{nx:di}:bR w A E nx (.eI []) (.tuple #[]):=by simp only[bR,c9];exact⟨[],rfl,rfl⟩
theorem Qs(l:List (Obj Nat))(h:l.length<=1000000):j4 l []=nn l:=by funext i;unfold j4 nn;by_cases h1:kI<=i;(have h2:ep<=i:=by unfold kI at h1;unfold ep;omega);have h3:l[i-ep]?=none:=bJ (by unfold kI at h1;unfold ep;omega);rw[if_pos h1,if_pos h2,h3];rfl;rw[if_neg h1]
theorem B9c{h h':cj}{id:Nat}{path:List Nat}{g z off:Nat}{vs:List PV}(e:qT h id path g z off vs=some h'):∀i,i≠id->h' i=h i:=by intro i hi;unfold qT at e;split at e;split at e;split at e;simp only[aa]at e;subst e;exact A0C _ _ hi;cases e;split at e;split at e;split at e;simp only[aa]at e;subst e;exact A0C _ _ hi;cases e;cases e;cases e;cases e
theorem C1R{o o':Obj Nat}{h':cj}{path:List Nat}{g z off:Nat}{vs:List PV}(e:qT (nn [o]) ep path g z off vs=some h')(ho:h' ep=some o'):h'=j4 [o'] []:=by rw[Qs _ (by simp)];funext i;by_cases hi:i=ep;subst hi;rw[ho];simp[nn];rw[B9c e i hi];unfold nn;by_cases h1:ep<=i;(have h2:1<=i-ep:=by have:ep<i:=Nat.lt_of_le_of_ne h1 (Ne.symm hi);omega);rw[if_pos h1,if_pos h1,bJ (by simpa using h2),bJ (by simpa using h2)];rw[if_neg h1,if_neg h1]
theorem D2y{f:Nat}(BR:Gy P f)(hct:D1A P f)(hn:We P f):Iz P f .sort:=by intro args ext r ext' dH hp;unfold xy at hp;split at hp;rename_i h;cases h;rename_i id path off len g o _;split at hp;rename_i gk;subst gk;unfold NQ at hp;split at hp;rename_i ts ia;split at hp;rename_i vs fN;split at hp;rename_i zs uK;split at hp;rename_i eC;split at hp;rename_i h' jn;split at hp;rename_i o' oZ;simp only[aa,ae]at hp;obtain⟨rfl,rfl,rfl⟩:=hp;refine⟨BR,?_⟩;intro w A E gR tH hv hm;simp only[c9]at hv;obtain⟨v,d,rfl,hv,rfl⟩:=hv;have hh':=C1R jn oZ;obtain⟨an,ad,cap,rfl,xe,nU,bW,kG⟩:=SZ hm hv jn;subst xe;have yK:=Wb uK;have htv:=H7 fN;have ia:(match jq (nn [o] ep) path with|some (g',_,l)=>if g'=an.g/\off+len<=l.length then some ((l.drop off).take len)else none|none=>none)=some ts:=ia;split at ia;rename_i g' z' l EY;split at ia;rename_i dV;simp only[aa]at ia;obtain⟨hg,hle⟩:=dV;(have hlen:zs.length=len:=by have h1:=congrArg cz ia;rw[htv,yK]at h1;simp only[aW,cm,aB]at h1;omega);rw[<-hh'];by_cases h0:len=0;(have Mg:zs=[]:=by rw[h0]at hlen;exact bu hlen);subst h0;(have Qp:(A0K zs).map (PV.int .i64)=[]:=by rw[Mg];rfl);rw[Qp]at jn;refine(Wf hn tH hm ad cap).mono ?_;rintro e w'⟨he,k1,k2⟩;obtain⟨_,E',ox,qn⟩:=Ku k1 bW jn (cs:=[]) (by simp only[cK]);(cases hb:an.b with|none=>obtain⟨q1,q2⟩:=qn hb;exact⟨_,he,A,E',S0,q1,k2.trans q2 (di.le_refl _),Mf⟩|some b=>obtain⟨q1,q2,_,_⟩:=ox b hb;exact⟨_,he,A,E',S0,q1,k2.trans q2 (di.le_refl _),Mf⟩);have tK:0<len:=ew h0;(cases hb:an.b with|none=>simp only[kU,hb]at kG;exact absurd kG.1 h0|some b=>simp only[kU,hb]at kG;rcases kG.2 with⟨h1,_⟩|hA;exact absurd h1 h0;obtain⟨_,E',ox,_⟩:=Ku hm bW jn (cs:=(A0K zs).map (bX .i64)) (C1z _);obtain⟨q1,q2,q3,q4⟩:=ox b hb;obtain⟨rU,l',nB,hg',zj⟩:=hm.vec EY;have hnd:=uG nB;rw[bW]at hnd;simp only[aa,ae]at hnd;obtain⟨rfl,rfl⟩:=hnd;have hVB:=hm.vO nB;simp only[VB,hb]at hVB;obtain⟨hblk,oq,eV,hts⟩:=hVB;(have hH:ym (bX .i64) w b off zs.toArray:=by intro j hj;(have hj:j<zs.length:=by simpa using hj);refine⟨?_,q4 _⟩;(have e1:(((l.drop off).take len))[j]?=some (T.p (PV.int .i64 zs[j])):=by rw[ia,htv,yK,aL,aL,ah hj];rfl);rw[dL (by omega),fY,zj,aL]at e1;cases ht:l'[off+j]? with|none=>rw[ht]at e1;cases e1|some t=>rw[ht]at e1;simp only[ak,aa]at e1;cases t<;>simp only[T.mapA,reduceCtorEq,T.p.injEq]at e1;subst e1;have hk:=hts.elem eV ht;simp only[TAt,dU]at hk;obtain⟨cs,rfl,hr⟩:=hk;have:=hr 0 _ rfl;rw[gz,dG]at this;rw[this];simp[hj]);(have yH:b<w.heap.size:=by obtain⟨c,ty,hc,_⟩:=hblk;exact(c7.1 hc).1);have vo:=hct b off cap zs w hH yH eC;rw[hlen]at vo;rw[hA,gz];rw[gz]at q1 q2;rw[C1Q]at q1 q2;refine vo.mono ?_;rintro e w'⟨he,n,os,rfl⟩;(have hsz:(fq (bX .i64) w b off (A0K zs).toArray).heap.size=w.heap.size:=by simp[fq,jJ]);(have hk:∀x,x<(fq (bX .i64) w b off (A0K zs).toArray).heap.size->(oY (fq (bX .i64) (nN w n) b off (A0K zs).toArray) os).heap[x]?=(fq (bX .i64) w b off (A0K zs).toArray).heap[x]?:=by intro x hx;unfold oY;simp only;rw[jb (by simpa[fq,jJ,nN]using hx)];rfl);(have hss:(fq (bX .i64) w b off (A0K zs).toArray).heap.size<=(oY (fq (bX .i64) (nN w n) b off (A0K zs).toArray) os).heap.size:=by simp[oY,fq,jJ,nN]);exact⟨_,he,A,E',S0,q1.more hss hk,q2.trans (gC.more rfl rfl ⟨rfl,fT _ _⟩ hss hk) (di.le_refl _),Mf⟩);cases ia;cases ia;cases hp;cases hp;cases hp;cases hp;cases hp;cases hp;cases hp;rename_i z _;simp only[aa,ae]at hp;obtain⟨rfl,rfl,rfl⟩:=hp;refine⟨BR,?_⟩;intro w A E gR tH hv hm;simp only[c9]at hv;obtain⟨v,d,rfl,hv,rfl⟩:=hv;simp only[bR]at hv;obtain⟨a,rfl⟩:=hv;refine(Wf hn tH hm a 0).mono ?_;rintro e w'⟨he,k1,k2⟩;rw[Qs _ (by simp)];exact⟨_,he,A,E,S0,k1,k2,Mf⟩;rename_i _;simp only[aa,ae]at hp;obtain⟨rfl,rfl,rfl⟩:=hp;refine⟨BR,?_⟩;intro w A E gR tH hv hm;simp only[c9]at hv;obtain⟨v,d,rfl,hv,rfl⟩:=hv;obtain⟨ad,cap,rfl,_,_⟩:=xD.1 hv;refine(Wf hn tH hm ad cap).mono ?_;rintro e w'⟨he,k1,k2⟩;rw[Qs _ (by simp)];exact⟨_,he,A,E,S0,k1,k2,Mf⟩;rename_i h;cases h;rename_i h;cases h;rename_i h;cases h;rename_i h;cases h;rename_i h;cases h;rename_i h;cases h;cases hp
end Go.Mid
namespace Go.Mid
def yZ{α:Type}(off:Option Nat)(len:Nat)(l:List α):List α:=(match off with|none=>l|some o=>l.drop o).take len
def Mm{t:Ty}(l:List (El t)):Option (List Int):=I1 (.int .i64) l
def Wp(x:CR):Tree R2:=match x.1,x.2 with|[.own id path off len g],[o]=>if id==ep then(zG o path).bind λv=>if v.1==g&&v.2.1==1 then match v.2.2 with|.base s t l=>((Tree.lF (Mm l)).bind λm=>(Tree.ask (cQ (match off with|none=>len|some k=>k+len) (m.length))).bind λ_=>(Tree.ask (cP ((yZ off len m).length) 4611686018427387904)).bind λ_=>match path with|[]=>(match o with|.vec a z _=>.leaf (.eI [],[.vec a z (.base s (.int .i64) (A1x m off (A0K (yZ off len m))))],[])|_=>.fail)|p::q=>(zF o (p::q)).bind λu=>match D0 u with|some (a,z,_,n)=>(BE (.vec a z (.base s (.int .i64) (A1x m off (A0K (yZ off len m)))) n) o (p::q)).bind λo'=>.leaf (.eI [],[o'],[])|none=>.fail)|_=>.fail else .fail else .fail|[.nil _],[]=>.leaf (.eI [],[],[])|[.c (.sl [])],[]=>.leaf (.eI [],[],[])|_,_=>.fail
theorem Qt{t:Ty}{l:List (El t)}{m:List Int}(h:Mm l=some m)(s:Nat):l.map (jf s t)=m.map λn=>T.p (PV.int .i64 n):=by obtain⟨e,he⟩:=LA h;cases e;cases he;rfl
theorem Wq:∀zs:List Int,Cj (zs.map (PV.int .i64))=some zs|[]=>rfl|n::r=>by simp only[aF,Cj,Wq r]
theorem B9e(zs:List Int):ml (zs.map λn=>T.p (α:=Nat) (PV.int .i64 n))=some (zs.map (PV.int .i64)):=by(have:(zs.map λn=>T.p (α:=Nat) (PV.int .i64 n))=(zs.map (PV.int .i64)).map T.p:=by rw[sk];rfl);rw[this];exact Ug _
theorem C8P(l:List Int)(off:Option Nat)(m:List Int):oa (l.map λn=>T.p (α:=Nat) (PV.int .i64 n)) (off.getD 0) (m.map (PV.int .i64))=(A1x l off m).map λn=>T.p (PV.int .i64 n):=by have:=U7 (s:=0) (t:=.int .i64) rfl l off m;exact this
theorem Ws(o:Obj Nat):nn [o] ep=some o:=by simp[nn]
theorem C3P(l:List Int):(l.map (PV.int .i64)).all (λv=>v.cs==1)=true:=by rw[bB];intro v hv;obtain⟨n,_,rfl⟩:=bp.1 hv;rfl
theorem C8Q{o:O2}{path:List Step}{off:Option Nat}{len g s:Nat}{t:Ty}{l:List (El t)}{m:List Int}(h1:(zG o path).den=some (g,1,.base s t l))(h2:Mm l=some m)(h3:(match off with|none=>len|some k=>k+len)<=m.length):elems (nn [cO o]) (.own ep (iN path) (off.getD 0) len g)=some ((yZ off len m).map λn=>T.p (PV.int .i64 n)):=by have hv:=Ao h1;(have e1:eL (.base s t l)=m.map λn=>T.p (PV.int .i64 n):=by simp only[eL];exact Qt h2 s);simp only[elems,Ws,hv];rw[e1];(have hle:off.getD 0+len<=(m.map λn=>T.p (α:=Nat) (PV.int .i64 n)).length:=by rw[aB];cases off with|none=>simpa using h3|some k=>exact h3);rw[if_pos ⟨trivial,hle⟩];unfold yZ;cases off<;>simp[bP,eZ]
theorem B9f{path:List Nat}{off len g:Nat}{o o':Obj Nat}{zs:List Int}{h':cj}(h1:elems (nn [o]) (.own ep path off len g)=some (zs.map λn=>T.p (PV.int .i64 n)))(h2:zs.length<4611686018427387904)(h3:qT (nn [o]) ep path g 1 off ((A0K zs).map (.int .i64))=some h')(h4:h' ep=some o'):NQ path off len g o=some (.eI [],[o'],[]):=by unfold NQ;simp only[h1,B9e,Wq,h3,h4,if_pos h2]
theorem D0U{x:CR}{r:R2}(e:(Wp x).den=some r):xy .sort (lG x).1 (lG x).2=some (A1M r):=by obtain⟨ws,os⟩:=x;unfold Wp at e;simp only at e;split at e;rename_i id path off len g o;split at e;rename_i gk;simp only[beq_iff_eq]at gk;subst gk;simp only[Tree.den_bind]at e;obtain⟨⟨g',z',a⟩,h1,e⟩:=e;split at e;rename_i hc;simp only[aj,beq_iff_eq]at hc;obtain⟨rfl,rfl⟩:=hc;split at e;rename_i s t l yH;simp only at yH;subst yH;simp only[Tree.den_bind,Tree.aXr,Tree.dB]at e;obtain⟨m,h2,_,h3,_,h4,e⟩:=e;have h3:=cp.mp h3;have h4:=il.mp h4;have ia:=C8Q h1 h2 h3;have hlen:(A0K (yZ off len m)).length=(yZ off len m).length:=Hv _;(have Mn:(match off with|none=>0|some k=>k)+(yZ off len m).length<=m.length:=by unfold yZ;cases off with|none=>simp;omega|some k=>simp only[aW,cm];simp only at h3;omega);(have Fw:off.getD 0+((A0K (yZ off len m)).map (PV.int .i64)).length<=(m.map λn=>T.p (α:=Nat) (PV.int .i64 n)).length:=by rw[aB,aB,hlen];cases off with|none=>simpa using Mn|some k=>exact Mn);(have e1:eL (.base s t l)=m.map λn=>T.p (PV.int .i64 n):=by simp only[eL];exact Qt h2 s);(have e2:eL (.base s (.int .i64) (A1x m off (A0K (yZ off len m))))=oa (eL (.base s t l)) (off.getD 0) ((A0K (yZ off len m)).map (PV.int .i64)):=by rw[e1,C8P];rfl);rw[e1]at e2;(cases path with|nil=>(cases o with|vec a z al=>simp only[Tree.aXq]at e;subst e;have hv:=Ao h1;simp only[cO,iN,jq,aa,ae]at hv;obtain⟨rfl,rfl,eV⟩:=hv;refine B9f (h':=cq (nn [cO (.vec a 1 al)]) ep (some (cO (.vec a 1 (.base s (.int .i64) (A1x m off (A0K (yZ off len m)))))))) ia h4 ?_ (nV _ _ _);unfold qT;rw[if_pos (C3P _),Ws];simp only[cO,iN];rw[eV,e1,if_pos ⟨trivial,trivial,Fw⟩,e2]|_=>simp at e)|cons p q=>simp only[Tree.den_bind]at e;obtain⟨u,h5,e⟩:=e;split at e;rename_i a z al n hu;simp only[Tree.den_bind,Tree.aXq]at e;obtain⟨o',h6,rfl⟩:=e;have dK:=Fg h5;rw[G5 hu]at dK;have eN:=DT h6;have hv:=Ao h1;(have EY:jq (some (cO o)) (iN (p::q))=some (a,z,eL al):=by refine A8P (λg z l _ hp=>?_) dK;simp[iN]at hp);rw[EY]at hv;simp only[aa,ae]at hv;obtain⟨rfl,rfl,eV⟩:=hv;refine B9f (h':=cq (nn [cO o]) ep (some (cO o'))) ia h4 ?_ (nV _ _ _);unfold qT;rw[if_pos (C3P _),Ws];split;rename_i e8 e9;simp[iN]at e9;rw[dK];simp only;rw[eV,e1,if_pos ⟨trivial,trivial,Fw⟩,<-e2];have:put (some (cO o)) (iN (p::q)) (.vec a 1 (eL (.base s (.int .i64) (A1x m off (A0K (yZ off len m))))) n)=some (cO o'):=eN;rw[this];simp at e);simp at e;simp at e;simp at e;simp only[Tree.aXq]at e;subst e;rfl;simp only[Tree.aXq]at e;subst e;rfl;simp at e
theorem C3Q{Φ:lW}{f:Nat}(hΦ:Φ f=some (.qU .sort)){I:Gen lG}{O:Gen A1M}{fn:I.A->Option O.A}(h:∀a,((Wp (I.mk a)).bind O.un).den=fn a):pM Φ ⟨f,I,O,fn⟩:=by intro a r hr;have e:=(h a).trans hr;rw[Tree.den_bind]at e;obtain⟨x,h1,h2⟩:=e;show KI Φ f (lG (I.mk a)).1 (lG (I.mk a)).2=some (A1M (O.mk r));rw[T1 hΦ,D0U h1,O.law x r h2]
end Go.Mid
namespace Go.Mid
open Go.RowKit
variable{P:Program}
theorem F6q(o:Nat)(zs:List ByteArray)(c:Array Value):Md o (zs.map (bq)) c=ud (bq) o zs.toArray c:=by apply aBz;intro k;rw[B6X];unfold ud;rw[avt];by_cases hk:k<c.size;rw[jo hk];simp only[ak,fx,aB];by_cases h:o<=k/\k<o+zs.length;rw[if_pos ⟨h.1,h.2,hk⟩,if_pos h];(have eC:k-o<zs.length:=by omega);rw[aL,ah eC];simp[eC];rw[if_neg (by omega),if_neg h];rw[ik (by omega)];rw[if_neg (by omega)];rfl
theorem F6o(w:World)(b o:Nat)(zs:List ByteArray):w.setCells b o (zs.map (bq))=fq (bq) w b o zs.toArray:=by rw[B5B];unfold fq;congr 1;funext c;exact F6q o zs c
theorem F6f:∀{vs:List PV}{zs:List ByteArray},F24 vs=some zs->vs=zs.map (PV.str)|[],zs,h=>by simp only[F24,aa]at h;subst h;rfl|v::r,zs,h=>by cases v with|str n=>simp only[F24]at h;split at h;rename_i l hl;simp only[aa]at h;subst h;rw[F6f hl];rfl;cases h|_=>simp[F24]at h
theorem F6g{w:World}{A:Nat->Prop}:∀zs:List ByteArray,cK w A (zs.map (PV.str)) (zs.map (bq))|[]=>by simp[cK]|n::r=>by simp only[aF,cK];exact⟨[.string n],r.map (bq),rfl,by simp only[dU],F6g r⟩
def F6r(P:Program)(f:Nat):Prop:=∀(b off cap:Nat)(zs:List ByteArray)(w:World),ym (bq) w b off zs.toArray->b<w.heap.size->zs.length<4611686018427387904->Calls P f #[.slice (some ⟨b,off,none⟩) zs.length cap] w λe w'=>e=.returned (.tuple #[])/\∃n os,w'=oY (fq (bq) (nN w n) b off (F10 zs).toArray) os
theorem F6P{f:Nat}(BR:Gy P f)(hct:F6r P f)(hn:We P f):Iz P f .aC8:=by intro args ext r ext' dH hp;unfold xy at hp;split at hp;rename_i h;cases h;rename_i h;cases h;rename_i h;cases h;rename_i h;cases h;rename_i id path off len g o _;split at hp;rename_i gk;subst gk;unfold F3G at hp;split at hp;rename_i ts ia;split at hp;rename_i vs fN;split at hp;rename_i zs uK;split at hp;rename_i eC;split at hp;rename_i h' jn;split at hp;rename_i o' oZ;simp only[aa,ae]at hp;obtain⟨rfl,rfl,rfl⟩:=hp;refine⟨BR,?_⟩;intro w A E gR tH hv hm;simp only[c9]at hv;obtain⟨v,d,rfl,hv,rfl⟩:=hv;have hh':=C1R jn oZ;obtain⟨an,ad,cap,rfl,xe,nU,bW,kG⟩:=SZ hm hv jn;subst xe;have yK:=F6f uK;have htv:=H7 fN;have ia:(match jq (nn [o] ep) path with|some (g',_,l)=>if g'=an.g/\off+len<=l.length then some ((l.drop off).take len)else none|none=>none)=some ts:=ia;split at ia;rename_i g' z' l EY;split at ia;rename_i dV;simp only[aa]at ia;obtain⟨hg,hle⟩:=dV;(have hlen:zs.length=len:=by have h1:=congrArg cz ia;rw[htv,yK]at h1;simp only[aW,cm,aB]at h1;omega);rw[<-hh'];by_cases h0:len=0;(have Mg:zs=[]:=by rw[h0]at hlen;exact bu hlen);subst h0;(have Qp:(F10 zs).map (PV.str)=[]:=by rw[Mg];rfl);rw[Qp]at jn;refine(Wf hn tH hm ad cap).mono ?_;rintro e w'⟨he,k1,k2⟩;obtain⟨_,E',ox,qn⟩:=Ku k1 bW jn (cs:=[]) (by simp only[cK]);(cases hb:an.b with|none=>obtain⟨q1,q2⟩:=qn hb;exact⟨_,he,A,E',S0,q1,k2.trans q2 (di.le_refl _),Mf⟩|some b=>obtain⟨q1,q2,_,_⟩:=ox b hb;exact⟨_,he,A,E',S0,q1,k2.trans q2 (di.le_refl _),Mf⟩);have tK:0<len:=ew h0;(cases hb:an.b with|none=>simp only[kU,hb]at kG;exact absurd kG.1 h0|some b=>simp only[kU,hb]at kG;rcases kG.2 with⟨h1,_⟩|hA;exact absurd h1 h0;obtain⟨_,E',ox,_⟩:=Ku hm bW jn (cs:=(F10 zs).map (bq)) (F6g _);obtain⟨q1,q2,q3,q4⟩:=ox b hb;obtain⟨rU,l',nB,hg',zj⟩:=hm.vec EY;have hnd:=uG nB;rw[bW]at hnd;simp only[aa,ae]at hnd;obtain⟨rfl,rfl⟩:=hnd;have hVB:=hm.vO nB;simp only[VB,hb]at hVB;obtain⟨hblk,oq,eV,hts⟩:=hVB;(have hH:ym (bq) w b off zs.toArray:=by intro j hj;(have hj:j<zs.length:=by simpa using hj);refine⟨?_,q4 _⟩;(have e1:(((l.drop off).take len))[j]?=some (T.p (PV.str zs[j])):=by rw[ia,htv,yK,aL,aL,ah hj];rfl);rw[dL (by omega),fY,zj,aL]at e1;cases ht:l'[off+j]? with|none=>rw[ht]at e1;cases e1|some t=>rw[ht]at e1;simp only[ak,aa]at e1;cases t<;>simp only[T.mapA,reduceCtorEq,T.p.injEq]at e1;subst e1;have hk:=hts.elem eV ht;simp only[TAt,dU]at hk;obtain⟨cs,rfl,hr⟩:=hk;have:=hr 0 _ rfl;rw[gz,dG]at this;rw[this];simp[hj]);(have yH:b<w.heap.size:=by obtain⟨c,ty,hc,_⟩:=hblk;exact(c7.1 hc).1);have vo:=hct b off cap zs w hH yH eC;rw[hlen]at vo;rw[hA,gz];rw[gz]at q1 q2;rw[F6o]at q1 q2;refine vo.mono ?_;rintro e w'⟨he,n,os,rfl⟩;(have hsz:(fq (bq) w b off (F10 zs).toArray).heap.size=w.heap.size:=by simp[fq,jJ]);(have hk:∀x,x<(fq (bq) w b off (F10 zs).toArray).heap.size->(oY (fq (bq) (nN w n) b off (F10 zs).toArray) os).heap[x]?=(fq (bq) w b off (F10 zs).toArray).heap[x]?:=by intro x hx;unfold oY;simp only;rw[jb (by simpa[fq,jJ,nN]using hx)];rfl);(have hss:(fq (bq) w b off (F10 zs).toArray).heap.size<=(oY (fq (bq) (nN w n) b off (F10 zs).toArray) os).heap.size:=by simp[oY,fq,jJ,nN]);exact⟨_,he,A,E',S0,q1.more hss hk,q2.trans (gC.more rfl rfl ⟨rfl,fT _ _⟩ hss hk) (di.le_refl _),Mf⟩);cases ia;cases ia;cases hp;cases hp;cases hp;cases hp;cases hp;cases hp;cases hp;rename_i z _;simp only[aa,ae]at hp;obtain⟨rfl,rfl,rfl⟩:=hp;refine⟨BR,?_⟩;intro w A E gR tH hv hm;simp only[c9]at hv;obtain⟨v,d,rfl,hv,rfl⟩:=hv;simp only[bR]at hv;obtain⟨a,rfl⟩:=hv;refine(Wf hn tH hm a 0).mono ?_;rintro e w'⟨he,k1,k2⟩;rw[Qs _ (by simp)];exact⟨_,he,A,E,S0,k1,k2,Mf⟩;rename_i _;simp only[aa,ae]at hp;obtain⟨rfl,rfl,rfl⟩:=hp;refine⟨BR,?_⟩;intro w A E gR tH hv hm;simp only[c9]at hv;obtain⟨v,d,rfl,hv,rfl⟩:=hv;obtain⟨ad,cap,rfl,_,_⟩:=xD.1 hv;refine(Wf hn tH hm ad cap).mono ?_;rintro e w'⟨he,k1,k2⟩;rw[Qs _ (by simp)];exact⟨_,he,A,E,S0,k1,k2,Mf⟩;rename_i h;cases h;rename_i h;cases h;rename_i h;cases h;cases hp
end Go.Mid
namespace Go.Mid
theorem F6s(x:ByteArray):∀l:List ByteArray,(F4Z x l).length=l.length+1|[]=>rfl|y::r=>by simp only[F4Z];split;simp only[bf,F6s x r];rfl
theorem F59:∀l:List ByteArray,(F10 l).length=l.length|[]=>rfl|x::r=>by simp only[F10,F6s,F59 r,bf]
def F6B{t:Ty}(l:List (El t)):Option (List ByteArray):=I1 .str l
def F6t(x:CR):Tree R2:=match x.1,x.2 with|[.own id path off len g],[o]=>if id==ep then(zG o path).bind λv=>if v.1==g&&v.2.1==1 then match v.2.2 with|.base s t l=>((Tree.lF (F6B l)).bind λm=>(Tree.ask (cQ (match off with|none=>len|some k=>k+len) (m.length))).bind λ_=>(Tree.ask (cP ((yZ off len m).length) 4611686018427387904)).bind λ_=>match path with|[]=>(match o with|.vec a z _=>.leaf (.eI [],[.vec a z (.base s .str (A1x m off (F10 (yZ off len m))))],[])|_=>.fail)|p::q=>(zF o (p::q)).bind λu=>match D0 u with|some (a,z,_,n)=>(BE (.vec a z (.base s .str (A1x m off (F10 (yZ off len m)))) n) o (p::q)).bind λo'=>.leaf (.eI [],[o'],[])|none=>.fail)|_=>.fail else .fail else .fail|[.nil _],[]=>.leaf (.eI [],[],[])|[.c (.sl [])],[]=>.leaf (.eI [],[],[])|_,_=>.fail
theorem F6h{t:Ty}{l:List (El t)}{m:List ByteArray}(h:F6B l=some m)(s:Nat):l.map (jf s t)=m.map λn=>T.p (PV.str n):=by obtain⟨e,he⟩:=LA h;cases e;cases he;rfl
theorem F6d:∀zs:List ByteArray,F24 (zs.map (PV.str))=some zs|[]=>rfl|n::r=>by simp only[aF,F24,F6d r]
theorem F6C(zs:List ByteArray):ml (zs.map λn=>T.p (α:=Nat) (PV.str n))=some (zs.map (PV.str)):=by(have:(zs.map λn=>T.p (α:=Nat) (PV.str n))=(zs.map (PV.str)).map T.p:=by rw[sk];rfl);rw[this];exact Ug _
theorem F6G(l:List ByteArray)(off:Option Nat)(m:List ByteArray):oa (l.map λn=>T.p (α:=Nat) (PV.str n)) (off.getD 0) (m.map (PV.str))=(A1x l off m).map λn=>T.p (PV.str n):=by have:=U7 (s:=0) (t:=.str) rfl l off m;exact this
theorem F6u(l:List ByteArray):(l.map (PV.str)).all (λv=>v.cs==1)=true:=by rw[bB];intro v hv;obtain⟨n,_,rfl⟩:=bp.1 hv;rfl
theorem F6D{o:O2}{path:List Step}{off:Option Nat}{len g s:Nat}{t:Ty}{l:List (El t)}{m:List ByteArray}(h1:(zG o path).den=some (g,1,.base s t l))(h2:F6B l=some m)(h3:(match off with|none=>len|some k=>k+len)<=m.length):elems (nn [cO o]) (.own ep (iN path) (off.getD 0) len g)=some ((yZ off len m).map λn=>T.p (PV.str n)):=by have hv:=Ao h1;(have e1:eL (.base s t l)=m.map λn=>T.p (PV.str n):=by simp only[eL];exact F6h h2 s);simp only[elems,Ws,hv];rw[e1];(have hle:off.getD 0+len<=(m.map λn=>T.p (α:=Nat) (PV.str n)).length:=by rw[aB];cases off with|none=>simpa using h3|some k=>exact h3);rw[if_pos ⟨trivial,hle⟩];unfold yZ;cases off<;>simp[bP,eZ]
theorem F6a{path:List Nat}{off len g:Nat}{o o':Obj Nat}{zs:List ByteArray}{h':cj}(h1:elems (nn [o]) (.own ep path off len g)=some (zs.map λn=>T.p (PV.str n)))(h2:zs.length<4611686018427387904)(h3:qT (nn [o]) ep path g 1 off ((F10 zs).map .str)=some h')(h4:h' ep=some o'):F3G path off len g o=some (.eI [],[o'],[]):=by unfold F3G;simp only[h1,F6C,F6d,h3,h4,if_pos h2]
theorem F6H{x:CR}{r:R2}(e:(F6t x).den=some r):xy .aC8 (lG x).1 (lG x).2=some (A1M r):=by obtain⟨ws,os⟩:=x;unfold F6t at e;simp only at e;split at e;rename_i id path off len g o;split at e;rename_i gk;simp only[beq_iff_eq]at gk;subst gk;simp only[Tree.den_bind]at e;obtain⟨⟨g',z',a⟩,h1,e⟩:=e;split at e;rename_i hc;simp only[aj,beq_iff_eq]at hc;obtain⟨rfl,rfl⟩:=hc;split at e;rename_i s t l yH;simp only at yH;subst yH;simp only[Tree.den_bind,Tree.aXr,Tree.dB]at e;obtain⟨m,h2,_,h3,_,h4,e⟩:=e;have h3:=cp.mp h3;have h4:=il.mp h4;have ia:=F6D h1 h2 h3;have hlen:(F10 (yZ off len m)).length=(yZ off len m).length:=F59 _;(have Mn:(match off with|none=>0|some k=>k)+(yZ off len m).length<=m.length:=by unfold yZ;cases off with|none=>simp;omega|some k=>simp only[aW,cm];simp only at h3;omega);(have Fw:off.getD 0+((F10 (yZ off len m)).map (PV.str)).length<=(m.map λn=>T.p (α:=Nat) (PV.str n)).length:=by rw[aB,aB,hlen];cases off with|none=>simpa using Mn|some k=>exact Mn);(have e1:eL (.base s t l)=m.map λn=>T.p (PV.str n):=by simp only[eL];exact F6h h2 s);(have e2:eL (.base s .str (A1x m off (F10 (yZ off len m))))=oa (eL (.base s t l)) (off.getD 0) ((F10 (yZ off len m)).map (PV.str)):=by rw[e1,F6G];rfl);rw[e1]at e2;(cases path with|nil=>(cases o with|vec a z al=>simp only[Tree.aXq]at e;subst e;have hv:=Ao h1;simp only[cO,iN,jq,aa,ae]at hv;obtain⟨rfl,rfl,eV⟩:=hv;refine F6a (h':=cq (nn [cO (.vec a 1 al)]) ep (some (cO (.vec a 1 (.base s .str (A1x m off (F10 (yZ off len m)))))))) ia h4 ?_ (nV _ _ _);unfold qT;rw[if_pos (F6u _),Ws];simp only[cO,iN];rw[eV,e1,if_pos ⟨trivial,trivial,Fw⟩,e2]|_=>simp at e)|cons p q=>simp only[Tree.den_bind]at e;obtain⟨u,h5,e⟩:=e;split at e;rename_i a z al n hu;simp only[Tree.den_bind,Tree.aXq]at e;obtain⟨o',h6,rfl⟩:=e;have dK:=Fg h5;rw[G5 hu]at dK;have eN:=DT h6;have hv:=Ao h1;(have EY:jq (some (cO o)) (iN (p::q))=some (a,z,eL al):=by refine A8P (λg z l _ hp=>?_) dK;simp[iN]at hp);rw[EY]at hv;simp only[aa,ae]at hv;obtain⟨rfl,rfl,eV⟩:=hv;refine F6a (h':=cq (nn [cO o]) ep (some (cO o'))) ia h4 ?_ (nV _ _ _);unfold qT;rw[if_pos (F6u _),Ws];split;rename_i e8 e9;simp[iN]at e9;rw[dK];simp only;rw[eV,e1,if_pos ⟨trivial,trivial,Fw⟩,<-e2];have:put (some (cO o)) (iN (p::q)) (.vec a 1 (eL (.base s .str (A1x m off (F10 (yZ off len m))))) n)=some (cO o'):=eN;rw[this];simp at e);simp at e;simp at e;simp at e;simp only[Tree.aXq]at e;subst e;rfl;simp only[Tree.aXq]at e;subst e;rfl;simp at e
theorem F6I{Φ:lW}{f:Nat}(hΦ:Φ f=some (.qU .aC8)){I:Gen lG}{O:Gen A1M}{fn:I.A->Option O.A}(h:∀a,((F6t (I.mk a)).bind O.un).den=fn a):pM Φ ⟨f,I,O,fn⟩:=by intro a r hr;have e:=(h a).trans hr;rw[Tree.den_bind]at e;obtain⟨x,h1,h2⟩:=e;show KI Φ f (lG (I.mk a)).1 (lG (I.mk a)).2=some (A1M (O.mk r));rw[T1 hΦ,F6H h1,O.law x r h2]
end Go.Mid
namespace Go.Mid
open Go.RowKit
theorem E27:∀l,ltL l l=false|[]=>rfl|x::r=>by simp[ltL,E27 r]
theorem E24:∀a b c,ltL a b=true->ltL b c=true->ltL a c=true|[],[],_,h,_=>by omega|[],_::_,[],_,h=>by grind[ltL]|[],_::_,_::_,_,_=>rfl|_::_,[],_,h,_=>by grind[ltL]|_::_,_::_,[],_,h=>by grind[ltL]|x::r,y::q,z::p,h1,h2=>by simp only[ltL]at h1 h2|-;by_cases a:x<y;grind;rw[if_neg a]at h1;by_cases a':y<x;simp_all;rw[if_neg a']at h1;(have:x=y:=by omega);subst this;by_cases b:x<z;grind;rw[if_neg b]at h2|-;by_cases c:z<x;simp_all;rw[if_neg c]at h2|-;exact E24 r q p h1 h2
theorem E3i:∀a b,ltL a b=false->ltL b a=false->a=b|[],[],_,_=>rfl|[],_::_,h,_=>by grind[ltL]|_::_,[],_,h=>by grind[ltL]|x::r,y::q,h1,h2=>by simp only[ltL]at h1 h2;by_cases a:x<y;simp_all;by_cases b:y<x;simp_all;rw[if_neg a,if_neg b]at h1;rw[if_neg b,if_neg a]at h2;(have:x=y:=by omega);rw[this,E3i r q h1 h2]
theorem E3j(a b c:List Int)(h1:ltL a b=false)(h2:ltL b c=false):ltL a c=false:=by grind[E24,E3i]
section
variable{α:Type}
theorem E29(k:List Int)(v:α):∀l:List (List Int×α),(E25 k v l).Perm ((k,v)::l)|[]=>.refl _|y::r=>by unfold E25;split;exact((E29 k v r).cons y).trans (.swap _ y r);rfl
theorem E20:∀l:List (List Int×α),(E2W l).Perm l|[]=>.refl _|x::r=>(E29 x.1 x.2 _).trans ((E20 r).cons x)
theorem E3e(k:List Int)(v:α):∀l:List (List Int×α),l.Pairwise (λx y=>ltL y.1 x.1=false)->(E25 k v l).Pairwise (λx y=>ltL y.1 x.1=false)|[],_=>by simp[E25]|y::r,h=>by have h':=bN.1 h;unfold E25;split;rename_i hy;refine bN.2 ⟨λz hz=>?_,E3e k v r h'.2⟩;grind[E29,E24,E27];grind[bN,E3j]
theorem E3a:∀l:List (List Int×α),(E2W l).Pairwise (λx y=>ltL y.1 x.1=false)|[]=>.nil|x::r=>E3e x.1 x.2 _ (E3a r)
theorem E3T(l:List (List Int×α)):(E2W l).length=l.length:=(E20 l).length_eq
theorem E3f:∀{l m:List (List Int×α)},l.Perm m->l.Pairwise (λx y=>ltL y.1 x.1=false)->m.Pairwise (λx y=>ltL y.1 x.1=false)->(∀x∈l,∀y∈l,x.1=y.1->x.2=y.2)->l=m|[],m,h,_,_,_=>h.nil_eq|a::l,[],h,_,_,_=>by simp_all|a::l,b::m,h,hl,hm,hu=>by have zj:=bN.1 hl;have xM:=bN.1 hm;have h1:a∈b::m:=h.mem_iff.1 (by simp);have h2:b∈a::l:=h.mem_iff.2 (by simp);(have uO:a=b:=by grind[E3i]);subst uO;rw[E3f (av7 a|>.1 h) zj.2 xM.2 λx hx y hy=>hu x (by simp[hx]) y (by simp[hy])]
theorem E2Z{key:α->Option (List Int)}:∀{l:List α}{r:List (List Int×α)},E2T key l=some r->r.map (·.2)=l/\∀p∈r,key p.2=some p.1|[],r,h=>by simp_all[E2T]|v::l,r,h=>by simp[E2T]at h;split at h;rename_i k l' hk hl;simp at h;subst h;obtain⟨h1,h2⟩:=E2Z hl;grind;grind
end
mutual
theorem E3p:∀{x y:PV},E2S x y=true->x=y|.int k a,.int l b,h=>by simp_all[E2S]|.agg l,.agg m,h=>by simp[E2S]at h;rw[E28 h]|.sl l,.sl m,h=>by simp[E2S]at h;rw[E28 h]|.bool _,y,h|.str _,y,h|.ref _,y,h|.fn _ _,y,h|.mp _ _,y,h|.eM,y,h|.fa,y,h=>by simp[E2S]at h|.int _ _,.bool _,h|.int _ _,.str _,h|.int _ _,.agg _,h|.int _ _,.sl _,h|.int _ _,.ref _,h|.int _ _,.fn _ _,h|.int _ _,.mp _ _,h|.int _ _,.eM,h|.int _ _,.fa,h=>by simp[E2S]at h|.agg _,.int _ _,h|.agg _,.bool _,h|.agg _,.str _,h|.agg _,.sl _,h|.agg _,.ref _,h|.agg _,.fn _ _,h|.agg _,.mp _ _,h|.agg _,.eM,h|.agg _,.fa,h=>by simp[E2S]at h|.sl _,.int _ _,h|.sl _,.bool _,h|.sl _,.str _,h|.sl _,.agg _,h|.sl _,.ref _,h|.sl _,.fn _ _,h|.sl _,.mp _ _,h|.sl _,.eM,h|.sl _,.fa,h=>by simp[E2S]at h
theorem E28:∀{x y:List PV},E2Y x y=true->x=y|[],[],_=>rfl|x::r,y::q,h=>by simp[E2Y]at h;rw[E3p h.1,E28 h.2]|[],_::_,h|_::_,[],h=>by simp[E2Y]at h
end
theorem E3B{l:List (List Int×PV)}(h:E2X E2S l=true):∀x∈l,∀y∈l,x.1=y.1->x.2=y.2:=by intro x hx y hy hk;have h2:=bB.1 (bB.1 h x hx) y hy;grind[E3p]
variable{P:Program}
def E30(P:Program)(gf:Nat)(key:PV->Option (List Int)):Prop:=∃Φ:lW,pj P Φ/\∀x y kx ky,key x=some kx->key y=some ky->∃c:Int,(c<0↔ltL kx ky=true)/\∃dH,KI Φ gf [.p x,.p y] []=some (.p (.int .i64 c),[],dH)
theorem E3C{w w':World}(h1:w'.os=w.os)(h2:w'.tape=w.tape)(h3:w'.output=w.output/\w.drawn<=w'.drawn)(hs:w.heap.size<=w'.heap.size)(hk:∀b,b<w.heap.size->w'.heap[b]?=w.heap[b]?):∃q Yl,w'=oY (nN w q) Yl:=by refine⟨w'.drawn-w.drawn,w'.heap.extract w.heap.size w'.heap.size,?_⟩;obtain⟨hp,tp,dr,os,out⟩:=w;obtain⟨iw,tp',dr',Yl,jv⟩:=w';simp at h1 h2 h3 hs hk;subst h1 h2;obtain⟨rfl,h3⟩:=h3;simp[oY,nN];grind
theorem E3U{Φ:lW}(hT:pj P Φ){gf:Nat}{x y:PV}{c:Int}{dH:List (Obj Nat)}(hk:KI Φ gf [.p x,.p y] []=some (.p (.int .i64 c),[],dH)){W:World}{A:Nat->Prop}(tH:GL P W A)(hA:∀b,A b->b<W.heap.size){vx vy:Value}(px:pD W A x vx)(py:pD W A y vy):Calls P gf #[vx,vy] W λe w'=>e=.returned (.int .i64 c)/\∃q Yl,w'=oY (nN W q) Yl:=by obtain⟨n,hn⟩:=O6 hk;obtain⟨_,hc⟩:=C5e hT n gf _ _ _ _ _ hn;have V1:MR W A (λ_=>ja) (nn []) S0:=MR.none hA;(have hv:c9 W A (λ_=>ja) S0 [.p x,.p y] [vx,vy]:=by grind[c9,bR]);refine(hc W A _ [vx,vy] tH hv V1).mono ?_;rintro e w'⟨v,he,A',E',nx',q1,q2,q3⟩;have YP:∀b,b<W.heap.size->w'.heap[b]?=W.heap[b]?:=λb hb=>q2.aSO b hb (λho=>by obtain⟨i,o,ho,_⟩:=ho;cases ho);simp[bR]at q3;obtain⟨cs,h1,h2⟩:=q3;simp[dU]at h1;subst h1;exact⟨by rw[he,h2];rfl,E3C q2.os q2.tape q2.output q2.size YP⟩
def E3b(P:Program)(f gf z:Nat)(ag:Bool):Prop:=∀(n:Nat)(enc:Fin (n+1)->List Value)(cf:Fin (n+1)->Fin (n+1)->Int)(b off cap:Nat)(w:World),(∀x,(enc x).length=z)->(∀x,∀v∈enc x,v.oneCell'=true)->Sort.SWO (λx y=>decide (cf x y<0))->(∀W:World,W.os=w.os->W.tape=w.tape->W.output=w.output->w.heap.size<=W.heap.size->(∀x,x≠b->x<w.heap.size->W.heap[x]?=w.heap[x]?)->∀x y,Calls P gf #[pk ag (enc x),pk ag (enc y)] W λe w'=>e=.returned (.int .i64 (cf x y))/\∃q Yl,w'=oY (nN W q) Yl)->(∀i:Fin (n+1),Row w b (off+i.val*z) (enc i))->(∀j,w.frozen? ⟨b,j,none⟩=false)->b<w.heap.size->n+1<4611686018427387904->Calls P f #[.slice (some ⟨b,off,none⟩) (n+1) cap,.func (.func gf) #[] #[]] w λe w'=>e=.returned (.tuple #[])/\∃d:List (Fin (n+1)),d.Perm (Z0 (n+1))/\d.Pairwise (λx y=>¬cf y x<0)/\w'.os=w.os/\w'.tape=w.tape/\w'.output=w.output/\w.drawn<=w'.drawn/\w.heap.size<=w'.heap.size/\∀x,x<w.heap.size->w'.heap[x]?=(w.setCells b off (d.flatMap enc)).heap[x]?
def E3k(P:Program)(f gf:Nat):Prop:=∃Φ:lW,∃n,pj P Φ/\og Φ (run Φ n) f [.p (.sl []),.p (.fn gf [])] []=some (.eI [],[],[])
theorem E3l{f gf:Nat}(hgf:gf<yq)(hn:E3k P f gf){w:World}{A:Nat->Prop}{E:dP An}{h:cj}(tH:GL P w A)(hm:MR w A E h S0)(a:Option Addr)(cap:Nat):Calls P f #[.slice a 0 cap,.func (.func gf) #[] #[]] w λe w'=>e=.returned (.tuple #[])/\MR w' A E h S0/\gC w A E S0 w' A E:=by obtain⟨Φ,n,hT,hk⟩:=hn;obtain⟨_,hc⟩:=C5e hT n f _ _ _ _ _ hk;have V1:MR w A (λ_=>ja) (nn []) S0:=MR.none hm.im;(have hv:c9 w A (λ_=>ja) S0 [.p (.sl []),.p (.fn gf [])] [.slice a 0 cap,.func (.func gf) #[] #[]]:=by simp only[c9];refine⟨_,_,rfl,(xD (E:=λ_=>ja) (nx:=S0)).2 ⟨a,cap,rfl,dg _,.inl rfl⟩,_,[],rfl,?_,rfl⟩;simp[bR];refine⟨[xC gf #[]],?_,by rw[RK hgf];rfl⟩;simp_all[dU,kM]);refine(hc w A _ _ tH hv V1).mono ?_;rintro e w'⟨v,he,A',E',nx',q1,q2,q3⟩;have hk:∀b,b<w.heap.size->w'.heap[b]?=w.heap[b]?:=λb hb=>q2.aSO b hb (λho=>by obtain⟨i,o,ho,_⟩:=ho;cases ho);simp only[bR,c9]at q3;obtain⟨vs,Cs,xF⟩:=q3;subst xF;exact⟨by simp_all,hm.more q2.size hk,gC.more q2.os q2.tape q2.output q2.size hk⟩
theorem E26(b:Nat):∀(vs:List Value)(o:Nat)(w:World),(w.setCells b o vs).drawn=w.drawn|[],_,_=>rfl|v::r,o,w=>by rw[World.setCells];exact E26 b r (o+1) _
theorem E3q{w:World}{A:Nat->Prop}{ι:Type}{v:ι->PV}{enc:ι->List Value}(h:∀i,dU w A (v i) (enc i)):∀d:List ι,cK w A (d.map v) (d.flatMap enc)|[]=>by rfl|i::r=>by simp[cK];exact⟨enc i,_,rfl,h i,E3q h r⟩
theorem E3H{w:World}{A:Nat->Prop}{E:dP An}{nx:di}{gf:Nat}(hgf:gf<yq){v:Value}(h:bR w A E nx (.p (.fn gf [])) v):v=.func (.func gf) #[] #[]:=by simp[bR]at h;obtain⟨cs,h1,h2⟩:=h;simp only[dU,kM]at h1;obtain⟨vs,rfl,rfl⟩:=h1;rw[h2,RK hgf];rfl
theorem E3v {f gf z:Nat}{ag:Bool}{key:PV->Option (List Int)}(axt:gf<yq)(BR:Gy P f)(hct:E3b P f gf z ag)(hc:E30 P gf key)(hn:E3k P f gf)(F2:∀ v k,key v=some k->v.isAgg=ag):Iz P f (.au9 gf z key):=by
 intro args ext r ext' dH hp
 unfold xy at hp
 split at hp
 . simp_all
 . simp_all
 . simp_all
 . simp_all
 . simp_all
 . simp_all
 . simp_all
 . -- an array
   rename_i gf2 z2 ax3 id path off len g gf' o hpr
   cases hpr
   split at hp
   . rename_i gk
     obtain ⟨rfl,rfl,hgf⟩:=gk
     unfold E21 at hp
     split at hp
     . rename_i ts ia
       split at hp
       . rename_i vs fN
         split at hp
         . rename_i kvs ax4
           split at hp
           . rename_i axu
             simp at axu
             obtain ⟨kN,eC⟩:=axu
             split at hp
             . rename_i h' jn
               split at hp
               . rename_i o' oZ
                 simp only [aa,ae] at hp
                 obtain ⟨rfl,rfl,rfl⟩:=hp
                 refine ⟨BR,?_⟩
                 intro w A E gR tH hv hm
                 simp only [c9] at hv
                 obtain ⟨v,d,rfl,hv,fv,d2,rfl,Gz,rfl⟩:=hv
                 have Gz:=E3H hgf Gz
                 subst Gz
                 have hh':=C1R jn oZ
                 obtain ⟨an,ad,cap,rfl,xe,nU,bW,kG⟩:=SZ hm hv jn
                 subst xe
                 have htv:=H7 fN
                 obtain ⟨Ic,YP⟩:=E2Z ax4
                 have axv:kvs.length=vs.length:=by grind
                 have ia:(match jq (nn [o] ep) path with
                  | some (g',_,l)=>if g'=an.g∧off+len<=l.length then some ((l.drop off).take len) else none
                  | none=>none)=some ts:=ia
                 split at ia
                 . rename_i g' z' l EY
                   split at ia
                   . rename_i dV
                     simp at ia
                     obtain ⟨hg,hle⟩:=dV
                     have hlen:vs.length=len:=by
                      grind [aB]
                     rw [← hh']
                     by_cases h0:len=0
                     . have Mg:kvs=[]:=bu (by omega)
                       subst h0
                       have Qp:(E2W kvs).map (·.2)=[]:=by rw [Mg];rfl
                       rw [Qp] at jn
                       refine (E3l hgf hn tH hm ad cap).mono ?_
                       rintro e w' ⟨he,k1,k2⟩
                       obtain ⟨_,E',ox,qn⟩:=Ku k1 bW jn (cs:=[]) (by rfl)
                       cases hb:an.b with
                       | none =>
                         obtain ⟨q1,q2⟩:=qn hb
                         exact ⟨_,he,A,E',S0,q1,k2.trans q2 (di.le_refl _),Mf⟩
                       | some b =>
                         obtain ⟨q1,q2,_,_⟩:=ox b hb
                         exact ⟨_,he,A,E',S0,q1,k2.trans q2 (di.le_refl _),Mf⟩
                     . obtain ⟨n,rfl⟩:∃ n,len=n+1:=⟨len-1,by omega⟩
                       cases hb:an.b with
                       | none =>
                         simp_all [kU]
                       | some b =>
                         simp only [kU,hb] at kG
                         rcases kG.2 with ⟨h1,_⟩ | hA
                         . omega
                         obtain ⟨rU,l',nB,hg',zj⟩:=hm.vec EY
                         have hnd:=uG nB
                         rw [bW] at hnd
                         simp at hnd
                         obtain ⟨rfl,rfl⟩:=hnd
                         have hVB:=hm.vO nB
                         simp [VB,hb] at hVB
                         obtain ⟨hblk,oq,eV,hts⟩:=hVB
                         have hbA:¬ A b:=by
                          obtain ⟨oo,hEo,lZ⟩:=B9H hm nB
                          exact (hm.j6 hEo (lZ b (by simp [hb]))).2
                         have yH:b<w.heap.size:=by
                          obtain ⟨c,ty,hc,_⟩:=hblk
                          grind
                         have kV:∀ i:Fin (n+1),∃ cs,dU w A (vs.getD i.val .eM) cs∧Row w b (off*z+i.val*z) cs∧cs.length=z:=by
                          intro i
                          have hi:i.val<vs.length:=by omega
                          have e1:(((l.drop off).take (n+1)))[i.val]?=some (T.p vs[i.val]):=by
                           grind
                          rw [dL i.isLt,fY,zj,aL] at e1
                          cases ht:l'[off+i.val]? with
                          | none=>grind
                          | some t =>
                            rw [ht] at e1
                            simp at e1
                            cases t<;>simp [T.mapA] at e1
                            subst e1
                            have hk:=hts.elem eV ht
                            simp [TAt] at hk
                            obtain ⟨cs,h1,h2⟩:=hk
                            have hz:=eV _ (List.mem_of_getElem? ht)
                            simp at hz
                            refine ⟨cs,?_,by grind,by rw [h1.len,hz]⟩
                            grind
                         have awg:∀ i:Fin (n+1),∃ k,key (vs.getD i.val .eM)=some k∧kvs[i.val]?=some (k,vs.getD i.val .eM):=by
                          grind
                         obtain ⟨Φ,hT,awF⟩:=hc
                         have hcf:∀ i j:Fin (n+1),∃ c:Int,(∀ ki kj,kvs[i.val]?=some (ki,vs.getD i.val .eM)->kvs[j.val]?=some (kj,vs.getD j.val .eM)->(c<0↔ltL ki kj=true))∧∃ dH,KI Φ gf' [.p (vs.getD i.val .eM),.p (vs.getD j.val .eM)] []=some (.p (.int .i64 c),[],dH):=by
                          intro i j
                          obtain ⟨ki,h1,h2⟩:=awg i
                          grind
                         have axw:∀ i:Fin (n+1),∃ k,kvs[i.val]?=some (k,vs.getD i.val .eM):=λi=>by grind
                         obtain ⟨enc,aww⟩:=auY kV
                         obtain ⟨ky,hky⟩:=auY axw
                         obtain ⟨cf,aw_⟩:∃ cf:Fin (n+1)->Fin (n+1)->Int,∀ i j,(cf i j<0↔ltL (ky i) (ky j)=true)∧∃ dH,KI Φ gf' [.p (vs.getD i.val .eM),.p (vs.getD j.val .eM)] []=some (.p (.int .i64 (cf i j)),[],dH):=by
                          obtain ⟨F,hF⟩:=auY (λp:Fin (n+1)×Fin (n+1)=>hcf p.1 p.2)
                          exact ⟨λi j=>F (i,j),λi j=>⟨(hF (i,j)).1 _ _ (hky i) (hky j),(hF (i,j)).2⟩⟩
                         have awS:∀ i j,decide (cf i j<0)=ltL (ky i) (ky j):=λi j=>by
                          grind
                         have ax6:Sort.SWO (λx y=>decide (cf x y<0)):=by
                          constructor
                          all_goals grind [E27,E24,E3j]
                         have vo:=hct n enc cf b (off*z) cap w (λi=>(aww i).2.2) (λi=>(aww i).1.ke) ax6 (by
                          intro W h1 h2 h3 h4 h5 i j
                          have hW:∀ x,A x->W.heap[x]?=w.heap[x]?:=λx hx=>h5 x (λe=>hbA (e ▸ hx)) (hm.im x hx)
                          obtain ⟨_,dH,hK⟩:=aw_ i j
                          refine E3U hT hK (tH.frame (λ_ h=>h) hW) (λx hx=>br (hm.im x hx) h4) ?_ ?_
                          . obtain ⟨k,hk,_⟩:=awg i
                            rw [← F2 _ _ hk]
                            exact ⟨_,(aww i).1.frame (λ_ h=>h) hW,rfl⟩
                          . obtain ⟨k,hk,_⟩:=awg j
                            rw [← F2 _ _ hk]
                            exact ⟨_,(aww j).1.frame (λ_ h=>h) hW,rfl⟩)
                          (λi=>(aww i).2.1) (λj=>by obtain ⟨c,ty,h1,_⟩:=hblk;grind [World.frozen?]) yH (by omega)
                         rw [hA]
                         refine vo.mono ?_
                         rintro e w' ⟨he,d,axx,awT,o1,o2,o3,o4,o5,o6⟩
                         have Hy:(E2W kvs).map (·.2)=d.map λi=>vs.getD i.val .eM:=by
                          have e0:d.map (λi=>(ky i,vs.getD i.val .eM))=E2W kvs:=by
                           have p1:(d.map λi:Fin (n+1)=>(ky i,vs.getD i.val .eM)).Perm kvs:=by
                            refine (axx.map _).trans ?_
                            have:(Z0 (n+1)).map (λi:Fin (n+1)=>(ky i,vs.getD i.val .eM))=kvs:=by
                             apply List.ext_getElem?
                             grind
                            rw [this]
                           refine E3f (p1.trans (E20 kvs).symm) ?_ (E3a kvs) (λx hx y hy xL=>E3B kN x (p1.mem_iff.1 hx) y (p1.mem_iff.1 hy) xL)
                           grind
                          rw [← e0,sk]
                          rfl
                         obtain ⟨_,E',ox,_⟩:=Ku hm bW jn (cs:=d.flatMap enc) (by grind [E3q])
                         obtain ⟨q1,q2,_,_⟩:=ox b hb
                         obtain ⟨s1,s2,s3,s4⟩:=zi b (d.flatMap enc) (off*z) w
                         have hss:(w.setCells b (off*z) (d.flatMap enc)).heap.size<=w'.heap.size:=by omega
                         have hkk:∀ x,x<(w.setCells b (off*z) (d.flatMap enc)).heap.size->w'.heap[x]?=(w.setCells b (off*z) (d.flatMap enc)).heap[x]?:=λx hx=>o6 x (by omega)
                         exact ⟨_,he,A,E',S0,q1.more hss hkk,q2.trans (gC.more (o1.trans s2.symm) (o2.trans s3.symm) ⟨o3.trans s4.1.symm,by grind [E26]⟩ hss hkk) (di.le_refl _),Mf⟩
                   simp_all
                 simp_all
               simp_all
             simp_all
           simp_all
         simp_all
       simp_all
     simp_all
   simp_all
 . rename_i gf2 z2 ax3 zz gf' hpr
   cases hpr
   split at hp
   . rename_i hgf
     subst hgf
     simp only [aa,ae] at hp
     obtain ⟨rfl,rfl,rfl⟩:=hp
     refine ⟨BR,?_⟩
     intro w A E gR tH hv hm
     simp only [c9] at hv
     obtain ⟨v,d,rfl,hv,fv,d2,rfl,Gz,rfl⟩:=hv
     have Gz:=E3H axt Gz
     subst Gz
     simp [bR] at hv
     obtain ⟨a,rfl⟩:=hv
     refine (E3l axt hn tH hm a 0).mono ?_
     grind [Qs,Mf]
   simp_all
 all_goals simp_all
end Go.Mid
namespace Go.Mid
def E2Q(t:Ty)(key:PV->Option (List Int))(l:List (El t)):Option (List (El t)):=(E2T (λx=>key (enc t x)) l).bind λkvs=>bif E2X (λx y=>E2S (enc t x) (enc t y)) kvs then some ((E2W kvs).map (·.2))else none
def E3M(gf:Nat):W->Bool|.c (.fn f [])=>f==gf|.v (.fn f []) _=>f==gf|_=>false
theorem E3I{gf:Nat}{x:W}(h:E3M gf x=true):cW x=.p (.fn gf []):=by unfold E3M at h;split at h;rw[beq_iff_eq]at h;subst h;rfl;rw[beq_iff_eq]at h;subst h;rfl;cases h
def E3w(gf z:Nat)(key:PV->Option (List Int))(x:CR):Tree R2:=match x.1,x.2 with|[.own id path off len g,fw],[o]=>if id==ep&&E3M gf fw&&cP gf yq then(zG o path).bind λv=>if v.1==g&&v.2.1==z then match v.2.2 with|.base s t l=>if t.pure&&t.cs==z then(Tree.ask (cQ (match off with|none=>len|some k=>k+len) (l.length))).bind λ_=>(Tree.ask (cP ((yZ off len l).length) 4611686018427387904)).bind λ_=>Tree.opt [] (E2Q t key (yZ off len l)) λm=>match path with|[]=>(match o with|.vec a z _=>.leaf (.eI [],[.vec a z (.base s t (A1x l off m))],[])|_=>.fail)|p::q=>(zF o (p::q)).bind λu=>match D0 u with|some (a,z,_,n)=>(BE (.vec a z (.base s t (A1x l off m)) n) o (p::q)).bind λo'=>.leaf (.eI [],[o'],[])|none=>.fail else .fail|_=>.fail else .fail else .fail|[.nil _,fw],[]=>if E3M gf fw then .leaf (.eI [],[],[])else .fail|_,_=>.fail
section
variable{α β:Type}
theorem E3m(key:β->Option (List Int))(f:α->β):∀l:List α,E2T key (l.map f)=(E2T (λx=>key (f x)) l).map λr=>r.map λp=>(p.1,f p.2)|[]=>rfl|x::r=>by simp only[aF,E2T,E3m key f r];cases key (f x)<;>cases E2T (λx=>key (f x)) r<;>rfl
theorem E3x(f:α->β)(k:List Int)(v:α):∀l:List (List Int×α),E25 k (f v) (l.map λp=>(p.1,f p.2))=(E25 k v l).map λp=>(p.1,f p.2)|[]=>rfl|y::r=>by simp only[aF,E25];split;simp only[aF,E3x f k v r];simp only[aF]
theorem E3r(f:α->β):∀l:List (List Int×α),E2W (l.map λp=>(p.1,f p.2))=(E2W l).map λp=>(p.1,f p.2)|[]=>rfl|x::r=>by simp only[aF,E2W,E3r f r,E3x]
theorem E3N(same:β->β->Bool)(f:α->β)(l:List (List Int×α)):E2X same (l.map λp=>(p.1,f p.2))=E2X (λx y=>same (f x) (f y)) l:=by unfold E2X;simp only[List.all_map];rfl
end
theorem E3O{t:Ty}{key:PV->Option (List Int)}{l m:List (El t)}(h:E2Q t key l=some m):∃kvs,E2T key (l.map (enc t))=some kvs/\E2X E2S kvs=true/\(E2W kvs).map (·.2)=m.map (enc t)/\m.length=l.length:=by unfold E2Q at h;cases hk:E2T (λx=>key (enc t x)) l with|none=>rw[hk]at h;cases h|some kvs=>rw[hk]at h;simp only[Option.bind_some]at h;cases kN:E2X (λx y=>E2S (enc t x) (enc t y)) kvs with|false=>rw[kN]at h;cases h|true=>rw[kN]at h;simp only[cond_true,aa]at h;subst h;refine⟨kvs.map λp=>(p.1,enc t p.2),by rw[E3m,hk];rfl,by rw[E3N];exact kN,by rw[E3r,sk,sk];rfl,?_⟩;rw[aB,E3T,<-(E2Z hk).1,aB]
theorem E3y{s:Nat}{t:Ty}(hp:t.pure=true)(l:List (El t)):eL (.base s t l)=(l.map (enc t)).map T.p:=by simp only[eL];rw[sk];exact List.map_congr_left λx _=>tj s t x hp
theorem E3P{o:O2}{path:List Step}{off:Option Nat}{len g z s:Nat}{t:Ty}{l:List (El t)}(hp:t.pure=true)(h1:(zG o path).den=some (g,z,.base s t l))(h3:(match off with|none=>len|some k=>k+len)<=l.length):elems (nn [cO o]) (.own ep (iN path) (off.getD 0) len g)=some (((yZ off len l).map (enc t)).map T.p):=by have hv:=Ao h1;simp only[elems,Ws,hv];rw[E3y hp];(have hle:off.getD 0+len<=((l.map (enc t)).map (T.p (α:=Nat))).length:=by rw[aB,aB];cases off with|none=>simpa using h3|some k=>exact h3);rw[if_pos ⟨trivial,hle⟩];unfold yZ;cases off<;>simp[bP,eZ]
theorem E3g{key:PV->Option (List Int)}{path:List Nat}{off len g z:Nat}{o o':Obj Nat}{vs ms:List PV}{kvs:List (List Int×PV)}{h':cj}(h1:elems (nn [o]) (.own ep path off len g)=some (vs.map T.p))(h2:vs.length<4611686018427387904)(hk:E2T key vs=some kvs)(ho:E2X E2S kvs=true)(hm:(E2W kvs).map (·.2)=ms)(h3:qT (nn [o]) ep path g z off ms=some h')(h4:h' ep=some o'):E21 key z path off len g o=some (.eI [],[o'],[]):=by subst hm;unfold E21;simp only[h1,Ug,hk,ho,h3,h4,Bool.true_and,decide_eq_true h2,if_true]
theorem E3J{t:Ty}{z:Nat}(hz:t.cs=z)(m:List (El t)):(m.map (enc t)).all (λv=>v.cs==z)=true:=by rw[bB];intro v hv;obtain⟨n,_,rfl⟩:=bp.1 hv;rw[Bz,hz,beq_self_eq_true]
theorem E3V{gf z:Nat}{key:PV->Option (List Int)}{x:CR}{r:R2}(e:(E3w gf z key x).den=some r):xy (.au9 gf z key) (lG x).1 (lG x).2=some (A1M r):=by obtain⟨ws,os⟩:=x;unfold E3w at e;simp only at e;split at e;rename_i id path off len g fw o;split at e;rename_i gk;simp only[aj,beq_iff_eq]at gk;obtain⟨⟨rfl,zx⟩,hgf⟩:=gk;have hgf:=il.mp hgf;simp only[Tree.den_bind]at e;obtain⟨⟨g',z',a⟩,h1,e⟩:=e;split at e;rename_i hc;simp only[aj,beq_iff_eq]at hc;obtain⟨rfl,rfl⟩:=hc;split at e;rename_i s t l yH;simp only at yH;subst yH;split at e;rename_i Kx;simp only[aj,beq_iff_eq]at Kx;obtain⟨hp,hz⟩:=Kx;simp only[Tree.den_bind,Tree.dB,Tree.lL]at e;obtain⟨_,h3,_,h4,m,h2,e⟩:=e;have h3:=cp.mp h3;have h4:=il.mp h4;have ia:=E3P hp h1 h3;obtain⟨kvs,k1,k2,k3,k4⟩:=E3O h2;(have Mn:(match off with|none=>0|some k=>k)+(yZ off len l).length<=l.length:=by unfold yZ;cases off with|none=>simp;omega|some k=>simp only[aW,cm];simp only at h3;omega);(have Fw:off.getD 0+(m.map (enc t)).length<=((l.map (enc t)).map (T.p (α:=Nat))).length:=by rw[aB,aB,aB,k4];cases off with|none=>simpa using Mn|some k=>exact Mn);have e1:=E3y (s:=s) hp l;(have e2:eL (.base s t (A1x l off m))=oa (eL (.base s t l)) (off.getD 0) (m.map (enc t)):=by rw[eL,eL,U7 hp]);(have goal:xy (.au9 gf z' key) [.own ep (iN path) (off.getD 0) len g',.p (.fn gf [])] [cO o]=some (A1M r):=by(have DC:xy (.au9 gf z' key) [.own ep (iN path) (off.getD 0) len g',.p (.fn gf [])] [cO o]=E21 key z' (iN path) (off.getD 0) len g' (cO o):=by simp only[xy];rw[if_pos ⟨trivial,trivial,hgf⟩]);rw[DC];rw[e1]at e2;cases path with|nil=>(cases o with|vec a z al=>simp only[Tree.aXq]at e;subst e;have hv:=Ao h1;simp only[cO,iN,jq,aa,ae]at hv;obtain⟨rfl,rfl,eV⟩:=hv;refine E3g (h':=cq (nn [cO (.vec a z al)]) ep (some (cO (.vec a z (.base s t (A1x l off m)))))) ia (by rw[aB];exact h4) k1 k2 k3 ?_ (nV _ _ _);unfold qT;rw[if_pos (E3J hz m),Ws];simp only[cO,iN];rw[eV,e1,if_pos ⟨trivial,trivial,Fw⟩,e2]|_=>simp at e)|cons p q=>simp only[Tree.den_bind]at e;obtain⟨u,h5,e⟩:=e;split at e;rename_i a z al n hu;simp only[Tree.den_bind,Tree.aXq]at e;obtain⟨o',h6,rfl⟩:=e;have dK:=Fg h5;rw[G5 hu]at dK;have eN:=DT h6;have hv:=Ao h1;(have EY:jq (some (cO o)) (iN (p::q))=some (a,z,eL al):=by refine A8P (λg z l _ hp=>?_) dK;simp[iN]at hp);rw[EY]at hv;simp only[aa,ae]at hv;obtain⟨rfl,rfl,eV⟩:=hv;refine E3g (h':=cq (nn [cO o]) ep (some (cO o'))) ia (by rw[aB];exact h4) k1 k2 k3 ?_ (nV _ _ _);unfold qT;rw[if_pos (E3J hz m),Ws];split;rename_i e8 e9;simp[iN]at e9;rw[dK];simp only;rw[eV,e1,if_pos ⟨trivial,trivial,Fw⟩,<-e2];have:put (some (cO o)) (iN (p::q)) (.vec a z (eL (.base s t (A1x l off m))) n)=some (cO o'):=eN;rw[this];simp at e);have hfw:=E3I zx;show xy (.au9 gf z' key) [.own ep (iN path) (off.getD 0) len g',cW fw] [cO o]=_;rw[hfw];exact goal;simp at e;simp at e;simp at e;simp at e;rename_i z0 fw;split at e;rename_i zx;simp only[Tree.aXq]at e;subst e;show xy (.au9 gf z key) [.nil z0,cW fw] []=_;rw[E3I zx];simp only[xy,if_true];rfl;simp at e;simp at e
theorem E3s{Φ:lW}{f gf z:Nat}{key:PV->Option (List Int)}(hΦ:Φ f=some (.qU (.au9 gf z key))){I:Gen lG}{O:Gen A1M}{fn:I.A->Option O.A}(h:∀a,((E3w gf z key (I.mk a)).bind O.un).den=fn a):pM Φ ⟨f,I,O,fn⟩:=by intro a r hr;have e:=(h a).trans hr;rw[Tree.den_bind]at e;obtain⟨x,h1,h2⟩:=e;show KI Φ f (lG (I.mk a)).1 (lG (I.mk a)).2=some (A1M (O.mk r));rw[T1 hΦ,E3V h1,O.law x r h2]
def E2V:PV->Option (List Int)|.sl l=>(match Cj l with|some (a::_)=>some [a]|_=>none)|_=>none
end Go.Mid
namespace Go.Mid
open Go.RowKit Go.Proofs Go.Shelf
theorem E3D{α:Type}[Inhabited α](enc:α->Value)(o:Nat)(zs:List α)(c:Array Value):Md o (zs.map enc) c=ud enc o zs.toArray c:=by apply aBz;intro k;rw[B6X];unfold ud;rw[avt];by_cases hk:k<c.size;rw[jo hk];simp only[ak,fx,aB];by_cases h:o<=k/\k<o+zs.length;rw[if_pos ⟨h.1,h.2,hk⟩,if_pos h];(have eC:k-o<zs.length:=by omega);rw[aL,ah eC];simp[eC];rw[if_neg (by omega),if_neg h];rw[ik (by omega)];rw[if_neg (by omega)];rfl
theorem E3c{α:Type}[Inhabited α](enc:α->Value)(w:World)(b o:Nat)(zs:List α):w.setCells b o (zs.map enc)=fq enc w b o zs.toArray:=by rw[B5B];unfold fq;congr 1;funext c;exact E3D enc o zs c
section
variable{α:Type}[Inhabited α]{enc:α->List Value}{k:Nat}
end
theorem E3n{n:Nat}{d d':Array (Fin (n+1))}(hd:d=(Z0 (n+1)).toArray)(hp:Sort.PermIn 0 d.size d d'):d'.toList.Perm (Z0 (n+1)):=by obtain⟨h1,_,h3⟩:=hp;(have e1:d'.extract 0 d.size=d':=by rw[<-h1];simp);(have e2:d.extract 0 d.size=d:=by simp);rw[e1,e2,hd]at h3;simpa using h3
theorem E3o{n:Nat}{cf:Fin (n+1)->Fin (n+1)->Int}{d d':Array (Fin (n+1))}(h1:d'.size=d.size)(hs:Sort.SortedIn (ltOf cf) 0 d.size d'):d'.toList.Pairwise (λx y=>¬cf y x<0):=by rw[List.pairwise_iff_getElem];intro i j hi hj gM;(have hi':i<d'.size:=by simpa using hi);(have Dy:j<d'.size:=by simpa using hj);have:=hs i j (dg _) gM (by rw[<-h1];exact Dy);rw[getElem!_pos d' j Dy,getElem!_pos d' i hi']at this;unfold ltOf at this;simpa using this
theorem E33{P:Program}{ρ:Ren}(L:SlLaysF.n6 P ρ){f gf:Nat}(hf:ρ.f 6=f)(eg:∀args w,(callFunc gf args).run P w=.ok (.enter gf args) w):E3b P f gf 1 false:=by intro n enc cf b off cap w hk h1 hO awF hrow Fa hb hn;subst hf;(have hds:(Z0 (n+1)).toArray.size=n+1:=by simp);(obtain⟨e1,he1⟩:∃e1:Fin (n+1)->Value,∀x,enc x=[e1 x]:=by refine⟨λx=>(enc x).headD undef,λx=>?_⟩;have:=hk x;match h:enc x,this with|[v],_=>show[v]=[(enc x).headD undef];rw[h];rfl);(have hcL:CmpLays1 P gf #[] e1 cf b off (Z0 (n+1)).toArray.size w:=by intro m os dk hs x y;have:=awF (sortWorld e1 w b off m dk os) rfl rfl rfl (by simp[sortWorld,oY,fq,jJ,nN]) (λi hi hl=>by simp only[sortWorld,oY,fq,jJ,nN];rw[jb (by simpa using hl),kJ,if_neg (Ne.symm hi)]) x y;rw[Array.append_empty];rw[he1,he1]at this;exact this);(have hH:ym e1 w b off (Z0 (n+1)).toArray:=by intro t ht;(have Ib:t<n+1:=by simpa using ht);refine⟨?_,Fa _⟩;(have e2:(Z0 (n+1)).toArray[t]! =(⟨t,Ib⟩:Fin (n+1)):=by rw[getElem!_pos (Z0 (n+1)).toArray t (by simpa using Ib)];simp);rw[e2];have:=hrow ⟨t,Ib⟩ 0 (e1 ⟨t,Ib⟩) (by rw[he1];rfl);simpa using this);(have ayf:OneCell e1:=λx=>by have:=h1 x (e1 x) (by rw[he1];simp);exact this);have awK:=Any.slices_SortFunc L e1 ayf cf hO gf #[] b off cap (Z0 (n+1)).toArray w eg hcL hH hb (by rw[hds];exact hn);rw[hds]at awK;refine awK.mono ?_;rintro e w'⟨he,d',m,os,hp,hs,rfl⟩;have hsz:d'.size=n+1:=hp.1.trans hds;(have tM:d'.toList.flatMap enc=d'.toList.map e1:=by have:enc=λx=>[e1 x]:=funext he1;rw[this];induction d'.toList with|nil=>rfl|cons x r ih=>simp[List.flatMap_cons,ih]);refine⟨he,d'.toList,?_,?_,rfl,rfl,rfl,fT _ _,?_,?_⟩;exact E3n (d:=(Z0 (n+1)).toArray) rfl (by rw[hds];exact hp);exact E3o (d:=(Z0 (n+1)).toArray) (by rw[hds];exact hsz) (by rw[hds];exact hs);simp[sortWorld,oY,fq,jJ,nN];intro x hx;rw[tM,E3c];simp only[sortWorld,oY,fq,jJ,nN,Array.toArray_toList];rw[jb (by simpa using hx)]
end Go.Mid
