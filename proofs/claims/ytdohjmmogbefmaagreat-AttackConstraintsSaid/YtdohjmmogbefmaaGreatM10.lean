/- slices.Sort of numbers: the shelf's contract as a primitive of the middle semantics. -/
import Derived.Test.YtdohjmmogbefmaaGreatM9
import Derived.Sort.Row
import Derived.Sort.Grow
import Derived.Test.YtdohjmmogbefmaaGreatM6
import Derived.Sort.Statements
set_option linter.unusedSimpArgs false
set_option linter.unusedVariables false
set_option maxHeartbeats 1000000
open Go.Sort renaming mapBlock->jJ,putCells->ud,putRow->fq,Holds->ym,grow->oY,ahead->nN
open Go.Value renaming int->bX
open List renaming length_map->aB,getElem?_map->aL,getElem?_eq_getElem->ah,pairwise_cons->bN,mem_cons->aG,getElem?_eq_none->bJ
open Nat renaming lt_of_lt_of_le->br,mul_one->gz
open Option renaming map_some->ak,none->ja
open Option.some renaming injEq->aa
open Prod.mk renaming injEq->ae
namespace Go.Mid
open Go.RowKit
variable{P:Program}
theorem MR.more{w w':World}{A:Nat->Prop}{E:dP An}{h:cj}{nx:di}(m:MR w A E h nx)(hs:w.heap.size<=w'.heap.size)(hk:∀b,b<w.heap.size->w'.heap[b]?=w.heap[b]?):MR w' A E h nx where
 er:=m.er
 at_:=λi o ho=>(m.at_ i o ho).frame ⟨λ_ hb=>hb,λb hb=>hk b (m.im b hb),pf.refl _ _,di.le_refl _⟩ (λx hx=>hk x (m.lt x ⟨i,o,ho,hx⟩).1)
 lt:=λb hb=>⟨br (m.lt b hb).1 hs,(m.lt b hb).2⟩
 nd:=m.nd
 dj:=m.dj
 im:=λb hb=>br (m.im b hb) hs
 st:=m.st
theorem gC.more{w w':World}{A:Nat->Prop}{E:dP An}{nx:di}(h1:w'.os=w.os)(h2:w'.tape=w.tape)(h3:w'.output=w.output/\w.drawn<=w'.drawn)(hs:w.heap.size<=w'.heap.size)(hk:∀b,b<w.heap.size->w'.heap[b]?=w.heap[b]?):gC w A E nx w' A E where
 os:=h1
 tape:=h2
 output:=h3
 size:=hs
 aSO:=λb hb _=>hk b hb
 sub:=λ_ hb=>hb
 imm:=λ_ _ hb=>.inl hb
 own:=λ_ _ hb=>hb
 ns:=pf.refl _ _
def Md:Nat->List Value->Array Value->Array Value|_,[],c=>c|o,v::r,c=>Md (o+1) r (c.setIfInBounds o v)
theorem B5B(b:Nat):∀(vs:List Value)(o:Nat)(w:World),w.setCells b o vs=jJ w b (Md o vs)|[],o,w=>by show w=jJ w b λc=>c;unfold jJ;(have:Sort.onCells (λc:Array Value=>c)=id:=by funext ob;cases ob<;>rfl);(have hm:w.heap.modify b id=w.heap:=by apply Array.ext_getElem?;intro i;rw[Array.getElem?_modify];split<;>simp);rw[this,hm]|v::r,o,w=>by rw[World.setCells,B5B b r (o+1),Sort.setCell_eq,Sort.mapBlock_mapBlock];rfl
theorem B6X:∀(vs:List Value)(o:Nat)(c:Array Value)(k:Nat),(Md o vs c)[k]?=if o<=k/\k<o+vs.length/\k<c.size then vs[k-o]? else c[k]?|[],o,c,k=>by(have:¬(o<=k/\k<o+([]:List Value).length/\k<c.size):=by simp;omega);rw[if_neg this];rfl|v::r,o,c,k=>by rw[Md,B6X r (o+1)];simp only[Array.size_setIfInBounds,List.length_cons];by_cases h1:k=o;subst h1;rw[if_neg (by omega)];by_cases h2:k<c.size;rw[if_pos ⟨Nat.le_refl _,by omega,h2⟩];simp[h2];rw[if_neg (by omega)];simp[h2];by_cases h2:o+1<=k/\k<o+1+r.length/\k<c.size;rw[if_pos h2,if_pos ⟨by omega,by omega,h2.2.2⟩];(have:k-o=(k-(o+1))+1:=by omega);rw[this,List.getElem?_cons_succ];rw[if_neg h2,if_neg (by omega),Array.getElem?_setIfInBounds_ne (by omega)]
theorem C3K(o:Nat)(zs:List Int)(c:Array Value):Md o (zs.map (bX .i64)) c=ud (bX .i64) o zs.toArray c:=by apply Array.ext_getElem?;intro k;rw[B6X];unfold ud;rw[Array.getElem?_mapIdx];by_cases hk:k<c.size;rw[Array.getElem?_eq_getElem hk];simp only[ak,List.size_toArray,aB];by_cases h:o<=k/\k<o+zs.length;rw[if_pos ⟨h.1,h.2,hk⟩,if_pos h];(have eC:k-o<zs.length:=by omega);rw[aL,ah eC];simp[eC];rw[if_neg (by omega),if_neg h];rw[Array.getElem?_eq_none (by omega)];rw[if_neg (by omega)];rfl
theorem C1Q(w:World)(b o:Nat)(zs:List Int):w.setCells b o (zs.map (bX .i64))=fq (bX .i64) w b o zs.toArray:=by rw[B5B];unfold fq;congr 1;funext c;exact C3K o zs c
theorem Wb:∀{vs:List PV}{zs:List Int},Cj vs=some zs->vs=zs.map (PV.int .i64)|[],zs,h=>by simp only[Cj,aa]at h;subst h;rfl|v::r,zs,h=>by cases v with|int k n=>cases k<;>simp only[Cj,reduceCtorEq]at h;split at h;rename_i l hl;simp only[aa]at h;subst h;rw[Wb hl];rfl;cases h|_=>simp[Cj]at h
theorem C1z{w:World}{A:Nat->Prop}:∀zs:List Int,cK w A (zs.map (PV.int .i64)) (zs.map (bX .i64))|[]=>by simp[cK]|n::r=>by simp only[List.map_cons,cK];exact⟨[.int .i64 n],r.map (bX .i64),rfl,by simp only[dU],C1z r⟩
theorem Wc(x:Int):∀l:List Int,(FV x l).Perm (x::l)|[]=>.refl _|y::r=>by unfold FV;split;exact .refl _;exact((Wc x r).cons y).trans (.swap x y r)
theorem Me:∀l:List Int,(A0K l).Perm l|[]=>.refl _|x::r=>(Wc x _).trans ((Me r).cons x)
theorem C5L(x:Int):∀l:List Int,l.Pairwise (·<=·)->(FV x l).Pairwise (·<=·)|[],_=>by simp[FV]|y::r,h=>by unfold FV;have h':=bN.1 h;split;rename_i xL;refine bN.2 ⟨λz hz=>?_,h⟩;rcases aG.1 hz with e|e;subst e;exact xL;exact Int.le_trans xL (h'.1 z e);rename_i xL;refine bN.2 ⟨λz hz=>?_,C5L x r h'.2⟩;rcases aG.1 ((Wc x r).mem_iff.1 hz)with e|e;subst e;omega;exact h'.1 z e
theorem B5E:∀l:List Int,(A0K l).Pairwise (·<=·)|[]=>.nil|x::r=>C5L x _ (B5E r)
theorem B9b:∀{l m:List Int},l.Perm m->l.Pairwise (·<=·)->m.Pairwise (·<=·)->l=m|[],m,h,_,_=>h.nil_eq|a::l,[],h,_,_=>by have:=h.length_eq;simp at this|a::l,b::m,h,hl,hm=>by have zj:=bN.1 hl;have xM:=bN.1 hm;(have uO:a=b:=by have h1:a∈b::m:=h.mem_iff.1 (by simp);have h2:b∈a::l:=h.mem_iff.2 (by simp);rcases aG.1 h1 with e|e;exact e;rcases aG.1 h2 with e2|e2;exact e2.symm;have:=zj.1 b e2;have:=xM.1 a e;omega);subst uO;rw[B9b (List.perm_cons a|>.1 h) zj.2 xM.2]
theorem C3L(l:List Int):A0K l=l.mergeSort λx y=>decide (x<=y):=by refine B9b ((Me l).trans (List.mergeSort_perm l _).symm) (B5E l) ?_;have:=List.pairwise_mergeSort (le:=λx y:Int=>decide (x<=y)) (λa b c h1 h2=>by simp at*;omega) (λa b=>by simp;omega) l;exact this.imp λh=>by simpa using h
def D1A(P:Program)(f:Nat):Prop:=∀(b off cap:Nat)(zs:List Int)(w:World),ym (bX .i64) w b off zs.toArray->b<w.heap.size->zs.length<4611686018427387904->Calls P f #[.slice (some ⟨b,off,none⟩) zs.length cap] w λe w'=>e=.returned (.tuple #[])/\∃n os,w'=oY (fq (bX .i64) (nN w n) b off (A0K zs).toArray) os
def We(P:Program)(f:Nat):Prop:=∃Φ:lW,∃n,pj P Φ/\og Φ (run Φ n) f [.p (.sl [])] []=some (.eI [],[],[])
theorem Wf{f:Nat}(hn:We P f){w:World}{A:Nat->Prop}{E:dP An}{h:cj}(tH:GL P w A)(hm:MR w A E h S0)(a:Option Addr)(cap:Nat):Calls P f #[.slice a 0 cap] w λe w'=>e=.returned (.tuple #[])/\MR w' A E h S0/\gC w A E S0 w' A E:=by obtain⟨Φ,n,hT,hk⟩:=hn;obtain⟨_,hc⟩:=C5e hT n f _ _ _ _ _ hk;have V1:MR w A (λ_=>ja) (nn []) S0:=MR.none hm.im;(have hv:c9 w A (λ_=>ja) S0 [.p (.sl [])] [.slice a 0 cap]:=by simp only[c9];exact⟨_,[],rfl,(xD (E:=λ_=>ja) (nx:=S0)).2 ⟨a,cap,rfl,Nat.zero_le _,.inl rfl⟩,rfl⟩);refine(hc w A _ [.slice a 0 cap] tH hv V1).mono ?_;rintro e w'⟨v,he,A',E',nx',q1,q2,q3⟩;have hk:∀b,b<w.heap.size->w'.heap[b]?=w.heap[b]?:=λb hb=>q2.aSO b hb (λho=>by obtain⟨i,o,ho,_⟩:=ho;cases ho);simp only[bR,c9]at q3;obtain⟨vs,Cs,xF⟩:=q3;subst xF;exact⟨by rw[he,Cs],hm.more q2.size hk,gC.more q2.os q2.tape q2.output q2.size hk⟩
theorem Mf{w:World}{A:Nat->Prop}{E:dP An}{nx:di}:bR w A E nx (.eI []) (.tuple #[]):=by simp only[bR,c9];exact⟨[],rfl,rfl⟩
theorem Qs(l:List (Obj Nat))(h:l.length<=1000000):j4 l []=nn l:=by funext i;unfold j4 nn;by_cases h1:kI<=i;(have h2:ep<=i:=by unfold kI at h1;unfold ep;omega);have h3:l[i-ep]?=none:=bJ (by unfold kI at h1;unfold ep;omega);rw[if_pos h1,if_pos h2,h3];rfl;rw[if_neg h1]
theorem B9c{h h':cj}{id:Nat}{path:List Nat}{g z off:Nat}{vs:List PV}(e:qT h id path g z off vs=some h'):∀i,i≠id->h' i=h i:=by intro i hi;unfold qT at e;split at e;split at e;split at e;simp only[aa]at e;subst e;exact A0C _ _ hi;cases e;split at e;split at e;split at e;simp only[aa]at e;subst e;exact A0C _ _ hi;cases e;cases e;cases e;cases e
theorem C1R{o o':Obj Nat}{h':cj}{path:List Nat}{g z off:Nat}{vs:List PV}(e:qT (nn [o]) ep path g z off vs=some h')(ho:h' ep=some o'):h'=j4 [o'] []:=by rw[Qs _ (by simp)];funext i;by_cases hi:i=ep;subst hi;rw[ho];simp[nn];rw[B9c e i hi];unfold nn;by_cases h1:ep<=i;(have h2:1<=i-ep:=by have:ep<i:=Nat.lt_of_le_of_ne h1 (Ne.symm hi);omega);rw[if_pos h1,if_pos h1,bJ (by simpa using h2),bJ (by simpa using h2)];rw[if_neg h1,if_neg h1]
theorem D2y{f:Nat}(BR:Gy P f)(hct:D1A P f)(hn:We P f):Iz P f .sort:=by intro args ext r ext' dH hp;unfold xy at hp;split at hp;rename_i h;cases h;rename_i id path off len g o _;split at hp;rename_i gk;subst gk;unfold NQ at hp;split at hp;rename_i ts ia;split at hp;rename_i vs fN;split at hp;rename_i zs uK;split at hp;rename_i eC;split at hp;rename_i h' jn;split at hp;rename_i o' oZ;simp only[aa,ae]at hp;obtain⟨rfl,rfl,rfl⟩:=hp;refine⟨BR,?_⟩;intro w A E gR tH hv hm;simp only[c9]at hv;obtain⟨v,d,rfl,hv,rfl⟩:=hv;have hh':=C1R jn oZ;obtain⟨an,ad,cap,rfl,xe,nU,bW,kG⟩:=SZ hm hv jn;subst xe;have yK:=Wb uK;have htv:=H7 fN;have ia:(match jq (nn [o] ep) path with|some (g',_,l)=>if g'=an.g/\off+len<=l.length then some ((l.drop off).take len)else none|none=>none)=some ts:=ia;split at ia;rename_i g' z' l EY;split at ia;rename_i dV;simp only[aa]at ia;obtain⟨hg,hle⟩:=dV;(have hlen:zs.length=len:=by have h1:=congrArg List.length ia;rw[htv,yK]at h1;simp only[List.length_take,List.length_drop,aB]at h1;omega);rw[<-hh'];by_cases h0:len=0;(have Mg:zs=[]:=by rw[h0]at hlen;exact List.eq_nil_of_length_eq_zero hlen);subst h0;(have Qp:(A0K zs).map (PV.int .i64)=[]:=by rw[Mg];rfl);rw[Qp]at jn;refine(Wf hn tH hm ad cap).mono ?_;rintro e w'⟨he,k1,k2⟩;obtain⟨_,E',ox,qn⟩:=Ku k1 bW jn (cs:=[]) (by simp only[cK]);(cases hb:an.b with|none=>obtain⟨q1,q2⟩:=qn hb;exact⟨_,he,A,E',S0,q1,k2.trans q2 (di.le_refl _),Mf⟩|some b=>obtain⟨q1,q2,_,_⟩:=ox b hb;exact⟨_,he,A,E',S0,q1,k2.trans q2 (di.le_refl _),Mf⟩);have tK:0<len:=Nat.pos_of_ne_zero h0;(cases hb:an.b with|none=>simp only[kU,hb]at kG;exact absurd kG.1 h0|some b=>simp only[kU,hb]at kG;rcases kG.2 with⟨h1,_⟩|hA;exact absurd h1 h0;obtain⟨_,E',ox,_⟩:=Ku hm bW jn (cs:=(A0K zs).map (bX .i64)) (C1z _);obtain⟨q1,q2,q3,q4⟩:=ox b hb;obtain⟨rU,l',nB,hg',zj⟩:=hm.vec EY;have hnd:=uG nB;rw[bW]at hnd;simp only[aa,ae]at hnd;obtain⟨rfl,rfl⟩:=hnd;have hVB:=hm.vO nB;simp only[VB,hb]at hVB;obtain⟨hblk,oq,eV,hts⟩:=hVB;(have hH:ym (bX .i64) w b off zs.toArray:=by intro j hj;(have hj:j<zs.length:=by simpa using hj);refine⟨?_,q4 _⟩;(have e1:(((l.drop off).take len))[j]?=some (T.p (PV.int .i64 zs[j])):=by rw[ia,htv,yK,aL,aL,ah hj];rfl);rw[List.getElem?_take_of_lt (by omega),List.getElem?_drop,zj,aL]at e1;cases ht:l'[off+j]? with|none=>rw[ht]at e1;cases e1|some t=>rw[ht]at e1;simp only[ak,aa]at e1;cases t<;>simp only[T.mapA,reduceCtorEq,T.p.injEq]at e1;subst e1;have hk:=hts.elem eV ht;simp only[TAt,dU]at hk;obtain⟨cs,rfl,hr⟩:=hk;have:=hr 0 _ rfl;rw[gz,Nat.add_zero]at this;rw[this];simp[hj]);(have yH:b<w.heap.size:=by obtain⟨c,ty,hc,_⟩:=hblk;exact(Array.getElem?_eq_some_iff.1 hc).1);have vo:=hct b off cap zs w hH yH eC;rw[hlen]at vo;rw[hA,gz];rw[gz]at q1 q2;rw[C1Q]at q1 q2;refine vo.mono ?_;rintro e w'⟨he,n,os,rfl⟩;(have hsz:(fq (bX .i64) w b off (A0K zs).toArray).heap.size=w.heap.size:=by simp[fq,jJ]);(have hk:∀x,x<(fq (bX .i64) w b off (A0K zs).toArray).heap.size->(oY (fq (bX .i64) (nN w n) b off (A0K zs).toArray) os).heap[x]?=(fq (bX .i64) w b off (A0K zs).toArray).heap[x]?:=by intro x hx;unfold oY;simp only;rw[Array.getElem?_append_left (by simpa[fq,jJ,nN]using hx)];rfl);(have hss:(fq (bX .i64) w b off (A0K zs).toArray).heap.size<=(oY (fq (bX .i64) (nN w n) b off (A0K zs).toArray) os).heap.size:=by simp[oY,fq,jJ,nN]);exact⟨_,he,A,E',S0,q1.more hss hk,q2.trans (gC.more rfl rfl ⟨rfl,Nat.le_add_right _ _⟩ hss hk) (di.le_refl _),Mf⟩);cases ia;cases ia;cases hp;cases hp;cases hp;cases hp;cases hp;cases hp;cases hp;rename_i z _;simp only[aa,ae]at hp;obtain⟨rfl,rfl,rfl⟩:=hp;refine⟨BR,?_⟩;intro w A E gR tH hv hm;simp only[c9]at hv;obtain⟨v,d,rfl,hv,rfl⟩:=hv;simp only[bR]at hv;obtain⟨a,rfl⟩:=hv;refine(Wf hn tH hm a 0).mono ?_;rintro e w'⟨he,k1,k2⟩;rw[Qs _ (by simp)];exact⟨_,he,A,E,S0,k1,k2,Mf⟩;rename_i _;simp only[aa,ae]at hp;obtain⟨rfl,rfl,rfl⟩:=hp;refine⟨BR,?_⟩;intro w A E gR tH hv hm;simp only[c9]at hv;obtain⟨v,d,rfl,hv,rfl⟩:=hv;obtain⟨ad,cap,rfl,_,_⟩:=xD.1 hv;refine(Wf hn tH hm ad cap).mono ?_;rintro e w'⟨he,k1,k2⟩;rw[Qs _ (by simp)];exact⟨_,he,A,E,S0,k1,k2,Mf⟩;rename_i h;cases h;rename_i h;cases h;rename_i h;cases h;rename_i h;cases h;rename_i h;cases h;rename_i h;cases h;cases hp
end Go.Mid
namespace Go.Mid
end Go.Mid
namespace Go.Mid
open Go.RowKit
section
variable{α:Type}
end
variable{P:Program}
end Go.Mid
namespace Go.Mid
section
variable{α β:Type}
end
end Go.Mid
