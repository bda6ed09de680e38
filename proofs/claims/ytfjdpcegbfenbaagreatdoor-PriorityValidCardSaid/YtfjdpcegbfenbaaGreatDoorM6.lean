/- A law's arguments, read as data, are pure values; a law's proof by a run of the middle semantics. -/
import Derived.Test.YtfjdpcegbfenbaaGreatDoorM5
import Derived.ProofKit
import Derived.OpenShut
import Derived.Carry
import Derived.SizedLaws
set_option linter.unusedSimpArgs false
set_option linter.unusedVariables false
open Bool renaming and_eq_true → aj, false_eq_true → aI
open Go.DataW renaming weightsAll → rk, trod → gJ, weights → pt, TrodAll → eE, weightsEach → ee
open Go.Value renaming okWide → nJ, cells → de
open List renaming length_range → ku, getElem?_eq_some_iff → aJ, getElem?_range → fF, eq_nil_of_length_eq_zero → bu, drop_drop → kp, take_append_drop → bM, mem_append → az, mem_cons → aG, range → bA, mem_map → bp, mem_of_getElem? → bH, getElem?_of_mem → lq, all_eq_true → bB, getElem?_map → aL, append_nil → bD
open Nat renaming zero_le → dg, succ_mul → du, le_refl → ay, pos_of_ne_zero → ew, le_trans → dF, zero_mul → da
open Option.some renaming inj → s8, injEq → aa
namespace Go.Mid
open Go.RowKit
inductive l6 (P:Program):TypeId->PV->Prop where
 | int {t:TypeId} {k:IntKind} {n:Int} (h:P.underlying t=some (.int k)) (w:(Lit.int k n).wf=true):l6 P t (.int k n)
 | bool {t:TypeId} {b:Bool} (h:P.underlying t=some .bool):l6 P t (.bool b)
 | str {t:TypeId} {s:ByteArray} (h:P.underlying t=some .string) (w:s.size<=maxLen):l6 P t (.str s)
 | sl {t e:TypeId} {l:List PV} (h:P.underlying t=some (.slice e)) (w:l.length<=reachBytes) (el:∀ x∈l,l6 P e x):l6 P t (.sl l)
 | agg {t:TypeId} {fs:Array Field} {l:List PV} (h:P.underlying t=some (.struct fs)) (w:l.length=fs.size) (el:∀ (i:Nat) (f:Field) (x:PV),fs[i]?=some f->l[i]?=some x->l6 P f.type x):l6 P t (.agg l)
 | arr {t e:TypeId} {k:Nat} {l:List PV} (h:P.underlying t=some (.array k e)) (w:l.length=k) (el:∀ x∈l,l6 P e x):l6 P t (.agg l)
def yQ (P:Program):Nat->TypeId->Bool
 | 0,_=>false
 | n+1,t=>match P.underlying t with
   | some (.int _) | some .bool | some .string=>P.cellsOf t==1
   | some (.slice e)=>P.cellsOf t==1&&P.cellsOf e != 0&&P.bytesOf e != 0&&yQ P n e
   | some (.struct fs)=>C9 P fs.toList 0&&(fs.toList.map λf=>P.cellsOf f.type).sum==P.cellsOf t&&fs.toList.all λf=>yQ P n f.type
   | some (.array k e)=>k*P.cellsOf e==P.cellsOf t&&yQ P n e
   | _=>false
section
variable {H:Type}{enc:TypeId×Value->H}{P:Program}{w:World}{sp:Nat->Bool}{held:Bool}
theorem K1 {α β:Type}{f:α->Option β}:∀ {l:List α} {r:List β},l.mapM f=some r->r.length=l.length∧∀ (i:Nat) (x:α),l[i]?=some x->∃ y,f x=some y∧r[i]?=some y
 | [],r,h=>by simp at h;subst h;exact ⟨rfl,λi x hx=>by simp at hx⟩
 | x::l,r,h=>by
   rw [List.mapM_cons] at h;cases hf:f x with
   | none=>simp [hf] at h
   | some y =>
     cases hl:l.mapM f with
     | none=>simp [hf,hl] at h
     | some ys =>
       simp [hf,hl] at h;subst h;obtain ⟨h1,h2⟩:=K1 hl;refine ⟨by simp [h1],λi z hz=>?_⟩
       cases i with
       | zero=>simp at hz;subst hz;exact ⟨y,hf,rfl⟩
       | succ i=>simpa using h2 i z (by simpa using hz)
theorem TQ {a:Addr}{n:Nat}{cs:List Value}(h:w.cells? 0 a n=some cs):cs.length=n∧∀ j v,cs[j]?=some v->w.cell? (a.add j)=some v:=by
 unfold World.cells? at h;simp only [dg,if_true] at h;obtain ⟨h1,h2⟩:=K1 h;rw [ku] at h1;refine ⟨h1,λj v hj=>?_⟩
 have eC:j<n:=by rw [← h1];exact (aJ.1 hj).1
 obtain ⟨y,hy,hr⟩:=h2 j j (by rw [fF eC])
 rw [hr] at hj;rw [hy,s8 hj]
theorem TR (a:Addr):a.add 0=a:=by
 unfold Addr.add;split<;>simp_all
theorem C8f {a:Addr}{n:Nat}{cs:List Value}(hn:0<n)(h:w.cells? 0 a n=some cs):a.block<w.heap.size:=by
 obtain ⟨h1,h2⟩:=TQ h
 have:=h2 0 cs[0] (by simp [h1,hn])
 rw [TR] at this;exact World.block_lt_of_cell? w a this
theorem C01 {A:Nat->Prop}:∀ (fs:List Field) (cs:List Value) (o:Nat) (xs:List PV),C9 P fs o=true->cs.length=o+(fs.map λf=>P.cellsOf f.type).sum->xs.length=fs.length->
 (∀ (i:Nat) (f:Field) (x:PV),fs[i]?=some f->xs[i]?=some x->dU w A x ((cs.drop f.offset).take (P.cellsOf f.type)))->cK w A xs (cs.drop o)
 | [],cs,o,xs,_,hl,hx,_=>by
   have:xs=[]:=bu (by simpa using hx)
   subst this;simp only [cK];rw [List.drop_eq_nil_iff];simp at hl;omega
 | f::fs,cs,o,xs,ho,hl,hx,h=>by
   cases xs with
   | nil=>simp at hx
   | cons x xs =>
     simp only [C9,aj,beq_iff_eq] at ho;obtain ⟨⟨h1,_⟩,h2⟩:=ho;simp only [cK];refine ⟨(cs.drop o).take (P.cellsOf f.type),cs.drop (o+P.cellsOf f.type),?_,?_,?_⟩
     . rw [← kp,bM]
     . have:=h 0 f x rfl rfl
       rwa [h1] at this
     . refine C01 fs cs (o+P.cellsOf f.type) xs h2 ?_ (by simpa using hx) (λi g y hg hy=>h (i+1) g y hg hy)
       simp only [List.map_cons,List.sum_cons] at hl;omega
theorem C2V {A:Nat->Prop}(z:Nat):∀ (xs:List PV) (cs:List Value),cs.length=xs.length*z->(∀ (i:Nat) (x:PV),xs[i]?=some x->dU w A x ((cs.drop (i*z)).take z))->cK w A xs cs
 | [],cs,hl,_=>by
   simp only [cK];exact bu (by simpa using hl)
 | x::xs,cs,hl,h=>by
   simp only [cK];refine ⟨cs.take z,cs.drop z,(bM z cs).symm,?_,?_⟩
   . have:=h 0 x rfl
     simpa using this
   . refine C2V z xs (cs.drop z) (by rw [List.length_drop,hl,List.length_cons,du];omega) (λi y hy=>?_)
     have:=h (i+1) y (by simpa using hy)
     rw [du,Nat.add_comm,← kp] at this;exact this
theorem TS {e:TypeId}:∀ {ds:List (DataW H)} {d:DataW H},d∈ds->∀ m∈d.weights P e,m∈rk P e ds
 | [],_,h,_,_=>by cases h
 | x::r,d,h,m,hm=>by
   simp only [rk,az];rcases aG.1 h with rfl | h
   . exact .inl hm
   . exact .inr (TS h m hm)
theorem C5f:∀ (fuel n:Nat) (t:TypeId) (cs:List Value) (x:DataW H×List MemPlace),yQ P n t=true->gJ enc P w 0 sp held fuel t cs=some x->(∀ m∈x.1.weights P t,m<=reachBytes)->∃ pv,dU w (· < w.heap.size) pv cs∧l6 P t pv∧pv.isAgg=mW P t
 | 0,n,t,cs,x,_,h,_=>by simp [gJ] at h
 | fuel+1,0,t,cs,x,hs,_,_=>by simp [yQ] at hs
 | fuel+1,n+1,t,cs,x,hs,h,xh=>by
   have ih:=C5f fuel;simp only [yQ] at hs;cases hu:P.underlying t with
   | none=>simp [hu] at hs
   | some d =>
     rw [hu] at hs;cases d<;>simp only [aI,aj,beq_iff_eq,bne_iff_ne,ne_eq] at hs
     case bool =>
      unfold gJ at h;rw [hu] at h
      match cs,h with
      | [.bool b],_=>exact ⟨.bool b,by simp only [dU],.bool hu,by simp [PV.isAgg,mW,hu]⟩
     case int k =>
      unfold gJ at h;rw [hu] at h
      match cs,h with
      | [.int k' m],h =>
        simp only at h;split at h
        . rename_i hc;obtain ⟨rfl,hw⟩:=hc;exact ⟨.int k' m,by simp only [dU],.int hu hw,by simp [PV.isAgg,mW,hu]⟩
        . cases h
     case string =>
      unfold gJ at h;rw [hu] at h
      match cs,h with
      | [.string s],h =>
        simp only at h;split at h
        . rename_i hc;exact ⟨.str s,by simp only [dU],.str hu hc,by simp [PV.isAgg,mW,hu]⟩
        . cases h
     case slice e =>
      unfold gJ at h;rw [hu] at h
      match cs,h with
      | [.slice none 0 0],_=>exact ⟨.sl [],by simp only [dU];exact ⟨none,0,rfl,ay _,.inl trivial⟩,.sl hu (dg _) (λx hx=>by cases hx),by simp [PV.isAgg,mW,hu]⟩
      | [.slice (some a) len cap],h =>
        simp only at h;split at h
        . rename_i hc;obtain ⟨_,nU,oq⟩:=hc;cases hm:(bA len).mapM (λi=>(w.cells? 0 (a.add (i*P.cellsOf e)) (P.cellsOf e)).bind (gJ enc P w 0 sp held fuel e)) with
          | none=>rw [hm] at h;cases h
          | some elems =>
            obtain ⟨hl,ia⟩:=K1 hm;rw [ku] at hl;obtain ⟨rest,hx⟩:∃ rest:List (DataW H×List MemPlace),x.1=.slice (elems.map (·.1)) (rest.map (·.1)):=by
             rw [hm] at h;simp only [Option.bind_some,Option.map_eq_some_iff] at h;obtain ⟨rest,_,rfl⟩:=h;exact ⟨rest,rfl⟩
            rw [hx] at xh;simp only [pt,hu,aG,az] at xh;have GO:len<=reachBytes:=by
             have h1:=xh _ (.inl rfl);simp only [List.length_map,hl] at h1;have h2:0<P.bytesOf e:=ew hs.1.2;exact dF (dF (Nat.le_add_right len rest.length) (Nat.le_mul_of_pos_right _ h2)) h1
            have each:∀ i,i<len->∃ pv c,w.cells? 0 (a.add (i*P.cellsOf e)) (P.cellsOf e)=some c∧dU w (· < w.heap.size) pv c∧l6 P e pv:=by
             intro i hi;obtain ⟨y,hy,K3⟩:=ia i i (by rw [fF hi])
             cases hc:w.cells? 0 (a.add (i*P.cellsOf e)) (P.cellsOf e) with
             | none=>rw [hc] at hy;cases hy
             | some c =>
               rw [hc] at hy;obtain ⟨pv,q1,q2,_⟩:=ih n e c y hs.2 hy (λm xM=>xh m (.inr (.inl (TS (bp.2 ⟨y,bH K3,rfl⟩) m xM))))
               exact ⟨pv,c,rfl,q1,q2⟩
            have tK:0<P.cellsOf e:=ew hs.1.1.2;by_cases h0:len=0
            . subst h0;exact ⟨.sl [],by simp only [dU];exact ⟨some a,cap,rfl,dg _,.inl trivial⟩,.sl hu (dg _) (λx hx=>by cases hx),by simp [PV.isAgg,mW,hu]⟩
            . have E8:a.spot=none:=by
               obtain ⟨pv,c,hc,_⟩:=each 0 (by omega)
               have hb:=(TQ hc);have nX:=hb.2 0 c[0] (by simp [hb.1,tK])
               rw [da,TR,TR] at nX;unfold World.cell? at nX;split at nX
               . split at nX
                 . cases nX
                 . rename_i GP;simpa using GP
               . cases nX
              obtain ⟨b,o,s⟩:=a;simp only at E8;subst E8;have build:∀ m,m<=len->∃ l:List PV,l.length=m∧(∀ x∈l,l6 P e x)∧fB w (· < w.heap.size) l b (o+(len-m)*P.cellsOf e) (P.cellsOf e):=by
               intro m
               induction m with
               | zero=>intro _;exact ⟨[],rfl,(λx hx=>by cases hx),(by simp only [fB])⟩
               | succ m TT =>
                 intro hm;obtain ⟨l,h1,h2,h3⟩:=TT (by omega)
                 obtain ⟨pv,c,hc,q1,q2⟩:=each (len-(m+1)) (by omega)
                 rw [vQ] at hc;obtain ⟨r1,r2⟩:=TQ hc;refine ⟨pv::l,by simp [h1],λx hx=>(aG.1 hx).elim (λe=>e ▸ q2) (h2 x),?_⟩
                 simp only [fB];refine ⟨⟨c,q1,r1,λj v hj=>?_⟩,?_⟩
                 . have:=r2 j v hj
                   rwa [vQ] at this
                 . have e:o+(len-(m+1))*P.cellsOf e+P.cellsOf e=o+(len-m)*P.cellsOf e:=by
                    rw [show len-m=(len-(m+1))+1 by omega,du];omega
                   rw [e];exact h3
              obtain ⟨l,h1,h2,h3⟩:=build len (ay _);rw [Nat.sub_self,da,Nat.add_zero] at h3;have hblk:b<w.heap.size:=by
               obtain ⟨pv,c,hc,_⟩:=each 0 (by omega)
               have:=C8f tK hc
               rw [vQ] at this;exact this
              refine ⟨.sl l,?_,.sl hu (by rw [h1];exact GO) h2,by simp [PV.isAgg,mW,hu]⟩
              simp only [dU,h1];exact ⟨some ⟨b,o,none⟩,cap,rfl,nU,.inr ⟨b,o,P.cellsOf e,rfl,hblk,h3⟩⟩
        . cases h
     case array k e =>
      unfold gJ at h;rw [hu] at h;simp only at h;split at h
      . rename_i nX;cases hm:(bA k).mapM (λi=>gJ enc P w 0 sp held fuel e ((cs.drop (i*P.cellsOf e)).take (P.cellsOf e))) with
        | none=>rw [hm] at h;cases h
        | some xs =>
          obtain ⟨hl,ia⟩:=K1 hm;have hx:x.1=.agg (xs.map (·.1)):=by
           rw [hm] at h;simp only [Option.map_some,aa] at h;rw [← h]
          rw [hx] at xh;simp only [pt,hu] at xh;have each:∀ i,i<k->∃ pv,dU w (· < w.heap.size) pv ((cs.drop (i*P.cellsOf e)).take (P.cellsOf e))∧l6 P e pv:=by
           intro i hi;obtain ⟨y,hy,K3⟩:=ia i i (by rw [fF hi])
           obtain ⟨pv,q1,q2,_⟩:=ih n e _ y hs.2 hy (λm xM=>xh m (TS (bp.2 ⟨y,bH K3,rfl⟩) m xM))
           exact ⟨pv,q1,q2⟩
          have build:∀ m,m<=k->∃ l:List PV,l.length=m∧∀ (i:Nat) (x:PV),l[i]?=some x->dU w (· < w.heap.size) x ((cs.drop (i*P.cellsOf e)).take (P.cellsOf e))∧l6 P e x:=by
           intro m
           induction m with
           | zero=>intro _;exact ⟨[],rfl,λi x hx=>by simp at hx⟩
           | succ m TT =>
             intro hm;obtain ⟨l,h1,h2⟩:=TT (by omega)
             obtain ⟨pv,q1,q2⟩:=each m (by omega)
             refine ⟨l++[pv],by simp [h1],λi x hx=>?_⟩
             by_cases hi:i<l.length
             . rw [List.getElem?_append_left hi] at hx;exact h2 i x hx
             . rw [List.getElem?_append_right (by omega)] at hx
               have rX:i-l.length=0:=by
                have:=(aJ.1 hx).1
                simp at this;omega
               rw [rX] at hx;simp only [List.getElem?_cons_zero,aa] at hx;subst hx
               have:i=m:=by omega
               subst this;exact ⟨q1,q2⟩
          obtain ⟨l,h1,h2⟩:=build k (ay _);refine ⟨.agg l,?_,.arr hu h1 (λx hx=>?_),by simp [PV.isAgg,mW,hu]⟩
          . simp only [dU];exact C2V (P.cellsOf e) l cs (by rw [nX,h1,hs.1]) (λi x hx=>(h2 i x hx).1)
          . obtain ⟨i,hi⟩:=lq hx;exact (h2 i x hi).2
      . cases h
     case struct fs =>
      unfold gJ at h;rw [hu] at h;simp only at h;split at h
      . rename_i nX;cases hm:fs.toList.mapM (λf=>gJ enc P w 0 sp held fuel f.type ((cs.drop f.offset).take (P.cellsOf f.type))) with
        | none=>rw [hm] at h;cases h
        | some xs =>
          obtain ⟨hl,ia⟩:=K1 hm;have hx:x.1=.agg (xs.map (·.1)):=by
           rw [hm] at h;simp only [Option.map_some,aa] at h;rw [← h]
          rw [hx] at xh;simp only [pt,hu] at xh;obtain ⟨⟨lD,TU⟩,hall⟩:=hs;have each:∀ (i:Nat) (f:Field),fs.toList[i]?=some f->∃ pv,dU w (· < w.heap.size) pv ((cs.drop f.offset).take (P.cellsOf f.type))∧l6 P f.type pv:=by
           intro i f hf;obtain ⟨y,hy,K3⟩:=ia i f hf;obtain ⟨pv,q1,q2,_⟩:=ih n f.type _ y (bB.1 hall f (bH hf)) hy (λm xM=>xh m (DataW.weights_mem_each (j:=i) (by rw [aL,hf];rfl) (by rw [aL,K3];rfl) m xM))
           exact ⟨pv,q1,q2⟩
          have build:∀ gs:List Field,(∀ f∈gs,∃ pv,dU w (· < w.heap.size) pv ((cs.drop f.offset).take (P.cellsOf f.type))∧l6 P f.type pv)->
           ∃ l:List PV,l.length=gs.length∧∀ (i:Nat) (f:Field) (x:PV),gs[i]?=some f->l[i]?=some x->dU w (· < w.heap.size) x ((cs.drop f.offset).take (P.cellsOf f.type))∧l6 P f.type x:=by
           intro gs
           induction gs with
           | nil=>intro _;exact ⟨[],rfl,λi f x hf=>by simp at hf⟩
           | cons g gs ihg =>
             intro hg;obtain ⟨pv,q1,q2⟩:=hg g (by simp)
             obtain ⟨l,h1,h2⟩:=ihg (λf hf=>hg f (by simp [hf]))
             refine ⟨pv::l,by simp [h1],λi f x hf hx=>?_⟩
             cases i with
             | zero=>simp at hf hx;subst hf hx;exact ⟨q1,q2⟩
             | succ i=>exact h2 i f x (by simpa using hf) (by simpa using hx)
          obtain ⟨l,h1,h2⟩:=build fs.toList (λf hf=>by
           obtain ⟨i,hi⟩:=lq hf;exact each i f hi)
          have:=C01 (w:=w) (A:=(· < w.heap.size)) fs.toList cs 0 l lD (by rw [TU,nX];omega) h1 (λi f x hf hx=>(h2 i f x hf hx).1)
          rw [List.drop_zero] at this;refine ⟨.agg l,by simp only [dU];exact this,.agg hu (by simpa using h1) (λi f x hf hx=>(h2 i f x (by simpa using hf) hx).2),by simp [PV.isAgg,mW,hu]⟩
      . cases h
inductive pn (P:Program):List TypeId->List PV->Prop where
 | nil:pn P [] []
 | cons {t:TypeId} {ts:List TypeId} {v:PV} {vs:List PV} (h:l6 P t v) (r:pn P ts vs):pn P (t::ts) (v::vs)
theorem C4K {r:Reach}{base:Nat}{t:TypeId}{v:Value}{n:Nat}(hs:yQ P n t=true)(h:nJ P w r base t v):pk (mW P t) v.cells.toList=v:=by
 cases n with
 | zero=>simp [yQ] at hs
 | succ n =>
   unfold nJ at h;simp only [yQ] at hs;cases hu:P.underlying t with
   | none=>simp [hu] at hs
   | some d =>
     rw [hu] at hs h;cases d<;>simp only [aI] at hs
     case struct fs =>
      simp only at h;obtain ⟨cs,rfl,_⟩:=h;simp [pk,mW,hu,de]
     case array k e =>
      simp only at h;obtain ⟨cs,rfl,_⟩:=h;simp [pk,mW,hu,de]
     all_goals
      simp only at h;cases v<;>simp [Cell.okWide,Cell.ok,hu] at h<;>simp [pk,mW,hu,de]
theorem B6K {r:Reach}{base:Nat}{n:Nat}:∀ {ts:List TypeId} {vs:List Value} {ds:List (DataW H)} {ps:List MemPlace},(∀ t∈ts,yQ P n t=true)->(∀ (j:Nat) (t:TypeId) (v:Value),ts[j]?=some t->vs[j]?=some v->nJ P w r base t v)->
 eE enc P w 0 sp held ts vs ds ps->(∀ m∈ee P ts ds,m<=reachBytes)->ds.length=ts.length∧∃ us:List PV,pn P ts us∧kM w (· < w.heap.size) us vs
 | [],vs,ds,ps,_,_,h,_=>by
   cases vs<;>cases ds<;>simp only [eE] at h;exact ⟨rfl,[],.nil,by simp only [kM]⟩
 | t::ts,vs,ds,ps,hs,hv,h,xh=>by
   cases vs with
   | nil=>cases ds<;>simp only [eE] at h
   | cons v vs =>
     cases ds with
     | nil=>simp only [eE] at h
     | cons d ds =>
       simp only [eE] at h;obtain ⟨p,q,⟨fuel,h1⟩,h2,_⟩:=h;simp only [ee,az] at xh;obtain ⟨h3,us,h4,h5⟩:=B6K (λt ht=>hs t (by simp [ht])) (λj t v hj hvj=>hv (j+1) t v (by simpa using hj) (by simpa using hvj)) h2 (λm hm=>xh m (.inr hm))
       obtain ⟨pv,q1,q2,q3⟩:=C5f fuel n t _ (d,p) (hs t (by simp)) h1 (λm hm=>xh m (.inl hm))
       refine ⟨by simp [h3],pv::us,.cons q2 h4,?_⟩
       simp only [kM];refine ⟨v.cells.toList,vs,?_,q1,h5⟩;rw [q3,C4K (hs t (by simp)) (hv 0 t v rfl rfl)]
theorem B4x {W W':World}{sp':Nat->Bool}(hl:laidOutB P=true)(E9:∀ p,p.block<W.heap.size->W.sameAt W' p):∀ {ts:List TypeId} {vs:List Value} {ds:List (DataW H)} {ps:List MemPlace},(∀ t∈ts,P.readableRec t=true∧t<P.types.size)->
 eE enc P W 0 (λ_=>true) true ts vs ds ps->(∀ p∈ps,p.block<W.heap.size∧sp' p.block=true)->eE enc P W' 0 sp' true ts vs ds ps
 | [],vs,ds,ps,_,h,_=>by
   cases vs<;>cases ds<;>simp only [eE] at h ⊢;exact h
 | t::ts,vs,ds,ps,hr,h,hp=>by
   cases vs with
   | nil=>cases ds<;>simp only [eE] at h
   | cons v vs =>
     cases ds with
     | nil=>simp only [eE] at h
     | cons d ds =>
       simp only [eE] at h ⊢;obtain ⟨p,q,h1,h2,rfl⟩:=h;obtain ⟨r1,r2⟩:=hr t (by simp)
       exact ⟨p,q,WideElems.Trod_stays hl r1 r2 h1 (λx hx=>E9 x (hp x (by simp [hx])).1) (λx hx=>(hp x (by simp [hx])).2),B4x hl E9 (λt ht=>hr t (by simp [ht])) h2 (λx hx=>hp x (by simp [hx])),rfl⟩
end
def D1q (P:Program):Bool:=P.globals.toList.all λx=>x.name != "math/bits.deBruijn32tab"
theorem D1Y {P:Program}(h:D1q P=true)(w:World)(A:Nat->Prop):GL P w A:=by
 intro g v hg;unfold HZ at hg;split at hg
 . rename_i x hx;have hm:x∈P.globals.toList:=by
    have:=Array.mem_of_getElem? hx
    simpa using this
   have:=bB.1 h x hm
   simp only [bne_iff_ne,ne_eq] at this;rw [if_neg (by simpa using this)] at hg
   cases hg
 . cases hg
theorem B5a {H:Type}{P:Program}{m:Nat}:∀ {ts us:List TypeId} {ds:List (DataW H)},m∈ee P ts ds->m∈ee P (ts++us) ds
 | [],_,[],h=>by simp [ee] at h
 | [],_,_::_,h=>by simp [ee] at h
 | _::_,_,[],h=>by simp [ee] at h
 | t::ts,us,d::ds,h=>by
   simp only [List.cons_append,ee,az] at h ⊢;exact h.imp id B5a
open Go.ChangeShapes in
theorem B5b {C:Checked}{k:Nat}{fn:Func}{H:Type}{enc:TypeId×Value->H}{s:ChangeSpec}(ux:s.vars=[])
 (laid:laidOutB C.prog=true) (Bv:fn.params.toList.all (λt=>yQ C.prog 12 t&&C.prog.readableRec t&&decide (t<C.prog.types.size))=true) {tb:TypeId} (n5:fn.resultTypes=#[tb]) (K4:C.prog.underlying tb=some .bool)
 (hs:∀ ds:List (DataW H),ds.length=fn.params.toList.length->s.fn H ds={ results:=[.lit (.bool true)],args:=ds })
 {Φ:lW} (hT:pj C.prog Φ) (auU:∀ vs:List PV,pn C.prog fn.params.toList vs->∃ n,og Φ (run Φ n) k (vs.map .p) []=some (.p (.bool true),[],[]))
 {W:World} {base:Nat} {args:Array Value} {ds gs:List (DataW H)} {before:List MemPlace} (tH:GL C.prog W (· < W.heap.size))
 (cE:∀ (j:Nat) t v,fn.params[j]?=some t->args[j]?=some v->nJ C.prog W .any base t v)
 (hW:DataW.Whole enc C.prog fn.params.toList s.vars false W args.toList ds gs before)
 (hsz:(ee C.prog (fn.params.toList++s.plain.varTypes C.prog) (ds++gs)).all (·<=reachBytes)=true) :
 Calls C.prog k args W λe W'=>∃ v,e=.returned v∧s.post enc C.prog fn false true false false W args v W':=by
 have hW':=hW;obtain ⟨p,q,hA,hV,rfl,Fa,hnd⟩:=hW;rw [ux] at hV;obtain ⟨rfl,rfl⟩:=trodVars_none hV;have hall:∀ t∈fn.params.toList,yQ C.prog 12 t=true∧C.prog.readableRec t=true∧t<C.prog.types.size:=by
  intro t ht
  have:=bB.1 Bv t ht
  simp only [aj,decide_eq_true_eq] at this;exact ⟨this.1.1,this.1.2,this.2⟩
 obtain ⟨hlen,us,h1,h2⟩:=B6K (n:=12) (λt ht=>(hall t ht).1) (λj t v hj hv=>cE j t v (by simpa using hj) (by simpa using hv)) hA (λm hm=>by
  rw [bD] at hsz
  have:=bB.1 hsz m (B5a hm)
  simpa using this)
 obtain ⟨n,hn⟩:=auU us h1;obtain ⟨_,hc⟩:=C5e hT n _ _ _ _ _ _ hn;have hc:=hc W (· < W.heap.size) (λ_=>none) args.toList tH (AV.2 h2) (MR.none λb hb=>hb)
 have tJ:args.toList.toArray=args:=by simp
 rw [tJ] at hc;refine hc.mono ?_;rintro e W' ⟨v,rfl,A',E',nx',_,g,hv⟩;have l5:=vM.1 hv;subst l5;refine ⟨_,rfl,?_⟩;have hold:∀ b,b<W.heap.size->W'.heap[b]?=W.heap[b]?:=λb hb=>g.bm b hb Is
 have Bw:Below W.heap.size W W':=⟨g.os,g.tape,g.output.1,g.size,λb hb=>hold b hb⟩
 have TW:=hs ds hlen;refine ⟨ds,[],p++[],[],p,[],hW',?_,?_,?_,Bw.frame _,λh=>by cases h⟩
 . rw [n5,bD,TW];exact trodAll_cons_mk (shut_bool K4 _) trodAll_mk0
 . rw [bD,TW];refine B4x laid (λx hx=>Bw.same hx) (λt ht=>(hall t ht).2) hA (λx hx=>?_)
   have:x.block<W.heap.size:=by simpa using hW'.lt x (by simpa using hx)
   exact ⟨this,by simpa using this⟩
 . rw [ux,bD,TW];rfl
open Go.ChangeShapes in
theorem D47 {C:Checked}{os:Os}(own:ownKnob C.prog.godebug=none)(started:os.Started){k:Nat}{fn:Func}(xQ:C.prog.inits.idxOf? k=none)(zx:C.prog.funcs[k]?=some fn){H:Type}{enc:TypeId×Value->H}{s:ChangeSpec}{conds:List PathCond}(ux:s.vars=[])
 (laid:laidOutB C.prog=true) (Bv:fn.params.toList.all (λt=>yQ C.prog 12 t&&C.prog.readableRec t&&decide (t<C.prog.types.size))=true) {tb:TypeId} (n5:fn.resultTypes=#[tb]) (K4:C.prog.underlying tb=some .bool)
 (hs:∀ ds:List (DataW H),ds.length=fn.params.toList.length->s.fn H ds={ results:=[.lit (.bool true)],args:=ds })
 (witness:∃ (w:World) (tape:Tape) (i:Input),w.os=os∧(w.forCall tape i).Shaped C.prog∧i.vars=[]∧Input.okWide C.prog (w.forCall tape i) .any w.heap.size k i ∧
   s.pre6 enc C.prog fn conds false (w.forCall tape i).memory i.args∧({}:Assume).holds C.prog (lone (Frame.enter C.prog k i.args .normal) [] (w.forCall tape i)))
 (tH:D1q C.prog=true) {Φ:lW} (hT:pj C.prog Φ) (auU:∀ vs:List PV,pn C.prog fn.params.toList vs->∃ n,og Φ (run Φ n) k (vs.map .p) []=some (.p (.bool true),[],[])) :
 ReturnsInHanded {} C os k .any (s.pre6 enc C.prog fn conds false) (s.post enc C.prog fn false true false false):=by
 refine returnsInHanded_of_change_sized own started xQ zx witness ?_;intro W base args ds gs before cE hW _ hsz _;exact B5b ux laid Bv n5 K4 hs hT auU (D1Y tH _ _) cE hW hsz
end Go.Mid
