/- A law's arguments, read as data, are pure values; a law's proof by a run of the middle semantics. -/
import Derived.Test.YtgmkjifkkiklcaaDoorM5
import Derived.ProofKit
import Derived.OpenShut
import Derived.Carry
import Derived.SizedLaws
namespace Go.Mid
set_option linter.unusedSimpArgs false
set_option linter.unusedVariables false
open Go.RowKit
inductive HasT (P:Program):TypeId->PV->Prop where
 |int {t:TypeId} {k:IntKind} {n:Int} (h:P.underlying t=some (.int k)) (w:(Lit.int k n).wf=true):HasT P t (.int k n)
 |bool {t:TypeId} {b:Bool} (h:P.underlying t=some .bool):HasT P t (.bool b)
 |str {t:TypeId} {s:ByteArray} (h:P.underlying t=some .string) (w:s.size<=maxLen):HasT P t (.str s)
 |sl {t e:TypeId} {l:List PV} (h:P.underlying t=some (.slice e)) (w:l.length<=reachBytes) (el:∀x∈l,HasT P e x):HasT P t (.sl l)
 |agg {t:TypeId} {fs:Array Field} {l:List PV} (h:P.underlying t=some (.struct fs)) (w:l.length=fs.size) (el:∀(i:Nat) (f:Field) (x:PV),fs[i]?=some f->l[i]?=some x->HasT P f.type x):HasT P t (.agg l)
 |arr {t e:TypeId} {k:Nat} {l:List PV} (h:P.underlying t=some (.array k e)) (w:l.length=k) (el:∀x∈l,HasT P e x):HasT P t (.agg l)
def A8X (P:Program):Nat->TypeId->Bool
 |0,_=>false
 | n+1,t=>match P.underlying t with
   |some (.int _) | some .bool | some .string=>P.cellsOf t==1
   |some (.slice e)=>P.cellsOf t==1&&P.cellsOf e != 0&&P.bytesOf e != 0&&A8X P n e
   |some (.struct fs)=>A8K P fs.toList 0&&(fs.toList.map λf=>P.cellsOf f.type).sum==P.cellsOf t&&fs.toList.all λf=>A8X P n f.type
   |some (.array k e)=>k*P.cellsOf e==P.cellsOf t&&A8X P n e
   |_=>false
section
variable {H:Type}{enc:TypeId×Value->H}{P:Program}{w:World}{sp:Nat->Bool}{held:Bool}
theorem A93 {α β:Type}{f:α->Option β}:∀ {l:List α} {r:List β},l.mapM f=some r->r.length=l.length∧∀ (i:Nat) (x:α),l[i]?=some x->∃ y,f x=some y∧r[i]?=some y
 | [],r,h=>by simp at h;subst h;exact⟨rfl,λi x hx=>by simp at hx⟩
 |x::l,r,h=>by
   rw[List.mapM_cons] at h;cases hf:f x with
   |none=>simp[hf] at h
   |some y =>
     cases hl:l.mapM f with
     |none=>simp[hf,hl] at h
     |some ys =>
       simp[hf,hl] at h;subst h;obtain⟨h1,h2⟩:=A93 hl;refine⟨by simp[h1],λi z hz=>?_⟩
       cases i with
       |zero=>simp at hz;subst hz;exact⟨y,hf,rfl⟩
       |succ i=>simpa using h2 i z (by simpa using hz)
theorem B48 {a:Addr}{n:Nat}{cs:List Value}(h:w.cells? 0 a n=some cs):cs.length=n∧∀j v,cs[j]?=some v->w.cell? (a.add j)=some v:=by
 unfold World.cells? at h;simp only[Nat.zero_le,if_true] at h;obtain⟨h1,h2⟩:=A93 h;rw[List.length_range] at h1;refine⟨h1,λj v hj=>?_⟩
 have hlt:j<n:=by rw[←h1];exact(List.getElem?_eq_some_iff.1 hj).1
 obtain⟨y,hy,hr⟩:=h2 j j (by rw[List.getElem?_range hlt])
 rw[hr] at hj;rw[hy,Option.some.inj hj]
theorem B49 (a:Addr):a.add 0=a:=by
 unfold Addr.add;split<;>simp_all
theorem C8f {a:Addr}{n:Nat}{cs:List Value}(hn:0<n)(h:w.cells? 0 a n=some cs):a.block<w.heap.size:=by
 obtain⟨h1,h2⟩:=B48 h
 have:=h2 0 cs[0] (by simp[h1,hn])
 rw[B49] at this;exact World.block_lt_of_cell? w a this
theorem C01 {A:Nat->Prop}:∀ (fs:List Field) (cs:List Value) (o:Nat) (xs:List PV),A8K P fs o=true->cs.length=o+(fs.map λf=>P.cellsOf f.type).sum->xs.length=fs.length->
 (∀(i:Nat) (f:Field) (x:PV),fs[i]?=some f->xs[i]?=some x->PVc w A x ((cs.drop f.offset).take (P.cellsOf f.type)))->PVcs w A xs (cs.drop o)
 | [],cs,o,xs,_,hl,hx,_=>by
   have:xs=[]:=List.eq_nil_of_length_eq_zero (by simpa using hx)
   subst this;simp only[PVcs];rw[List.drop_eq_nil_iff];simp at hl;omega
 |f::fs,cs,o,xs,ho,hl,hx,h=>by
   cases xs with
   |nil=>simp at hx
   |cons x xs =>
     simp only[A8K,Bool.and_eq_true,beq_iff_eq] at ho;obtain⟨⟨h1,_⟩,h2⟩:=ho;simp only[PVcs];refine⟨(cs.drop o).take (P.cellsOf f.type),cs.drop (o+P.cellsOf f.type),?_,?_,?_⟩
     . rw[←List.drop_drop,List.take_append_drop]
     . have:=h 0 f x rfl rfl
       rwa [h1] at this
     . refine C01 fs cs (o+P.cellsOf f.type) xs h2 ?_ (by simpa using hx) (λi g y hg hy=>h (i+1) g y hg hy)
       simp only[List.map_cons,List.sum_cons] at hl;omega
theorem C2V {A:Nat->Prop}(z:Nat):∀ (xs:List PV) (cs:List Value),cs.length=xs.length*z->(∀ (i:Nat) (x:PV),xs[i]?=some x->PVc w A x ((cs.drop (i*z)).take z))->PVcs w A xs cs
 | [],cs,hl,_=>by
   simp only[PVcs];exact List.eq_nil_of_length_eq_zero (by simpa using hl)
 |x::xs,cs,hl,h=>by
   simp only[PVcs];refine⟨cs.take z,cs.drop z,(List.take_append_drop z cs).symm,?_,?_⟩
   . have:=h 0 x rfl
     simpa using this
   . refine C2V z xs (cs.drop z) (by rw [List.length_drop,hl,List.length_cons,Nat.succ_mul];omega) (λi y hy=>?_)
     have:=h (i+1) y (by simpa using hy)
     rw[Nat.succ_mul,Nat.add_comm,←List.drop_drop] at this;exact this
theorem B2p {e:TypeId}:∀ {ds:List (DataW H)} {d:DataW H},d∈ds->∀ m∈d.weights P e,m∈DataW.weightsAll P e ds
 | [],_,h,_,_=>by cases h
 |x::r,d,h,m,hm=>by
   simp only[DataW.weightsAll,List.mem_append];rcases List.mem_cons.1 h with rfl | h
   . exact .inl hm
   . exact .inr (B2p h m hm)
theorem C5f:∀ (fuel n:Nat) (t:TypeId) (cs:List Value) (x:DataW H×List MemPlace),A8X P n t=true->DataW.trod enc P w 0 sp held fuel t cs=some x->(∀ m∈x.1.weights P t,m<=reachBytes)->∃ pv,PVc w (· < w.heap.size) pv cs∧HasT P t pv∧pv.isAgg=A04 P t
 |0,n,t,cs,x,_,h,_=>by simp[DataW.trod] at h
 |fuel+1,0,t,cs,x,hs,_,_=>by simp[A8X] at hs
 |fuel+1,n+1,t,cs,x,hs,h,hwt=>by
   have ih:=C5f fuel;simp only[A8X] at hs;cases hu:P.underlying t with
   |none=>simp[hu] at hs
   |some d =>
     rw[hu] at hs;cases d<;>simp only[Bool.false_eq_true,Bool.and_eq_true,beq_iff_eq,bne_iff_ne,ne_eq] at hs
     case bool =>
      unfold DataW.trod at h;rw[hu] at h
      match cs,h with
      | [.bool b],_=>exact⟨.bool b,by simp only[PVc],.bool hu,by simp[PV.isAgg,A04,hu]⟩
     case int k =>
      unfold DataW.trod at h;rw[hu] at h
      match cs,h with
      | [.int k' m],h =>
        simp only at h;split at h
        . rename_i hc;obtain⟨rfl,hw⟩:=hc;exact⟨.int k' m,by simp only[PVc],.int hu hw,by simp[PV.isAgg,A04,hu]⟩
        . cases h
     case string =>
      unfold DataW.trod at h;rw[hu] at h
      match cs,h with
      | [.string s],h =>
        simp only at h;split at h
        . rename_i hc;exact⟨.str s,by simp only[PVc],.str hu hc,by simp[PV.isAgg,A04,hu]⟩
        . cases h
     case slice e =>
      unfold DataW.trod at h;rw[hu] at h
      match cs,h with
      | [.slice none 0 0],_=>exact⟨.sl [],by simp only[PVc];exact⟨none,0,rfl,Nat.le_refl _,.inl trivial⟩,.sl hu (Nat.zero_le _) (λx hx=>by cases hx),by simp[PV.isAgg,A04,hu]⟩
      | [.slice (some a) len cap],h =>
        simp only at h;split at h
        . rename_i hc;obtain ⟨_,hlc,hcap⟩:=hc;cases hm:(List.range len).mapM (λi=>(w.cells? 0 (a.add (i*P.cellsOf e)) (P.cellsOf e)).bind (DataW.trod enc P w 0 sp held fuel e)) with
          |none=>rw[hm] at h;cases h
          |some elems =>
            obtain⟨hl,hel⟩:=A93 hm;rw[List.length_range] at hl;obtain⟨rest,hx⟩:∃rest:List (DataW H×List MemPlace),x.1=.slice (elems.map (·.1)) (rest.map (·.1)):=by
             rw[hm] at h;simp only[Option.bind_some,Option.map_eq_some_iff] at h;obtain⟨rest,_,rfl⟩:=h;exact⟨rest,rfl⟩
            rw[hx] at hwt;simp only[DataW.weights,hu,List.mem_cons,List.mem_append] at hwt;have hreach:len<=reachBytes:=by
             have h1:=hwt _ (.inl rfl);simp only[List.length_map,hl] at h1;have h2:0<P.bytesOf e:=Nat.pos_of_ne_zero hs.1.2;exact Nat.le_trans (Nat.le_trans (Nat.le_add_right len rest.length) (Nat.le_mul_of_pos_right _ h2)) h1
            have each:∀i,i<len->∃pv c,w.cells? 0 (a.add (i*P.cellsOf e)) (P.cellsOf e)=some c∧PVc w (· < w.heap.size) pv c∧HasT P e pv:=by
             intro i hi;obtain⟨y,hy,hyi⟩:=hel i i (by rw[List.getElem?_range hi])
             cases hc:w.cells? 0 (a.add (i*P.cellsOf e)) (P.cellsOf e) with
             |none=>rw[hc] at hy;cases hy
             |some c =>
               rw[hc] at hy;obtain⟨pv,q1,q2,_⟩:=ih n e c y hs.2 hy (λm hm'=>hwt m (.inr (.inl (B2p (List.mem_map.2 ⟨y,List.mem_of_getElem? hyi,rfl⟩) m hm'))))
               exact⟨pv,c,rfl,q1,q2⟩
            have hpos:0<P.cellsOf e:=Nat.pos_of_ne_zero hs.1.1.2;by_cases h0:len=0
            . subst h0;exact⟨.sl [],by simp only[PVc];exact⟨some a,cap,rfl,Nat.zero_le _,.inl trivial⟩,.sl hu (Nat.zero_le _) (λx hx=>by cases hx),by simp[PV.isAgg,A04,hu]⟩
            . have hspot:a.spot=none:=by
               obtain⟨pv,c,hc,_⟩:=each 0 (by omega)
               have hb:=(B48 hc);have hcl:=hb.2 0 c[0] (by simp[hb.1,hpos])
               rw[Nat.zero_mul,B49,B49] at hcl;unfold World.cell? at hcl;split at hcl
               . split at hcl
                 . cases hcl
                 . rename_i hsp;simpa using hsp
               . cases hcl
              obtain⟨b,o,s⟩:=a;simp only at hspot;subst hspot;have build:∀m,m<=len->∃l:List PV,l.length=m∧(∀x∈l,HasT P e x)∧PVel w (· < w.heap.size) l b (o+(len-m)*P.cellsOf e) (P.cellsOf e):=by
               intro m
               induction m with
               |zero=>intro _;exact⟨[],rfl,(λx hx=>by cases hx),(by simp only[PVel])⟩
               |succ m ihm =>
                 intro hm;obtain⟨l,h1,h2,h3⟩:=ihm (by omega)
                 obtain⟨pv,c,hc,q1,q2⟩:=each (len-(m+1)) (by omega)
                 rw[A2s] at hc;obtain⟨r1,r2⟩:=B48 hc;refine⟨pv::l,by simp[h1],λx hx=>(List.mem_cons.1 hx).elim (λe=>e ▸ q2) (h2 x),?_⟩
                 simp only[PVel];refine⟨⟨c,q1,r1,λj v hj=>?_⟩,?_⟩
                 . have:=r2 j v hj
                   rwa [A2s] at this
                 . have e:o+(len-(m+1))*P.cellsOf e+P.cellsOf e=o+(len-m)*P.cellsOf e:=by
                    rw[show len-m=(len-(m+1))+1 by omega,Nat.succ_mul];omega
                   rw[e];exact h3
              obtain⟨l,h1,h2,h3⟩:=build len (Nat.le_refl _);rw[Nat.sub_self,Nat.zero_mul,Nat.add_zero] at h3;have hblk:b<w.heap.size:=by
               obtain⟨pv,c,hc,_⟩:=each 0 (by omega)
               have:=C8f hpos hc
               rw[A2s] at this;exact this
              refine⟨.sl l,?_,.sl hu (by rw[h1];exact hreach) h2,by simp[PV.isAgg,A04,hu]⟩
              simp only[PVc,h1];exact⟨some ⟨b,o,none⟩,cap,rfl,hlc,.inr ⟨b,o,P.cellsOf e,rfl,hblk,h3⟩⟩
        . cases h
     case array k e =>
      unfold DataW.trod at h;rw[hu] at h;simp only at h;split at h
      . rename_i hcl;cases hm:(List.range k).mapM (λi=>DataW.trod enc P w 0 sp held fuel e ((cs.drop (i*P.cellsOf e)).take (P.cellsOf e))) with
        |none=>rw[hm] at h;cases h
        |some xs =>
          obtain⟨hl,hel⟩:=A93 hm;have hx:x.1=.agg (xs.map (·.1)):=by
           rw[hm] at h;simp only[Option.map_some,Option.some.injEq] at h;rw[←h]
          rw[hx] at hwt;simp only[DataW.weights,hu] at hwt;have each:∀i,i<k->∃pv,PVc w (· < w.heap.size) pv ((cs.drop (i*P.cellsOf e)).take (P.cellsOf e))∧HasT P e pv:=by
           intro i hi;obtain⟨y,hy,hyi⟩:=hel i i (by rw[List.getElem?_range hi])
           obtain⟨pv,q1,q2,_⟩:=ih n e _ y hs.2 hy (λm hm'=>hwt m (B2p (List.mem_map.2 ⟨y,List.mem_of_getElem? hyi,rfl⟩) m hm'))
           exact⟨pv,q1,q2⟩
          have build:∀m,m<=k->∃l:List PV,l.length=m∧∀(i:Nat) (x:PV),l[i]?=some x->PVc w (· < w.heap.size) x ((cs.drop (i*P.cellsOf e)).take (P.cellsOf e))∧HasT P e x:=by
           intro m
           induction m with
           |zero=>intro _;exact⟨[],rfl,λi x hx=>by simp at hx⟩
           |succ m ihm =>
             intro hm;obtain⟨l,h1,h2⟩:=ihm (by omega)
             obtain⟨pv,q1,q2⟩:=each m (by omega)
             refine⟨l++[pv],by simp[h1],λi x hx=>?_⟩
             by_cases hi:i<l.length
             . rw[List.getElem?_append_left hi] at hx;exact h2 i x hx
             . rw [List.getElem?_append_right (by omega)] at hx
               have hi2:i-l.length=0:=by
                have:=(List.getElem?_eq_some_iff.1 hx).1
                simp at this;omega
               rw[hi2] at hx;simp only[List.getElem?_cons_zero,Option.some.injEq] at hx;subst hx
               have:i=m:=by omega
               subst this;exact⟨q1,q2⟩
          obtain⟨l,h1,h2⟩:=build k (Nat.le_refl _);refine⟨.agg l,?_,.arr hu h1 (λx hx=>?_),by simp[PV.isAgg,A04,hu]⟩
          . simp only[PVc];exact C2V (P.cellsOf e) l cs (by rw[hcl,h1,hs.1]) (λi x hx=>(h2 i x hx).1)
          . obtain⟨i,hi⟩:=List.getElem?_of_mem hx;exact(h2 i x hi).2
      . cases h
     case struct fs =>
      unfold DataW.trod at h;rw[hu] at h;simp only at h;split at h
      . rename_i hcl;cases hm:fs.toList.mapM (λf=>DataW.trod enc P w 0 sp held fuel f.type ((cs.drop f.offset).take (P.cellsOf f.type))) with
        |none=>rw[hm] at h;cases h
        |some xs =>
          obtain⟨hl,hel⟩:=A93 hm;have hx:x.1=.agg (xs.map (·.1)):=by
           rw[hm] at h;simp only[Option.map_some,Option.some.injEq] at h;rw[←h]
          rw[hx] at hwt;simp only[DataW.weights,hu] at hwt;obtain⟨⟨hoff,hsum⟩,hall⟩:=hs;have each:∀(i:Nat) (f:Field),fs.toList[i]?=some f->∃pv,PVc w (· < w.heap.size) pv ((cs.drop f.offset).take (P.cellsOf f.type))∧HasT P f.type pv:=by
           intro i f hf;obtain⟨y,hy,hyi⟩:=hel i f hf;obtain⟨pv,q1,q2,_⟩:=ih n f.type _ y (List.all_eq_true.1 hall f (List.mem_of_getElem? hf)) hy (λm hm'=>hwt m (DataW.weights_mem_each (j:=i) (by rw[List.getElem?_map,hf];rfl) (by rw[List.getElem?_map,hyi];rfl) m hm'))
           exact⟨pv,q1,q2⟩
          have build:∀ gs:List Field,(∀ f∈gs,∃ pv,PVc w (· < w.heap.size) pv ((cs.drop f.offset).take (P.cellsOf f.type))∧HasT P f.type pv)->
           ∃l:List PV,l.length=gs.length∧∀(i:Nat) (f:Field) (x:PV),gs[i]?=some f->l[i]?=some x->PVc w (· < w.heap.size) x ((cs.drop f.offset).take (P.cellsOf f.type))∧HasT P f.type x:=by
           intro gs
           induction gs with
           |nil=>intro _;exact⟨[],rfl,λi f x hf=>by simp at hf⟩
           |cons g gs ihg =>
             intro hg;obtain⟨pv,q1,q2⟩:=hg g (by simp)
             obtain⟨l,h1,h2⟩:=ihg (λf hf=>hg f (by simp[hf]))
             refine⟨pv::l,by simp[h1],λi f x hf hx=>?_⟩
             cases i with
             |zero=>simp at hf hx;subst hf hx;exact⟨q1,q2⟩
             |succ i=>exact h2 i f x (by simpa using hf) (by simpa using hx)
          obtain⟨l,h1,h2⟩:=build fs.toList (λf hf=>by
           obtain⟨i,hi⟩:=List.getElem?_of_mem hf;exact each i f hi)
          have:=C01 (w:=w) (A:=(· < w.heap.size)) fs.toList cs 0 l hoff (by rw[hsum,hcl];omega) h1 (λi f x hf hx=>(h2 i f x hf hx).1)
          rw[List.drop_zero] at this;refine⟨.agg l,by simp only[PVc];exact this,.agg hu (by simpa using h1) (λi f x hf hx=>(h2 i f x (by simpa using hf) hx).2),by simp[PV.isAgg,A04,hu]⟩
      . cases h
inductive HasTs (P:Program):List TypeId->List PV->Prop where
 |nil:HasTs P [] []
 |cons {t:TypeId} {ts:List TypeId} {v:PV} {vs:List PV} (h:HasT P t v) (r:HasTs P ts vs):HasTs P (t::ts) (v::vs)
theorem C4K {r:Reach}{base:Nat}{t:TypeId}{v:Value}{n:Nat}(hs:A8X P n t=true)(h:Value.okWide P w r base t v):pk (A04 P t) v.cells.toList=v:=by
 cases n with
 |zero=>simp[A8X] at hs
 |succ n =>
   unfold Value.okWide at h;simp only[A8X] at hs;cases hu:P.underlying t with
   |none=>simp[hu] at hs
   |some d =>
     rw[hu] at hs h;cases d<;>simp only[Bool.false_eq_true] at hs
     case struct fs =>
      simp only at h;obtain⟨cs,rfl,_⟩:=h;simp[pk,A04,hu,Value.cells]
     case array k e =>
      simp only at h;obtain⟨cs,rfl,_⟩:=h;simp[pk,A04,hu,Value.cells]
     all_goals
      simp only at h;cases v<;>simp[Cell.okWide,Cell.ok,hu] at h<;>simp[pk,A04,hu,Value.cells]
theorem B6K {r:Reach}{base:Nat}{n:Nat}:∀ {ts:List TypeId} {vs:List Value} {ds:List (DataW H)} {ps:List MemPlace},(∀ t∈ts,A8X P n t=true)->(∀ (j:Nat) (t:TypeId) (v:Value),ts[j]?=some t->vs[j]?=some v->Value.okWide P w r base t v)->
 DataW.TrodAll enc P w 0 sp held ts vs ds ps->(∀m∈DataW.weightsEach P ts ds,m<=reachBytes)->ds.length=ts.length∧∃us:List PV,HasTs P ts us∧PVvs w (· < w.heap.size) us vs
 | [],vs,ds,ps,_,_,h,_=>by
   cases vs<;>cases ds<;>simp only[DataW.TrodAll] at h;exact⟨rfl,[],.nil,by simp only[PVvs]⟩
 |t::ts,vs,ds,ps,hs,hv,h,hwt=>by
   cases vs with
   |nil=>cases ds<;>simp only[DataW.TrodAll] at h
   |cons v vs =>
     cases ds with
     |nil=>simp only[DataW.TrodAll] at h
     |cons d ds =>
       simp only[DataW.TrodAll] at h;obtain⟨p,q,⟨fuel,h1⟩,h2,_⟩:=h;simp only[DataW.weightsEach,List.mem_append] at hwt;obtain⟨h3,us,h4,h5⟩:=B6K (λt ht=>hs t (by simp[ht])) (λj t v hj hvj=>hv (j+1) t v (by simpa using hj) (by simpa using hvj)) h2 (λm hm=>hwt m (.inr hm))
       obtain⟨pv,q1,q2,q3⟩:=C5f fuel n t _ (d,p) (hs t (by simp)) h1 (λm hm=>hwt m (.inl hm))
       refine⟨by simp[h3],pv::us,.cons q2 h4,?_⟩
       simp only[PVvs];refine⟨v.cells.toList,vs,?_,q1,h5⟩;rw[q3,C4K (hs t (by simp)) (hv 0 t v rfl rfl)]
theorem B4x {W W':World}{sp':Nat->Bool}(hl:laidOutB P=true)(hsame:∀ p,p.block<W.heap.size->W.sameAt W' p):∀ {ts:List TypeId} {vs:List Value} {ds:List (DataW H)} {ps:List MemPlace},(∀ t∈ts,P.readableRec t=true∧t<P.types.size)->
 DataW.TrodAll enc P W 0 (λ_=>true) true ts vs ds ps->(∀p∈ps,p.block<W.heap.size∧sp' p.block=true)->DataW.TrodAll enc P W' 0 sp' true ts vs ds ps
 | [],vs,ds,ps,_,h,_=>by
   cases vs<;>cases ds<;>simp only[DataW.TrodAll] at h ⊢;exact h
 |t::ts,vs,ds,ps,hr,h,hp=>by
   cases vs with
   |nil=>cases ds<;>simp only[DataW.TrodAll] at h
   |cons v vs =>
     cases ds with
     |nil=>simp only[DataW.TrodAll] at h
     |cons d ds =>
       simp only[DataW.TrodAll] at h ⊢;obtain⟨p,q,h1,h2,rfl⟩:=h;obtain⟨r1,r2⟩:=hr t (by simp)
       exact⟨p,q,WideElems.Trod_stays hl r1 r2 h1 (λx hx=>hsame x (hp x (by simp[hx])).1) (λx hx=>(hp x (by simp[hx])).2),B4x hl hsame (λt ht=>hr t (by simp[ht])) h2 (λx hx=>hp x (by simp[hx])),rfl⟩
end
def D1q (P:Program):Bool:=P.globals.toList.all λx=>x.name != "math/bits.deBruijn32tab"
theorem D1Y {P:Program}(h:D1q P=true)(w:World)(A:Nat->Prop):GL P w A:=by
 intro g v hg;unfold B9y at hg;split at hg
 . rename_i x hx;have hm:x∈P.globals.toList:=by
    have:=Array.mem_of_getElem? hx
    simpa using this
   have:=List.all_eq_true.1 h x hm
   simp only[bne_iff_ne,ne_eq] at this;rw[if_neg (by simpa using this)] at hg
   cases hg
 . cases hg
theorem B5a {H:Type}{P:Program}{m:Nat}:∀ {ts us:List TypeId} {ds:List (DataW H)},m∈DataW.weightsEach P ts ds->m∈DataW.weightsEach P (ts++us) ds
 | [],_,[],h=>by simp[DataW.weightsEach] at h
 | [],_,_::_,h=>by simp[DataW.weightsEach] at h
 |_::_,_,[],h=>by simp[DataW.weightsEach] at h
 |t::ts,us,d::ds,h=>by
   simp only[List.cons_append,DataW.weightsEach,List.mem_append] at h ⊢;exact h.imp id B5a
open Go.ChangeShapes in
theorem B5b {C:Checked}{k:Nat}{fn:Func}{H:Type}{enc:TypeId×Value->H}{s:ChangeSpec}(hvars:s.vars=[])
 (laid:laidOutB C.prog=true) (hsup:fn.params.toList.all (λt=>A8X C.prog 12 t&&C.prog.readableRec t&&decide (t<C.prog.types.size))=true) {tb:TypeId} (hres:fn.resultTypes=#[tb]) (htb:C.prog.underlying tb=some .bool)
 (hs:∀ds:List (DataW H),ds.length=fn.params.toList.length->s.fn H ds={ results:=[.lit (.bool true)],args:=ds })
 {Φ:Tbl} (hT:TblOk C.prog Φ) (hrun:∀vs:List PV,HasTs C.prog fn.params.toList vs->∃n,A1R Φ (run Φ n) k (vs.map .p) []=some (.p (.bool true),[],[]))
 {W:World} {base:Nat} {args:Array Value} {ds gs:List (DataW H)} {before:List MemPlace} (hgl:GL C.prog W (· < W.heap.size))
 (hval:∀(j:Nat) t v,fn.params[j]?=some t->args[j]?=some v->Value.okWide C.prog W .any base t v)
 (hW:DataW.Whole enc C.prog fn.params.toList s.vars false W args.toList ds gs before)
 (hsz:(DataW.weightsEach C.prog (fn.params.toList++s.plain.varTypes C.prog) (ds++gs)).all (·<=reachBytes)=true) :
 Calls C.prog k args W λe W'=>∃v,e=.returned v∧s.post enc C.prog fn false true false false W args v W':=by
 have hW':=hW;obtain⟨p,q,hA,hV,rfl,hfz,hnd⟩:=hW;rw[hvars] at hV;obtain⟨rfl,rfl⟩:=trodVars_none hV;have hall:∀t∈fn.params.toList,A8X C.prog 12 t=true∧C.prog.readableRec t=true∧t<C.prog.types.size:=by
  intro t ht
  have:=List.all_eq_true.1 hsup t ht
  simp only[Bool.and_eq_true,decide_eq_true_eq] at this;exact⟨this.1.1,this.1.2,this.2⟩
 obtain⟨hlen,us,h1,h2⟩:=B6K (n:=12) (λt ht=>(hall t ht).1) (λj t v hj hv=>hval j t v (by simpa using hj) (by simpa using hv)) hA (λm hm=>by
  rw[List.append_nil] at hsz
  have:=List.all_eq_true.1 hsz m (B5a hm)
  simpa using this)
 obtain⟨n,hn⟩:=hrun us h1;obtain⟨_,hc⟩:=C5e hT n _ _ _ _ _ _ hn;have hc:=hc W (· < W.heap.size) (λ_=>none) args.toList hgl (A7g.2 h2) (MR.none λb hb=>hb)
 have harr:args.toList.toArray=args:=by simp
 rw[harr] at hc;refine hc.mono ?_;rintro e W' ⟨v,rfl,A',E',nx',_,g,hv⟩;have hvb:=A2r.1 hv;subst hvb;refine⟨_,rfl,?_⟩;have hold:∀b,b<W.heap.size->W'.heap[b]?=W.heap[b]?:=λb hb=>g.keep b hb A4T
 have hbelow:Below W.heap.size W W':=⟨g.os,g.tape,g.output,g.size,λb hb=>hold b hb⟩
 have hsd:=hs ds hlen;refine⟨ds,[],p++[],[],p,[],hW',?_,?_,?_,hbelow.frame _,λh=>by cases h⟩
 . rw[hres,List.append_nil,hsd];exact trodAll_cons_mk (shut_bool htb _) trodAll_mk0
 . rw [List.append_nil,hsd];refine B4x laid (λx hx=>hbelow.same hx) (λt ht=>(hall t ht).2) hA (λx hx=>?_)
   have:x.block<W.heap.size:=by simpa using hW'.lt x (by simpa using hx)
   exact⟨this,by simpa using this⟩
 . rw[hvars,List.append_nil,hsd];rfl
open Go.ChangeShapes in
theorem D47 {C:Checked}{os:Os}(own:ownKnob C.prog.godebug=none)(started:os.Started){k:Nat}{fn:Func}(noInit:C.prog.inits.idxOf? k=none)(hfn:C.prog.funcs[k]?=some fn){H:Type}{enc:TypeId×Value->H}{s:ChangeSpec}{conds:List PathCond}(hvars:s.vars=[])
 (laid:laidOutB C.prog=true) (hsup:fn.params.toList.all (λt=>A8X C.prog 12 t&&C.prog.readableRec t&&decide (t<C.prog.types.size))=true) {tb:TypeId} (hres:fn.resultTypes=#[tb]) (htb:C.prog.underlying tb=some .bool)
 (hs:∀ds:List (DataW H),ds.length=fn.params.toList.length->s.fn H ds={ results:=[.lit (.bool true)],args:=ds })
 (witness:∃ (w:World) (tape:Tape) (i:Input),w.os=os∧(w.forCall tape i).Shaped C.prog∧i.vars=[]∧Input.okWide C.prog (w.forCall tape i) .any w.heap.size k i ∧
   s.pre6 enc C.prog fn conds false (w.forCall tape i).memory i.args∧({}:Assume).holds C.prog (lone (Frame.enter C.prog k i.args .normal) [] (w.forCall tape i)))
 (hgl:D1q C.prog=true) {Φ:Tbl} (hT:TblOk C.prog Φ) (hrun:∀vs:List PV,HasTs C.prog fn.params.toList vs->∃n,A1R Φ (run Φ n) k (vs.map .p) []=some (.p (.bool true),[],[])) :
 ReturnsInHanded {} C os k .any (s.pre6 enc C.prog fn conds false) (s.post enc C.prog fn false true false false):=by
 refine returnsInHanded_of_change_sized own started noInit hfn witness ?_;intro W base args ds gs before hval hW _ hsz _;exact B5b hvars laid hsup hres htb hs hT hrun (D1Y hgl _ _) hval hW hsz
end Go.Mid
