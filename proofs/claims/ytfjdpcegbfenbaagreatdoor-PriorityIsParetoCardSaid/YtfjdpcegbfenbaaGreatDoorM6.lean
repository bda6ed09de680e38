/- A law's arguments, read as data, are pure values; a law's proof by a run of the middle semantics. -/
import Derived.Test.YtfjdpcegbfenbaaGreatDoorM5
import Derived.ProofKit
import Derived.OpenShut
import Derived.Carry
import Derived.SizedLaws
set_option linter.unusedSimpArgs false
set_option linter.unusedVariables false
open Bool renaming and_eq_true → ak, false_eq_true → aF
open Go.DataW renaming trod → gS, weights → o7, TrodAll → eM, weightsEach → eu
open Go.Value renaming okWide → nH, cells → dp
open List renaming length_range → gH, getElem?_eq_some_iff → aL, getElem?_range → fN, eq_nil_of_length_eq_zero → bA, drop_drop → kG, take_append_drop → bN, mem_append → ay, mem_cons → aM, range → bp, mem_map → bj, mem_of_getElem? → bH, getElem?_of_mem → lF, all_eq_true → bg, getElem?_map → aN, append_nil → bE
open Nat renaming zero_le → dq, succ_mul → dA, le_refl → au, pos_of_ne_zero → eH, le_trans → dI, zero_mul → dk
open Option.some renaming inj → cm, injEq → aa
namespace Go.Mid
open Go.RowKit
inductive l9 (P:Program):TypeId→PV→Prop where
 | int {t:TypeId} {k:IntKind} {n:Int} (h:P.underlying t=some (.int k)) (w:(Lit.int k n).wf=true):l9 P t (.int k n)
 | bool {t:TypeId} {b:Bool} (h:P.underlying t=some .bool):l9 P t (.bool b)
 | str {t:TypeId} {s:ByteArray} (h:P.underlying t=some .string) (w:s.size≤maxLen):l9 P t (.str s)
 | sl {t e:TypeId} {l:List PV} (h:P.underlying t=some (.slice e)) (w:l.length≤reachBytes) (el:∀ x∈l,l9 P e x):l9 P t (.sl l)
 | agg {t:TypeId} {fs:Array Field} {l:List PV} (h:P.underlying t=some (.struct fs)) (w:l.length=fs.size) (el:∀ (i:Nat) (f:Field) (x:PV),fs[i]?=some f→l[i]?=some x→l9 P f.type x):l9 P t (.agg l)
 | arr {t e:TypeId} {k:Nat} {l:List PV} (h:P.underlying t=some (.array k e)) (w:l.length=k) (el:∀ x∈l,l9 P e x):l9 P t (.agg l)
def wM (P:Program):Nat→TypeId→Bool
 | 0,_=>false
 | n+1,t=>match P.underlying t with
   | some (.int _) | some .bool | some .string=>P.cellsOf t==1
   | some (.slice e)=>P.cellsOf t==1&&P.cellsOf e != 0&&P.bytesOf e != 0&&wM P n e
   | some (.struct fs)=>Bu P fs.toList 0&&(fs.toList.map fun f=>P.cellsOf f.type).sum==P.cellsOf t&&fs.toList.all fun f=>wM P n f.type
   | some (.array k e)=>k*P.cellsOf e==P.cellsOf t&&wM P n e
   | _=>false
section
variable {H:Type}{enc:TypeId×Value→H}{P:Program}{w:World}{sp:Nat→Bool}{held:Bool}
theorem Ju {α β:Type}{f:α→Option β}:∀ {l:List α} {r:List β},l.mapM f=some r→r.length=l.length∧∀ (i:Nat) (x:α),l[i]?=some x→∃ y,f x=some y∧r[i]?=some y
 | [],r,h=>by simp at h;subst h;exact ⟨rfl,fun i x hx=>by simp at hx⟩
 | x::l,r,h=>by
   rw [List.mapM_cons] at h;cases hf:f x with
   | none=>simp [hf] at h
   | some y =>
     cases hl:l.mapM f with
     | none=>simp [hf,hl] at h
     | some ys =>
       simp [hf,hl] at h;subst h;obtain ⟨h1,h2⟩:=Ju hl;refine ⟨by simp [h1],fun i z hz=>?_⟩
       cases i with
       | zero=>simp at hz;subst hz;exact ⟨y,hf,rfl⟩
       | succ i=>simpa using h2 i z (by simpa using hz)
theorem SP {a:Addr}{n:Nat}{cs:List Value}(h:w.cells? 0 a n=some cs):cs.length=n∧∀ j v,cs[j]?=some v→w.cell? (a.add j)=some v:=by
 unfold World.cells? at h;simp only [dq,if_true] at h;obtain ⟨h1,h2⟩:=Ju h;rw [gH] at h1;refine ⟨h1,fun j v hj=>?_⟩
 have eC:j<n:=by rw [← h1];exact (aL.1 hj).1
 obtain ⟨y,hy,hr⟩:=h2 j j (by rw [fN eC])
 rw [hr] at hj;rw [hy,cm hj]
theorem SQ (a:Addr):a.add 0=a:=by
 unfold Addr.add;split<;>simp_all
theorem C9a {a:Addr}{n:Nat}{cs:List Value}(hn:0<n)(h:w.cells? 0 a n=some cs):a.block<w.heap.size:=by
 obtain ⟨h1,h2⟩:=SP h
 have:=h2 0 cs[0] (by simp [h1,hn])
 rw [SQ] at this;exact World.block_lt_of_cell? w a this
theorem ZY {A:Nat→Prop}:∀ (fs:List Field) (cs:List Value) (o:Nat) (xs:List PV),Bu P fs o=true→cs.length=o+(fs.map fun f=>P.cellsOf f.type).sum→xs.length=fs.length →
 (∀ (i:Nat) (f:Field) (x:PV),fs[i]?=some f→xs[i]?=some x→ed w A x ((cs.drop f.offset).take (P.cellsOf f.type)))→cU w A xs (cs.drop o)
 | [],cs,o,xs,_,hl,hx,_=>by
   have:xs=[]:=bA (by simpa using hx)
   subst this;simp only [cU];rw [List.drop_eq_nil_iff];simp at hl;omega
 | f::fs,cs,o,xs,ho,hl,hx,h=>by
   cases xs with
   | nil=>simp at hx
   | cons x xs =>
     simp only [Bu,ak,beq_iff_eq] at ho;obtain ⟨⟨h1,_⟩,h2⟩:=ho;simp only [cU];refine ⟨(cs.drop o).take (P.cellsOf f.type),cs.drop (o+P.cellsOf f.type),?_,?_,?_⟩
     · rw [← kG,bN]
     · have:=h 0 f x rfl rfl
       rwa [h1] at this
     · refine ZY fs cs (o+P.cellsOf f.type) xs h2 ?_ (by simpa using hx) (fun i g y hg hy=>h (i+1) g y hg hy)
       simp only [List.map_cons,List.sum_cons] at hl;omega
theorem ZZ {A:Nat→Prop}(z:Nat):∀ (xs:List PV) (cs:List Value),cs.length=xs.length*z→(∀ (i:Nat) (x:PV),xs[i]?=some x→ed w A x ((cs.drop (i*z)).take z))→cU w A xs cs
 | [],cs,hl,_=>by
   simp only [cU];exact bA (by simpa using hl)
 | x::xs,cs,hl,h=>by
   simp only [cU];refine ⟨cs.take z,cs.drop z,(bN z cs).symm,?_,?_⟩
   · have:=h 0 x rfl
     simpa using this
   · refine ZZ z xs (cs.drop z) (by rw [List.length_drop,hl,List.length_cons,dA];omega) (fun i y hy=>?_)
     have:=h (i+1) y (by simpa using hy)
     rw [dA,Nat.add_comm,← kG] at this;exact this
theorem SR {e:TypeId}:∀ {ds:List (DataW H)} {d:DataW H},d∈ds→∀ m∈d.weights P e,m∈DataW.weightsAll P e ds
 | [],_,h,_,_=>by cases h
 | x::r,d,h,m,hm=>by
   simp only [DataW.weightsAll,ay];rcases aM.1 h with rfl | h
   · exact .inl hm
   · exact .inr (SR h m hm)
theorem Z1:∀ (fuel n:Nat) (t:TypeId) (cs:List Value) (x:DataW H×List MemPlace),wM P n t=true→gS enc P w 0 sp held fuel t cs=some x→(∀ m∈x.1.weights P t,m≤reachBytes)→∃ pv,ed w (· < w.heap.size) pv cs∧l9 P t pv∧pv.isAgg=mU P t
 | 0,n,t,cs,x,_,h,_=>by simp [gS] at h
 | fuel+1,0,t,cs,x,hs,_,_=>by simp [wM] at hs
 | fuel+1,n+1,t,cs,x,hs,h,u6=>by
   have ih:=Z1 fuel;simp only [wM] at hs;cases hu:P.underlying t with
   | none=>simp [hu] at hs
   | some d =>
     rw [hu] at hs;cases d<;>simp only [aF,ak,beq_iff_eq,bne_iff_ne,ne_eq] at hs
     case bool =>
      unfold gS at h;rw [hu] at h
      match cs,h with
      | [.bool b],_=>exact ⟨.bool b,by simp only [ed],.bool hu,by simp [PV.isAgg,mU,hu]⟩
     case int k =>
      unfold gS at h;rw [hu] at h
      match cs,h with
      | [.int k' m],h =>
        simp only at h;split at h
        · rename_i hc;obtain ⟨rfl,hw⟩:=hc;exact ⟨.int k' m,by simp only [ed],.int hu hw,by simp [PV.isAgg,mU,hu]⟩
        · cases h
     case string =>
      unfold gS at h;rw [hu] at h
      match cs,h with
      | [.string s],h =>
        simp only at h;split at h
        · rename_i hc;exact ⟨.str s,by simp only [ed],.str hu hc,by simp [PV.isAgg,mU,hu]⟩
        · cases h
     case slice e =>
      unfold gS at h;rw [hu] at h
      match cs,h with
      | [.slice none 0 0],_=>exact ⟨.sl [],by simp only [ed];exact ⟨none,0,rfl,au _,.inl trivial⟩,.sl hu (dq _) (fun x hx=>by cases hx),by simp [PV.isAgg,mU,hu]⟩
      | [.slice (some a) len cap],h =>
        simp only at h;split at h
        · rename_i hc;obtain ⟨_,nL,n7⟩:=hc;cases hm:(bp len).mapM (fun i=>(w.cells? 0 (a.add (i*P.cellsOf e)) (P.cellsOf e)).bind (gS enc P w 0 sp held fuel e)) with
          | none=>rw [hm] at h;cases h
          | some elems =>
            obtain ⟨hl,iw⟩:=Ju hm;rw [gH] at hl;obtain ⟨rest,hx⟩:∃ rest:List (DataW H×List MemPlace),x.1=.slice (elems.map (·.1)) (rest.map (·.1)):=by
             rw [hm] at h;simp only [Option.bind_some,Option.map_eq_some_iff] at h;obtain ⟨rest,_,rfl⟩:=h;exact ⟨rest,rfl⟩
            rw [hx] at u6;simp only [o7,hu,aM,ay] at u6;have EY:len≤reachBytes:=by
             have h1:=u6 _ (.inl rfl);simp only [List.length_map,hl] at h1;have h2:0<P.bytesOf e:=eH hs.1.2;exact dI (dI (Nat.le_add_right len rest.length) (Nat.le_mul_of_pos_right _ h2)) h1
            have each:∀ i,i<len→∃ pv c,w.cells? 0 (a.add (i*P.cellsOf e)) (P.cellsOf e)=some c∧ed w (· < w.heap.size) pv c∧l9 P e pv:=by
             intro i hi;obtain ⟨y,hy,Jv⟩:=iw i i (by rw [fN hi])
             cases hc:w.cells? 0 (a.add (i*P.cellsOf e)) (P.cellsOf e) with
             | none=>rw [hc] at hy;cases hy
             | some c =>
               rw [hc] at hy;obtain ⟨pv,q1,q2,_⟩:=ih n e c y hs.2 hy (fun m vG=>u6 m (.inr (.inl (SR (bj.2 ⟨y,bH Jv,rfl⟩) m vG))))
               exact ⟨pv,c,rfl,q1,q2⟩
            have vL:0<P.cellsOf e:=eH hs.1.1.2;by_cases h0:len=0
            · subst h0;exact ⟨.sl [],by simp only [ed];exact ⟨some a,cap,rfl,dq _,.inl trivial⟩,.sl hu (dq _) (fun x hx=>by cases hx),by simp [PV.isAgg,mU,hu]⟩
            · have Df:a.spot=none:=by
               obtain ⟨pv,c,hc,_⟩:=each 0 (by omega)
               have hb:=(SP hc);have nO:=hb.2 0 c[0] (by simp [hb.1,vL])
               rw [dk,SQ,SQ] at nO;unfold World.cell? at nO;split at nO
               · split at nO
                 · cases nO
                 · rename_i EZ;simpa using EZ
               · cases nO
              obtain ⟨b,o,s⟩:=a;simp only at Df;subst Df;have build:∀ m,m≤len→∃ l:List PV,l.length=m∧(∀ x∈l,l9 P e x)∧fH w (· < w.heap.size) l b (o+(len-m)*P.cellsOf e) (P.cellsOf e):=by
               intro m
               induction m with
               | zero=>intro _;exact ⟨[],rfl,(fun x hx=>by cases hx),(by simp only [fH])⟩
               | succ m SS =>
                 intro hm;obtain ⟨l,h1,h2,h3⟩:=SS (by omega)
                 obtain ⟨pv,c,hc,q1,q2⟩:=each (len-(m+1)) (by omega)
                 rw [ue] at hc;obtain ⟨r1,r2⟩:=SP hc;refine ⟨pv::l,by simp [h1],fun x hx=>(aM.1 hx).elim (fun e=>e ▸ q2) (h2 x),?_⟩
                 simp only [fH];refine ⟨⟨c,q1,r1,fun j v hj=>?_⟩,?_⟩
                 · have:=r2 j v hj
                   rwa [ue] at this
                 · have e:o+(len-(m+1))*P.cellsOf e+P.cellsOf e=o+(len-m)*P.cellsOf e:=by
                    rw [show len-m=(len-(m+1))+1 by omega,dA];omega
                   rw [e];exact h3
              obtain ⟨l,h1,h2,h3⟩:=build len (au _);rw [Nat.sub_self,dk,Nat.add_zero] at h3;have jb:b<w.heap.size:=by
               obtain ⟨pv,c,hc,_⟩:=each 0 (by omega)
               have:=C9a vL hc
               rw [ue] at this;exact this
              refine ⟨.sl l,?_,.sl hu (by rw [h1];exact EY) h2,by simp [PV.isAgg,mU,hu]⟩
              simp only [ed,h1];exact ⟨some ⟨b,o,none⟩,cap,rfl,nL,.inr ⟨b,o,P.cellsOf e,rfl,jb,h3⟩⟩
        · cases h
     case array k e =>
      unfold gS at h;rw [hu] at h;simp only at h;split at h
      · rename_i nO;cases hm:(bp k).mapM (fun i=>gS enc P w 0 sp held fuel e ((cs.drop (i*P.cellsOf e)).take (P.cellsOf e))) with
        | none=>rw [hm] at h;cases h
        | some xs =>
          obtain ⟨hl,iw⟩:=Ju hm;have hx:x.1=.agg (xs.map (·.1)):=by
           rw [hm] at h;simp only [Option.map_some,aa] at h;rw [← h]
          rw [hx] at u6;simp only [o7,hu] at u6;have each:∀ i,i<k→∃ pv,ed w (· < w.heap.size) pv ((cs.drop (i*P.cellsOf e)).take (P.cellsOf e))∧l9 P e pv:=by
           intro i hi;obtain ⟨y,hy,Jv⟩:=iw i i (by rw [fN hi])
           obtain ⟨pv,q1,q2,_⟩:=ih n e _ y hs.2 hy (fun m vG=>u6 m (SR (bj.2 ⟨y,bH Jv,rfl⟩) m vG))
           exact ⟨pv,q1,q2⟩
          have build:∀ m,m≤k→∃ l:List PV,l.length=m∧∀ (i:Nat) (x:PV),l[i]?=some x→ed w (· < w.heap.size) x ((cs.drop (i*P.cellsOf e)).take (P.cellsOf e))∧l9 P e x:=by
           intro m
           induction m with
           | zero=>intro _;exact ⟨[],rfl,fun i x hx=>by simp at hx⟩
           | succ m SS =>
             intro hm;obtain ⟨l,h1,h2⟩:=SS (by omega)
             obtain ⟨pv,q1,q2⟩:=each m (by omega)
             refine ⟨l++[pv],by simp [h1],fun i x hx=>?_⟩
             by_cases hi:i<l.length
             · rw [List.getElem?_append_left hi] at hx;exact h2 i x hx
             · rw [List.getElem?_append_right (by omega)] at hx
               have oS:i-l.length=0:=by
                have:=(aL.1 hx).1
                simp at this;omega
               rw [oS] at hx;simp only [List.getElem?_cons_zero,aa] at hx;subst hx
               have:i=m:=by omega
               subst this;exact ⟨q1,q2⟩
          obtain ⟨l,h1,h2⟩:=build k (au _);refine ⟨.agg l,?_,.arr hu h1 (fun x hx=>?_),by simp [PV.isAgg,mU,hu]⟩
          · simp only [ed];exact ZZ (P.cellsOf e) l cs (by rw [nO,h1,hs.1]) (fun i x hx=>(h2 i x hx).1)
          · obtain ⟨i,hi⟩:=lF hx;exact (h2 i x hi).2
      · cases h
     case struct fs =>
      unfold gS at h;rw [hu] at h;simp only at h;split at h
      · rename_i nO;cases hm:fs.toList.mapM (fun f=>gS enc P w 0 sp held fuel f.type ((cs.drop f.offset).take (P.cellsOf f.type))) with
        | none=>rw [hm] at h;cases h
        | some xs =>
          obtain ⟨hl,iw⟩:=Ju hm;have hx:x.1=.agg (xs.map (·.1)):=by
           rw [hm] at h;simp only [Option.map_some,aa] at h;rw [← h]
          rw [hx] at u6;simp only [o7,hu] at u6;obtain ⟨⟨lK,SU⟩,ko⟩:=hs;have each:∀ (i:Nat) (f:Field),fs.toList[i]?=some f→∃ pv,ed w (· < w.heap.size) pv ((cs.drop f.offset).take (P.cellsOf f.type))∧l9 P f.type pv:=by
           intro i f hf;obtain ⟨y,hy,Jv⟩:=iw i f hf;obtain ⟨pv,q1,q2,_⟩:=ih n f.type _ y (bg.1 ko f (bH hf)) hy (fun m vG=>u6 m (DataW.weights_mem_each (j:=i) (by rw [aN,hf];rfl) (by rw [aN,Jv];rfl) m vG))
           exact ⟨pv,q1,q2⟩
          have build:∀ gs:List Field,(∀ f∈gs,∃ pv,ed w (· < w.heap.size) pv ((cs.drop f.offset).take (P.cellsOf f.type))∧l9 P f.type pv) →
           ∃ l:List PV,l.length=gs.length∧∀ (i:Nat) (f:Field) (x:PV),gs[i]?=some f→l[i]?=some x→ed w (· < w.heap.size) x ((cs.drop f.offset).take (P.cellsOf f.type))∧l9 P f.type x:=by
           intro gs
           induction gs with
           | nil=>intro _;exact ⟨[],rfl,fun i f x hf=>by simp at hf⟩
           | cons g gs ihg =>
             intro hg;obtain ⟨pv,q1,q2⟩:=hg g (by simp)
             obtain ⟨l,h1,h2⟩:=ihg (fun f hf=>hg f (by simp [hf]))
             refine ⟨pv::l,by simp [h1],fun i f x hf hx=>?_⟩
             cases i with
             | zero=>simp at hf hx;subst hf hx;exact ⟨q1,q2⟩
             | succ i=>exact h2 i f x (by simpa using hf) (by simpa using hx)
          obtain ⟨l,h1,h2⟩:=build fs.toList (fun f hf=>by
           obtain ⟨i,hi⟩:=lF hf;exact each i f hi)
          have:=ZY (w:=w) (A:=(· < w.heap.size)) fs.toList cs 0 l lK (by rw [SU,nO];omega) h1 (fun i f x hf hx=>(h2 i f x hf hx).1)
          rw [List.drop_zero] at this;refine ⟨.agg l,by simp only [ed];exact this,.agg hu (by simpa using h1) (fun i f x hf hx=>(h2 i f x (by simpa using hf) hx).2),by simp [PV.isAgg,mU,hu]⟩
      · cases h
inductive o4 (P:Program):List TypeId→List PV→Prop where
 | nil:o4 P [] []
 | cons {t:TypeId} {ts:List TypeId} {v:PV} {vs:List PV} (h:l9 P t v) (r:o4 P ts vs):o4 P (t::ts) (v::vs)
theorem C5s {r:Reach}{base:Nat}{t:TypeId}{v:Value}{n:Nat}(hs:wM P n t=true)(h:nH P w r base t v):pk (mU P t) v.cells.toList=v:=by
 cases n with
 | zero=>simp [wM] at hs
 | succ n =>
   unfold nH at h;simp only [wM] at hs;cases hu:P.underlying t with
   | none=>simp [hu] at hs
   | some d =>
     rw [hu] at hs h;cases d<;>simp only [aF] at hs
     case struct fs =>
      simp only at h;obtain ⟨cs,rfl,_⟩:=h;simp [pk,mU,hu,dp]
     case array k e =>
      simp only at h;obtain ⟨cs,rfl,_⟩:=h;simp [pk,mU,hu,dp]
     all_goals
      simp only at h;cases v<;>simp [Cell.okWide,Cell.ok,hu] at h<;>simp [pk,mU,hu,dp]
theorem Z2 {r:Reach}{base:Nat}{n:Nat}:∀ {ts:List TypeId} {vs:List Value} {ds:List (DataW H)} {ps:List MemPlace},(∀ t∈ts,wM P n t=true)→(∀ (j:Nat) (t:TypeId) (v:Value),ts[j]?=some t→vs[j]?=some v→nH P w r base t v) →
 eM enc P w 0 sp held ts vs ds ps→(∀ m∈eu P ts ds,m≤reachBytes)→ds.length=ts.length∧∃ us:List PV,o4 P ts us∧kU w (· < w.heap.size) us vs
 | [],vs,ds,ps,_,_,h,_=>by
   cases vs<;>cases ds<;>simp only [eM] at h;exact ⟨rfl,[],.nil,by simp only [kU]⟩
 | t::ts,vs,ds,ps,hs,hv,h,u6=>by
   cases vs with
   | nil=>cases ds<;>simp only [eM] at h
   | cons v vs =>
     cases ds with
     | nil=>simp only [eM] at h
     | cons d ds =>
       simp only [eM] at h;obtain ⟨p,q,⟨fuel,h1⟩,h2,_⟩:=h;simp only [eu,ay] at u6;obtain ⟨h3,us,h4,h5⟩:=Z2 (fun t ht=>hs t (by simp [ht])) (fun j t v hj hvj=>hv (j+1) t v (by simpa using hj) (by simpa using hvj)) h2 (fun m hm=>u6 m (.inr hm))
       obtain ⟨pv,q1,q2,q3⟩:=Z1 fuel n t _ (d,p) (hs t (by simp)) h1 (fun m hm=>u6 m (.inl hm))
       refine ⟨by simp [h3],pv::us,.cons q2 h4,?_⟩
       simp only [kU];refine ⟨v.cells.toList,vs,?_,q1,h5⟩;rw [q3,C5s (hs t (by simp)) (hv 0 t v rfl rfl)]
theorem Z3 {W W':World}{Z4:Nat→Bool}(hl:laidOutB P=true)(Dg:∀ p,p.block<W.heap.size→W.sameAt W' p):∀ {ts:List TypeId} {vs:List Value} {ds:List (DataW H)} {ps:List MemPlace},(∀ t∈ts,P.readableRec t=true∧t<P.types.size) →
 eM enc P W 0 (fun _=>true) true ts vs ds ps→(∀ p∈ps,p.block<W.heap.size∧Z4 p.block=true)→eM enc P W' 0 Z4 true ts vs ds ps
 | [],vs,ds,ps,_,h,_=>by
   cases vs<;>cases ds<;>simp only [eM] at h ⊢;exact h
 | t::ts,vs,ds,ps,hr,h,hp=>by
   cases vs with
   | nil=>cases ds<;>simp only [eM] at h
   | cons v vs =>
     cases ds with
     | nil=>simp only [eM] at h
     | cons d ds =>
       simp only [eM] at h ⊢;obtain ⟨p,q,h1,h2,rfl⟩:=h;obtain ⟨r1,r2⟩:=hr t (by simp)
       exact ⟨p,q,WideElems.Trod_stays hl r1 r2 h1 (fun x hx=>Dg x (hp x (by simp [hx])).1) (fun x hx=>(hp x (by simp [hx])).2),Z3 hl Dg (fun t ht=>hr t (by simp [ht])) h2 (fun x hx=>hp x (by simp [hx])),rfl⟩
end
def Z5 (P:Program):Bool:=P.globals.toList.all fun x=>x.name != "math/bits.deBruijn32tab"
theorem D20 {P:Program}(h:Z5 P=true)(w:World)(A:Nat→Prop):GL P w A:=by
 intro g v hg;unfold Gf at hg;split at hg
 · rename_i x hx;have hm:x∈P.globals.toList:=by
    have:=Array.mem_of_getElem? hx
    simpa using this
   have:=bg.1 h x hm
   simp only [bne_iff_ne,ne_eq] at this;rw [if_neg (by simpa using this)] at hg
   cases hg
 · cases hg
theorem Z6 {H:Type}{P:Program}{m:Nat}:∀ {ts us:List TypeId} {ds:List (DataW H)},m∈eu P ts ds→m∈eu P (ts++us) ds
 | [],_,[],h=>by simp [eu] at h
 | [],_,_::_,h=>by simp [eu] at h
 | _::_,_,[],h=>by simp [eu] at h
 | t::ts,us,d::ds,h=>by
   simp only [List.cons_append,eu,ay] at h ⊢;exact h.imp id Z6
open Go.ChangeShapes in
theorem Z7 {C:Checked}{k:Nat}{fn:Func}{H:Type}{enc:TypeId×Value→H}{s:ChangeSpec}(sF:s.vars=[])
 (laid:laidOutB C.prog=true) (zD:fn.params.toList.all (fun t=>wM C.prog 12 t&&C.prog.readableRec t&&decide (t<C.prog.types.size))=true) {tb:TypeId} (nS:fn.resultTypes=#[tb]) (Jw:C.prog.underlying tb=some .bool)
 (hs:∀ ds:List (DataW H),ds.length=fn.params.toList.length→s.fn H ds={ results:=[.lit (.bool true)],args:=ds })
 {Φ:mz} (hT:oZ C.prog Φ) (il:∀ vs:List PV,o4 C.prog fn.params.toList vs→∃ n,n4 Φ (run Φ n) k (vs.map .p) []=some (.p (.bool true),[],[]))
 {W:World} {base:Nat} {args:Array Value} {ds gs:List (DataW H)} {before:List MemPlace} (r9:GL C.prog W (· < W.heap.size))
 (cL:∀ (j:Nat) t v,fn.params[j]?=some t→args[j]?=some v→nH C.prog W .any base t v)
 (hW:DataW.Whole enc C.prog fn.params.toList s.vars false W args.toList ds gs before)
 (hsz:(eu C.prog (fn.params.toList++s.plain.varTypes C.prog) (ds++gs)).all (· ≤ reachBytes)=true) :
 Calls C.prog k args W fun e W'=>∃ v,e=.returned v∧s.post enc C.prog fn false true false false W args v W':=by
 have Z8:=hW;obtain ⟨p,q,hA,hV,rfl,Dh,iq⟩:=hW;rw [sF] at hV;obtain ⟨rfl,rfl⟩:=trodVars_none hV;have ko:∀ t∈fn.params.toList,wM C.prog 12 t=true∧C.prog.readableRec t=true∧t<C.prog.types.size:=by
  intro t ht
  have:=bg.1 zD t ht
  simp only [ak,decide_eq_true_eq] at this;exact ⟨this.1.1,this.1.2,this.2⟩
 obtain ⟨hlen,us,h1,h2⟩:=Z2 (n:=12) (fun t ht=>(ko t ht).1) (fun j t v hj hv=>cL j t v (by simpa using hj) (by simpa using hv)) hA (fun m hm=>by
  rw [bE] at hsz
  have:=bg.1 hsz m (Z6 hm)
  simpa using this)
 obtain ⟨n,hn⟩:=il us h1;obtain ⟨_,hc⟩:=ZX hT n _ _ _ _ _ _ hn;have hc:=hc W (· < W.heap.size) (fun _=>none) args.toList r9 (yT.2 h2) (MR.none fun b hb=>hb)
 have sa:args.toList.toArray=args:=by simp
 rw [sa] at hc;refine hc.mono ?_;rintro e W' ⟨v,rfl,A',E',nx',_,g,hv⟩;have l8:=ua.1 hv;subst l8;refine ⟨_,rfl,?_⟩;have hold:∀ b,b<W.heap.size→W'.heap[b]?=W.heap[b]?:=fun b hb=>g.bn b hb GG
 have zF:Below W.heap.size W W':=⟨g.os,g.tape,g.output,g.size,fun b hb=>hold b hb⟩
 have SV:=hs ds hlen;refine ⟨ds,[],p++[],[],p,[],Z8,?_,?_,?_,zF.frame _,fun h=>by cases h⟩
 · rw [nS,bE,SV];exact trodAll_cons_mk (shut_bool Jw _) trodAll_mk0
 · rw [bE,SV];refine Z3 laid (fun x hx=>zF.same hx) (fun t ht=>(ko t ht).2) hA (fun x hx=>?_)
   have:x.block<W.heap.size:=by simpa using Z8.lt x (by simpa using hx)
   exact ⟨this,by simpa using this⟩
 · rw [sF,bE,SV];rfl
open Go.ChangeShapes in
theorem D6f {C:Checked}{os:Os}(own:ownKnob C.prog.godebug=none)(started:os.Started){k:Nat}{fn:Func}(vM:C.prog.inits.idxOf? k=none)(xy:C.prog.funcs[k]?=some fn){H:Type}{enc:TypeId×Value→H}{s:ChangeSpec}{conds:List PathCond}(sF:s.vars=[])
 (laid:laidOutB C.prog=true) (zD:fn.params.toList.all (fun t=>wM C.prog 12 t&&C.prog.readableRec t&&decide (t<C.prog.types.size))=true) {tb:TypeId} (nS:fn.resultTypes=#[tb]) (Jw:C.prog.underlying tb=some .bool)
 (hs:∀ ds:List (DataW H),ds.length=fn.params.toList.length→s.fn H ds={ results:=[.lit (.bool true)],args:=ds })
 (witness:∃ (w:World) (tape:Tape) (i:Input),w.os=os∧(w.forCall tape i).Shaped C.prog∧i.vars=[]∧Input.okWide C.prog (w.forCall tape i) .any w.heap.size k i ∧
   s.pre6 enc C.prog fn conds false (w.forCall tape i).memory i.args∧({}:Assume).holds C.prog (lone (Frame.enter C.prog k i.args .normal) [] (w.forCall tape i)))
 (r9:Z5 C.prog=true) {Φ:mz} (hT:oZ C.prog Φ) (il:∀ vs:List PV,o4 C.prog fn.params.toList vs→∃ n,n4 Φ (run Φ n) k (vs.map .p) []=some (.p (.bool true),[],[])) :
 ReturnsInHanded {} C os k .any (s.pre6 enc C.prog fn conds false) (s.post enc C.prog fn false true false false):=by
 refine returnsInHanded_of_change_sized own started vM xy witness ?_;intro W base args ds gs before cL hW _ hsz _;exact Z7 sF laid zD nS Jw hs hT il (D20 r9 _ _) cL hW hsz
end Go.Mid
