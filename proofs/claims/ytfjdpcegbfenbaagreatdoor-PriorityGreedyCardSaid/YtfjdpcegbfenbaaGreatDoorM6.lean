/- A law's arguments, read as data, are pure values; a law's proof by a run of the middle semantics. -/
import Derived.Test.YtfjdpcegbfenbaaGreatDoorM5
import Derived.ProofKit
import Derived.OpenShut
import Derived.Carry
import Derived.SizedLaws
set_option linter.unusedSimpArgs false
set_option linter.unusedVariables false
open Bool renaming and_eq_true → aj, false_eq_true → aI
open Go.DataW renaming trod → gK, weights → oV, TrodAll → eG, weightsEach → ee
open Go.Value renaming okWide → ny, cells → db
open List renaming length_range → kq, getElem?_eq_some_iff → aF, getElem?_range → fK, eq_nil_of_length_eq_zero → br, drop_drop → km, take_append_drop → bM, mem_append → ay, mem_cons → aE, range → bA, mem_map → bj, mem_of_getElem? → bG, getElem?_of_mem → lp, all_eq_true → bB, getElem?_map → aH, append_nil → bD
open Nat renaming zero_le → dg, succ_mul → dv, le_refl → ar, pos_of_ne_zero → ew, le_trans → du, zero_mul → c9
open Option.some renaming inj → b9, injEq → aa
namespace Go.Mid
open Go.RowKit
inductive lY (P:Program):TypeId→PV→Prop where
 | int {t:TypeId} {k:IntKind} {n:Int} (h:P.underlying t=some (.int k)) (w:(Lit.int k n).wf=true):lY P t (.int k n)
 | bool {t:TypeId} {b:Bool} (h:P.underlying t=some .bool):lY P t (.bool b)
 | str {t:TypeId} {s:ByteArray} (h:P.underlying t=some .string) (w:s.size ≤ maxLen):lY P t (.str s)
 | sl {t e:TypeId} {l:List PV} (h:P.underlying t=some (.slice e)) (w:l.length ≤ reachBytes) (el:∀ x ∈ l,lY P e x):lY P t (.sl l)
 | agg {t:TypeId} {fs:Array Field} {l:List PV} (h:P.underlying t=some (.struct fs)) (w:l.length=fs.size) (el:∀ (i:Nat) (f:Field) (x:PV),fs[i]?=some f→l[i]?=some x→lY P f.type x):lY P t (.agg l)
 | arr {t e:TypeId} {k:Nat} {l:List PV} (h:P.underlying t=some (.array k e)) (w:l.length=k) (el:∀ x ∈ l,lY P e x):lY P t (.agg l)
def wA (P:Program):Nat→TypeId→Bool
 | 0,_=>false
 | n + 1,t=>match P.underlying t with
   | some (.int _) | some .bool | some .string=>P.cellsOf t == 1
   | some (.slice e)=>P.cellsOf t == 1 && P.cellsOf e != 0 && P.bytesOf e != 0 && wA P n e
   | some (.struct fs)=>Bi P fs.toList 0 && (fs.toList.map fun f=>P.cellsOf f.type).sum == P.cellsOf t && fs.toList.all fun f=>wA P n f.type
   | some (.array k e)=>k * P.cellsOf e == P.cellsOf t && wA P n e
   | _=>false
section
variable {H:Type} {enc:TypeId×Value→H} {P:Program} {w:World} {sp:Nat→Bool} {held:Bool}
theorem Je {α β:Type} {f:α→Option β}:∀ {l:List α} {r:List β},l.mapM f=some r→r.length=l.length∧∀ (i:Nat) (x:α),l[i]?=some x→∃ y,f x=some y∧r[i]?=some y
 | [],r,h=>by simp at h; subst h; exact ⟨rfl,fun i x hx=>by simp at hx⟩
 | x::l,r,h=>by
   rw [List.mapM_cons] at h;cases hf:f x with
   | none=>simp [hf] at h
   | some y =>
     cases hl:l.mapM f with
     | none=>simp [hf,hl] at h
     | some ys =>
       simp [hf,hl] at h;subst h;obtain ⟨h1,h2⟩:=Je hl;refine ⟨by simp [h1],fun i z hz=>?_⟩
       cases i with
       | zero=>simp at hz; subst hz; exact ⟨y,hf,rfl⟩
       | succ i=>simpa using h2 i z (by simpa using hz)
theorem RA {a:Addr} {n:Nat} {cs:List Value} (h:w.cells? 0 a n=some cs):cs.length=n∧∀ j v,cs[j]?=some v→w.cell? (a.add j)=some v:=by
 unfold World.cells? at h;simp only [dg,if_true] at h;obtain ⟨h1,h2⟩:=Je h;rw [kq] at h1;refine ⟨h1,fun j v hj=>?_⟩
 have eF:j < n:=by rw [← h1]; exact (aF.1 hj).1
 obtain ⟨y,hy,hr⟩:=h2 j j (by rw [fK eF])
 rw [hr] at hj;rw [hy,b9 hj]
theorem RB (a:Addr):a.add 0=a:=by
 unfold Addr.add;split <;> simp_all
theorem C76 {a:Addr} {n:Nat} {cs:List Value} (hn:0 < n) (h:w.cells? 0 a n=some cs):a.block < w.heap.size:=by
 obtain ⟨h1,h2⟩:=RA h
 have:=h2 0 cs[0] (by simp [h1,hn])
 rw [RB] at this;exact World.block_lt_of_cell? w a this
theorem Yr {A:Nat→Prop}:∀ (fs:List Field) (cs:List Value) (o:Nat) (xs:List PV),Bi P fs o=true→cs.length=o + (fs.map fun f=>P.cellsOf f.type).sum→xs.length=fs.length →
 (∀ (i:Nat) (f:Field) (x:PV),fs[i]?=some f→xs[i]?=some x→dR w A x ((cs.drop f.offset).take (P.cellsOf f.type)))→cK w A xs (cs.drop o)
 | [],cs,o,xs,_,hl,hx,_=>by
   have:xs=[]:=br (by simpa using hx)
   subst this;simp only [cK];rw [List.drop_eq_nil_iff];simp at hl; omega
 | f::fs,cs,o,xs,ho,hl,hx,h=>by
   cases xs with
   | nil=>simp at hx
   | cons x xs =>
     simp only [Bi,aj,beq_iff_eq] at ho;obtain ⟨⟨h1,_⟩,h2⟩:=ho;simp only [cK];refine ⟨(cs.drop o).take (P.cellsOf f.type),cs.drop (o + P.cellsOf f.type),?_,?_,?_⟩
     · rw [← km,bM]
     · have:=h 0 f x rfl rfl
       rwa [h1] at this
     · refine Yr fs cs (o + P.cellsOf f.type) xs h2 ?_ (by simpa using hx) (fun i g y hg hy=>h (i + 1) g y hg hy)
       simp only [List.map_cons,List.sum_cons] at hl;omega
theorem Ys {A:Nat→Prop} (z:Nat):∀ (xs:List PV) (cs:List Value),cs.length=xs.length * z→(∀ (i:Nat) (x:PV),xs[i]?=some x→dR w A x ((cs.drop (i * z)).take z))→cK w A xs cs
 | [],cs,hl,_=>by
   simp only [cK];exact br (by simpa using hl)
 | x::xs,cs,hl,h=>by
   simp only [cK];refine ⟨cs.take z,cs.drop z,(bM z cs).symm,?_,?_⟩
   · have:=h 0 x rfl
     simpa using this
   · refine Ys z xs (cs.drop z) (by rw [List.length_drop,hl,List.length_cons,dv]; omega) (fun i y hy=>?_)
     have:=h (i + 1) y (by simpa using hy)
     rw [dv,Nat.add_comm,← km] at this;exact this
theorem RC {e:TypeId}:∀ {ds:List (DataW H)} {d:DataW H},d ∈ ds→∀ m ∈ d.weights P e,m ∈ DataW.weightsAll P e ds
 | [],_,h,_,_=>by cases h
 | x::r,d,h,m,hm=>by
   simp only [DataW.weightsAll,ay];rcases aE.1 h with rfl | h
   · exact .inl hm
   · exact .inr (RC h m hm)
theorem Yt:∀ (fuel n:Nat) (t:TypeId) (cs:List Value) (x:DataW H×List MemPlace),wA P n t=true→gK enc P w 0 sp held fuel t cs=some x→(∀ m ∈ x.1.weights P t,m ≤ reachBytes)→∃ pv,dR w (· < w.heap.size) pv cs∧lY P t pv∧pv.isAgg=mO P t
 | 0,n,t,cs,x,_,h,_=>by simp [gK] at h
 | fuel + 1,0,t,cs,x,hs,_,_=>by simp [wA] at hs
 | fuel + 1,n + 1,t,cs,x,hs,h,uQ=>by
   have ih:=Yt fuel;simp only [wA] at hs;cases hu:P.underlying t with
   | none=>simp [hu] at hs
   | some d =>
     rw [hu] at hs;cases d <;> simp only [aI,aj,beq_iff_eq,bne_iff_ne,ne_eq] at hs
     case bool =>
      unfold gK at h;rw [hu] at h
      match cs,h with
      | [.bool b],_=>exact ⟨.bool b,by simp only [dR],.bool hu,by simp [PV.isAgg,mO,hu]⟩
     case int k =>
      unfold gK at h;rw [hu] at h
      match cs,h with
      | [.int k' m],h =>
        simp only at h;split at h
        · rename_i hc;obtain ⟨rfl,hw⟩:=hc;exact ⟨.int k' m,by simp only [dR],.int hu hw,by simp [PV.isAgg,mO,hu]⟩
        · cases h
     case string =>
      unfold gK at h;rw [hu] at h
      match cs,h with
      | [.string s],h =>
        simp only at h;split at h
        · rename_i hc;exact ⟨.str s,by simp only [dR],.str hu hc,by simp [PV.isAgg,mO,hu]⟩
        · cases h
     case slice e =>
      unfold gK at h;rw [hu] at h
      match cs,h with
      | [.slice none 0 0],_=>exact ⟨.sl [],by simp only [dR]; exact ⟨none,0,rfl,ar _,.inl trivial⟩,.sl hu (dg _) (fun x hx=>by cases hx),by simp [PV.isAgg,mO,hu]⟩
      | [.slice (some a) len cap],h =>
        simp only at h;split at h
        · rename_i hc;obtain ⟨_,nF,nX⟩:=hc;cases hm:(bA len).mapM (fun i=>(w.cells? 0 (a.add (i * P.cellsOf e)) (P.cellsOf e)).bind (gK enc P w 0 sp held fuel e)) with
          | none=>rw [hm] at h; cases h
          | some elems =>
            obtain ⟨hl,gZ⟩:=Je hm;rw [kq] at hl;obtain ⟨rest,hx⟩:∃ rest:List (DataW H×List MemPlace),x.1=.slice (elems.map (·.1)) (rest.map (·.1)):=by
             rw [hm] at h;simp only [Option.bind_some,Option.map_eq_some_iff] at h;obtain ⟨rest,_,rfl⟩:=h;exact ⟨rest,rfl⟩
            rw [hx] at uQ;simp only [oV,hu,aE,ay] at uQ;have EK:len ≤ reachBytes:=by
             have h1:=uQ _ (.inl rfl);simp only [List.length_map,hl] at h1;have h2:0 < P.bytesOf e:=ew hs.1.2;exact du (du (Nat.le_add_right len rest.length) (Nat.le_mul_of_pos_right _ h2)) h1
            have each:∀ i,i < len→∃ pv c,w.cells? 0 (a.add (i * P.cellsOf e)) (P.cellsOf e)=some c∧dR w (· < w.heap.size) pv c∧lY P e pv:=by
             intro i hi;obtain ⟨y,hy,Jf⟩:=gZ i i (by rw [fK hi])
             cases hc:w.cells? 0 (a.add (i * P.cellsOf e)) (P.cellsOf e) with
             | none=>rw [hc] at hy; cases hy
             | some c =>
               rw [hc] at hy;obtain ⟨pv,q1,q2,_⟩:=ih n e c y hs.2 hy (fun m vt=>uQ m (.inr (.inl (RC (bj.2 ⟨y,bG Jf,rfl⟩) m vt))))
               exact ⟨pv,c,rfl,q1,q2⟩
            have qI:0 < P.cellsOf e:=ew hs.1.1.2;by_cases h0:len=0
            · subst h0;exact ⟨.sl [],by simp only [dR]; exact ⟨some a,cap,rfl,dg _,.inl trivial⟩,.sl hu (dg _) (fun x hx=>by cases hx),by simp [PV.isAgg,mO,hu]⟩
            · have C4:a.spot=none:=by
               obtain ⟨pv,c,hc,_⟩:=each 0 (by omega)
               have hb:=(RA hc);have nI:=hb.2 0 c[0] (by simp [hb.1,qI])
               rw [c9,RB,RB] at nI;unfold World.cell? at nI;split at nI
               · split at nI
                 · cases nI
                 · rename_i EL; simpa using EL
               · cases nI
              obtain ⟨b,o,s⟩:=a;simp only at C4;subst C4;have build:∀ m,m ≤ len→∃ l:List PV,l.length=m∧(∀ x ∈ l,lY P e x)∧fE w (· < w.heap.size) l b (o + (len - m) * P.cellsOf e) (P.cellsOf e):=by
               intro m
               induction m with
               | zero=>intro _; exact ⟨[],rfl,(fun x hx=>by cases hx),(by simp only [fE])⟩
               | succ m RD =>
                 intro hm;obtain ⟨l,h1,h2,h3⟩:=RD (by omega)
                 obtain ⟨pv,c,hc,q1,q2⟩:=each (len - (m + 1)) (by omega)
                 rw [tU] at hc;obtain ⟨r1,r2⟩:=RA hc;refine ⟨pv::l,by simp [h1],fun x hx=>(aE.1 hx).elim (fun e=>e ▸ q2) (h2 x),?_⟩
                 simp only [fE];refine ⟨⟨c,q1,r1,fun j v hj=>?_⟩,?_⟩
                 · have:=r2 j v hj
                   rwa [tU] at this
                 · have e:o + (len - (m + 1)) * P.cellsOf e + P.cellsOf e=o + (len - m) * P.cellsOf e:=by
                    rw [show len - m=(len - (m + 1)) + 1 by omega,dv]; omega
                   rw [e]; exact h3
              obtain ⟨l,h1,h2,h3⟩:=build len (ar _);rw [Nat.sub_self,c9,Nat.add_zero] at h3;have iM:b < w.heap.size:=by
               obtain ⟨pv,c,hc,_⟩:=each 0 (by omega)
               have:=C76 qI hc
               rw [tU] at this;exact this
              refine ⟨.sl l,?_,.sl hu (by rw [h1]; exact EK) h2,by simp [PV.isAgg,mO,hu]⟩
              simp only [dR,h1];exact ⟨some ⟨b,o,none⟩,cap,rfl,nF,.inr ⟨b,o,P.cellsOf e,rfl,iM,h3⟩⟩
        · cases h
     case array k e =>
      unfold gK at h;rw [hu] at h;simp only at h;split at h
      · rename_i nI;cases hm:(bA k).mapM (fun i=>gK enc P w 0 sp held fuel e ((cs.drop (i * P.cellsOf e)).take (P.cellsOf e))) with
        | none=>rw [hm] at h; cases h
        | some xs =>
          obtain ⟨hl,gZ⟩:=Je hm;have hx:x.1=.agg (xs.map (·.1)):=by
           rw [hm] at h;simp only [Option.map_some,aa] at h;rw [← h]
          rw [hx] at uQ;simp only [oV,hu] at uQ;have each:∀ i,i < k→∃ pv,dR w (· < w.heap.size) pv ((cs.drop (i * P.cellsOf e)).take (P.cellsOf e))∧lY P e pv:=by
           intro i hi;obtain ⟨y,hy,Jf⟩:=gZ i i (by rw [fK hi])
           obtain ⟨pv,q1,q2,_⟩:=ih n e _ y hs.2 hy (fun m vt=>uQ m (RC (bj.2 ⟨y,bG Jf,rfl⟩) m vt))
           exact ⟨pv,q1,q2⟩
          have build:∀ m,m ≤ k→∃ l:List PV,l.length=m∧∀ (i:Nat) (x:PV),l[i]?=some x→dR w (· < w.heap.size) x ((cs.drop (i * P.cellsOf e)).take (P.cellsOf e))∧lY P e x:=by
           intro m
           induction m with
           | zero=>intro _; exact ⟨[],rfl,fun i x hx=>by simp at hx⟩
           | succ m RD =>
             intro hm;obtain ⟨l,h1,h2⟩:=RD (by omega)
             obtain ⟨pv,q1,q2⟩:=each m (by omega)
             refine ⟨l++[pv],by simp [h1],fun i x hx=>?_⟩
             by_cases hi:i < l.length
             · rw [List.getElem?_append_left hi] at hx;exact h2 i x hx
             · rw [List.getElem?_append_right (by omega)] at hx
               have qH:i - l.length=0:=by
                have:=(aF.1 hx).1
                simp at this; omega
               rw [qH] at hx;simp only [List.getElem?_cons_zero,aa] at hx;subst hx
               have:i=m:=by omega
               subst this;exact ⟨q1,q2⟩
          obtain ⟨l,h1,h2⟩:=build k (ar _);refine ⟨.agg l,?_,.arr hu h1 (fun x hx=>?_),by simp [PV.isAgg,mO,hu]⟩
          · simp only [dR];exact Ys (P.cellsOf e) l cs (by rw [nI,h1,hs.1]) (fun i x hx=>(h2 i x hx).1)
          · obtain ⟨i,hi⟩:=lp hx;exact (h2 i x hi).2
      · cases h
     case struct fs =>
      unfold gK at h;rw [hu] at h;simp only at h;split at h
      · rename_i nI;cases hm:fs.toList.mapM (fun f=>gK enc P w 0 sp held fuel f.type ((cs.drop f.offset).take (P.cellsOf f.type))) with
        | none=>rw [hm] at h; cases h
        | some xs =>
          obtain ⟨hl,gZ⟩:=Je hm;have hx:x.1=.agg (xs.map (·.1)):=by
           rw [hm] at h;simp only [Option.map_some,aa] at h;rw [← h]
          rw [hx] at uQ;simp only [oV,hu] at uQ;obtain ⟨⟨lz,RE⟩,kD⟩:=hs;have each:∀ (i:Nat) (f:Field),fs.toList[i]?=some f→∃ pv,dR w (· < w.heap.size) pv ((cs.drop f.offset).take (P.cellsOf f.type))∧lY P f.type pv:=by
           intro i f hf;obtain ⟨y,hy,Jf⟩:=gZ i f hf;obtain ⟨pv,q1,q2,_⟩:=ih n f.type _ y (bB.1 kD f (bG hf)) hy (fun m vt=>uQ m (DataW.weights_mem_each (j:=i) (by rw [aH,hf]; rfl) (by rw [aH,Jf]; rfl) m vt))
           exact ⟨pv,q1,q2⟩
          have build:∀ gs:List Field,(∀ f ∈ gs,∃ pv,dR w (· < w.heap.size) pv ((cs.drop f.offset).take (P.cellsOf f.type))∧lY P f.type pv) →
           ∃ l:List PV,l.length=gs.length∧∀ (i:Nat) (f:Field) (x:PV),gs[i]?=some f→l[i]?=some x→dR w (· < w.heap.size) x ((cs.drop f.offset).take (P.cellsOf f.type))∧lY P f.type x:=by
           intro gs
           induction gs with
           | nil=>intro _; exact ⟨[],rfl,fun i f x hf=>by simp at hf⟩
           | cons g gs ihg =>
             intro hg;obtain ⟨pv,q1,q2⟩:=hg g (by simp)
             obtain ⟨l,h1,h2⟩:=ihg (fun f hf=>hg f (by simp [hf]))
             refine ⟨pv::l,by simp [h1],fun i f x hf hx=>?_⟩
             cases i with
             | zero=>simp at hf hx; subst hf hx; exact ⟨q1,q2⟩
             | succ i=>exact h2 i f x (by simpa using hf) (by simpa using hx)
          obtain ⟨l,h1,h2⟩:=build fs.toList (fun f hf=>by
           obtain ⟨i,hi⟩:=lp hf;exact each i f hi)
          have:=Yr (w:=w) (A:=(· < w.heap.size)) fs.toList cs 0 l lz (by rw [RE,nI]; omega) h1 (fun i f x hf hx=>(h2 i f x hf hx).1)
          rw [List.drop_zero] at this;refine ⟨.agg l,by simp only [dR]; exact this,.agg hu (by simpa using h1) (fun i f x hf hx=>(h2 i f x (by simpa using hf) hx).2),by simp [PV.isAgg,mO,hu]⟩
      · cases h
inductive oS (P:Program):List TypeId→List PV→Prop where
 | nil:oS P [] []
 | cons {t:TypeId} {ts:List TypeId} {v:PV} {vs:List PV} (h:lY P t v) (r:oS P ts vs):oS P (t::ts) (v::vs)
theorem C4z {r:Reach} {base:Nat} {t:TypeId} {v:Value} {n:Nat} (hs:wA P n t=true) (h:ny P w r base t v):pk (mO P t) v.cells.toList=v:=by
 cases n with
 | zero=>simp [wA] at hs
 | succ n =>
   unfold ny at h;simp only [wA] at hs;cases hu:P.underlying t with
   | none=>simp [hu] at hs
   | some d =>
     rw [hu] at hs h;cases d <;> simp only [aI] at hs
     case struct fs =>
      simp only at h;obtain ⟨cs,rfl,_⟩:=h;simp [pk,mO,hu,db]
     case array k e =>
      simp only at h;obtain ⟨cs,rfl,_⟩:=h;simp [pk,mO,hu,db]
     all_goals
      simp only at h;cases v <;> simp [Cell.okWide,Cell.ok,hu] at h <;> simp [pk,mO,hu,db]
theorem Yu {r:Reach} {base:Nat} {n:Nat}:∀ {ts:List TypeId} {vs:List Value} {ds:List (DataW H)} {ps:List MemPlace},(∀ t ∈ ts,wA P n t=true)→(∀ (j:Nat) (t:TypeId) (v:Value),ts[j]?=some t→vs[j]?=some v→ny P w r base t v) →
 eG enc P w 0 sp held ts vs ds ps→(∀ m ∈ ee P ts ds,m ≤ reachBytes)→ds.length=ts.length∧∃ us:List PV,oS P ts us∧kK w (· < w.heap.size) us vs
 | [],vs,ds,ps,_,_,h,_=>by
   cases vs <;> cases ds <;> simp only [eG] at h;exact ⟨rfl,[],.nil,by simp only [kK]⟩
 | t::ts,vs,ds,ps,hs,hv,h,uQ=>by
   cases vs with
   | nil=>cases ds <;> simp only [eG] at h
   | cons v vs =>
     cases ds with
     | nil=>simp only [eG] at h
     | cons d ds =>
       simp only [eG] at h;obtain ⟨p,q,⟨fuel,h1⟩,h2,_⟩:=h;simp only [ee,ay] at uQ;obtain ⟨h3,us,h4,h5⟩:=Yu (fun t ht=>hs t (by simp [ht])) (fun j t v hj hvj=>hv (j + 1) t v (by simpa using hj) (by simpa using hvj)) h2 (fun m hm=>uQ m (.inr hm))
       obtain ⟨pv,q1,q2,q3⟩:=Yt fuel n t _ (d,p) (hs t (by simp)) h1 (fun m hm=>uQ m (.inl hm))
       refine ⟨by simp [h3],pv::us,.cons q2 h4,?_⟩
       simp only [kK];refine ⟨v.cells.toList,vs,?_,q1,h5⟩;rw [q3,C4z (hs t (by simp)) (hv 0 t v rfl rfl)]
theorem Yv {W W':World} {Yw:Nat→Bool} (hl:laidOutB P=true) (C5:∀ p,p.block < W.heap.size→W.sameAt W' p):∀ {ts:List TypeId} {vs:List Value} {ds:List (DataW H)} {ps:List MemPlace},(∀ t ∈ ts,P.readableRec t=true∧t < P.types.size) →
 eG enc P W 0 (fun _=>true) true ts vs ds ps→(∀ p ∈ ps,p.block < W.heap.size∧Yw p.block=true)→eG enc P W' 0 Yw true ts vs ds ps
 | [],vs,ds,ps,_,h,_=>by
   cases vs <;> cases ds <;> simp only [eG] at h ⊢;exact h
 | t::ts,vs,ds,ps,hr,h,hp=>by
   cases vs with
   | nil=>cases ds <;> simp only [eG] at h
   | cons v vs =>
     cases ds with
     | nil=>simp only [eG] at h
     | cons d ds =>
       simp only [eG] at h ⊢;obtain ⟨p,q,h1,h2,rfl⟩:=h;obtain ⟨r1,r2⟩:=hr t (by simp)
       exact ⟨p,q,WideElems.Trod_stays hl r1 r2 h1 (fun x hx=>C5 x (hp x (by simp [hx])).1) (fun x hx=>(hp x (by simp [hx])).2),Yv hl C5 (fun t ht=>hr t (by simp [ht])) h2 (fun x hx=>hp x (by simp [hx])),rfl⟩
end
def Yx (P:Program):Bool:=P.globals.toList.all fun x=>x.name != "math/bits.deBruijn32tab"
theorem D1P {P:Program} (h:Yx P=true) (w:World) (A:Nat→Prop):GL P w A:=by
 intro g v hg;unfold F2 at hg;split at hg
 · rename_i x hx;have hm:x ∈ P.globals.toList:=by
    have:=Array.mem_of_getElem? hx
    simpa using this
   have:=bB.1 h x hm
   simp only [bne_iff_ne,ne_eq] at this;rw [if_neg (by simpa using this)] at hg
   cases hg
 · cases hg
theorem Yy {H:Type} {P:Program} {m:Nat}:∀ {ts us:List TypeId} {ds:List (DataW H)},m ∈ ee P ts ds→m ∈ ee P (ts++us) ds
 | [],_,[],h=>by simp [ee] at h
 | [],_,_::_,h=>by simp [ee] at h
 | _::_,_,[],h=>by simp [ee] at h
 | t::ts,us,d::ds,h=>by
   simp only [List.cons_append,ee,ay] at h ⊢;exact h.imp id Yy
open Go.ChangeShapes in
theorem Yz {C:Checked} {k:Nat} {fn:Func} {H:Type} {enc:TypeId×Value→H} {s:ChangeSpec} (sy:s.vars=[])
 (laid:laidOutB C.prog=true) (zn:fn.params.toList.all (fun t=>wA C.prog 12 t && C.prog.readableRec t && decide (t < C.prog.types.size))=true) {tb:TypeId} (nN:fn.resultTypes=#[tb]) (Jg:C.prog.underlying tb=some .bool)
 (hs:∀ ds:List (DataW H),ds.length=fn.params.toList.length→s.fn H ds={ results:=[.lit (.bool true)],args:=ds })
 {Φ:ml} (hT:oR C.prog Φ) (gr:∀ vs:List PV,oS C.prog fn.params.toList vs→∃ n,nV Φ (run Φ n) k (vs.map .p) []=some (.p (.bool true),[],[]))
 {W:World} {base:Nat} {args:Array Value} {ds gs:List (DataW H)} {before:List MemPlace} (rY:GL C.prog W (· < W.heap.size))
 (cE:∀ (j:Nat) t v,fn.params[j]?=some t→args[j]?=some v→ny C.prog W .any base t v)
 (hW:DataW.Whole enc C.prog fn.params.toList s.vars false W args.toList ds gs before)
 (hsz:(ee C.prog (fn.params.toList++s.plain.varTypes C.prog) (ds++gs)).all (· ≤ reachBytes)=true) :
 Calls C.prog k args W fun e W'=>∃ v,e=.returned v∧s.post enc C.prog fn false true false false W args v W':=by
 have YA:=hW;obtain ⟨p,q,hA,hV,rfl,C6,gV⟩:=hW;rw [sy] at hV;obtain ⟨rfl,rfl⟩:=trodVars_none hV;have kD:∀ t ∈ fn.params.toList,wA C.prog 12 t=true∧C.prog.readableRec t=true∧t < C.prog.types.size:=by
  intro t ht
  have:=bB.1 zn t ht
  simp only [aj,decide_eq_true_eq] at this;exact ⟨this.1.1,this.1.2,this.2⟩
 obtain ⟨hlen,us,h1,h2⟩:=Yu (n:=12) (fun t ht=>(kD t ht).1) (fun j t v hj hv=>cE j t v (by simpa using hj) (by simpa using hv)) hA (fun m hm=>by
  rw [bD] at hsz
  have:=bB.1 hsz m (Yy hm)
  simpa using this)
 obtain ⟨n,hn⟩:=gr us h1;obtain ⟨_,hc⟩:=Yq hT n _ _ _ _ _ _ hn;have hc:=hc W (· < W.heap.size) (fun _=>none) args.toList rY (yJ.2 h2) (MR.none fun b hb=>hb)
 have rZ:args.toList.toArray=args:=by simp
 rw [rZ] at hc;refine hc.mono ?_;rintro e W' ⟨v,rfl,A',E',nx',_,g,hv⟩;have lX:=tO.1 hv;subst lX;refine ⟨_,rfl,?_⟩;have hold:∀ b,b < W.heap.size→W'.heap[b]?=W.heap[b]?:=fun b hb=>g.bm b hb Gt
 have zo:Below W.heap.size W W':=⟨g.os,g.tape,g.output,g.size,fun b hb=>hold b hb⟩
 have RF:=hs ds hlen;refine ⟨ds,[],p++[],[],p,[],YA,?_,?_,?_,zo.frame _,fun h=>by cases h⟩
 · rw [nN,bD,RF];exact trodAll_cons_mk (shut_bool Jg _) trodAll_mk0
 · rw [bD,RF];refine Yv laid (fun x hx=>zo.same hx) (fun t ht=>(kD t ht).2) hA (fun x hx=>?_)
   have:x.block < W.heap.size:=by simpa using YA.lt x (by simpa using hx)
   exact ⟨this,by simpa using this⟩
 · rw [sy,bD,RF];rfl
open Go.ChangeShapes in
theorem D4R {C:Checked} {os:Os} (own:ownKnob C.prog.godebug=none) (started:os.Started) {k:Nat} {fn:Func} (vA:C.prog.inits.idxOf? k=none) (xi:C.prog.funcs[k]?=some fn) {H:Type} {enc:TypeId×Value→H} {s:ChangeSpec} {conds:List PathCond} (sy:s.vars=[])
 (laid:laidOutB C.prog=true) (zn:fn.params.toList.all (fun t=>wA C.prog 12 t && C.prog.readableRec t && decide (t < C.prog.types.size))=true) {tb:TypeId} (nN:fn.resultTypes=#[tb]) (Jg:C.prog.underlying tb=some .bool)
 (hs:∀ ds:List (DataW H),ds.length=fn.params.toList.length→s.fn H ds={ results:=[.lit (.bool true)],args:=ds })
 (witness:∃ (w:World) (tape:Tape) (i:Input),w.os=os∧(w.forCall tape i).Shaped C.prog∧i.vars=[]∧Input.okWide C.prog (w.forCall tape i) .any w.heap.size k i ∧
   s.pre6 enc C.prog fn conds false (w.forCall tape i).memory i.args∧({}:Assume).holds C.prog (lone (Frame.enter C.prog k i.args .normal) [] (w.forCall tape i)))
 (rY:Yx C.prog=true) {Φ:ml} (hT:oR C.prog Φ) (gr:∀ vs:List PV,oS C.prog fn.params.toList vs→∃ n,nV Φ (run Φ n) k (vs.map .p) []=some (.p (.bool true),[],[])) :
 ReturnsInHanded {} C os k .any (s.pre6 enc C.prog fn conds false) (s.post enc C.prog fn false true false false):=by
 refine returnsInHanded_of_change_sized own started vA xi witness ?_;intro W base args ds gs before cE hW _ hsz _;exact Yz sy laid zn nN Jg hs hT gr (D1P rY _ _) cE hW hsz
end Go.Mid
