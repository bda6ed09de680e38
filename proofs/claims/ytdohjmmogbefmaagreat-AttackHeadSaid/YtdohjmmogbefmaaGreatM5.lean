/- Maps that are roots: making, looking up, setting. -/
import Derived.Test.YtdohjmmogbefmaaGreatM4
import Derived.MapKept
import Derived.WideMake
set_option linter.unusedSimpArgs false
set_option linter.unusedVariables false
open Array renaming toList → aCk, toList_push → avT, getElem?_eq_some_iff → c7, eq_empty_of_size_eq_zero → eP, getElem?_setIfInBounds_ne → dQ
open Bool renaming false_eq_true → aI, and_eq_true → aj, true_eq_false → pY
open Go renaming run_underlying → aZ
open Go.Instr renaming sameNow → au4, findNow → auT, findAsking → auO, checkKey → ava, findKey → au5, sameBits → au0, keyThatStays → avN, lookup → awh, mapUpdate → av1
open Go.MapKept renaming bytes_beq → avi, run_checkKey → avA, run_findKey → avH, heap_alloc → avO, run_getObj_map → auW, run_setObj_map → avr
open Go.Result renaming andThen_ok → aU
open Go.Sem renaming run_bind → bn, run_pure → bL
open List renaming set_cons_zero → dR, set_cons_succ → aSR, nil_append → a7, cons_append → aS, all_cons → dC, map_cons → aF, append_assoc → bg, mem_cons → aG, nodup_cons → bZ, mem_map_of_mem → dY, map_fst_zip → aBJ, all_eq_true → bB, mem_map → bp, mem_of_getElem? → bH, getElem?_eq_some_iff → aJ, map_set → gw, getElem?_map → aL, mem_append → az, mem_singleton → aX, map_append → b9, nodup_append → aT, map_nil → bt, append_nil → bD, mem_flatMap → gY, map_congr_left → eJ
open List.cons renaming injEq → jN
open Option renaming getD_some → bI, toList → cg, map_some → ak, bind_eq_some_iff → jZ, bind_some → ai
open Option.some renaming injEq → aa, inj → s8
open Prod.mk renaming injEq → ae
namespace Go.Mid
open Go.RowKit
section
variable {w:World}{A:Nat->Prop}
theorem kM.aDb:∀ {l:List PV} {vs:List Value},kM w A l vs->l.length=vs.length
 | [],vs,h=>by simp only [kM] at h;subst h;rfl
 | x::r,vs,h=>by
   simp only [kM] at h;obtain ⟨c,d,rfl,_,h2⟩:=h;simp [h2.aDb]
theorem kM.axm:∀ {l:List PV} {vs:List Value},kM w A l vs->∀ (i:Nat) (x:PV),l[i]?=some x->∃ v,vs[i]?=some v∧pD w A x v
 | [],vs,h,i,x,hx=>by simp at hx
 | y::r,vs,h,i,x,hx=>by
   simp only [kM] at h;obtain ⟨c,d,rfl,h1,h2⟩:=h;cases i with
   | zero=>simp at hx;subst hx;exact ⟨_,rfl,c,h1,rfl⟩
   | succ i=>simpa using h2.axm i x (by simpa using hx)
theorem kM.aw3:∀ {l:List PV} {vs:List Value},kM w A l vs->∀ (i:Nat) (x:PV) (v:Value),pD w A x v->kM w A (l.set i x) (vs.set i v)
 | [],vs,h,i,x,v,hv=>by simp only [kM] at h;subst h;simp [kM]
 | y::r,vs,h,i,x,v,hv=>by
   simp only [kM] at h;obtain ⟨c,d,rfl,h1,h2⟩:=h;cases i with
   | zero =>
     obtain ⟨c',h3,rfl⟩:=hv;simp only [dR,kM];exact ⟨c',d,rfl,h3,h2⟩
   | succ i =>
     simp only [aSR,kM];exact ⟨c,d.set i v,rfl,h1,h2.aw3 i x v hv⟩
theorem kM.awD:∀ {l:List PV} {vs:List Value},kM w A l vs->∀ (x:PV) (v:Value),pD w A x v->kM w A (l++[x]) (vs++[v])
 | [],vs,h,x,v,hv=>by
   simp only [kM] at h;subst h;obtain ⟨c',h3,rfl⟩:=hv;simp only [a7,kM];exact ⟨c',[],rfl,h3,rfl⟩
 | y::r,vs,h,x,v,hv=>by
   simp only [kM] at h;obtain ⟨c,d,rfl,h1,h2⟩:=h;simp only [aS,kM];exact ⟨c,d++[v],rfl,h1,h2.awD x v hv⟩
end
def D8i:PV->Value
 | .int k n=>.int k n
 | .bool b=>.bool b
 | .str s=>.string s
 | _=>.bool false
def TD.desc:TD->TypeDesc
 | .int k=>.int k
 | .str=>.string
 | _=>.bool
theorem D8D {w:World}{A:Nat->Prop}{td:TD}(hk:D8u td=true){k:PV}{v:Value}(hf:qd td k=true)(h:pD w A k v):v=D8i k∧MapKept.IsKey td.desc (D8i k):=by
 obtain ⟨c,h1,rfl⟩:=h;cases td<;>simp only [D8u,aI] at hk<;>cases k<;>simp only [qd,aI] at hf<;>simp only [dU] at h1<;>subst h1
 . simp only [beq_iff_eq] at hf;subst hf;exact ⟨rfl,rfl⟩
 . exact ⟨rfl,trivial⟩
 . exact ⟨rfl,trivial⟩
theorem E0I {w:World}{A:Nat->Prop}{td:TD}(hk:D8u td=true):∀ {ks:List PV} {vs:List Value},ks.all (qd td)=true->kM w A ks vs->vs=ks.map D8i
 | [],vs,_,h=>by simp only [kM] at h;exact h
 | x::r,vs,hf,h=>by
   simp only [dC,aj] at hf;simp only [kM] at h;obtain ⟨c,d,rfl,h1,h2⟩:=h;rw [E0I hk hf.2 h2,(D8D hk hf.1 ⟨c,h1,rfl⟩).1];rfl
theorem D82 {a b:ByteArray}(h:a.toList=b.toList):a=b:=by
 rw [ByteArray.toList_eq,ByteArray.toList_eq] at h;cases a;cases b;simp only at h;congr 1;exact Array.toList_inj.1 h
theorem E0k {td:TD}(hk:D8u td=true){k x:PV}(hf:qd td k=true)(hx:qd td x=true):au4 td.desc (D8i k) (D8i x)=some (xu k x):=by
 cases td<;>simp only [D8u,aI] at hk<;>cases k<;>simp only [qd,aI] at hf<;>cases x<;>simp only [qd,aI] at hx
 . simp only [beq_iff_eq] at hf hx;subst hf;subst hx;simp [au4,D8i,TD.desc,xu]
 . simp [au4,D8i,TD.desc,xu]
 . rename_i a b;simp only [au4,D8i,TD.desc,xu,aa];by_cases e:a=b
   . subst e;rw [(avi a a).2 rfl];simp
   . have h1:(a==b)=false:=by
      cases h:a==b with
      | false=>rfl
      | true=>exact absurd ((avi a b).1 h) e
     rw [h1]
     symm
     simp only [beq_eq_false_iff_ne,ne_eq];exact λh=>e (D82 h)
theorem D8L {td:TD}(hk:D8u td=true){k x:PV}(hf:qd td k=true)(hx:qd td x=true)(h:xu k x=true):D8i x=D8i k:=by
 cases td<;>simp only [D8u,aI] at hk<;>cases k<;>simp only [qd,aI] at hf<;>cases x<;>simp only [qd,aI] at hx
 . simp only [beq_iff_eq] at hf hx;subst hf;subst hx;simp only [xu,beq_iff_eq] at h;subst h;rfl
 . simp only [xu,beq_iff_eq] at h;subst h;rfl
 . simp only [xu,beq_iff_eq] at h;rw [D82 h]
theorem D8R {td:TD}(hk:D8u td=true){k:PV}(hf:qd td k=true):∀ (ks:List PV) (l:List MapEntry) (i:Nat),ks.all (qd td)=true->l.map (·.key)=ks.map D8i->
 (D7U k ks i=none->auT td.desc (D8i k) l i=some none) ∧
 (∀ j,D7U k ks i=some j->∃ n e,j=i+n∧l[n]?=some e∧(∃ x,ks[n]?=some x)∧e.key=D8i k∧auT td.desc (D8i k) l i=some (some (j,e.val)))
 | [],l,i,_,hl=>by
   have:l=[]:=by simpa using hl
   subst this;exact ⟨λ_=>rfl,λj h=>by simp [D7U] at h⟩
 | x::r,l,i,ha,hl=>by
   simp only [dC,aj] at ha;cases l with
   | nil=>simp at hl
   | cons e es =>
     simp only [aF,jN] at hl;have hs:=E0k hk hf ha.1;rw [← hl.1] at hs;obtain ⟨h1,h2⟩:=D8R hk hf r es (i+1) ha.2 hl.2;cases he:xu k x with
     | true =>
       rw [he] at hs;refine ⟨λh=>by simp [D7U,he] at h,λj h=>?_⟩
       simp only [D7U,he,if_true,aa] at h;subst h;exact ⟨0,e,rfl,rfl,⟨x,rfl⟩,by rw [hl.1];exact D8L hk hf ha.1 he,by simp [auT,hs]⟩
     | false =>
       rw [he] at hs;constructor
       . intro h;simp only [D7U,he,aI,if_false] at h;simp [auT,hs,h1 h]
       . intro j h;simp only [D7U,he,aI,if_false] at h;obtain ⟨n,e',h3,h4,h5,h6,h7⟩:=h2 j h;exact ⟨n+1,e',by omega,by simpa using h4,by simpa using h5,h6,by simp [auT,hs,h7]⟩
def D8Z:PV->Value
 | .agg l=>.agg (l.map D8i).toArray
 | k=>D8i k
def D9l:TD->Bool
 | .agg l=>l.all D8u
 | _=>true
section
variable {w:World}{A:Nat->Prop}
theorem D9M {d:TD}(hk:D8u d=true){x:PV}{c:List Value}(hf:qd d x=true)(h:dU w A x c):c=[D8i x]:=by
 cases d<;>simp only [D8u,aI] at hk<;>cases x<;>simp only [qd,aI] at hf<;>simp only [dU] at h<;>subst h<;>rfl
theorem D83:∀ {ds:List TD} {xs:List PV} {cs:List Value},ds.all D8u=true->uh ds xs=true->cK w A xs cs->cs=xs.map D8i
 | [],[],cs,_,_,h=>by simp only [cK] at h;rw [h];rfl
 | [],_::_,cs,_,h,_=>by simp [uh] at h
 | _::_,[],cs,_,h,_=>by simp [uh] at h
 | d::ds,x::xs,cs,hk,hf,h=>by
   simp only [dC,aj] at hk;simp only [uh,aj] at hf;simp only [cK] at h;obtain ⟨c,e,rfl,h1,h2⟩:=h;have h3:=D83 hk.2 hf.2 h2;rw [h3,D9M hk.1 hf.1 h1];rfl
theorem D88 {td:TD}(hk:D9l td=true){k:PV}{v:Value}(hf:qd td k=true)(h:pD w A k v):v=D8Z k:=by
 cases td with
 | agg ds =>
   cases k<;>simp only [qd,aI] at hf;obtain ⟨c,h1,rfl⟩:=h;simp only [dU] at h1;rw [D83 hk hf h1];rfl
 | int n =>
   have h1:=(D8D (td:=.int n) rfl hf h).1;cases k<;>simp only [qd,aI] at hf;exact h1
 | bool =>
   have h1:=(D8D (td:=.bool) rfl hf h).1;cases k<;>simp only [qd,aI] at hf;exact h1
 | str =>
   have h1:=(D8D (td:=.str) rfl hf h).1;cases k<;>simp only [qd,aI] at hf;exact h1
theorem F4h {td:TD}(hk:D9l td=true):∀ {ks:List PV} {vs:List Value},ks.all (qd td)=true->kM w A ks vs->vs=ks.map D8Z
 | [],vs,_,h=>by simp only [kM] at h;exact h
 | x::r,vs,hf,h=>by
   simp only [dC,aj] at hf;simp only [kM] at h;obtain ⟨c,d,rfl,h1,h2⟩:=h;rw [F4h hk hf.2 h2,D88 hk hf.1 ⟨c,h1,rfl⟩];rfl
end
theorem D9a:∀ {ds:List TD} {xs ys:List PV},ds.all D8u=true->uh ds xs=true->uh ds ys=true->zd xs ys=true->ys.map D8i=xs.map D8i
 | [],[],[],_,_,_,_=>rfl
 | [],_::_,_,_,h,_,_=>by simp [uh] at h
 | [],[],_::_,_,_,h,_=>by simp [uh] at h
 | _::_,[],_,_,h,_,_=>by simp [uh] at h
 | _::_,_::_,[],_,_,h,_=>by simp [uh] at h
 | d::ds,x::xs,y::ys,hk,hx,hy,h=>by
   simp only [dC,aj] at hk;simp only [uh,aj] at hx hy;simp only [zd,aj] at h;rw [aF,aF,D8L hk.1 hx.1 hy.1 h.1,D9a hk.2 hx.2 hy.2 h.2]
theorem E0l {td:TD}(hk:D9l td=true){k x:PV}(hf:qd td k=true)(hx:qd td x=true)(h:xu k x=true):D8Z x=D8Z k:=by
 cases td with
 | agg ds =>
   cases k<;>simp only [qd,aI] at hf;cases x<;>simp only [qd,aI] at hx;simp only [xu] at h;simp only [D8Z,D9a hk hf hx h]
 | int n =>
   have h1:=D8L (td:=.int n) rfl hf hx h;cases k<;>simp only [qd,aI] at hf;cases x<;>simp only [qd,aI] at hx;exact h1
 | bool =>
   have h1:=D8L (td:=.bool) rfl hf hx h;cases k<;>simp only [qd,aI] at hf;cases x<;>simp only [qd,aI] at hx;exact h1
 | str =>
   have h1:=D8L (td:=.str) rfl hf hx h;cases k<;>simp only [qd,aI] at hf;cases x<;>simp only [qd,aI] at hx;exact h1
section
variable {P:Program}{w:World}{A:Nat->Prop}
theorem D8K {kt:TypeId}{td:TD}(ht:AQ P 20 kt=some td)(hk:D9l td=true){k:PV}{v:Value}(hf:qd td k=true)(hv:pD w A k v):∀ (ks:List PV) (l:List MapEntry) (i:Nat),ks.all (qd td)=true->kM w A ks (l.map (·.key))->
 (D7U k ks i=none->(auO kt v l i).run P w=.ok none w) ∧
 (∀ j,D7U k ks i=some j->∃ n e,j=i+n∧l[n]?=some e∧e.key=D8Z k∧(auO kt v l i).run P w=.ok (some (j,e.val)) w)
 | [],l,i,_,hl=>by
   have:l=[]:=by simpa [kM] using hl
   subst this;exact ⟨λ_=>by simp [auO],λj h=>by simp [D7U] at h⟩
 | x::r,l,i,ha,hl=>by
   simp only [dC,aj] at ha;simp only [kM] at hl;obtain ⟨c,d,hl,h1,h2⟩:=hl;cases l with
   | nil=>simp at hl
   | cons e es =>
     simp only [aF,jN] at hl;obtain ⟨ck,Ac,rfl⟩:=hv;have he:(Op.equal kt (pk k.isAgg ck) e.key).run P w=.ok (xu k x) w:=by
      rw [hl.1];exact Yt (P:=P) (w:=w) (A:=A) 20 9980 kt td ht k x ck c hf ha.1 Ac h1
     have hkx:e.key=D8Z x:=by rw [hl.1];exact D88 hk ha.1 ⟨c,h1,rfl⟩
     obtain ⟨f1,f2⟩:=D8K ht hk hf ⟨ck,Ac,rfl⟩ r es (i+1) ha.2 (by rw [hl.2];exact h2)
     cases hc:xu k x with
     | true =>
       rw [hc] at he;refine ⟨λh=>by simp [D7U,hc] at h,λj h=>?_⟩
       simp only [D7U,hc,if_true,aa] at h;subst h;exact ⟨0,e,rfl,rfl,by rw [hkx];exact E0l hk hf ha.1 hc,by simp [auO,he]⟩
     | false =>
       rw [hc] at he;constructor
       . intro h;simp only [D7U,hc,aI,if_false] at h;simp [auO,he,f1 h]
       . intro j h;simp only [D7U,hc,aI,if_false] at h;obtain ⟨n,e',h3,h4,h5,h6⟩:=f2 j h;exact ⟨n+1,e',by omega,by simpa using h4,h5,by simp [auO,he,h6]⟩
theorem D9N {t:TypeId}{d:TD}(ht:AQ P 19 t=some d)(hk:D8u d=true){x:PV}{c:List Value}(hf:qd d x=true)(h:dU w A x c)(em:Bool)(n:Nat):(ava em (n+1) t (pk x.isAgg c)).run P w=.ok () w:=by
 have hu:P.underlying t=some d.desc:=by
  unfold AQ at ht;cases hu:P.underlying t with
  | none=>rw [hu] at ht;cases ht
  | some dd =>
    rw [hu] at ht;cases dd<;>simp only at ht<;>try (cases ht;done)
    . cases ht;rfl
    . cases ht;rfl
    . cases ht;rfl
    . split at ht
      . split at ht
        . cases ht;cases hk
        . cases ht
      . cases ht
    . split at ht
      . cases ht
      . split at ht
        . cases ht;cases hk
        . cases ht
 obtain ⟨e1,e2⟩:=D8D hk hf ⟨c,h,rfl⟩;rw [e1];exact avA hu e2 em n
theorem D8T {em:Bool}{n:Nat}:∀ (fs:List Field) (off:Nat) (ds:List TD) (xs:List PV) (px cx:List Value),JY P (fs.map λf=>(f,AQ P 19 f.type)) off=some ds->ds.all D8u=true->uh ds xs=true->
 cK w A xs cx->px.length=off->
 (forIn fs PUnit.unit λf (_:PUnit)=>(do
   if f.name ≠ "_" then ava em (n+1) f.type (← part f.type (px++cx).toArray f.offset)
   pure (ForInStep.yield PUnit.unit):Sem (ForInStep PUnit))).run P w=.ok PUnit.unit w
 | [],off,ds,xs,px,cx,_,_,_,_,_=>by simp
 | fd::fs,off,ds,xs,px,cx,h,hk,hx,rx,lx=>by
   simp only [aF,JY] at h;split at h
   . rename_i d ds' h1 h2;split at h
     . rename_i hc;obtain ⟨vN,lD,eV⟩:=hc;cases h;cases xs with
       | nil=>simp [uh] at hx
       | cons x xs =>
         simp only [uh,aj] at hx;simp only [dC,aj] at hk;simp only [cK] at rx;obtain ⟨c1,d1,rfl,r1,r2⟩:=rx;obtain ⟨w7,hx2⟩:=FY hx.1;obtain ⟨hu,hagg⟩:=RO h1;have e1:=H3 (P:=P) w hu px c1 d1 (by rw [r1.len,w7,eV]) (λh=>by rw [hagg] at h;rw [← hx2] at h;obtain ⟨_,rfl,_⟩:=r1.one h;rfl)
         rw [hagg,← hx2] at e1;rw [lx,← lD] at e1;have p2:=D9N (P:=P) (w:=w) (A:=A) h1 hk.1 hx.1 r1 em n;have ih:=D8T (em:=em) (n:=n) fs (off+P.cellsOf fd.type) ds' xs (px++c1) d1 h2 hk.2 hx.2 r2 (by rw [List.length_append,lx,r1.len,w7,eV])
         simp only [← bg] at e1 ih ⊢;simp only [List.forIn_cons,bn,vN,ne_eq,not_false_eq_true,if_true,aU,e1,p2,bL];exact ih
     . cases h
   . cases h
def awe (P:Program)(kt:TypeId)(td:TD):Prop:=(P.underlying kt=some td.desc∧D8u td=true)∨∃ fs ds,P.underlying kt=some (.struct fs)∧AQ P 20 kt=some td∧td=.agg ds∧ds.all D8u=true
theorem awe.flat {kt:TypeId}{td:TD}(h:awe P kt td):D9l td=true:=by
 rcases h with ⟨_,h⟩ | ⟨_,ds,_,_,rfl,h⟩
 . cases td<;>first | rfl | cases h
 . exact h
theorem awe.check {kt:TypeId}{td:TD}(h:awe P kt td){k:PV}{v:Value}(hf:qd td k=true)(hv:pD w A k v)(em:Bool):(ava em 10000 kt v).run P w=.ok () w:=by
 rcases h with ⟨hu,hk⟩ | ⟨fs,ds,hu,ht,rfl,hk⟩
 . obtain ⟨e1,e2⟩:=D8D hk hf hv;rw [e1];exact avA hu e2 em 9999
 . cases k<;>simp only [qd,aI] at hf;obtain ⟨c,h1,rfl⟩:=hv;simp only [dU] at h1;unfold AQ at ht;rw [hu] at ht;simp only at ht;split at ht
   . cases ht
   . split at ht
     . rename_i l hl;cases ht
       have:=D8T (P:=P) (w:=w) (A:=A) (em:=em) (n:=9998) fs.toList 0 ds _ [] c hl hk hf h1 rfl
       rw [show (10000:Nat)=9999+1 from rfl,ava];simp only [pk,PV.isAgg,if_true,bn,aZ hu,aU];rw [← Array.forIn_toList];simp only [a7] at this;simp at this ⊢;rw [this];rfl
     . cases ht
theorem D89 (fs:Array Field)(v:Value)(e:MapEntry)(es:List MapEntry)(i:Nat):auT (.struct fs) v (e::es) i=none:=by
 simp [auT,au4]
theorem awe.find {kt:TypeId}{td:TD}(h:awe P kt td){k:PV}{v:Value}(hf:qd td k=true)(hv:pD w A k v){ks:List PV}{l:List MapEntry}(ha:ks.all (qd td)=true)(hl:kM w A ks (l.map (·.key))) :
 (D7U k ks 0=none->(au5 kt v l).run P w=.ok none w) ∧
 (∀ j,D7U k ks 0=some j->∃ e,l[j]?=some e∧e.key=v∧(au5 kt v l).run P w=.ok (some (j,e.val)) w):=by
 have tM:=h.flat;have XK:=D88 tM hf hv;rcases h with ⟨hu,hk⟩ | ⟨fs,ds,hu,ht,rfl,hk⟩
 . obtain ⟨e1,e2⟩:=D8D hk hf hv;have axo:=E0I hk ha hl;obtain ⟨f1,f2⟩:=D8R hk hf ks l 0 ha axo;rw [e1];refine ⟨λhn=>avH hu (f1 hn),λj hj=>?_⟩
   obtain ⟨n,e,hn,g1,_,g3,g4⟩:=f2 j hj;have hn:j=n:=by omega
   subst hn;exact ⟨e,g1,g3,avH hu g4⟩
 . obtain ⟨f1,f2⟩:=D8K ht tM hf hv ks l 0 ha hl;cases l with
   | nil =>
     have hks:ks=[]:=by
      cases ks with
      | nil=>rfl
      | cons x r=>simp only [kM] at hl;obtain ⟨_,_,h',_⟩:=hl;simp at h'
     subst hks;exact ⟨λ_=>by simp [au5,aZ hu,auT],λj hj=>by simp [D7U] at hj⟩
   | cons e es =>
     have auU:(au5 kt v (e::es)).run P w=(auO kt v (e::es)).run P w:=by
      simp [au5,aZ hu,D89]
     rw [auU];refine ⟨f1,λj hj=>?_⟩
     obtain ⟨n,e',hn,g1,g3,g4⟩:=f2 j hj;have hn:j=n:=by omega
     subst hn;exact ⟨e',g1,by rw [g3,XK],g4⟩
theorem D9i {d:TD}(hk:D8u d=true){x:PV}(hf:qd d x=true)(m:Nat):au0 m (D8i x) (D8i x)=true:=by
 cases d<;>simp only [D8u,aI] at hk<;>cases x<;>simp only [qd,aI] at hf<;>simp [D8i,au0,(avi _ _).2]
theorem D8S (m:Nat):∀ {ds:List TD} {xs:List PV},ds.all D8u=true->uh ds xs=true->(((xs.map D8i).zip (xs.map D8i)).all λ(x,y)=>au0 m x y)=true
 | [],[],_,_=>rfl
 | [],_::_,_,h=>by simp [uh] at h
 | _::_,[],_,h=>by simp [uh] at h
 | d::ds,x::xs,hk,hf=>by
   simp only [dC,aj] at hk;simp only [uh,aj] at hf;simp only [aF,List.zip_cons_cons,dC,D9i hk.1 hf.1,D8S m hk.2 hf.2,Bool.true_and]
theorem awe.stays {kt:TypeId}{td:TD}(h:awe P kt td){k:PV}{v:Value}(hf:qd td k=true)(hv:pD w A k v):(avN v v).run P w=.ok v w:=by
 have tM:=h.flat;have XK:=D88 tM hf hv;rcases h with ⟨hu,hk⟩ | ⟨fs,ds,hu,ht,rfl,hk⟩
 . obtain ⟨e1,e2⟩:=D8D hk hf hv;rw [e1];exact MapKept.run_keyThatStays e2
 . cases k<;>simp only [qd,aI] at hf;have hs:au0 10000 v v=true:=by
    rw [XK];simp only [D8Z];rw [show (10000:Nat)=9999+1 from rfl,au0]
    have:=D8S 9999 hk hf
    simpa using this
   simp [avN,hs]
end
theorem D9b {P:Program}{t:TypeId}{td:TD}(h:D8M P t=some td):awe P t td:=by
 unfold D8M at h;split at h
 . cases h;exact .inl ⟨by assumption,rfl⟩
 . cases h;exact .inl ⟨by assumption,rfl⟩
 . cases h;exact .inl ⟨by assumption,rfl⟩
 . rename_i fs hu;split at h
   . rename_i l hl;split at h
     . rename_i hk;cases h;exact .inr ⟨fs,l,hu,hl,rfl,hk⟩
     . cases h
   . cases h
 . cases h
section
variable {P:Program}{o:Oper}{a:Act}{w:World}{A:Nat->Prop}{E:dP An}{nx:di}{γ:Nat}{v:MV}{h h':cj}{s:gB}{K:jm}{d:Option Nat}
theorem E8S {td:TD}(hk:D8u td=true){k x:PV}(hf:qd td k=true)(hx:qd td x=true)(h:D8i k=D8i x):xu k x=true:=by
 cases td<;>simp only [D8u,aI] at hk<;>cases k<;>simp only [qd,aI] at hf<;>cases x<;>simp only [qd,aI] at hx
 . simp only [D8i,Value.int.injEq] at h;simp [xu,h.2]
 . simp only [D8i,Value.bool.injEq] at h;simp [xu,h]
 . simp only [D8i,Value.string.injEq] at h;simp [xu,h]
theorem F01:∀ {ds:List TD} {xs ys:List PV},ds.all D8u=true->uh ds xs=true->uh ds ys=true->xs.map D8i=ys.map D8i->zd xs ys=true
 | [],[],[],_,_,_,_=>rfl
 | [],_::_,_,_,h,_,_=>by simp [uh] at h
 | [],[],_::_,_,_,h,_=>by simp [uh] at h
 | _::_,[],_,_,h,_,_=>by simp [uh] at h
 | _::_,_::_,[],_,_,h,_=>by simp [uh] at h
 | d::ds,x::xs,y::ys,hk,hx,hy,h=>by
   simp only [dC,aj] at hk;simp only [uh,aj] at hx hy;simp only [aF,jN] at h;simp only [zd,E8S hk.1 hx.1 hy.1 h.1,F01 hk.2 hx.2 hy.2 h.2,Bool.and_self]
theorem F3I {td:TD}(hk:D9l td=true){k x:PV}(hf:qd td k=true)(hx:qd td x=true)(h:D8Z k=D8Z x):xu k x=true:=by
 cases td with
 | agg ds =>
   cases k<;>simp only [qd,aI] at hf;cases x<;>simp only [qd,aI] at hx;simp only [D8Z,Value.agg.injEq] at h;simp only [xu];exact F01 hk hf hx (by simpa using congrArg aCk h)
 | int n =>
   cases k<;>simp only [qd,aI] at hf;cases x<;>simp only [qd,aI] at hx;exact E8S (td:=.int n) rfl (by simpa only [qd] using hf) (by simpa only [qd] using hx) h
 | bool =>
   cases k<;>simp only [qd,aI] at hf;cases x<;>simp only [qd,aI] at hx;exact E8S (td:=.bool) rfl rfl rfl h
 | str =>
   cases k<;>simp only [qd,aI] at hf;cases x<;>simp only [qd,aI] at hx;exact E8S (td:=.str) rfl rfl rfl h
theorem E8T {k:PV}:∀ {ks:List PV} {i:Nat},D7U k ks i=none↔∀ x∈ks,xu k x=false
 | [],i=>by simp [D7U]
 | x::r,i=>by
   simp only [D7U,aG,forall_eq_or_imp];cases h:xu k x with
   | true=>simp
   | false=>simp [E8T (ks:=r) (i:=i+1)]
theorem E89 {α β:Type}{f:α->β}:∀ {l:List α},(l.map f).Nodup->∀ x∈l,∀ y∈l,f x=f y->x=y
 | [],_,x,hx,_,_,_=>by cases hx
 | a::r,h,x,hx,y,hy,e=>by
   rw [aF,bZ] at h;rcases aG.1 hx with h1 | h1<;>rcases aG.1 hy with h2 | h2
   . rw [h1,h2]
   . exact absurd (by rw [← h1,e];exact dY h2) h.1
   . exact absurd (by rw [← h2,← e];exact dY h1) h.1
   . exact E89 h.2 x h1 y h2 e
theorem F25 {w:World}{A:Nat->Prop}{l m:List MapEntry}(hp:l.Perm m):∀ {ks ws:List PV},kM w A ks (l.map (·.key))->kM w A ws (l.map (·.val))->
 ∃ ks2 ws2,(ks2.zip ws2).Perm (ks.zip ws)∧kM w A ks2 (m.map (·.key))∧kM w A ws2 (m.map (·.val)):=by
 induction hp with
 | nil=>intro ks ws h1 h2;exact ⟨ks,ws,.refl _,h1,h2⟩
 | cons e _ ih =>
   intro ks ws h1 h2;cases ks with
   | nil=>simp [kM] at h1
   | cons k ks =>
     cases ws with
     | nil=>simp [kM] at h2
     | cons x ws =>
       simp only [aF,kM] at h1 h2;obtain ⟨c,d,h3,h4,h5⟩:=h1;obtain ⟨c',d',h6,h7,h8⟩:=h2;simp only [jN] at h3 h6;obtain ⟨h3,rfl⟩:=h3;obtain ⟨h6,rfl⟩:=h6;obtain ⟨ks2,ws2,q1,q2,q3⟩:=ih h5 h8;refine ⟨k::ks2,x::ws2,by simpa using q1.cons (k,x),?_,?_⟩
       . simp only [aF,kM];exact ⟨c,_,by rw [h3],h4,q2⟩
       . simp only [aF,kM];exact ⟨c',_,by rw [h6],h7,q3⟩
 | swap e e' l =>
   intro ks ws h1 h2;cases ks with
   | nil=>simp [kM] at h1
   | cons k ks =>
     cases ks with
     | nil=>simp only [aF,kM] at h1;obtain ⟨c,d,h3,h4,h5⟩:=h1;simp [h5] at h3
     | cons k' ks =>
       cases ws with
       | nil=>simp [kM] at h2
       | cons x ws =>
         cases ws with
         | nil=>simp only [aF,kM] at h2;obtain ⟨c,d,h3,h4,h5⟩:=h2;simp [h5] at h3
         | cons x' ws =>
           simp only [aF,kM] at h1 h2;obtain ⟨c,d,h3,h4,c1,d1,rfl,h5,h6⟩:=h1;obtain ⟨c',d',h3',h4',Rk,d1',rfl,h5',h6'⟩:=h2;simp only [jN] at h3 h3';obtain ⟨a1,a2,rfl⟩:=h3;obtain ⟨b1,b2,rfl⟩:=h3';refine ⟨k'::k::ks,x'::x::ws,by simpa using List.Perm.swap (k,x) (k',x') (ks.zip ws),?_,?_⟩
           . simp only [aF,kM];exact ⟨c1,_,by rw [a2],h5,c,_,by rw [a1],h4,h6⟩
           . simp only [aF,kM];exact ⟨Rk,_,by rw [b2],h5',c',_,by rw [b1],h4',h6'⟩
 | trans _ _ ih1 RP =>
   intro ks ws h1 h2;obtain ⟨ks2,ws2,q1,q2,q3⟩:=ih1 h1 h2;obtain ⟨ks3,ws3,q4,q5,q6⟩:=RP q2 q3;exact ⟨ks3,ws3,q4.trans q1,q5,q6⟩
section
variable {P:Program}{w:World}{A:Nat->Prop}
theorem W1.find {kt:TypeId}{td:TD}(hKT:awe P kt td){es:Array MapEntry}{clock:Nat}{ks ws:List PV}(h:W1 w A es clock ks ws)(ha:ks.all (qd td)=true){k:PV}{v:Value}(hf:qd td k=true)(hv:pD w A k v) :
 (D7U k ks 0=none->(au5 kt v es.toList).run P w=.ok none w∧v∉es.toList.map (·.key)) ∧
 (∀ i,D7U k ks 0=some i->∃ (j:Nat) (e:MapEntry) (VL:List MapEntry),VL.Perm es.toList∧kM w A ks (VL.map (·.key))∧kM w A ws (VL.map (·.val))∧VL[i]?=some e∧es.toList[j]?=some e∧e.key=v∧(au5 kt v es.toList).run P w=.ok (some (j,e.val)) w):=by
 obtain ⟨hwf,VL,hp,Ic,Cs⟩:=h;obtain ⟨ks2,ws2,hz,YP,xF⟩:=F25 hp Ic Cs;have l1:ks.length=ws.length:=by rw [Ic.aDb,Cs.aDb];simp
 have l2:ks2.length=ws2.length:=by rw [YP.aDb,xF.aDb];simp
 have axx:ks2.Perm ks:=by
  have:=hz.map Prod.fst
  rwa [aBJ (Nat.le_of_eq l2),aBJ (Nat.le_of_eq l1)] at this
 have Ml:ks2.all (qd td)=true:=bB.2 λx hx=>bB.1 ha x (axx.mem_iff.1 hx)
 obtain ⟨v1,v2⟩:=hKT.find hf hv ha Ic;obtain ⟨a1,a2⟩:=hKT.find hf hv Ml YP;have Gp:D7U k ks2 0=none↔D7U k ks 0=none:=by
  rw [E8T,E8T];exact ⟨λh x hx=>h x (axx.mem_iff.2 hx),λh x hx=>h x (axx.mem_iff.1 hx)⟩
 refine ⟨λhn=>⟨a1 (Gp.2 hn),λhm=>?_⟩,λi hi=>?_⟩
 . have hkw:=F4h hKT.flat Ml YP;rw [hkw] at hm;obtain ⟨x,hx,e⟩:=bp.1 hm
   have:=F3I hKT.flat hf (bB.1 Ml x hx) ((D88 hKT.flat hf hv).symm.trans e.symm)
   rw [E8T.1 (Gp.2 hn) x hx] at this;cases this
 . obtain ⟨e,e1,e2,_⟩:=v2 i hi;cases hj:D7U k ks2 0 with
   | none=>rw [Gp.1 hj] at hi;cases hi
   | some j =>
     obtain ⟨e',q1,q2,q3⟩:=a2 j hj;have he:e'=e:=E89 hwf.2.2 e' (bH q1) e (hp.mem_iff.1 (bH e1)) (q2.trans e2.symm);subst he;exact ⟨j,e',VL,hp,Ic,Cs,e1,q1,q2,q3⟩
theorem E9P {α:Type}:∀ {l:List α} {i:Nat} {x:α},l[i]?=some x->l.Perm (x::l.eraseIdx i)
 | [],i,x,h=>by simp at h
 | a::r,0,x,h=>by simp at h;subst h;exact .refl _
 | a::r,i+1,x,h=>by
   have:=E9P (l:=r) (i:=i) (x:=x) (by simpa using h)
   exact (this.cons a).trans (.swap x a _)
theorem E9Q {α:Type}:∀ {l:List α} {i:Nat} {x:α} (y:α),l[i]?=some x->(l.set i y).Perm (y::l.eraseIdx i)
 | [],i,x,y,h=>by simp at h
 | a::r,0,x,y,h=>.refl _
 | a::r,i+1,x,y,h=>by
   have:=E9Q (l:=r) (i:=i) (x:=x) y (by simpa using h)
   exact (this.cons a).trans (.swap y a _)
theorem F3J {α:Type}{l m:List α}(hp:l.Perm m){i j:Nat}{x y:α}(hi:l[i]?=some x)(hj:m[j]?=some x):(l.set i y).Perm (m.set j y):=by
 have h3:(l.eraseIdx i).Perm (m.eraseIdx j):=(List.perm_cons x).1 ((E9P hi).symm.trans (hp.trans (E9P hj)));exact (E9Q y hi).trans ((h3.cons y).trans (E9Q y hj).symm)
theorem Xw {α:Type}{l:List α}{i:Nat}{x:α}(h:l[i]?=some x):l.set i x=l:=by
 obtain ⟨hi,rfl⟩:=aJ.1 h;exact List.set_getElem_self hi
theorem W1.put {es:Array MapEntry}{clock:Nat}{ks ws:List PV}{VL:List MapEntry}(hwf:F0W es clock)(hp:VL.Perm es.toList)(hk:kM w A ks (VL.map (·.key)))(hv:kM w A ws (VL.map (·.val))){i j:Nat}{e:MapEntry}(hi:VL[i]?=some e)(hj:es.toList[j]?=some e)
 {k x:PV} {v z:Value} (HP:pD w A k v) (hxz:pD w A x z) (hev:e.key=v) {es2:Array MapEntry} (h2:es2.toList=es.toList.set j { e with key:=v,val:=z }):W1 w A es2 clock (ks.set i k) (ws.set i x):=by
 have eb:es2.toList.map (·.born)=es.toList.map (·.born):=by
  rw [h2,gw];exact Xw (by rw [aL,hj];rfl)
 have ek:es2.toList.map (·.key)=es.toList.map (·.key):=by
  rw [h2,gw];exact Xw (by rw [aL,hj,← hev];rfl)
 refine ⟨⟨λe' he'=>?_,by rw [eb];exact hwf.2.1,by rw [ek];exact hwf.2.2⟩,VL.set i { e with key:=v,val:=z },by rw [h2];exact F3J hp hi hj,?_,?_⟩
 . have:e'.born∈es2.toList.map (·.born):=dY he'
   rw [eb] at this;obtain ⟨e2,h3,h4⟩:=bp.1 this;rw [← h4];exact hwf.1 e2 h3
 . rw [gw];exact hk.aw3 i k v HP
 . rw [gw];exact hv.aw3 i x z hxz
theorem W1.push {es:Array MapEntry}{clock:Nat}{ks ws:List PV}(h:W1 w A es clock ks ws){k x:PV}{v z:Value}(HP:pD w A k v)(hxz:pD w A x z)(hn:v∉es.toList.map (·.key)):W1 w A (es.push { key:=v,val:=z,born:=clock }) (clock+1) (ks++[k]) (ws++[x]):=by
 obtain ⟨hwf,VL,hp,hk,hv⟩:=h;refine ⟨⟨λe he=>?_,?_,?_⟩,VL++[{ key:=v,val:=z,born:=clock }],?_,?_,?_⟩
 . rw [avT,az,aX] at he;rcases he with he | rfl
   . exact Nat.lt_succ_of_lt (hwf.1 e he)
   . exact Nat.lt_succ_self _
 . rw [avT,b9,aT];refine ⟨hwf.2.1,by simp,λa ha b hb=>?_⟩
   simp only [aF,bt,aX] at hb;subst hb;obtain ⟨e,he,rfl⟩:=bp.1 ha;exact Nat.ne_of_lt (hwf.1 e he)
 . rw [avT,b9,aT];refine ⟨hwf.2.2,by simp,λa ha b hb=>?_⟩
   simp only [aF,bt,aX] at hb;subst hb;exact λe=>hn (e ▸ ha)
 . rw [avT];exact hp.append_right _
 . rw [b9];exact hk.awD k v HP
 . rw [b9];exact hv.awD x z hxz
theorem F2q {α:Type}(i:Nat)(x:α)(l:List α):(E5n i x l).Perm (l++[x]):=by
 unfold E5n;have h1:(l.take i++x::l.drop i).Perm (x::(l.take i++l.drop i)):=List.perm_middle;rw [List.take_append_drop] at h1;exact h1.trans (List.perm_append_comm (l₁:=[x]) (l₂:=l))
theorem F0z {α β:Type}(f:α->β)(i:Nat)(x:α)(l:List α):(E5n i x l).map f=E5n i (f x) (l.map f):=by
 unfold E5n;rw [b9,aF,List.map_take,List.map_drop]
theorem _root_.Go.Mid.kM.aEn:∀ {l:List PV} {vs:List Value},kM w A l vs->∀ (i:Nat) (x:PV) (v:Value),pD w A x v->kM w A (E5n i x l) (E5n i v vs)
 | l,vs,h,0,x,v,hv=>by
   obtain ⟨c,h1,rfl⟩:=hv;simp only [E5n,List.take_zero,a7,List.drop_zero,kM];exact ⟨c,vs,rfl,h1,h⟩
 | [],vs,h,i+1,x,v,hv=>by
   simp only [kM] at h;subst h;obtain ⟨c,h1,rfl⟩:=hv;simp only [E5n,List.take_nil,a7,List.drop_nil,kM];exact ⟨c,[],rfl,h1,rfl⟩
 | y::r,vs,h,i+1,x,v,hv=>by
   simp only [kM] at h;obtain ⟨c,d,rfl,h1,h2⟩:=h
   have:=h2.aEn i x v hv
   simp only [E5n,List.take_succ_cons,aS,List.drop_succ_cons,kM] at this ⊢;exact ⟨c,_,rfl,h1,this⟩
theorem W1.ins {es:Array MapEntry}{clock:Nat}{ks ws:List PV}(h:W1 w A es clock ks ws){k x:PV}{v z:Value}(HP:pD w A k v)(hxz:pD w A x z)(hn:v∉es.toList.map (·.key))(i:Nat):W1 w A (es.push { key:=v,val:=z,born:=clock }) (clock+1) (E5n i k ks) (E5n i x ws):=by
 obtain ⟨hwf,_,_⟩:=h.push HP hxz hn;obtain ⟨_,VL,hp,hk,hv⟩:=h;refine ⟨hwf,E5n i { key:=v,val:=z,born:=clock } VL,(F2q i _ VL).trans ?_,?_,?_⟩
 . rw [avT];exact hp.append_right _
 . rw [F0z];exact hk.aEn i k v HP
 . rw [F0z];exact hv.aEn i x z hxz
theorem W1.empty:W1 w A #[] 0 [] []:=⟨⟨λe he=>by simp at he,by simp,by simp⟩,[],.refl _,by simp [kM],by simp [kM]⟩
end
theorem D84 {α:Type}:∀ {l:List (T α)} {ws:List PV},ml l=some ws->l=ws.map T.p
 | [],ws,h=>by simp only [ml,aa] at h;subst h;rfl
 | .p v::r,ws,h=>by
   simp only [ml] at h;split at h
   . rename_i l hl;cases h;rw [D84 hl];rfl
   . cases h
 | .m _::_,ws,h | .agg _::_,ws,h | .vec ..::_,ws,h | .mp ..::_,ws,h | .hole _::_,ws,h=>by simp [ml] at h
theorem D9D {α β:Type}(f:α->β)(ws:List PV):T.cI f (ws.map T.p)=ws.map T.p:=by
 induction ws with
 | nil=>rfl
 | cons x r ih=>simp [T.cI,T.mapA,ih]
theorem E0J:∀ {α:Type} {l m:List PV},l.map (T.p (α:=α))=m.map T.p->l=m
 | _,[],[],_=>rfl
 | _,[],_::_,h=>by simp at h
 | _,_::_,[],h=>by simp at h
 | _,x::r,y::q,h=>by
   simp only [aF,jN,T.p.injEq] at h;rw [h.1,E0J h.2]
theorem D9c (m:MR w A E h nx){td:TD}{x:MV}{val:Value}{id g:Nat}{ks ws:List PV}(hm:D8E h td x=some (id,g,ks,ws))(hv:bR w A E nx x val) :
 ∃ an b es clock,x=.auG id [] g∧h id=some (.mp g ks (ws.map .p))∧E id=some (.mp an ks (ws.map .p))∧an.g=g∧an.b=some b∧val=.map (some b)∧w.heap[b]?=some (.map es clock) ∧
  W1 w A es clock ks ws∧ks.all (qd td)=true:=by
 unfold D8E at hm;split at hm
 . rename_i id' g';split at hm
   . rename_i wW JH Ad hh;split at hm
     . rename_i hc;obtain ⟨rfl,hall⟩:=hc;split at hm
       . rename_i ws' hws;simp only [aa,ae] at hm;obtain ⟨rfl,rfl,rfl,rfl⟩:=hm;have fN:=D84 hws;subst fN;obtain ⟨_,an,lA,hE,hg,hl⟩:=m.avR (id:=id') (path:=[]) (by rw [hh];rfl)
         have kV:=m.at_ _ _ hE;simp only [OAt] at kV;obtain ⟨b,es,clock,ws2,h1,h2,rfl,h4⟩:=kV;rw [D9D] at hl
         have:=E0J hl
         subst this;simp only [bR] at hv;obtain ⟨_,b',rfl,hb⟩:=hv
         have:=hb an none (by rw [hE];rfl) hg
         rw [h1] at this;cases this;exact ⟨an,b,es,clock,rfl,hh,hE,hg,h1,rfl,h2,h4,hall⟩
       . cases hm
     . cases hm
   . cases hm
 . cases hm
theorem F26 (m:MR w A E h nx){td:TD}{x:MV}{val:Value}{ks ws:List PV}(hm:E8f h td x=some (ks,ws))(hv:bR w A E nx x val) :
 ∃ es clock,((val=.map none∧es=#[])∨∃ b,val=.map (some b)∧w.heap[b]?=some (.map es clock))∧W1 w A es clock ks ws∧ks.all (qd td)=true:=by
 unfold E8f at hm;split at hm
 . split at hm
   . rename_i hall;simp only [aa,ae] at hm;obtain ⟨rfl,rfl⟩:=hm;simp only [bR] at hv;obtain ⟨c,hc,rfl⟩:=hv;simp only [dU] at hc;rcases hc with ⟨rfl,rfl,rfl⟩ | ⟨b,es,clock,rfl,_,h1,hwf,VL,hp,h2,h3⟩
     . exact ⟨#[],0,.inl ⟨rfl,rfl⟩,W1.empty,hall⟩
     . exact ⟨es,clock,.inr ⟨b,rfl,h1⟩,⟨hwf,VL,hp,h2,h3⟩,hall⟩
   . cases hm
 . split at hm
   . rename_i q1 q2 JH ws' hmo;simp only [aa,ae] at hm;obtain ⟨rfl,rfl⟩:=hm;obtain ⟨an,b,es,clock,_,_,_,_,_,h6,h7,h8,HA⟩:=D9c m hmo hv;exact ⟨es,clock,.inr ⟨b,h6,h7⟩,h8,HA⟩
   . cases hm
theorem D91 {t:TypeId}{z:PV}(h:D9k P t=some z)(w:World)(A:Nat->Prop):∃ zv,(zeroValue t).run P w=.ok zv w∧pD w A z zv:=by
 unfold D9k at h;split at h
 . rename_i i hi;split at h
   . rename_i zv z' hz hzp;split at h
     . rename_i F2;cases h;obtain ⟨zc,h1,h2⟩:=C76 hzp;obtain ⟨zv',h3,h4,i',h5,h6⟩:=EO h1 w;rw [hi] at h5;cases h5;rw [hz] at h6;cases h6;refine ⟨zv,h3,zc,h2 w A,?_⟩;cases hg:z.isAgg with
       | true =>
         rw [hg] at F2;cases zv<;>simp only [E0j,aI] at F2;simp only [Value.cells] at h4;rw [h4];simp [pk]
       | false =>
         rw [hg] at F2;have e:zv.cells=#[zv]:=by cases zv<;>simp only [E0j,pY] at F2<;>rfl
         rw [e] at h4
         have:zc=[zv]:=by
          have:=congrArg aCk h4
          simpa using this.symm
         rw [this];simp [pk]
     . cases h
   . cases h
 . cases h
variable (hm:MR w A E h nx)(hγ:¬ nx γ)(hs:qM P w A E nx s a)
include hm hγ
theorem D92 {t:TypeId}{tk tv:TD}(ho:o.op=.makeMap t none)(he:cb K γ d s h (.mkmap tk tv)=some (v,h')):cC P o a w A E nx γ v h':=by
 cases d with
 | none=>simp [cb,A0O] at he
 | some d =>
   simp only [cb,A0O,bI,aa,ae] at he;obtain ⟨rfl,rfl⟩:=he;have hold:∀ b,b<w.heap.size->(w.alloc (.map #[] 0)).heap[b]?=w.heap[b]?:=λb hb=>(avO w _).2 b hb
   have ql:=(avO w (.map #[] 0)).1;have hsz:(w.alloc (.map #[] 0)).heap.size=w.heap.size+1:=World.size_alloc _ _;have bW:∀ np y,fc (some (.mp (⟨γ,some w.heap.size,0⟩:An) [] [])) np=some y->y=(⟨γ,some w.heap.size,0⟩,none):=by
    intro np y hy;cases np with
    | none=>simp [fc] at hy
    | some p=>cases p<;>simp [fc,iE] at hy;exact hy.symm
   have sok:nW w (w.alloc (.map #[] 0)) A E nx (nx.add γ) d (.mp ⟨γ,some w.heap.size,0⟩ [] []):=by
    refine ⟨nx.eF γ,by omega,λb hb _=>hold b hb,λnp y hy eC=>?_,λb hb=>?_,by simp [Obj.blk,T.dc],λb hb j oj _ Dn Sc=>?_,nx.iG γ⟩
    . rw [bW np y hy] at eC;exact (hγ eC).elim
    . simp only [Obj.blk,T.dc,cg,bD,aX] at hb;subst hb;exact ⟨by omega,λhA=>absurd (hm.im _ hA) (by omega)⟩
    . simp only [Obj.blk,T.dc,cg,bD,aX] at hb;subst hb
      have:=(hm.j6 Dn Sc).1;omega
   have Ab:=hm.set sok (by
    simp only [OAt];exact ⟨w.heap.size,#[],0,[],rfl,ql,rfl,W1.empty⟩)
   refine ⟨.map (some w.heap.size),w.alloc (.map #[] 0),A,cq E d (some (.mp ⟨γ,some w.heap.size,0⟩ [] [])),.inl ?_,?_,by simpa only [Obj.mapA,T.cI] using Ab,?_⟩
   . simp only [execOp,ho,Option.map_none,bn,run_makeMap_plain,aU,bL]
   . simp only [bR];refine ⟨nx.iG γ,_,rfl,λan z hn _=>?_⟩
     rw [nV] at hn
     have:=bW _ _ hn
     simp only [ae] at this;rw [this.1]
   . refine gC.of (E1:=E) ⟨rfl,rfl,rfl,Nat.le_refl _⟩ (by omega) (λb hb _=>hold b hb) ?_ (pf.refl _ _) ?_
     . intro b eC oZ;rcases Cv oZ with h1 | ⟨i,oi,hi,tE,Cx⟩
       . simp only [Obj.blk,T.dc,cg,bD,aX] at h1;omega
       . exact ⟨i,oi,tE,Cx⟩
     . intro i np an z hn eC;by_cases e:i=d
       . subst e;rw [nV] at hn
         have:=bW _ _ hn
         simp only [ae] at this;rw [this.1] at eC;exact (hγ eC).elim
       . rwa [A0C E _ e] at hn
include hs
omit hγ in
theorem D93 {t kt et:TypeId}{x y:Operand}{x' y':dJ}{ok:Bool}{zv:PV}{td:TD}(ho:o.op=.lookup t x y ok)(hu:P.underlying t=some (.map kt et))(hx:fu P t x=some x')(hy:fu P kt y=some y')(hz:D9k P et=some zv)(zh:D8M P kt=some td)
 (he:cb K γ d s h (.mlook td (.p zv) ok x' y')=some (v,h')):cC P o a w A E nx γ v h':=by
 have dI:=jP hs hx;have w8:=jP hs hy;have hKT:=D9b zh;simp only [cb] at he;split at he
 . rename_i r hr;simp only [aa,ae] at he;obtain ⟨rfl,rfl⟩:=he;unfold D8G at hr;split at hr
   . rename_i kv HP;split at hr
     . rename_i su;split at hr
       . rename_i ks ws hmo;obtain ⟨es,clock,cE,h8,HA⟩:=F26 hm hmo dI;rw [HP] at w8;simp only [bR] at w8;have Ac:=hKT.check su w8 es.isEmpty;obtain ⟨f1,f2⟩:=h8.find hKT HA su w8;split at hr
         . rename_i i hi;obtain ⟨j,e,VL,p1,p2,p3,g1,_,g3,hfk⟩:=f2 i hi;split at hr
           . rename_i wv hwv;cases hr;obtain ⟨vv,Ij,z8⟩:=p3.axm i wv hwv;rw [aL,g1] at Ij;cases Ij;refine cC.idle (val:=if ok then .tuple #[e.val,.bool true] else e.val) ?_ ?_ hm
             . rcases cE with ⟨cE,he0⟩ | ⟨b,cE,h7⟩
               . subst he0;simp only [execOp,ho,cE,awh,bn,aZ hu,aU,bL,Ac,hfk]
               . simp only [execOp,ho,cE,awh,bn,aZ hu,aU,auW h7,bL,Ac,hfk]
             . cases ok with
               | false=>simpa only [D8X,bR,aI,if_false] using z8
               | true =>
                 simp only [D8X,if_true,bR];exact ⟨[e.val,.bool true],rfl,by
                  simp only [c9];exact ⟨_,_,rfl,by simpa only [bR] using z8,_,_,rfl,vM.2 rfl,rfl⟩⟩
           . cases hr
         . rename_i hi;cases hr;have hfk:=(f1 hi).1;obtain ⟨aw7,EX,It⟩:=D91 hz w A;refine cC.idle (val:=if ok then .tuple #[aw7,.bool false] else aw7) ?_ ?_ hm
           . rcases cE with ⟨cE,he0⟩ | ⟨b,cE,h7⟩
             . subst he0;simp only [execOp,ho,cE,awh,bn,aZ hu,aU,bL,Ac,hfk,EX]
             . simp only [execOp,ho,cE,awh,bn,aZ hu,aU,auW h7,bL,Ac,hfk,EX]
           . cases ok with
             | false=>simpa only [D8X,bR,aI,if_false] using It
             | true =>
               simp only [D8X,if_true,bR];exact ⟨[aw7,.bool false],rfl,by
                simp only [c9];exact ⟨_,_,rfl,by simpa only [bR] using It,_,_,rfl,vM.2 rfl,rfl⟩⟩
       . cases hr
     . cases hr
   . cases hr
 . cases he
omit hγ hs in
theorem MR.awE {id g b:Nat}{an:An}{ks ws JH ws':List PV}{es VL:Array MapEntry}{clock clock':Nat}(hE:E id=some (.mp an ks (ws.map .p)))(hg:an.g=g)(hb:an.b=some b)(hw:w.heap[b]?=some (.map es clock))
 (hk:W1 w A VL clock' JH ws') :
 let w':World:={ w with heap:=w.heap.setIfInBounds b (.map VL clock') }
 MR w' A (cq E id (some (.mp an JH (ws'.map .p)))) (cq h id (some (.mp g JH (ws'.map .p)))) (nx.add γ)∧gC w A E nx w' A (cq E id (some (.mp an JH (ws'.map .p)))):=by
 intro w';have sB:=MapKept.heap_set (o':=.map VL clock') hw;have hblk:∀ (l:List PV),(Obj.mp an ks (l.map .p)).blk=[b]:=λl=>by simp [Obj.blk,hb,F4]
 have awu:∀ (l:List PV),(Obj.mp an JH (l.map .p)).blk=[b]:=λl=>by simp [Obj.blk,hb,F4]
 have Cz:¬ A b:=(hm.j6 hE (by rw [hblk];simp)).2
 have hnd:∀ np y,fc (some (.mp an JH (ws'.map T.p))) np=some y->fc (some (.mp an ks (ws.map T.p))) np=some y:=by
  intro np y hy;cases np with
  | none=>simp [fc] at hy
  | some p=>cases p<;>simp [fc,iE] at hy ⊢;exact hy
 have sok:nW w w' A E nx (nx.add γ) id (.mp an JH (ws'.map .p)):=by
  refine ⟨nx.eF γ,by simp [w'],λx hx OW=>sB.2 x λe=>OW _ hE (by rw [hblk,e];simp),λnp y hy _=>by rw [hE];exact hnd np y hy,λx hx=>?_,by rw [awu];simp,λx hx j oj hj Dn hxj=>?_,.inl (hm.st _ _ hE)⟩
  . rw [awu,aX] at hx;subst hx
    have:=hm.j6 hE (b:=x) (by rw [hblk];simp)
    exact ⟨by simpa [w'] using this.1,this.2⟩
  . rw [awu,aX] at hx;subst hx;exact hm.dj j id oj _ hj Dn hE x hxj (by rw [hblk];simp)
 have hA:∀ x,A x->w'.heap[x]?=w.heap[x]?:=λx hx=>sB.2 x λe=>Cz (e ▸ hx)
 have Ab:=hm.set sok (by
  simp only [OAt];obtain ⟨hwf,el,hp,h1,h2⟩:=hk;exact ⟨b,VL,clock',ws',hb,sB.1,rfl,hwf,el,hp,h1.frame (λ_ h=>h) hA,h2.frame (λ_ h=>h) hA⟩)
 refine ⟨?_,?_⟩
 . simpa only [Obj.mapA,D9D,hg] using Ab
 . refine gC.of (E1:=E) ⟨rfl,rfl,rfl,Nat.le_refl _⟩ (by simp [w']) (λx hx nu=>sB.2 x λe=>nu ⟨id,_,hE,by rw [hblk,e];simp⟩) ?_ (pf.refl _ _) ?_
   . intro x eC oZ;rcases Cv oZ with h1 | ⟨i,oi,hi,tE,Cx⟩
     . rw [awu] at h1;exact ⟨id,_,hE,by rw [hblk];exact h1⟩
     . exact ⟨i,oi,tE,Cx⟩
   . intro i np rU z hn eC;by_cases e:i=id
     . subst e;rw [nV] at hn;rw [hE];exact hnd _ _ hn
     . rwa [A0C E _ e] at hn
omit hγ in
theorem E0m {t kt et:TypeId}{x y z:Operand}{x' y' z':dJ}{td:TD}(ho:o.op=.mapUpdate t x y z)(hu:P.underlying t=some (.map kt et))(hx:fu P t x=some x')(hy:fu P kt y=some y')(hz:fu P et z=some z')(zh:D8M P kt=some td)
 (he:cb K γ d s h (.mset td x' y' z')=some (v,h')):cC P o a w A E nx γ v h':=by
 have dI:=jP hs hx;have w8:=jP hs hy;have yK:=jP hs hz;have hKT:=D9b zh;simp only [cb] at he;split at he
 . rename_i r hr;simp only [aa,ae] at he;obtain ⟨rfl,rfl⟩:=he;unfold D8F at hr;split at hr
   . rename_i kv xv HP zo;split at hr
     . rename_i su;split at hr
       . rename_i id g ks ws hmo;obtain ⟨an,b,es,clock,h1,h2,h3,h4,h5,h6,h7,h8,HA⟩:=D9c hm hmo dI;rw [HP] at w8;rw [zo] at yK;simp only [bR] at w8 yK;have Ac:=hKT.check su w8 false;obtain ⟨f1,f2⟩:=h8.find hKT HA su w8;split at hr
         . rename_i i hi;cases hr;obtain ⟨j,e,VL,p1,p2,p3,g1,g2,g3,hfk⟩:=f2 i hi;have hj:es[j]?=some e:=by simpa using g2
           have eC:j<es.size:=(c7.1 hj).1;have axp:(es.modify j λe=>{ e with key:=a.eval y,val:=a.eval z }).toList=es.toList.set j { e with key:=a.eval y,val:=a.eval z }:=by
            apply List.ext_getElem?;intro n;rw [Array.getElem?_toList,Array.getElem?_modify,List.getElem?_set];by_cases gM:j=n
            . subst gM;simp [(c7.1 hj).2,eC]
            . simp [gM]
           have DB:W1 w A (es.modify j λe=>{ e with key:=a.eval y,val:=a.eval z }) clock (ks.set i kv) (ws.set i xv):=W1.put h8.1 p1 p2 p3 g1 g2 w8 yK g3 axp
           obtain ⟨k1,k2⟩:=hm.awE (γ:=γ) (h:=h) (clock':=clock) h3 h4 h5 h7 DB;refine ⟨undef,_,A,_,.inr ⟨?_,rfl⟩,by simp only [bR],k1,k2⟩
           simp only [execOp,ho,h6,av1,bn,aZ hu,aU,auW h7,Ac,hfk,hj,ak,bI,g3,hKT.stays su w8,avr _ h7,bL]
         . rename_i hi;cases hr;obtain ⟨hfk,TY⟩:=f1 hi;have DB:W1 w A (es.push { key:=a.eval y,val:=a.eval z,born:=clock }) (clock+1) (E5n (E9b kv ks) kv ks) (E5n (E9b kv ks) xv ws):=h8.ins w8 yK TY _;obtain ⟨k1,k2⟩:=hm.awE (γ:=γ) (h:=h) (clock':=clock+1) h3 h4 h5 h7 DB;refine ⟨undef,_,A,_,.inr ⟨?_,rfl⟩,by simp only [bR],k1,k2⟩
           simp only [execOp,ho,h6,av1,bn,aZ hu,aU,auW h7,Ac,hfk,avr _ h7,bL]
       . cases hr
     . cases hr
   . cases hr
 . cases he
end
end Go.Mid
namespace Go.Mid
open Go.RowKit
section
variable {P:Program}{o:Oper}{a:Act}{w:World}{A:Nat->Prop}{E:dP An}{nx:di}{γ:Nat}{v:MV}{h h':cj}{s:gB}{K:jm}{d:Option Nat}
theorem KK {l:List TypeId}{xs:List Operand}{x:dJ}(h:rT P l xs=some [x]):∃ y t,xs=[y]∧fu P t y=some x:=by
 cases xs with
 | nil=>cases l<;>simp [rT] at h
 | cons y r =>
   cases l with
   | nil =>
     simp only [rT] at h;split at h
     . rename_i o os h1 h2;cases h;cases r with
       | nil=>exact ⟨y,0,rfl,h1⟩
       | cons z q=>simp only [rT] at h2;split at h2<;>cases h2
     . cases h
   | cons t ts =>
     simp only [rT] at h;split at h
     . rename_i o os h1 h2;cases h;cases r with
       | nil=>exact ⟨y,t,rfl,h1⟩
       | cons z q=>cases ts<;>(simp only [rT] at h2;split at h2<;>cases h2)
     . cases h
theorem C2Q {l:List TypeId}{xs:List Operand}{x x':dJ}(h:rT P l xs=some [x,x']):∃ y y' t t',xs=[y,y']∧fu P t y=some x∧fu P t' y'=some x':=by
 cases xs with
 | nil=>cases l<;>simp [rT] at h
 | cons y r =>
   cases l with
   | nil =>
     simp only [rT] at h;split at h
     . rename_i o os h1 h2;cases h;obtain ⟨z,t,rfl,h3⟩:=KK h2;exact ⟨y,z,0,t,rfl,h1,h3⟩
     . cases h
   | cons t ts =>
     simp only [rT] at h;split at h
     . rename_i o os h1 h2;cases h;obtain ⟨z,t',rfl,h3⟩:=KK h2;exact ⟨y,z,t,t',rfl,h1,h3⟩
     . cases h
theorem xf {α:Type}{a:Array α}{l:List α}(h:a.toList=l):a=l.toArray:=by
 apply Array.ext';simpa using h
theorem C0W {P:Program}{x:Option Operand}(h:xB P x=some none):x=none:=by
 cases x with
 | none=>rfl
 | some x =>
   simp only [xB] at h;cases hc:fu P 0 x<;>simp [hc] at h
theorem C0X {P:Program}{x:Option Operand}{y:dJ}(h:xB P x=some (some y)):∃ z,x=some z∧fu P 0 z=some y:=by
 unfold xB at h;cases x with
 | none=>simp at h
 | some z =>
   simp only at h;split at h
   . rename_i o ho;cases h;exact ⟨z,rfl,ho⟩
   . cases h
variable (hs:qM P w A E nx s a)(hm:MR w A E h nx)(hγ:¬ nx γ)(hK:CE P K)
include hs hm hγ hK
theorem D3h {m:ui}{md:Nat}{mt pz:Bool}(hc:qf P md mt pz o.type o.op=some m)(he:cb K γ d s h m=some (v,h')):Te P o a w A E nx γ v h':=by
 cases eW:o.op with
 | move x =>
   rw [eW] at hc;simp only [qf] at hc;split at hc
   . rename_i y hy;cases hc;exact (Yw hs hm (.inl eW) hy he).wp
   . cases hc
 | assign x =>
   rw [eW] at hc;simp only [qf] at hc;split at hc
   . rename_i e hu;cases hc;exact (C9R (e:=e) hm hγ eW he).wp
   . split at hc
     . rename_i y hy;cases hc;exact (Yw hs hm (.inr eW) hy he).wp
     . cases hc
 | pick c x y =>
   rw [eW] at hc;simp only [qf] at hc;split at hc
   . rename_i c' x' y' h1 h2 h3;cases hc;exact (C9H hs hm eW h1 h2 h3 he).wp
   . cases hc
 | alloc t =>
   rw [eW] at hc;simp only [qf] at hc;split at hc
   . rename_i z hz;cases hc;exact (C77 hm hγ eW hz he).wp
   . cases hc
 | box t x =>
   rw [eW] at hc;simp only [qf] at hc;split at hc
   . rename_i y hy;cases hc;exact (D1O hs hm hγ eW hy he).wp
   . cases hc
 | build t parts =>
   rw [eW] at hc;simp only [qf] at hc;split at hc
   . rename_i zc fs hz hu;split at hc
     . rename_i dV;simp only [aj] at dV;split at hc
       . rename_i l hl;cases hc;exact (C6g hs hm eW hz hu dV.1 dV.2 hl he).wp
       . cases hc
     . cases hc
   . rename_i zc n e hz hu;split at hc
     . rename_i dV;simp only [aj] at dV;split at hc
       . rename_i l hl;cases hc;exact (C6h hs hm eW hz hu dV.1 dV.2 hl he).wp
       . cases hc
     . cases hc
   . cases hc
 | buildSlice t n parts =>
   rw [eW] at hc;simp only [qf] at hc;split at hc
   . rename_i e hu;split at hc
     . cases hc
     . rename_i hne;split at hc
       . rename_i zc hz;split at hc
         . rename_i dV;split at hc
           . rename_i l hl;cases hc;have h1:P.cellsOf e≠0:=λh=>hne (.inl h)
             have h2:n*P.cellsOf e<=16777216:=by
              have:¬ (n*P.cellsOf e>16777216):=λh=>hne (.inr h)
              omega
             split at he
             . exact (C9U hs hm hγ eW hu h1 h2 hz dV.1 dV.2 hl he).wp
             . exact (Ze hs hm hγ eW hu h1 h2 hz dV.1 dV.2 hl (λh0=>by simp [h0]) he).wp
           . cases hc
         . cases hc
       . cases hc
   . cases hc
 | load t x =>
   rw [eW] at hc;simp only [qf] at hc;split at hc
   . rename_i y hy;split at hc
     . rename_i hU;cases hc;exact (C9K hs hm eW hy hU he).wp
     . cases hc
   . cases hc
 | store t x y =>
   rw [eW] at hc;simp only [qf] at hc;split at hc
   . rename_i x' y' h1 h2;split at hc
     . rename_i hU;cases hc;exact (C78 hs hm hγ eW h1 h2 hU he).wp
     . cases hc
   . cases hc
 | nilCheck x =>
   rw [eW] at hc;simp only [qf] at hc;split at hc
   . rename_i y hy;cases hc;exact (C9I hs hm eW hy he).wp
   . cases hc
 | binOp op t x y yt =>
   rw [eW] at hc;simp only [qf] at hc;split at hc
   . rename_i x' y' h1 h2;split at hc
     . rename_i k hu;cases hc;exact (RQ hs hm eW h1 h2 (.inr (.inl ⟨k,hu⟩)) (by intro h;cases h) he).wp
     . rename_i hu;cases hc;exact (RQ hs hm eW h1 h2 (.inr (.inr hu)) (by intro h;cases h) he).wp
     . rename_i hu;cases hc;exact (RQ hs hm eW h1 h2 (.inl hu) (λ_=>hu) he).wp
     . rename_i fs hu;have hagg:mW P t=true:=by simp only [mW,hu]
       split at hc
       . rename_i td zh;cases hc;exact (N1 (neg:=false) hs hm eW rfl h1 h2 zh hagg he).wp
       . rename_i td zh;cases hc;exact (N1 (neg:=true) hs hm eW rfl h1 h2 zh hagg he).wp
       . cases hc
     . rename_i n e hu;have hagg:mW P t=true:=by simp only [mW,hu]
       split at hc
       . rename_i td zh;cases hc;exact (N1 (neg:=false) hs hm eW rfl h1 h2 zh hagg he).wp
       . rename_i td zh;cases hc;exact (N1 (neg:=true) hs hm eW rfl h1 h2 zh hagg he).wp
       . cases hc
     . rename_i e hu;split at hc
       . cases hc;exact (Yy (neg:=false) hs hm eW rfl h1 hu he).wp
       . cases hc;exact (Yy (neg:=true) hs hm eW rfl h1 hu he).wp
       . cases hc
     . rename_i hu;split at hc
       . cases hc;exact (Yz (neg:=false) hs hm eW rfl h1 hu he).wp
       . cases hc;exact (Yz (neg:=true) hs hm eW rfl h1 hu he).wp
       . cases hc
     . cases hc
   . cases hc
 | unOp op t x =>
   rw [eW] at hc;simp only [qf] at hc;split at hc
   . rename_i y hy;split at hc
     . cases hc;exact (D1E hs hm eW hy he).wp
     . cases hc;exact (D1F hs hm eW hy he).wp
     . cases hc;exact (D1G hs hm eW hy he).wp
     . cases hc
   . cases hc
 | convert src dst x =>
   rw [eW] at hc;simp only [qf] at hc;split at hc
   . rename_i y hy;split at hc
     . rename_i k0 k h0 h1;cases hc;exact (C7W hs hm eW hy h0 h1 he).wp
     . rename_i h0 h1;cases hc;exact (C7X hs hm eW hy h0 h1 he).wp
     . rename_i k0 h0 h1;cases hc;exact (C7Y hs hm eW hy h0 h1 he).wp
     . cases hc
   . cases hc
 | makeFunc fn first iR =>
   rw [eW] at hc;cases fn<;>simp only [qf,reduceCtorEq] at hc;rename_i f;split at hc
   . cases hc
   rename_i hbf;split at hc
   . rename_i hsz;split at hc
     . rename_i l hl;cases hc
       have:first=#[]:=eP hsz
       exact (YI hs hm eW (.inl ⟨rfl,Nat.lt_of_not_le hbf,this,rfl⟩) hl he).wp
     . cases hc
   . split at hc
     . rename_i hsz;split at hc
       . rename_i l hl;cases hc
         have:iR=#[]:=eP hsz
         exact (YI hs hm eW (.inr ⟨rfl,this,rfl⟩) hl he).wp
       . cases hc
     . cases hc
 | makeSlice t l c =>
   rw [eW] at hc;simp only [qf] at hc;split at hc
   . rename_i e hu;split at hc
     . cases hc
     . rename_i hne;split at hc
       . rename_i z l' c' hz h1 h2;cases hc;exact (C9S hs hm hγ eW hu (λh=>hne (.inl h)) (λh=>hne (.inr h)) hz h1 h2 he).wp
       . cases hc
   . cases hc
 | slice t x lo hi mx =>
   rw [eW] at hc;simp only [qf] at hc;split at hc
   . rename_i RY
     have:mx=none:=by simpa using RY
     subst this;split at hc
     . rename_i x' j5 hi' h1 h2 h3;split at hc
       . rename_i e hu;split at hc
         . cases hc
         . rename_i hne;split at hc
           . split at hc
             . rename_i l1 l2;cases hc;obtain ⟨y2,rfl,e2⟩:=C0X h2;obtain ⟨y3,rfl,e3⟩:=C0X h3;exact (C6c hs hm eW h1 e2 e3 hu hne he).wp
             . cases hc
           . cases hc;exact (C71 hs hm eW h1 h2 h3 hu hne he).wp
       . rename_i hu;cases hc;exact (C6a hs hm eW h1 h2 h3 hu he).wp
       . rename_i n e hu;split at hc
         . cases hc
         . rename_i hne;split at hc
           . rename_i l1 l2;cases hc;have e2:=C0W h2;have e3:=C0W h3;subst e2;subst e3;exact (D1J hs hm eW h1 hu hne he).wp
           . cases hc
       . cases hc
     . cases hc
   . split at hc
     . rename_i hz;have zero:∀ {x:Option Operand},NT x=true->x=some (.const (.int .i64 0)):=by
        intro x hx;unfold NT at hx;split at hx
        . simp only [aj,beq_iff_eq] at hx;rw [hx.1,hx.2]
        . cases hx
       simp only [aj,Option.isNone_iff_eq_none] at hz;obtain ⟨⟨rfl,EX⟩,It⟩:=hz;rw [zero EX,zero It] at eW;split at hc
       . rename_i x' e h1 hu;split at hc
         . cases hc
         . rename_i hne;cases hc;exact (C9N hs hm eW h1 hu hne he).wp
       . cases hc
     . split at hc
       . rename_i x' j5 hi' RX h1 h2 h3 h4;obtain ⟨y2,rfl,h2⟩:=jZ.1 h2;obtain ⟨y3,rfl,h3⟩:=jZ.1 h3;obtain ⟨y4,rfl,h4⟩:=jZ.1 h4;split at hc
         . rename_i e hu;split at hc
           . cases hc
           . rename_i hne;cases hc;exact (C6b hs hm eW h1 h2 h3 h4 hu hne he).wp
         . cases hc
       . cases hc
 | fieldAddr t x i =>
   rw [eW] at hc;simp only [qf] at hc;split at hc
   . rename_i x' fs h1 hu;split at hc
     . rename_i fd hf;split at hc
       . cases hc
       . rename_i hne;cases hc;exact (C72 hs hm eW h1 hu hf hne he).wp
     . cases hc
   . cases hc
 | field t x i =>
   rw [eW] at hc;simp only [qf] at hc;split at hc
   . rename_i x' fs h1 hu;split at hc
     . rename_i fd hf;split at hc
       . rename_i hU;cases hc;exact (D1K hs hm eW h1 hu hf hU he).wp
       . cases hc
     . cases hc
   . cases hc
 | indexAddr t x ix =>
   rw [eW] at hc;simp only [qf] at hc;split at hc
   . rename_i x' i' e h1 h2 hu;split at hc
     . cases hc
     . rename_i hne;cases hc;exact (C7Z hs hm eW h1 h2 hu hne he).wp
   . rename_i x' i' n e h1 h2 hu;split at hc
     . cases hc
     . rename_i hne;cases hc;exact (C6d hs hm eW h1 h2 hu hne he).wp
   . cases hc
 | index t x ix =>
   rw [eW] at hc;simp only [qf] at hc;split at hc
   . rename_i x' i' n e h1 h2 hu;split at hc
     . rename_i hU;cases hc;exact (D1L hs hm eW h1 h2 hu hU he).wp
     . cases hc
   . rename_i x' i' h1 h2 hu;cases hc;exact (C9O hs hm eW h1 h2 hu he).wp
   . cases hc
 | extract x i =>
   rw [eW] at hc;simp only [qf] at hc;split at hc
   . rename_i y hy;cases hc;exact (D1H hs hm eW hy he).wp
   . cases hc
 | call c =>
   rw [eW] at hc;simp only [qf] at hc;split at hc
   . rename_i fo hcal;split at hc
     . rename_i f' l h1 h2;cases hc;exact C91 hs hm hγ hK eW hcal h1 h2 he
     . cases hc
   . cases hc
   . rename_i b hcal;split at hc
     . cases hc
     . rename_i l hl;split at hc
       . rename_i x t kV;obtain ⟨y,t0,h1,h2⟩:=KK hl;split at hc
         . rename_i hu;cases hc;exact (C9M hs hm eW hcal (xf h1) (xf kV) h2 hu he).wp
         . rename_i e hu;cases hc;exact (D1I hs hm eW hcal (xf h1) (xf kV) h2 hu he).wp
         . cases hc
       . rename_i x t kV;obtain ⟨y,t0,h1,h2⟩:=KK hl;split at hc
         . rename_i e hu;cases hc;exact (C9L hs hm eW hcal (xf h1) (xf kV) h2 hu he).wp
         . cases hc
       . rename_i x y t ty kV;obtain ⟨x0,y0,t1,t2,h1,h2,h3⟩:=C2Q hl;split at hc
         . rename_i e k hu hk;split at hc
           . cases hc
           . rename_i hne;split at hc
             . rename_i zz hz;cases hc;exact (C9T hs hm hγ eW hcal (xf h1) (xf kV) hu hk (λh=>hne (.inl h)) (λh=>hne (.inr h)) hz h2 h3 he).wp
             . cases hc
         . rename_i e hu nu;split at hc
           . split at hc
             . rename_i dV;obtain ⟨rfl,tf,yF⟩:=dV;cases hc;exact (C9W hs hm eW hcal (xf h1) (xf kV) h2 h3 hu tf he).wp
             . cases hc
           . split at hc
             . rename_i dV;obtain ⟨rfl,tf,yF,hz⟩:=dV;cases hc;exact (D1S hs hm hγ eW hcal (xf h1) (xf kV) h2 h3 hu tf yF hz he).wp
             . cases hc
         . cases hc
       . rename_i x y t ty kV;obtain ⟨x0,y0,t1,t2,h1,h2,h3⟩:=C2Q hl;split at hc
         . rename_i e hu;split at hc
           . cases hc
           . rename_i hne;cases hc;exact (D1T hs hm eW hcal (xf h1) (xf kV) h2 h3 hu hne he).wp
         . cases hc
       . rename_i x t kV;obtain ⟨y,t0,h1,h2⟩:=KK hl;split at hc
         . rename_i e hu;split at hc
           . rename_i z hz;split at hc
             . cases hc
             . cases hc;exact (D1U hs hm eW hcal (xf h1) (xf kV) h2 hu hz he).wp
           . cases hc
         . cases hc
       . cases hc;exact (D3e hs hm eW hcal hl he).wp
       . cases hc;exact (D3d hs hm eW hcal hl he).wp
       . split at hc
         . cases hc;simp [cb] at he
         . cases hc
       . cases hc
 | makeMap t r =>
   rw [eW] at hc;simp only [qf] at hc;split at hc
   . cases hc;exact (D92 hm hγ eW he).wp
   . cases hc
 | lookup t m k ok =>
   rw [eW] at hc;simp only [qf] at hc;split at hc
   . rename_i kt et hu;split at hc
     . rename_i m' k' z td h1 h2 h3 h4;cases hc;exact (D93 hm hs eW hu h1 h2 h3 h4 he).wp
     . cases hc
   . cases hc
 | mapUpdate t m k v =>
   rw [eW] at hc;simp only [qf] at hc;split at hc
   . rename_i kt et hu;split at hc
     . rename_i m' k' z td h1 h2 h3 h4;cases hc;exact (E0m hm hs eW hu h1 h2 h3 h4 he).wp
     . cases hc
   . cases hc
 | _=>rw [eW] at hc;simp [qf] at hc
end
end Go.Mid
namespace Go.Mid
def cU (X:List Nat)(h k:cj):Prop:=∀ i,mG i∈X->k i=h i
def glue (X:List Nat)(h k:cj):cj:=λi=>if mG i∈X then h i else k i
theorem cU.refl (X:List Nat)(h:cj):cU X h h:=λ_ _=>rfl
theorem A11 {X:List Nat}{h k:cj}(ha:cU X h k):glue X h k=k:=by
 funext i;unfold glue;split
 . rename_i hi;exact (ha i hi).symm
 . rfl
theorem Bk {X:List Nat}{h k:cj}{i:Nat}{o:Option (Obj Nat)}(hi:mG i∈X):glue X (cq h i o) k=cq (glue X h k) i o:=by
 funext j;by_cases e:j=i
 . subst e;simp [glue,cq,hi]
 . simp [glue,cq,e]
theorem cU.cq {X:List Nat}{h k:cj}(ha:cU X h k)(i:Nat)(o:Option (Obj Nat)):cU X (Mid.cq h i o) (Mid.cq k i o):=by
 intro j hj;by_cases e:j=i
 . subst e;simp [Mid.cq]
 . simp [Mid.cq,e,ha j hj]
theorem cU.glue {X:List Nat}(h k:cj):cU X h (glue X h k):=λi hi=>by simp [Mid.glue,hi]
def oQ (X:List Nat)(h h':cj):Prop:=∀ i,mG i∉X->h' i=h i
theorem oQ.refl (X:List Nat)(h:cj):oQ X h h:=λ_ _=>rfl
theorem oQ.trans {X:List Nat}{h h' JT:cj}(a:oQ X h h')(b:oQ X h' JT):oQ X h JT:=λi hi=>(b i hi).trans (a i hi)
theorem oQ.cq {X:List Nat}{h h':cj}(a:oQ X h h'){i:Nat}(hi:mG i∈X)(o:Option (Obj Nat)):oQ X h (Mid.cq h' i o):=by
 intro j hj
 have:j≠i:=λe=>hj (e ▸ hi)
 simp [Mid.cq,this,a j hj]
def qO (X:List Nat)(v:MV):Prop:=∀ i∈va v,mG i∈X
def fG (X:List Nat)(l:List MV):Prop:=∀ i∈mF l,mG i∈X
theorem fG.cons {X:List Nat}{x:MV}{r:List MV}:fG X (x::r)↔qO X x∧fG X r:=by
 simp only [fG,qO,mF,az];exact ⟨λh=>⟨λi hi=>h i (.inl hi),λi hi=>h i (.inr hi)⟩,λh i hi=>hi.elim (h.1 i) (h.2 i)⟩
theorem fG.mem {X:List Nat}{l:List MV}(h:fG X l){v:MV}(hv:v∈l):qO X v:=by
 induction l with
 | nil=>cases hv
 | cons x r ih =>
   rcases aG.1 hv with rfl | hv
   . exact (fG.cons.1 h).1
   . exact ih (fG.cons.1 h).2 hv
section
variable {X:List Nat}{h k:cj}
mutual
theorem Tl (ha:cU X h k):∀ {v:MV},qO X v->mE k v=mE h v
 | .p _,_=>rfl
 | .nil _,_=>rfl
 | .own id path off len g,hr=>by simp only [mE,ha id (hr id (by simp [va]))]
 | .ptr id np rp g o,hr=>by simp only [mE,ha id (hr id (by simp [va]))]
 | .auG id path g,hr=>by simp only [mE,ha id (hr id (by simp [va]))]
 | .agg l,hr=>by simp only [mE,KL ha (v:=l) (by simpa only [qO,fG,va] using hr)]
 | .fn f l,hr=>by simp only [mE,KL ha (v:=l) (by simpa only [qO,fG,va] using hr)]
 | .eI _,_=>rfl
 | .dead _,_=>rfl
theorem KL (ha:cU X h k):∀ {v:List MV},fG X v->A2C k v=A2C h v
 | [],_=>rfl
 | x::r,hr=>by
   have:=fG.cons.1 hr
   simp only [A2C,Tl ha this.1,KL ha this.2]
end
end
mutual
theorem KM {X:List Nat}{γ:Nat}:∀ {v:MV} {h k h':cj} {t:T Nat},cU X h k->qO X v->pA γ h v=some (t,h')->pA γ k v=some (t,glue X h' k)∧oQ X h h'
 | .p _,h,k,h',t,ha,hr,he=>by
   simp only [pA,aa,ae] at he ⊢;obtain ⟨rfl,rfl⟩:=he;exact ⟨⟨rfl,(A11 ha).symm⟩,oQ.refl _ _⟩
 | .nil _,h,k,h',t,ha,hr,he=>by
   simp only [pA,aa,ae] at he ⊢;obtain ⟨rfl,rfl⟩:=he;exact ⟨⟨rfl,(A11 ha).symm⟩,oQ.refl _ _⟩
 | .own id path off len g,h,k,h',t,ha,hr,he=>by
   have gk:mG id∈X:=hr id (by simp [va])
   simp only [pA] at he ⊢;rw [ha id gk];have fin:∀ {o},h'=cq h id o->cq k id o=glue X h' k∧oQ X h h':=by
    rintro o rfl;exact ⟨by rw [Bk gk,A11 ha],(oQ.refl X h).cq gk o⟩
   split at he
   . rename_i wW z l hh;split at he
     . rename_i hc;rw [if_pos hc];simp only [aa,ae] at he ⊢;obtain ⟨rfl,rfl⟩:=he;exact ⟨⟨rfl,(fin rfl).1⟩,(fin rfl).2⟩
     . cases he
   . rename_i nu;split at he
     . rename_i wW z l n hs;split at he
       . rename_i hc;split at he
         . rename_i o' eN;simp only [aa,ae] at he;obtain ⟨rfl,rfl⟩:=he;refine ⟨?_,(fin rfl).2⟩;rw [if_pos hc,(fin rfl).1]
         . cases he
       . cases he
     . cases he
 | .auG ..,h,k,h',t,ha,hr,he=>by
   simp only [pA,aa,ae] at he ⊢;obtain ⟨rfl,rfl⟩:=he;exact ⟨⟨rfl,(A11 ha).symm⟩,oQ.refl _ _⟩
 | .agg l,h,k,h',t,ha,hr,he=>by
   simp only [pA] at he ⊢;split at he
   . rename_i ts h1 hi;simp only [aa,ae] at he;obtain ⟨rfl,rfl⟩:=he;obtain ⟨h2,h3⟩:=Iu ha (by simpa only [qO,fG,va] using hr) hi
     rw [h2];exact ⟨rfl,h3⟩
   . cases he
 | .ptr ..,h,k,h',t,ha,hr,he=>by
   simp only [pA,aa,ae] at he ⊢;obtain ⟨rfl,rfl⟩:=he;exact ⟨⟨rfl,(A11 ha).symm⟩,oQ.refl _ _⟩
 | .fn ..,h,k,h',t,ha,hr,he=>by
   simp only [pA,aa,ae] at he ⊢;obtain ⟨rfl,rfl⟩:=he;exact ⟨⟨rfl,(A11 ha).symm⟩,oQ.refl _ _⟩
 | .eI _,h,k,h',t,ha,hr,he=>by simp only [pA,reduceCtorEq] at he
 | .dead _,h,k,h',t,ha,hr,he=>by simp only [pA,reduceCtorEq] at he
theorem Iu {X:List Nat}{γ:Nat}:∀ {v:List MV} {h k h':cj} {t:List (T Nat)},cU X h k->fG X v->vB γ h v=some (t,h')->vB γ k v=some (t,glue X h' k)∧oQ X h h'
 | [],h,k,h',t,ha,hr,he=>by
   simp only [vB,aa,ae] at he ⊢;obtain ⟨rfl,rfl⟩:=he;exact ⟨⟨rfl,(A11 ha).symm⟩,oQ.refl _ _⟩
 | x::r,h,k,h',t,ha,hr,he=>by
   have hr:=fG.cons.1 hr;simp only [vB] at he ⊢;split at he
   . rename_i t1 h1 h2;split at he
     . rename_i ts h3 h4;simp only [aa,ae] at he;obtain ⟨rfl,rfl⟩:=he;obtain ⟨q1,q2⟩:=KM ha hr.1 h2;obtain ⟨q3,q4⟩:=Iu (k:=glue X h1 k) (cU.glue h1 k) hr.2 h4;rw [q1];simp only [q3];refine ⟨?_,q2.trans q4⟩;congr 2;funext i;unfold glue;split
       . rfl
       . rename_i hi;simp [hi]
     . cases he
   . cases he
end
def Loc (X:List Nat)(h h':cj)(f:cj->Option (MV×cj))(v:MV):Prop:=oQ X h h'∧∀ k,cU X h k->f k=some (v,glue X h' k)
theorem Loc.read {X:List Nat}{h:cj}{f:cj->Option (MV×cj)}{v:MV}(hf:∀ k,cU X h k->f k=some (v,k)):Loc X h h f v :=
 ⟨oQ.refl _ _,λk ha=>by rw [hf k ha,A11 ha]⟩
theorem xg {X:List Nat}{h k h':cj}{d:Option Nat}{o:Obj Nat}(hd:∀ x,d=some x->mG x∈X)(he:A0O d h o=some h'):A0O d (glue X h k) o=some (glue X h' k)∧oQ X h h':=by
 cases d with
 | none=>simp [A0O] at he
 | some d =>
   simp only [A0O,aa] at he ⊢;subst he;exact ⟨(Bk (hd d rfl)).symm,(oQ.refl X h).cq (hd d rfl) _⟩
end Go.Mid
namespace Go.Mid
theorem GC {h:cj}{l:List Nat}{i:Nat}(hi:i∈l):i∈jd h l:=Ti.2 (az.2 (.inl hi))
section
variable {K:jm}{γ:Nat}{d:Option Nat}{s:gB}{X:List Nat}{h h':cj}{v:MV}
theorem C49 (K:jm)(γ:Nat)(d:Option Nat)(s:gB){op:ui}(hi:idle op=true)(h:cj):∃ f:Option MV,∀ (γ':Nat) (k:cj),cb K γ' d s k op=f.map λv=>(v,k):=by
 refine ⟨(cb K γ d s h op).map (·.1),fun γ' k=>?_⟩
 cases op<;>simp only [idle,aI] at hi<;>simp only [cb]<;>(repeat' split)<;>(try rfl)<;>simp_all
theorem Tm {id g z off:Nat}{path:List Nat}{vs:List PV}{h1:cj}(gk:mG id∈X)(he:qT h id path g z off vs=some h1):oQ X h h1∧∀ k,cU X h k->qT k id path g z off vs=some (glue X h1 k):=by
 have hex:∃ o,h1=cq h id o∧∀ k,k id=h id->qT k id path g z off vs=some (cq k id o):=by
  unfold qT at he;split at he
  . rename_i hv;split at he
    . rename_i a z' l hh;split at he
      . rename_i hc;simp only [aa] at he;refine ⟨_,he.symm,λk hk=>?_⟩
        unfold qT;rw [if_pos hv,hk,hh];simp only [if_pos hc]
      . cases he
    . rename_i nu;split at he
      . rename_i a z' l n hs;split at he
        . rename_i hc;split at he
          . rename_i o' hp;simp only [aa] at he;refine ⟨_,he.symm,λk hk=>?_⟩
            unfold qT;rw [if_pos hv,hk];split
            . rename_i hh;exact (nu _ _ _ hh rfl).elim
            . simp only [hs,if_pos hc,hp]
          . cases he
        . cases he
      . cases he
  . cases he
 obtain ⟨o,rfl,hk⟩:=hex;exact ⟨(oQ.refl X h).cq gk o,λk ha=>by rw [hk k (ha id gk),Bk gk,A11 ha]⟩
theorem KN {y:MV}{k:cj}(ha:cU X h k)(hr:qO X y):elems k y=elems h y:=by
 cases y<;>try rfl
 . rename_i v;cases v<;>rfl
 . rename_i id path off len g;simp only [elems,ha id (hr id (by simp [va]))]
theorem C1N {y:MV}{ts:List (T Nat)}{h1:cj}(hr:qO X y)(he:tu h y=some (ts,h1)):oQ X h h1∧∀ k,cU X h k->tu k y=some (ts,glue X h1 k):=by
 unfold tu at he;split at he
 . cases he
 . rename_i Sh ia;split at he
   . rename_i hp;simp only [aa,ae] at he;obtain ⟨rfl,rfl⟩:=he;refine ⟨oQ.refl _ _,λk ha=>?_⟩
     unfold tu;rw [KN ha hr,ia];simp only [if_pos hp,A11 ha]
   . rename_i hp;split at he
     . rename_i id len g;have gk:mG id∈X:=hr id (by simp [va])
       split at he
       . rename_i g1 z1 l hh;split at he
         . rename_i hc;simp only [aa,ae] at he;obtain ⟨rfl,rfl⟩:=he;refine ⟨(oQ.refl X h).cq gk _,λk ha=>?_⟩
           unfold tu;rw [KN ha hr,ia];simp only [if_neg hp,ha id gk,hh,if_pos hc,Bk gk,A11 ha]
         . cases he
       . cases he
     . cases he
theorem D8U {m:MV}{td:TD}{k:cj}(ha:cU X h k)(hr:qO X m):D8E k td m=D8E h td m:=by
 cases m with
 | auG id path g =>
   cases path with
   | nil=>simp only [D8E,ha id (hr id (by simp [va]))]
   | cons i r=>rfl
 | _=>rfl
theorem F27 {m:MV}{td:TD}{k:cj}(ha:cU X h k)(hr:qO X m):E8f k td m=E8f h td m:=by
 cases m with
 | p v=>cases v<;>rfl
 | _=>simp only [E8f,D8U ha hr]
theorem E8E:∀ {l:List Nat} {h k:cj},cU X h k->(∀ i∈l,mG i∈X)->oQ X h (E7k h l)∧E7k k l=glue X (E7k h l) k
 | [],h,k,ha,_=>⟨oQ.refl _ _,(A11 ha).symm⟩
 | i::r,h,k,ha,hr=>by
   have hi:=hr i (by simp)
   have ha':cU X (cq h i (some .gone)) (cq k i (some .gone)):=λj hj=>by
    by_cases e:j=i
    . subst e;rw [nV,nV]
    . rw [A0C _ _ e,A0C _ _ e];exact ha j hj
   obtain ⟨h1,h2⟩:=E8E (l:=r) ha' (λj hj=>hr j (by simp [hj]))
   refine ⟨((oQ.refl X h).cq hi _).trans h1,?_⟩;rw [E7k,h2];funext j;unfold glue;split
   . rfl
   . rename_i hj;exact A0C _ _ (λe=>hj (e ▸ hi))
theorem E0n {m:MV}{td:TD}{id g:Nat}{ks ws:List PV}(hm:D8E h td m=some (id,g,ks,ws)):id∈va m:=by
 unfold D8E at hm;split at hm
 . split at hm
   . split at hm
     . split at hm
       . simp only [aa,ae] at hm;rw [← hm.1];simp [va]
       . cases hm
     . cases hm
   . cases hm
 . cases hm
theorem D9O {m x y:MV}{td:TD}{h1:cj}(hr:qO X m)(he:D8F h td m x y=some h1):oQ X h h1∧∀ k,cU X h k->D8F k td m x y=some (glue X h1 k):=by
 unfold D8F at he;split at he
 . rename_i kv xv;split at he
   . rename_i hf;split at he
     . rename_i id g ks ws hmo;have gk:mG id∈X:=hr id (E0n hmo);split at he
       . rename_i i hi;cases he;exact ⟨(oQ.refl X h).cq gk _,λk ha=>by simp only [D8F,hf,if_true,D8U ha hr,hmo,hi,Bk gk,A11 ha]⟩
       . rename_i hi;cases he;exact ⟨(oQ.refl X h).cq gk _,λk ha=>by simp only [D8F,hf,if_true,D8U ha hr,hmo,hi,Bk gk,A11 ha]⟩
     . cases he
   . cases he
 . cases he
theorem C6q {op:ui}(eW:∀ md f args,op≠.call md f args)(hd:∀ x,d=some x->mG x∈X)(hr:fG X ((ft op).map (cJ s)))(he:cb K γ d s h op=some (v,h')):Loc X h h' (λk=>cb K γ d s k op) v:=by
 by_cases hi:idle op=true
 . obtain ⟨f,hf⟩:=C49 K γ d s hi h;rw [hf] at he;cases f with
   | none=>cases he
   | some u =>
     simp only [ak,aa,ae] at he;obtain ⟨rfl,rfl⟩:=he;exact Loc.read λk _=>by rw [hf];rfl
 . cases op<;>simp only [idle,pY,not_true_eq_false,not_false_eq_true] at hi
   case nilv z =>
    simp only [cb] at he ⊢;split at he
    . rename_i h1 ho;simp only [aa,ae] at he;obtain ⟨rfl,rfl⟩:=he;refine ⟨(xg (k:=h) hd ho).2,λk ha=>?_⟩
      have:=(xg (k:=k) hd ho).1
      rw [A11 ha] at this;simp only [this]
    . cases he
   case mkmap tk tv =>
    simp only [cb] at he ⊢;split at he
    . rename_i h1 ho;simp only [aa,ae] at he;obtain ⟨rfl,rfl⟩:=he;refine ⟨(xg (k:=h) hd ho).2,λk ha=>?_⟩
      have:=(xg (k:=k) hd ho).1
      rw [A11 ha] at this;simp only [this]
    . cases he
   case mlook td z ok x y =>
    have qX:qO X (cJ s x):=hr.mem (by simp [ft])
    simp only [cb] at he ⊢;split at he
    . rename_i u hu;simp only [aa,ae] at he;obtain ⟨rfl,rfl⟩:=he;refine Loc.read λk ha=>?_
      have:D8G k td z ok (cJ s x) (cJ s y)=D8G h td z ok (cJ s x) (cJ s y):=by
       simp only [D8G,F27 ha qX]
      rw [this,hu]
    . cases he
   case mset td x y z =>
    have qX:qO X (cJ s x):=hr.mem (by simp [ft])
    simp only [cb] at he ⊢;split at he
    . rename_i h1 hu;simp only [aa,ae] at he;obtain ⟨rfl,rfl⟩:=he;obtain ⟨q1,q2⟩:=D9O qX hu;exact ⟨q1,λk ha=>by simp only [q2 k ha]⟩
    . cases he
   case box x =>
    have qX:qO X (cJ s x):=hr.mem (by simp [ft])
    simp only [cb] at he ⊢;split at he
    . rename_i t h1 hi;split at he
      . rename_i h2 ho;simp only [aa,ae] at he;obtain ⟨rfl,rfl⟩:=he;refine ⟨(KM (cU.refl X h) qX hi).2.trans (xg (k:=h) hd ho).2,λk ha=>?_⟩
        simp only [(KM ha qX hi).1,(xg (k:=k) hd ho).1]
      . cases he
    . cases he
   case bsl mt z parts =>
    have qX:fG X (parts.map (cJ s)):=by simpa [ft] using hr
    simp only [cb] at he ⊢;split at he
    . rename_i kN;split at he
      . rename_i vs fN;simp only [aa,ae] at he;obtain ⟨rfl,rfl⟩:=he;exact Loc.read λk _=>by rw [if_pos kN]
      . rename_i fN;split at he
        . rename_i ts h1 hi;split at he
          . rename_i eV;split at he
            . rename_i h2 ho;simp only [aa,ae] at he;obtain ⟨rfl,rfl⟩:=he;refine ⟨(Iu (cU.refl X h) qX hi).2.trans (xg (k:=h) hd ho).2,λk ha=>?_⟩
              simp only [if_pos kN,(Iu ha qX hi).1,if_pos eV,(xg (k:=k) hd ho).1]
            . cases he
          . cases he
        . cases he
    . cases he
   case bslp z parts =>
    have qX:fG X (parts.map (cJ s)):=by simpa [ft] using hr
    simp only [cb] at he ⊢;split at he
    . rename_i kN;split at he
      . rename_i Ab;split at he
        . rename_i vs fN;simp only [aa,ae] at he;obtain ⟨rfl,rfl⟩:=he;refine ⟨(E8E (cU.refl X h) qX).1,λk ha=>?_⟩
          simp only [if_pos kN,if_pos Ab,KL ha qX,fN,(E8E ha qX).2]
        . cases he
      rename_i Ab;split at he
      . rename_i ts h1 hi;split at he
        . rename_i eV;split at he
          . rename_i h2 ho;split at he
            . rename_i u hu;simp only [aa,ae] at he;obtain ⟨rfl,rfl⟩:=he;have gk:mG (d.getD 0)∈X:=by
               cases d with
               | none=>simp [A0O] at ho
               | some x=>exact hd x rfl
              have q2:qO X (.own (d.getD 0) [] 0 ts.length γ):=λi hi=>by
               simp only [va,aX] at hi;subst hi;exact gk
              have lD:oQ X h h2:=(Iu (cU.refl X h) qX hi).2.trans (xg (k:=h) hd ho).2;refine ⟨lD.cq gk _,λk ha=>?_⟩
              have nT:mE (glue X h2 k) (.own (d.getD 0) [] 0 ts.length γ)=some u:=by rw [Tl (cU.glue h2 k) q2,hu]
              simp only [if_pos kN,if_neg Ab,(Iu ha qX hi).1,if_pos eV,(xg (k:=k) hd ho).1,nT,Bk gk]
            . cases he
          . cases he
        . cases he
      . cases he
    . cases he
   case load agg n x =>
    have qX:qO X (cJ s x):=hr.mem (by simp [ft])
    simp only [cb] at he ⊢;split at he
    . rename_i u hu;simp only [aa,ae] at he;obtain ⟨rfl,rfl⟩:=he;refine Loc.read λk ha=>?_
      have:vF k agg n (cJ s x)=vF h agg n (cJ s x):=by
       cases hx:cJ s x with
       | ptr id np rp g o=>simp only [vF,ha id (qX id (by rw [hx];simp [va]))]
       | p v=>cases v<;>rfl
       | _=>rfl
      rw [this,hu]
    . cases he
   case store n a x =>
    have hra:qO X (cJ s a):=hr.mem (by simp [ft])
    have qX:qO X (cJ s x):=hr.mem (by simp [ft])
    simp only [cb,HW] at he ⊢;split at he
    . rename_i id np rp g0 o0 hp;have gk:mG id∈X:=hra id (by rw [hp];simp [va])
      have ql:∀ {u:MV} {h2:cj},AL γ h n id (sZ np rp) (cJ s x)=some (u,h2)->oQ X h h2∧∀ k,cU X h k->AL γ k n id (sZ np rp) (cJ s x)=some (u,glue X h2 k):=by
       intro u h2 hn;unfold AL at hn;split at hn
       . rename_i t h1 hi;split at hn
         . rename_i eV;split at hn
           . rename_i o' eN;simp only [aa,ae] at hn;obtain ⟨rfl,rfl⟩:=hn;refine ⟨(KM (cU.refl X h) qX hi).2.cq gk _,λk ha=>?_⟩
             unfold AL;have e:glue X h1 k id=h1 id:=by simp [glue,gk]
             simp only [(KM ha qX hi).1,if_pos eV,e,eN,Bk gk]
           . cases hn
         . cases hn
       . cases hn
      split at he
      . rename_i old s' o1 hl;split at he
        . rename_i hc;split at he
          . rename_i id' sr off len g' a' z l n' hx;split at he
            . rename_i pg;split at he
              . rename_i o' eN;simp only [aa,ae] at he;obtain ⟨rfl,rfl⟩:=he;refine ⟨(oQ.refl X h).cq gk _,λk ha=>?_⟩
                simp only [hp,hx,ha id gk,hl,if_pos hc,if_pos pg,eN,Bk gk,A11 ha]
              . cases he
            . rename_i pg;obtain ⟨q1,q2⟩:=ql he;refine ⟨q1,λk ha=>?_⟩
              simp only [hp,ha id gk,hl,if_pos hc,if_neg pg,q2 k ha];rw [hx];simp only [if_neg pg]
          . rename_i nu;obtain ⟨q1,q2⟩:=ql he;refine ⟨q1,λk ha=>?_⟩
            simp only [hp,ha id gk,hl,if_pos hc];exact q2 k ha
        . cases he
      . cases he
    . cases he
   case mksl z bytes zero l c =>
    simp only [cb] at he ⊢;split at he
    . split at he
      . split at he
        . rename_i hc;split at he
          . rename_i h1 ho;simp only [aa,ae] at he;obtain ⟨rfl,rfl⟩:=he;refine ⟨(xg (k:=h) hd ho).2,λk ha=>?_⟩
            have:=(xg (k:=k) hd ho).1
            rw [A11 ha] at this;simp only [if_pos hc,this]
          . cases he
        . cases he
      . cases he
    . cases he
   case slice z x lo hj =>
    have qX:qO X (cJ s x):=hr.mem (by simp [ft])
    simp only [cb] at he ⊢;split at he
    . rename_i u hu;simp only [aa,ae] at he;obtain ⟨rfl,rfl⟩:=he;refine Loc.read λk ha=>?_
      have:Ch k z (cJ s x) (lo.map (cJ s)) (hj.map (cJ s))=Ch h z (cJ s x) (lo.map (cJ s)) (hj.map (cJ s)):=by
       cases hx:cJ s x with
       | own id path off len g=>simp only [Ch,ha id (qX id (by rw [hx];simp [va]))]
       | p v=>cases v<;>rfl
       | _=>rfl
      rw [this,hu]
    . cases he
   case clr z zero x =>
    have qX:qO X (cJ s x):=hr.mem (by simp [ft])
    simp only [cb] at he ⊢;split at he
    . rename_i hx;simp only [aa,ae] at he;obtain ⟨rfl,rfl⟩:=he;exact Loc.read λk _=>rfl
    . rename_i hx;simp only [aa,ae] at he;obtain ⟨rfl,rfl⟩:=he;exact Loc.read λk _=>rfl
    . rename_i id path off len g0 hx;split at he
      . rename_i h1 ho;split at he
        . rename_i hc;simp only [aa,ae] at he;obtain ⟨rfl,rfl⟩:=he;obtain ⟨q1,q2⟩:=Tm (X:=X) (qX id (by rw [hx];simp [va])) ho
          refine ⟨q1,λk ha=>?_⟩
          simp only [q2 k ha,if_pos hc]
        . cases he
      . cases he
    . cases he
   case iaddr z x i =>
    have qX:qO X (cJ s x):=hr.mem (by simp [ft])
    simp only [cb] at he ⊢;split at he
    . rename_i u hu;simp only [aa,ae] at he;obtain ⟨rfl,rfl⟩:=he;refine Loc.read λk ha=>?_
      have:Ci k z (cJ s x) (cJ s i)=Ci h z (cJ s x) (cJ s i):=by
       cases hx:cJ s x with
       | own id path off len g=>simp only [Ci,ha id (qX id (by rw [hx];simp [va]))]
       | p v=>cases v<;>rfl
       | _=>rfl
      rw [this,hu]
    . cases he
   case call md f args=>exact absurd rfl (eW md f args)
   case app pz z bytes x y =>
    have qX:qO X (cJ s x):=hr.mem (by simp [ft])
    have Iv:qO X (cJ s y):=hr.mem (by simp [ft])
    have awQ:∀ {u:MV} {h2:cj},A3y γ d h z bytes (cJ s x) (cJ s y)=some (u,h2)->(oQ X h h2∧qO X u)∧∀ k,cU X h k->A3y γ d k z bytes (cJ s x) (cJ s y)=some (u,glue X h2 k):=by
     intro u h2 ho;unfold A3y at ho;split at ho
     . cases ho
     . rename_i ts h1 Dw;obtain ⟨q1,q2⟩:=C1N Iv Dw;split at ho
       . cases ho
       . rename_i eV;split at ho
         . rename_i zz hx;split at ho
           . rename_i fO;split at ho
             . rename_i h3 uM;simp only [aa,ae] at ho;obtain ⟨rfl,rfl⟩:=ho;have Tn:qO X (.own (d.getD 0) [] 0 ts.length γ):=by
                intro i hi;simp only [va,aX] at hi;subst hi;cases d with
                | none=>simp [A0O] at uM
                | some x=>exact hd x rfl
               refine ⟨⟨q1.trans (xg (k:=h1) hd uM).2,Tn⟩,λk ha=>?_⟩
               unfold A3y;simp only [q2 k ha,eV,aI,if_false,hx,if_pos fO,(xg (k:=k) hd uM).1]
             . cases ho
           . cases ho
         . rename_i id path off len g0 hx;have gk:mG id∈X:=qX id (by rw [hx];simp [va])
           have zX:∀ k,glue X h1 k id=h1 id:=λk=>by simp [glue,gk]
           split at ho
           . rename_i lD;split at ho
             . rename_i g1 z1 l hh;unfold FR at ho;split at ho
               . rename_i hc;simp only [aa,ae] at ho;obtain ⟨rfl,rfl⟩:=ho;refine ⟨⟨q1.cq gk _,λi hi=>by simp only [va,aX] at hi;subst hi;exact gk⟩,λk ha=>?_⟩
                 unfold A3y;simp only [q2 k ha,eV,aI,if_false,hx,if_pos lD,zX k,hh,FR,if_pos hc,Bk gk]
               . cases ho
             . rename_i nu;unfold Cg at ho;split at ho
               . rename_i g1 z1 l n hs;split at ho
                 . rename_i hc;split at ho
                   . rename_i o' eN;split at ho
                     . rename_i h3 uM;simp only [aa,ae] at ho;obtain ⟨rfl,rfl⟩:=ho;have Tn:qO X (.own (d.getD 0) [] 0 (len+ts.length) γ):=by
                        intro i hi;simp only [va,aX] at hi;subst hi;cases d with
                        | none=>simp [A0O] at uM
                        | some x=>exact hd x rfl
                       refine ⟨⟨(q1.cq gk _).trans (xg (k:=h1) hd uM).2,Tn⟩,λk ha=>?_⟩
                       have KO:=(xg (k:=k) hd uM).1;rw [Bk gk] at KO;unfold A3y;simp only [q2 k ha,eV,aI,if_false,hx,if_pos lD,zX k];unfold Cg;simp only [zX k,hs,if_pos hc,eN,KO]
                     . cases ho
                   . cases ho
                 . cases ho
               . cases ho
           . cases ho
         . cases ho
    simp only [cb] at he ⊢;split at he
    . rename_i id Ks len g1 h1 ho;obtain ⟨⟨q1,q2⟩,q3⟩:=awQ ho;have gk:mG id∈X:=q2 id (by simp [va])
      split at he
      . rename_i Kx;split at he
        . rename_i u hu;simp only [aa,ae] at he;obtain ⟨rfl,rfl⟩:=he;refine ⟨q1.cq gk _,λk ha=>?_⟩
          have nT:mE (glue X h1 k) (.own id [] Ks len g1)=some u:=by rw [Tl (cU.glue h1 k) q2,hu]
          simp only [q3 k ha,if_pos Kx,nT,Bk gk]
        . cases he
      . rename_i Kx;simp only [aa,ae] at he;obtain ⟨rfl,rfl⟩:=he;refine ⟨q1,λk ha=>?_⟩
        simp only [q3 k ha,if_neg Kx]
    . cases he
   case cpy z x y =>
    have qX:qO X (cJ s x):=hr.mem (by simp [ft])
    have Iv:qO X (cJ s y):=hr.mem (by simp [ft])
    simp only [cb,HV] at he ⊢;split at he
    . cases he
    . rename_i ts ia;split at he
      . cases he
      . rename_i vs fN;split at he
        . rename_i eV;split at he
          . rename_i zz hx;simp only [aa,ae] at he;obtain ⟨rfl,rfl⟩:=he;refine Loc.read λk ha=>?_
            simp only [KN ha Iv,ia,fN,if_pos eV]
          . rename_i id path off len g hx;split at he
            . rename_i h1 ho;simp only [aa,ae] at he;obtain ⟨rfl,rfl⟩:=he;obtain ⟨q1,q2⟩:=Tm (X:=X) (qX id (by rw [hx];simp [va])) ho
              refine ⟨q1,λk ha=>?_⟩
              simp only [KN ha Iv,ia,fN,if_pos eV,q2 k ha]
            . cases he
          . cases he
        . cases he
   case appn z bytes zero x n =>
    simp only [cb] at he ⊢;split at he
    . split at he
      . split at he
        . rename_i hc;split at he
          . rename_i h1 ho;simp only [aa,ae] at he;obtain ⟨rfl,rfl⟩:=he;refine ⟨(xg (k:=h) hd ho).2,λk ha=>?_⟩
            have:=(xg (k:=k) hd ho).1
            rw [A11 ha] at this;simp only [if_pos hc,this]
          . cases he
        . cases he
      . cases he
    . cases he
   case appk z x y =>
    have qX:qO X (cJ s x):=hr.mem (by simp [ft])
    have Iv:qO X (cJ s y):=hr.mem (by simp [ft])
    simp only [cb] at he ⊢;split at he
    . cases he
    . rename_i ts ia;split at he
      . cases he
      . rename_i vs fN;split at he
        . rename_i eV;split at he
          . rename_i id path off len g hx;split at he
            . rename_i h1 ho;simp only [aa,ae] at he;obtain ⟨rfl,rfl⟩:=he;obtain ⟨q1,q2⟩:=Tm (X:=X) (qX id (by rw [hx];simp [va])) ho
              refine ⟨q1,λk ha=>?_⟩
              simp only [KN ha Iv,ia,fN,if_pos eV,q2 k ha]
            . cases he
          . cases he
        . cases he
   case sliceK z x lo hj =>
    have qX:qO X (cJ s x):=hr.mem (by simp [ft])
    simp only [cb] at he ⊢;split at he
    . rename_i id path off len g hx;split at he
      . rename_i g' z' l' hv;split at he
        . rename_i hc;split at he
          . rename_i b hb;split at he
            . rename_i c vo;simp only [aa,ae] at he;obtain ⟨rfl,rfl⟩:=he;refine Loc.read λk ha=>?_
              simp only [ha id (qX id (by rw [hx];simp [va])),hv,if_pos hc,hb,vo]
            . cases he
          . cases he
        . cases he
      . cases he
    . cases he
   all_goals simp only [cb,reduceCtorEq] at he
end
end Go.Mid
namespace Go.Mid
section
variable {h k:cj}{ρ:Nat->Option Nat}{ζ:Nat->Nat}
mutual
theorem To (ha:∀ i j,ρ i=some j->k i=h i):∀ (v:MV),jW k ρ ζ v=jW h ρ ζ v
 | .p _=>rfl
 | .nil _=>rfl
 | .own id path off len g=>by
   simp only [jW];cases hr:ρ id with
   | none=>rfl
   | some j =>
     have:wV k id path g=wV h id path g:=by unfold wV;rw [ha id j hr]
     simp only [this]
 | .ptr id np rp g o=>by
   simp only [jW];cases hr:ρ id with
   | none=>rfl
   | some j =>
     have:zU k id np rp g o=zU h id np rp g o:=by unfold zU;rw [ha id j hr]
     simp only [this]
 | .auG id path g=>by
   simp only [jW];cases hr:ρ id with
   | none=>rfl
   | some j =>
     have:FN k id path g=FN h id path g:=by unfold FN;rw [ha id j hr]
     simp only [this]
 | .agg l=>by simp only [jW,KP ha l]
 | .fn _ l=>by simp only [jW,KP ha l]
 | .eI l=>by simp only [jW,KP ha l]
 | .dead _=>rfl
theorem KP (ha:∀ i j,ρ i=some j->k i=h i):∀ (l:List MV),uk k ρ ζ l=uk h ρ ζ l
 | []=>rfl
 | x::r=>by simp only [uk,To ha x,KP ha r]
end
end
section
variable {hr h k:cj}{ρ:Nat->Nat}
mutual
theorem Tp (ha:∀ i o,hr i=some o->k (ρ i)=h (ρ i)):∀ (v:MV),A1a hr k ρ v=A1a hr h ρ v
 | .p _=>rfl
 | .nil _=>rfl
 | .own id path off len g=>by
   cases ho:hr id with
   | none =>
     have:wV hr id path g=false:=by
      unfold wV;rw [ho];have e:jq (none:Option (Obj Nat)) path=none:=by cases path<;>rfl
      rw [e]
     simp only [A1a,this,aI,if_false]
   | some o=>simp only [A1a,ha id o ho]
 | .ptr id np rp g o=>by
   cases ho:hr id with
   | none =>
     have:zU hr id np rp g o=false:=by
      unfold zU;rw [ho];have e:look (none:Option (Obj Nat)) np rp=none:=by
       cases np with
       | none=>rfl
       | some p=>simp only [look];cases p<;>rfl
      rw [e]
     simp only [A1a,this,aI,if_false]
   | some o=>simp only [A1a,ha id o ho]
 | .auG id path g=>by
   cases ho:hr id with
   | none =>
     have:FN hr id path g=false:=by
      unfold FN;rw [ho];have e:avR (none:Option (Obj Nat)) path=none:=by cases path<;>rfl
      rw [e]
     simp only [A1a,this,aI,if_false]
   | some o=>simp only [A1a,ha id o ho]
 | .agg l=>by simp only [A1a,OQ ha l]
 | .fn _ l=>by simp only [A1a,OQ ha l]
 | .eI l=>by simp only [A1a,OQ ha l]
 | .dead _=>rfl
theorem OQ (ha:∀ i o,hr i=some o->k (ρ i)=h (ρ i)):∀ (l:List MV),vC hr k ρ l=vC hr h ρ l
 | []=>rfl
 | x::r=>by simp only [vC,Tp ha x,OQ ha r]
end
end
section
variable {X:List Nat}{h k:cj}
theorem OR {l:List Nat}(ha:cU X h k)(hl:∀ i∈l,mG i∈X):jd k l=jd h l:=by
 unfold jd;congr 2
 induction l with
 | nil=>rfl
 | cons x r ih=>simp only [List.flatMap_cons,ha x (hl x (by simp)),ih (λi hi=>hl i (by simp [hi]))]
theorem C6r {l:List Nat}(ha:cU X h k)(hl:∀ i∈l,mG i∈X):um k l=um h l:=by
 induction l with
 | nil=>rfl
 | cons x r ih=>simp only [um,ha x (hl x (by simp)),ih (λi hi=>hl i (by simp [hi]))]
theorem B44 {γ:Nat}{d:Option Nat}{ids:List Nat}{r v:MV}{ext dH:List (Obj Nat)}{h':cj}(hd:∀ x,d=some x->mG x∈X)(hn:ids.Nodup)(DH:∀ i∈ids,mG i∈X)(ht:AK γ d h ids r ext dH=some (v,h')) :
 Loc X h h' (λk=>AK γ d k ids r ext dH) v:=by
 unfold AK at ht
 dsimp only at ht
 split at ht
 . cases ht
 . rename_i Bl;have dV:=Bl;simp only [not_or,ne_eq,Decidable.not_not,Bool.not_eq_true,Nat.not_lt] at dV;obtain ⟨hl,DJ,lE,kO,hex⟩:=dV;simp only [aa,ae] at ht;obtain ⟨rfl,rfl⟩:=ht;have jD:∀ i j,mZ (j8 d dH.length) ids i=some j->mG i∈X:=by
    intro i j hs;rcases OM hs with ⟨m,hm,_⟩ | ⟨_,m,hm,_⟩
    . have eC:=(aJ.1 hm).1;simp only [j8,List.length_map,List.length_range] at eC;rw [ZP d _ m eC] at hm;have hi:=s8 hm;cases d with
      | none =>
        exfalso;refine DJ ⟨λe=>?_,rfl⟩
        rw [e] at eC;exact absurd eC (by simp)
      | some x =>
        have hx:=hd x rfl;simp only [bI,zX] at hi hex;subst hi;have e:mG (x+1000*(m+1))=mG x:=by
         unfold mG;rw [if_pos (by omega),if_pos (by omega)]
         omega
        rw [e];exact hx
    . exact DH i (bH hm)
   refine ⟨λi hi=>?_,λk ha=>?_⟩
   . cases hs:mZ (j8 d dH.length) ids i with
     | none=>simp only [hs]
     | some j=>exact (hi (jD i j hs)).elim
   . unfold AK
     dsimp only
     rw [if_neg Bl];have hm:∀ i j,mZ (j8 d dH.length) ids i=some j->sf γ k i j=sf γ h i j:=by
      intro i j hs;unfold sf;rw [ha i (jD i j hs)]
     have OP:∀ i o,j4 ext dH i=some o->(match mZ (j8 d dH.length) ids (qK (d.getD 0) ids i) with | some j=>(j4 ext dH j).map (sf γ k (qK (d.getD 0) ids i) j) | none=>k (qK (d.getD 0) ids i)) =
      (match mZ (j8 d dH.length) ids (qK (d.getD 0) ids i) with | some j=>(j4 ext dH j).map (sf γ h (qK (d.getD 0) ids i) j) | none=>h (qK (d.getD 0) ids i)):=by
      intro i o ho
      have:=ZX (d:=d) hl hn lE kO ho
      rw [this];simp only [hm _ _ this]
     have hφ:A1a (j4 ext dH) (λi=>match mZ (j8 d dH.length) ids i with | some j=>(j4 ext dH j).map (sf γ k i j) | none=>k i) (qK (d.getD 0) ids) =
      A1a (j4 ext dH) (λi=>match mZ (j8 d dH.length) ids i with | some j=>(j4 ext dH j).map (sf γ h i j) | none=>h i) (qK (d.getD 0) ids):=by
      funext v;exact Tp OP v
     refine congrArg some (Prod.ext (Tp OP r) ?_);funext i;unfold glue;cases hs:mZ (j8 d dH.length) ids i with
     | some j =>
       simp only [jD i j hs,if_true,hm i j hs,hs];exact congrArg (fun φ=>Option.map (λo=>kH φ (λa=>a) (sf γ h i j o)) (j4 ext dH j)) hφ
     | none =>
       simp only [hs];split
       . rename_i hi;exact ha i hi
       . rfl
theorem C92 {K:jm}{γ:Nat}{d:Option Nat}{s:gB}{v:MV}{h':cj}{md:Nat}{f:dJ}{args:List dJ}(hd:∀ x,d=some x->mG x∈X)
 (hr:∀ i∈jd h (jd h (mF ((ft (.call md f args)).map (cJ s)))),mG i∈X) (he:cb K γ d s h (.call md f args)=some (v,h')):Loc X h h' (λk=>cb K γ d s k (.call md f args)) v:=by
 simp only [cb] at he ⊢;split at he
 . rename_i g al hcal;have dK:∀ i∈mF al,i∈mF ((ft (.call md f args)).map (cJ s)):=by
    intro i hi;have awQ:∀ l m:List MV,mF (l++m)=mF l++mF m:=by
     intro l m
     induction l with
     | nil=>rfl
     | cons x r ih=>simp only [aS,mF,ih,bg]
    have eV:∀ (f0:Nat) (cs:List MV),callee (cJ s f)=some (f0,cs)->∀ i∈mF cs,i∈va (cJ s f):=by
     intro f0 cs hcal i hi;unfold callee at hcal;split at hcal
     . cases hcal;exfalso
       have:∀ l:List PV,mF (l.map .p)=[]:=by
        intro l
        induction l with
        | nil=>rfl
        | cons x r ih=>simp only [aF,mF,va,ih,bD]
       rw [this] at hi;cases hi
     . cases hcal;rename_i heq;rw [heq];simpa only [va] using hi
     . cases hcal
    simp only [ft,aF,mF];unfold FP at hcal;split at hcal
    . rename_i f0 cs tf;split at hcal<;>(simp only [aa,ae] at hcal;obtain ⟨rfl,rfl⟩:=hcal)
      . rw [awQ] at hi;rcases az.1 hi with hi | hi
        . exact az.2 (.inr hi)
        . exact az.2 (.inl (eV _ _ tf i hi))
      . rw [awQ] at hi;rcases az.1 hi with hi | hi
        . exact az.2 (.inl (eV _ _ tf i hi))
        . exact az.2 (.inr hi)
    . cases hcal
   have EZ:∀ (l m:List Nat),(∀ i∈l,i∈m)->∀ i∈jd h l,i∈jd h m:=by
    intro l m hlm i hi;unfold jd at hi ⊢;rw [Ti] at hi ⊢;rcases az.1 hi with hi | hi
    . exact az.2 (.inl (hlm i hi))
    . obtain ⟨j,hj,gM⟩:=gY.1 hi;exact az.2 (.inr (gY.2 ⟨j,hlm j hj,gM⟩))
   have h2:∀ i∈jd h (jd h (mF al)),mG i∈X:=λi hi=>hr i (EZ _ _ (EZ _ _ dK) i hi)
   have h1:∀ i∈jd h (mF al),mG i∈X:=λi hi=>h2 i (GC hi)
   have h0:fG X al:=λi hi=>h1 i (GC hi)
   split at he
   . unfold AJ at he;split at he
     . rename_i vs fN;split at he
       . rename_i u fr rD;split at he
         . rename_i hc;simp only [aa,ae] at he;obtain ⟨rfl,rfl⟩:=he;refine Loc.read λk ha=>?_
           try simp only
           unfold AJ;rw [KL ha h0,fN];simp only [rD,if_pos hc]
         . cases he
       . cases he
     . cases he
   . unfold C4 at he
     dsimp only at he
     split at he
     . cases he
     . rename_i qS uw;split at he
       . cases he
       . rename_i r ext dH hk;obtain ⟨q1,q2⟩:=B44 hd (Tj _) h2 he;refine ⟨q1,λk ha=>?_⟩
         try simp only
         unfold C4
         dsimp only
         have e1:jd k (mF al)=jd h (mF al):=OR ha h0;have e2:jd k (jd h (mF al))=jd h (jd h (mF al)):=OR ha h1;have F2:∀ i j,vE (jd h (jd h (mF al))) i=some j->k i=h i:=by
          intro i j gM;unfold vE at gM;cases hi:pB (jd h (jd h (mF al))) i with
          | none=>simp [hi] at gM
          | some m=>exact ha i (h2 i (bH (Gw hi)))
         have e3:jW k (vE (jd h (jd h (mF al)))) (λ_=>0)=jW h (vE (jd h (jd h (mF al)))) (λ_=>0):=by
          funext v;exact To F2 v
         rw [e1,e2,C6r ha h2,uw];simp only [e3,KP F2,hk];exact q2 k ha
   . unfold Cd at he;split at he
     . rename_i vs fN;split at he
       . rename_i r dH hk;split at he
         . rename_i hc;obtain ⟨q1,q2⟩:=B44 (X:=X) hd List.nodup_nil (by simp) he
           refine ⟨q1,λk ha=>?_⟩
           try simp only
           unfold Cd;rw [KL ha h0,fN];simp only [hk,if_pos hc];exact q2 k ha
         . cases he
       . cases he
     . cases he
 . cases he
end
end Go.Mid
namespace Go.Mid
section
variable {K:jm}{g:Nat}{d:Option Nat}{s s2:gB}{h h':cj}{v:MV}
theorem B45 {op:ui}(hs:∀ x∈ft op,cJ s2 x=cJ s x):cb K g d s2 h op=cb K g d s h op:=by
 have hl:∀ l:List dJ,(∀ x∈l,cJ s2 x=cJ s x)->l.map (cJ s2)=l.map (cJ s):=λl hl=>eJ hl
 cases op with
 | build zs l=>simp only [cb,hl l (by simpa [ft] using hs)]
 | bsl mt z l=>simp only [cb,hl l (by simpa [ft] using hs)]
 | bslp z l=>simp only [cb,hl l (by simpa [ft] using hs)]
 | uE f l=>simp only [cb,hl l (by simpa [ft] using hs)]
 | mx l=>simp only [cb,hl l (by simpa [ft] using hs)]
 | mn l=>simp only [cb,hl l (by simpa [ft] using hs)]
 | call md f l=>simp only [cb,hs f (by simp [ft]),hl l (λx hx=>hs x (by simp [ft,hx]))]
 | slice z x lo hi =>
   have h1:lo.map (cJ s2)=lo.map (cJ s):=by
    cases lo with
    | none=>rfl
    | some y=>simp only [ak,hs y (by simp [ft])]
   have h2:hi.map (cJ s2)=hi.map (cJ s):=by
    cases hi with
    | none=>rfl
    | some y=>simp only [ak,hs y (by simp [ft])]
   simp only [cb,hs x (by simp [ft]),h1,h2]
 | nz x lo hi =>
   have h1:lo.map (cJ s2)=lo.map (cJ s):=by
    cases lo with
    | none=>rfl
    | some y=>simp only [ak,hs y (by simp [ft])]
   have h2:hi.map (cJ s2)=hi.map (cJ s):=by
    cases hi with
    | none=>rfl
    | some y=>simp only [ak,hs y (by simp [ft])]
   simp only [cb,hs x (by simp [ft]),h1,h2]
 | nilv z=>rfl
 | mkmap tk tv=>rfl
 | bad=>rfl
 | pick c x y=>simp only [cb,hs c (by simp [ft]),hs x (by simp [ft]),hs y (by simp [ft])]
 | mset t m k v=>simp only [cb,hs m (by simp [ft]),hs k (by simp [ft]),hs v (by simp [ft])]
 | mlook t z o m k=>simp only [cb,hs m (by simp [ft]),hs k (by simp [ft])]
 | AD m k=>rfl
 | store n x y=>simp only [cb,hs x (by simp [ft]),hs y (by simp [ft])]
 | bin b op x y=>simp only [cb,hs x (by simp [ft]),hs y (by simp [ft])]
 | eqs n t x y=>simp only [cb,hs x (by simp [ft]),hs y (by simp [ft])]
 | mksl z b zv x y=>simp only [cb,hs x (by simp [ft]),hs y (by simp [ft])]
 | iaddr z x y=>simp only [cb,hs x (by simp [ft]),hs y (by simp [ft])]
 | nA n z x y=>simp only [cb,hs x (by simp [ft]),hs y (by simp [ft])]
 | idx a z n x y=>simp only [cb,hs x (by simp [ft]),hs y (by simp [ft])]
 | uF x y=>simp only [cb,hs x (by simp [ft]),hs y (by simp [ft])]
 | app p z b x y=>simp only [cb,hs x (by simp [ft]),hs y (by simp [ft])]
 | cpy z x y=>simp only [cb,hs x (by simp [ft]),hs y (by simp [ft])]
 | move x=>simp only [cb,hs x (by simp [ft])]
 | box x=>simp only [cb,hs x (by simp [ft])]
 | load a n x=>simp only [cb,hs x (by simp [ft])]
 | nilc x=>simp only [cb,hs x (by simp [ft])]
 | isnil f n x=>simp only [cb,hs x (by simp [ft])]
 | not x=>simp only [cb,hs x (by simp [ft])]
 | neg x=>simp only [cb,hs x (by simp [ft])]
 | inv x=>simp only [cb,hs x (by simp [ft])]
 | convI k x=>simp only [cb,hs x (by simp [ft])]
 | convS x=>simp only [cb,hs x (by simp [ft])]
 | convR x=>simp only [cb,hs x (by simp [ft])]
 | cut0 z x=>simp only [cb,hs x (by simp [ft])]
 | clr z zv x=>simp only [cb,hs x (by simp [ft])]
 | faddr x i o=>simp only [cb,hs x (by simp [ft])]
 | fld a n o x i=>simp only [cb,hs x (by simp [ft])]
 | ext x i=>simp only [cb,hs x (by simp [ft])]
 | len x=>simp only [cb,hs x (by simp [ft])]
 | lenS x=>simp only [cb,hs x (by simp [ft])]
 | appn z b zv x n=>simp only [cb,hs x (by simp [ft]),hs n (by simp [ft])]
 | appk z x y=>simp only [cb,hs x (by simp [ft]),hs y (by simp [ft])]
 | C2 n z x=>simp only [cb,hs x (by simp [ft])]
 | sliceK z x lo hi=>simp only [cb,hs x (by simp [ft]),hs lo (by simp [ft]),hs hi (by simp [ft])]
 | slice3 x a b c=>simp only [cb,hs x (by simp [ft]),hs a (by simp [ft]),hs b (by simp [ft]),hs c (by simp [ft])]
 | capn x=>simp only [cb,hs x (by simp [ft])]
end
theorem Tq {x y:Ins}(h:HX x y=true):(∀ d,x.dst=some d->d∉vJ y)∧(∀ d,x.dst=some d->y.dst≠some d)∧(∀ d,y.dst=some d->d∉vJ x):=by
 refine ⟨λd hd=>?_,λd hd=>?_,λd hd=>?_⟩<;>simp [HX,hd] at h
 . exact h.1.1
 . exact h.1.2
 . exact h.2
def gD (l:List Nat)(s t:gB):Prop:=∀ i∈l,t i=s i
theorem gD.aST {l:List Nat}{s:gB}{d:Option Nat}(h:∀ x,d=some x->x∉l)(v:MV):gD l s (aST s d v):=by
 intro i hi;cases d with
 | none=>rfl
 | some x =>
   have:i≠x:=λe=>h x rfl (e ▸ hi)
   simp [Mid.aST,cq,this]
section
variable {K:jm}{g:Nat}{s t:gB}{h k:cj}{i:Ins}
theorem OS (hs:gD (vJ i) s t):vG t i.guard=vG s i.guard:=by
 cases hg:i.guard with
 | none=>rfl
 | some gb =>
   obtain ⟨x,b⟩:=gb
   have:=hs x (by simp [vJ,hg])
   simp only [vG,this]
theorem KQ (hs:gD (vJ i) s t):∀ x∈ft i.op,cJ t x=cJ s x:=by
 intro x hx;cases x with
 | t n=>exact hs n (az.2 (.inl (gY.2 ⟨.t n,hx,by simp [Yc]⟩)))
 | c v=>rfl
 | f n=>rfl
theorem OT (hs:gD (vJ i) s t):lC t k i=lC s k i:=by
 unfold lC;rw [OS hs,eJ (KQ hs)]
theorem C2R (ha:cU (lC s h i) h k):lC s k i=lC s h i:=by
 unfold lC at ha ⊢;cases hw:vG s i.guard with
 | none=>rfl
 | some b =>
   cases b with
   | false=>rfl
   | true =>
     simp only [hw] at ha;have h2:∀ x∈jd h (jd h (mF ((ft i.op).map (cJ s)))),mG x∈(i.dst.toList++jd h (jd h (mF ((ft i.op).map (cJ s))))).map mG:=λx hx=>bp.2 ⟨x,by simp [hx],rfl⟩
     have h1:∀ x∈jd h (mF ((ft i.op).map (cJ s))),mG x∈(i.dst.toList++jd h (jd h (mF ((ft i.op).map (cJ s))))).map mG:=λx hx=>h2 x (GC hx)
     simp only [OR ha (λx hx=>h1 x (GC hx)),OR ha h1]
theorem KR {s1:gB}{h1:cj}(he:oP K g i s h=some (s1,h1)):∃ v,s1=aST s i.dst v∧oQ (lC s h i) h h1 ∧
 (∀ t k,gD (vJ i) s t->cU (lC s h i) h k->oP K g i t k=some (aST t i.dst v,glue (lC s h i) h1 k)) ∧
 (idle i.op=true->h1=h∧∀ t k,gD (vJ i) s t->oP K g i t k=some (aST t i.dst v,k))∧(vI i.op=true->h1=h):=by
 unfold oP at he;split at he
 . rename_i hw;split at he
   . rename_i v h' hv;simp only [aa,ae] at he;obtain ⟨rfl,rfl⟩:=he;have hX:lC s h i=(i.dst.toList++jd h (jd h (mF ((ft i.op).map (cJ s))))).map mG:=by unfold lC;rw [hw]
     have hd:∀ x,i.dst=some x->mG x∈lC s h i:=λx hx=>by rw [hX,hx];exact bp.2 ⟨x,by simp,rfl⟩
     have hr:∀ x∈jd h (jd h (mF ((ft i.op).map (cJ s)))),mG x∈lC s h i:=λx hx=>by rw [hX];exact bp.2 ⟨x,by simp [hx],rfl⟩
     have jC:Loc (lC s h i) h h' (λk=>cb K g i.dst s k i.op) v:=by
      by_cases hc:∃ md f args,i.op=.call md f args
      . obtain ⟨md,f,args,eW⟩:=hc;rw [eW] at hv hr ⊢;exact C92 hd hr hv
      . refine C6q (λmd f args e=>hc ⟨md,f,args,e⟩) hd (λx hx=>hr x (GC (GC hx))) hv
     refine ⟨v,rfl,jC.1,λt k hs ha=>?_,λhi=>?_,λGD=>?_⟩
     . unfold oP;rw [OS hs,hw];simp only [B45 (KQ hs),jC.2 k ha]
     . obtain ⟨f,hf⟩:=C49 K g i.dst s hi h;rw [hf] at hv;cases f with
       | none=>cases hv
       | some u =>
         simp only [ak,aa,ae] at hv;obtain ⟨rfl,rfl⟩:=hv;refine ⟨rfl,λt k hs=>?_⟩
         unfold oP;rw [OS hs,hw];simp only [B45 (KQ hs),hf,ak]
     . generalize i.op=op at hv GD;cases op<;>simp only [vI,aI] at GD
       . simp only [cb] at hv;split at hv<;>simp only [aa,ae,reduceCtorEq] at hv;exact hv.2.symm
       . simp only [cb] at hv;split at hv<;>simp only [aa,ae,reduceCtorEq] at hv;exact hv.2.symm
       . simp only [cb] at hv;split at hv<;>simp only [aa,ae,reduceCtorEq] at hv;exact hv.2.symm
       . rename_i md f args;have hmd:md=0:=by
          cases md with
          | zero=>rfl
          | succ n=>simp [vI] at GD
         subst hmd;simp only [cb,AJ] at hv;split at hv
         . split at hv
           . split at hv
             . split at hv<;>simp only [aa,ae,reduceCtorEq] at hv;exact hv.2.symm
             . cases hv
           . cases hv
         . cases hv
       . simp only [cb] at hv
         (repeat' split at hv)<;>first | (simp only [aa,ae] at hv;exact hv.2.symm) | cases hv
       . simp only [cb] at hv;split at hv<;>simp only [aa,ae,reduceCtorEq] at hv;exact hv.2.symm
   . cases he
 . rename_i hw;simp only [aa,ae] at he;obtain ⟨rfl,rfl⟩:=he;have hst:∀ t k,gD (vJ i) s t->oP K g i t k=some (aST t i.dst (.eI []),k):=by
    intro t k hs;unfold oP;rw [OS hs,hw]
   have hX:lC s h i=[]:=by unfold lC;rw [hw]
   refine ⟨.eI [],rfl,oQ.refl _ _,λt k hs ha=>?_,λ_=>⟨rfl,hst⟩,λ_=>rfl⟩
   rw [hst t k hs,A11 ha]
 . cases he
theorem C0Y {s:gB}{d e:Option Nat}{u v:MV}(h:∀ x,d=some x->e≠some x):aST (aST s d u) e v=aST (aST s e v) d u:=by
 cases d with
 | none=>cases e<;>rfl
 | some x =>
   cases e with
   | none=>rfl
   | some y =>
     have xL:x≠y:=λe=>h x rfl (by rw [e])
     funext i;simp only [aST,cq];by_cases h1:i=y
     . subst h1;simp [Ne.symm xL]
     . simp [h1]
theorem C8d {gi gj:Nat}{i j:Ins}{s1 s2:gB}{h1 h2:cj}(hj:oP K gj j s h=some (s1,h1))(hi:oP K gi i s1 h1=some (s2,h2))(Af:HX j i=true)
 (hc:idle j.op=true∨idle i.op=true∨(vI j.op=true∧vI i.op=true)∨∀ x∈lC s h j,x∉lC s1 h1 i) :
 ∃ s3 h3,oP K gi i s h=some (s3,h3)∧oP K gj j s3 h3=some (s2,h2)∧(idle i.op=true∨lC s h i=lC s1 h1 i)∧(idle j.op=true∨lC s3 h3 j=lC s h j):=by
 obtain ⟨a1,a2,a3⟩:=Tq Af;obtain ⟨vj,rfl,oj,lj,ij,rj⟩:=KR hj;obtain ⟨vi,rfl,oi,li,ii,ri⟩:=KR hi;have sI:gD (vJ i) (aST s j.dst vj) s:=λx hx=>(gD.aST (s:=s) a1 vj x hx).symm
 have sI':gD (vJ i) s (aST s j.dst vj):=gD.aST a1 vj;have sJ:∀ v,gD (vJ j) s (aST s i.dst v):=λv=>gD.aST a3 v
 have yN:aST (aST s i.dst vi) j.dst vj=aST (aST s j.dst vj) i.dst vi:=(C0Y a2).symm;have fI:∀ k,lC s k i=lC (aST s j.dst vj) k i:=λk=>(OT sI').symm
 have fJ:∀ k v,lC (aST s i.dst v) k j=lC s k j:=λk v=>OT (sJ v)
 by_cases Tr:idle j.op=true
 . obtain ⟨rfl,ij2⟩:=ij Tr;have hst:=li s h1 sI (cU.refl _ _);have hg:glue (lC (aST s j.dst vj) h1 i) h2 h1=h2:=by
    funext x;unfold glue;split
    . rfl
    . rename_i hx;exact (oi x hx).symm
   rw [hg] at hst;refine ⟨aST s i.dst vi,h2,hst,?_,.inr (fI h1),.inl Tr⟩;rw [ij2 _ h2 (sJ vi),yN]
 . by_cases Tt:idle i.op=true
   . obtain ⟨rfl,ii2⟩:=ii Tt;refine ⟨aST s i.dst vi,h,ii2 s h sI,?_,.inl Tt,.inr (fJ h vi)⟩;rw [lj _ h (sJ vi) (cU.refl _ _),yN];congr 2;funext x;unfold glue;split
     . rfl
     . rename_i hx;exact (oj x hx).symm
   . rcases hc with hc | hc | hc | hc
     . exact absurd hc Tr
     . exact absurd hc Tt
     . have e1:=rj hc.1;subst e1;have e2:=ri hc.2;subst e2;have h3:=li s h2 sI (cU.refl _ _);rw [A11 (cU.refl _ _)] at h3;have h4:=lj (aST s i.dst vi) h2 (sJ vi) (cU.refl _ _);rw [A11 (cU.refl _ _)] at h4;exact ⟨_,_,h3,by rw [h4,yN],.inr (fI h2),.inr (fJ h2 vi)⟩
     . -- KS
       have ag1:cU (lC (aST s j.dst vj) h1 i) h1 h:=λx hx=>(oj x (λJ1=>hc _ J1 hx)).symm
       have h3:=li s h sI ag1;have fi:lC s h i=lC (aST s j.dst vj) h1 i:=by
        rw [fI h];exact C2R ag1
       have ag2:cU (lC s h j) h (glue (lC (aST s j.dst vj) h1 i) h2 h):=by
        intro x hx;unfold glue;rw [if_neg (hc _ hx)]
       have h4:=lj (aST s i.dst vi) _ (sJ vi) ag2;refine ⟨_,_,h3,?_,.inr fi,.inr ?_⟩
       . rw [h4,yN];congr 2;funext x;unfold glue;by_cases hx:mG x∈lC s h j
         . rw [if_pos hx];exact (oi x (hc _ hx)).symm
         . rw [if_neg hx];split
           . rfl
           . rename_i hx2;rw [oi x hx2,oj x hx]
       . rw [fJ];exact C2R ag2
end
theorem OU {s t:gB}{i:Ins}(hs:gD (vJ i) s t):yw t i=yw s i:=by
 unfold yw;cases hg:i.guard with
 | some g=>rfl
 | none =>
   have he:∀ x∈ft i.op,cJ t x=cJ s x:=KQ hs;simp only;cases ho:i.op with
   | load a n x=>simp only [Ew,he x (by rw [ho];simp [ft])]
   | app p z b x y =>
     cases p with
     | true=>rfl
     | false=>simp only [Ew,he x (by rw [ho];simp [ft]),he y (by rw [ho];simp [ft])]
   | _=>rfl
theorem Tu {h:cj}{l:List Nat}{q:Nat}:q∈jd h l↔q∈l∨∃ p,p∈l∧q∈AF (h p):=by
 unfold jd;rw [Ti,az,gY]
theorem OV (x:Nat):∀ (m:List (T Nat)) (j:Nat) (u:T Nat),(x∈vk u->x∈A1G m)->x∈A1G (m.set j u)->x∈A1G m
 | [],_,_,_,h=>by simpa using h
 | b::r,0,u,hu,h=>by
   simp only [dR,A1G,az] at h ⊢;rcases h with h | h
   . have:=hu h
     simpa only [A1G,az] using this
   . exact .inr h
 | b::r,j+1,u,hu,h=>by
   simp only [aSR,A1G,az] at h ⊢;rcases h with h | h
   . exact .inl h
   . by_cases hx:x∈vk u
     . have:=hu hx
       simpa only [A1G,az] using this
     . exact .inr (OV x r j u (λq=>absurd q hx) h)
theorem F28 {α:Type}(L:List (T α))(i:Nat)(r:List Nat)(o:Nat):GI (A0z L) (i::r) o=GI (.agg L) (i::r) o:=by
 rcases Dh L with h | ⟨vs,rfl,h⟩
 . rw [h]
 . rw [h,F11]
theorem F0A (x:Nat):∀ vs:List PV,x∈A1G (vs.map (T.p (α:=Nat)))->False
 | [],h=>by simp [A1G] at h
 | v::r,h=>by
   simp only [aF,A1G,vk,a7] at h;exact F0A x r h
theorem F3K (x:Nat)(L:List (T Nat))(h:x∈vk (A0z L)):x∈A1G L:=by
 rcases Dh L with e | ⟨vs,e,e2⟩
 . rw [e] at h;simpa only [vk] using h
 . rw [e2] at h;simp [vk] at h
theorem E8U (x:Nat):∀ (l:List (T Nat)) (i:Nat) (u:T Nat),l[i]?=some u->x∈vk u->x∈A1G l
 | [],_,_,h,_=>by simp at h
 | b::r,0,u,h,k=>by
   simp only [List.getElem?_cons_zero,aa] at h;subst h;simp only [A1G,az];exact .inl k
 | b::r,i+1,u,h,k=>by
   simp only [List.getElem?_cons_succ] at h;simp only [A1G,az];exact .inr (E8U x r i u h k)
theorem E9e (x:Nat):∀ (p:List Nat) (t u t':T Nat),cR t p=some u->c8 t p (.hole 1)=some t'->x∈vk t'->x∈vk t
 | [],t,u,t',h,k,hx=>by
   simp only [c8,aa] at k;subst k;simp [vk] at hx
 | i::r,t,u,t',h,k,hx=>by
   rcases J9 h k with ⟨l,q,w,ht,hl,h1,h2,rfl⟩ | ⟨a,z,l,n,q,w,rfl,hl,h1,h2,rfl⟩ | ⟨a,ks,l,q,w,rfl,hl,h1,h2,rfl⟩
   . have h3:=OV x l i w (λq'=>E8U x l i q hl (E9e x r q u w h1 h2 q')) (F3K x _ hx)
     rcases ht with rfl | ⟨vs,rfl,rfl⟩
     . simpa only [vk] using h3
     . exact (F0A x vs h3).elim
   . simp only [vk] at hx ⊢;exact OV x l i w (λq'=>E8U x l i q hl (E9e x r q u w h1 h2 q')) hx
   . simp [cR] at h
theorem F02 (l:List MV):(wU l).isAgg=true:=by
 unfold wU;cases qb l<;>rfl
theorem C8e {a:Nat}{tr:T Nat}{i j:Nat}{rest:List Nat}{o':Obj Nat}{g z n:Nat}{l:List (T Nat)}(hs:iE (some (.cell a tr)) (j::rest)=some (.vec g z l n))(hp:put (some (.cell a tr)) (j::rest) (.hole 1)=some o')
 (id:Nat) {t:T Nat} {st o:Nat} (hl:look (some (.cell a tr)) none [i]=some (t,st,o)) (gM:i≠j∨(rest ≠ []∧(xt id [i] t).isAgg=false)) :
 (∃ t',look (some o') none [i]=some (t',st,o)∧t'.cs=t.cs∧xt id [i] t'=xt id [i] t)∧∀ x∈AF (some o'),x∈AF (some (.cell a tr)):=by
 rw [Dl] at hs;cases hq:c8 tr (j::rest) (.hole 1) with
 | none=>simp only [put,hq] at hp;cases hp
 | some t' =>
   simp only [put,hq,aa] at hp;subst hp;refine ⟨?_,λx hx=>?_⟩
   . simp only [look] at hl;rcases J9 hs hq with ⟨m,q,w,ht,hm,h1,h2,rfl⟩ | ⟨a',z',m,n',q,w,rfl,hm,h1,h2,rfl⟩ | ⟨a',ks,m,q,w,rfl,hm,h1,h2,rfl⟩
     . have Wn:GI (.agg m) [i] 0=some (t,o)∧a=st:=by
        rcases ht with rfl | ⟨vs,rfl,rfl⟩
        . split at hl
          . rename_i u' o1 he;simp only [aa,ae] at hl;obtain ⟨rfl,rfl,rfl⟩:=hl;exact ⟨he,rfl⟩
          . cases hl
        . rw [F11] at hl;split at hl
          . rename_i u' o1 he;simp only [aa,ae] at hl;obtain ⟨rfl,rfl,rfl⟩:=hl;exact ⟨he,rfl⟩
          . cases hl
       obtain ⟨hl3,rfl⟩:=Wn;simp only [GI] at hl3;have eV:w.cs=q.cs:=Cu rest q _ _ w h1 h2 rfl;have aIv:T.db ((m.set j w).take i)=T.db (m.take i):=Oi hm eV;simp only [look,F28,GI,aIv];by_cases e:i=j
       . subst e;rw [hm] at hl3;simp only [aa,ae] at hl3;obtain ⟨rfl,rfl⟩:=hl3;rw [List.getElem?_set_self (aJ.1 hm).1];refine ⟨w,rfl,eV,?_⟩;rcases gM with e | ⟨hr,hv⟩
         . exact (e rfl).elim
         cases rest with
         | nil=>exact (hr rfl).elim
         | cons r0 rest =>
           rcases J9 h1 h2 with ⟨m2,q2,w2,ht2,_,_,_,rfl⟩ | ⟨a2,z2,m2,n2,q2,w2,rfl,_,_,_,rfl⟩ | ⟨a2,ks2,m2,q2,w2,rfl,_,_,_,rfl⟩
           . exfalso;rcases ht2 with rfl | ⟨vs,rfl,rfl⟩
             . rw [show xt id [i] (.agg m2)=wU (zb id [i] 0 m2) from rfl,F02] at hv;cases hv
             . cases hv
           . rfl
           . simp [cR] at h1
       . rw [List.getElem?_set_ne (Ne.symm e)];cases hmi:m[i]? with
         | none=>rw [hmi] at hl3;cases hl3
         | some y =>
           rw [hmi] at hl3;simp only [aa,ae] at hl3;obtain ⟨rfl,rfl⟩:=hl3;exact ⟨y,rfl,rfl,rfl⟩
     . simp only [GI] at hl;cases hl
     . simp [cR] at hs
   . simp only [AF] at hx ⊢;exact E9e x _ _ _ _ hs hq hx
theorem F2r {h:cj}{id i g o:Nat}{xa:Bool}{xn:Nat}{v:MV}(hv:vF h xa xn (.ptr id none [i] g o)=some v) :
 ∃ (tl:T Nat) (sl ol:Nat),look (h id) none [i]=some (tl,sl,ol)∧(sl=g∧ol=o∧tl.cs=xn)∧(xt id [i] tl).isAgg=xa∧NP (xt id [i] tl)=false∧v=xt id [i] tl:=by
 have hv':(match look (h id) none [i] with
  | some (t,s,o')=>if s=g∧o'=o∧t.cs=xn then (if (xt id [i] t).isAgg=xa∧NP (xt id [i] t)=false then some (xt id [i] t) else none) else none
  | none=>none)=some v:=hv
 split at hv'
 . rename_i tl sl ol hlk;split at hv'
   . rename_i hc;split at hv'
     . rename_i hd2;simp only [aa] at hv';exact ⟨tl,sl,ol,hlk,hc,hd2.1,hd2.2,hv'.symm⟩
     . cases hv'
   . cases hv'
 . cases hv'
theorem F29 {h:cj}{id i g o:Nat}{xa:Bool}{xn:Nat}{tl:T Nat}{sl ol:Nat}(h1:look (h id) none [i]=some (tl,sl,ol))(h2:sl=g∧ol=o∧tl.cs=xn)(h3:(xt id [i] tl).isAgg=xa)(h4:NP (xt id [i] tl)=false) :
 vF h xa xn (.ptr id none [i] g o)=some (xt id [i] tl):=by
 show (match look (h id) none [i] with
  | some (t,s,o')=>if s=g∧o'=o∧t.cs=xn then (if (xt id [i] t).isAgg=xa∧NP (xt id [i] t)=false then some (xt id [i] t) else none) else none
  | none=>none)=_
 rw [h1];simp only;rw [if_pos h2,if_pos ⟨h3,h4⟩]
theorem D1W {K:jm}{ga gb:Nat}{x y:Ins}{s:gB}{h:cj}{s1 s2:gB}{h1 h2:cj}{F:List Nat}{pa pb:Option Plc}(hx:oP K ga x s h=some (s1,h1))(hy:oP K gb y s1 h1=some (s2,h2))(Af:HX x y=true)
 (sg:yw s x=pa) (v8:yw s1 y=pb) (KT:Ey F pa pb=true) (hF:∀ z∈lC s h x,z∈F) :
 ∃ s3 h3,oP K gb y s h=some (s3,h3)∧oP K ga x s3 h3=some (s2,h2)∧lC s h y=lC s1 h1 y∧(∀ z∈lC s3 h3 x,z∈lC s h x)∧yw s y=pb∧yw s3 x=pa:=by
 unfold Ey at KT;split at KT
 . rename_i id i k0 sc id' j d dp;simp only [aj,Bool.or_eq_true,beq_iff_eq,bne_iff_ne,Bool.not_eq_true',List.contains_eq_mem,decide_eq_false_iff_not] at KT;obtain ⟨⟨rfl,gM⟩,hd⟩:=KT;obtain ⟨a1,a2,a3⟩:=Tq Af;obtain ⟨xa,xn,xo,g,o,Tv,DK,OW,hxs⟩:∃ (xa:Bool) (xn:Nat) (xo:dJ) (g o:Nat),x.guard=none∧x.op=.load xa xn xo∧cJ s xo=.ptr id none [i] g o∧(!xa)=sc:=by
    unfold yw at sg;split at sg
    . rename_i hg;generalize eW:x.op=op at sg;unfold Ew at sg;split at sg
      . rename_i xa xn xo;split at sg
        . rename_i id1 i1 g1 o1 he;simp only [aa,ae,true_and] at sg;obtain ⟨rfl,rfl,_,h5⟩:=sg;exact ⟨xa,xn,xo,g1,o1,hg,rfl,he,h5⟩
        . cases sg
      . split at sg
        . split at sg
          . simp at sg
          . cases sg
        . cases sg
      . cases sg
    . cases sg
   have ld:∀ (t:gB) (k:cj),oP K ga x t k=match vF k xa xn (cJ t xo) with | some v=>some (aST t x.dst v,k) | none=>none:=by
    intro t k;unfold oP;rw [Tv];simp only [vG];rw [DK];simp only [cb];cases vF k xa xn (cJ t xo)<;>rfl
   obtain ⟨v,hv,rfl,rfl⟩:∃ v,vF h xa xn (.ptr id none [i] g o)=some v∧s1=aST s x.dst v∧h1=h:=by
    rw [ld,OW] at hx;split at hx
    . rename_i v hv;simp only [aa,ae] at hx;exact ⟨v,hv,hx.1.symm,hx.2.symm⟩
    . cases hx
   obtain ⟨u,rfl,oy,ly,_,_⟩:=KR hy;obtain ⟨yz,yb,yx,yy,off,len,g0,l,rest,hyg,Tw,hyx,hyy,hyd,hys⟩:∃ (yz yb:Nat) (yx yy:dJ) (off len g0:Nat) (l:List PV) (rest:List Nat),y.guard=none∧y.op=.app false yz yb yx yy∧cJ (aST s x.dst v) yx=.own id (j::rest) off len g0∧cJ (aST s x.dst v) yy=.p (.sl l)∧y.dst=some d∧(!rest.isEmpty)=dp:=by
    unfold yw at v8;split at v8
    . rename_i hg;generalize eW:y.op=op at v8;unfold Ew at v8;split at v8
      . split at v8
        . simp at v8
        . cases v8
      . rename_i yz yb yx yy;split at v8
        . rename_i id1 j1 rest off len g0 he;split at v8
          . rename_i l d1 h1 h2;simp only [aa,ae,true_and] at v8;obtain ⟨rfl,rfl,rfl,h5⟩:=v8;exact ⟨yz,yb,yx,yy,off,len,g0,l,rest,hg,rfl,he,h1,h2,h5⟩
          . cases v8
        . cases v8
      . cases v8
    . cases v8
   have sY:gD (vJ y) (aST s x.dst v) s:=λq hq=>(gD.aST (s:=s) a1 v q hq).symm
   have sX:gD (vJ x) s (aST s y.dst u):=gD.aST a3 u;have h3:=ly s h1 sY (cU.refl _ _);have hg2:glue (lC (aST s x.dst v) h1 y) h2 h1=h2:=by
    funext q;unfold glue;split
    . rfl
    . rename_i hq;exact (oy q hq).symm
   rw [hg2] at h3;obtain ⟨ob,o',Tx,dK,eN,GF⟩:∃ (ob:Obj Nat) (o':Obj Nat),h1 id=some ob∧(∃ g1 z1 l1 n1,iE (some ob) (j::rest)=some (.vec g1 z1 l1 n1))∧put (some ob) (j::rest) (.hole 1)=some o'∧∃ w,h2=cq (cq h1 id (some o')) d (some w):=by
    unfold oP at hy;rw [hyg] at hy;simp only [vG] at hy;rw [Tw] at hy;simp only [cb,hyx,hyy] at hy;have Dw:tu h1 (.p (.sl l))=some (l.map .p,h1):=by
     unfold tu elems
     have:(l.map (T.p (α:=Nat))).all vm=true:=by simp [vm]
     simp only [this,if_true]
    cases qY:A3y gb y.dst h1 yz yb (.own id (j::rest) off len g0) (.p (.sl l)) with
    | none=>rw [qY] at hy;cases hy
    | some r =>
      obtain ⟨r1,r2⟩:=r;have Iw:r2=h2:=by
       rw [qY] at hy
       try simp only at hy
       split at hy
       . rename_i vv hh heq;split at heq
         . simp only [aI,if_false,aa,ae] at heq hy;rename_i e3;simp only [aa,ae] at e3;rw [← e3.2] at heq;rw [← hy.2,← heq.2,e3.2]
         . cases heq
       . cases hy
      subst Iw;unfold A3y at qY;rw [Dw] at qY;simp only at qY;split at qY
      . cases qY
      . split at qY
        . rename_i lD;have qN:Cg gb y.dst h1 id (j::rest) yz yb len g0 (l.map .p)=some (r1,r2):=by
           cases gk:h1 id with
           | none=>rw [gk] at qY;exact qY
           | some ob=>rw [gk] at qY;cases ob<;>exact qY
          unfold Cg at qN;split at qN
          . rename_i g1 z1 l1 n1 xd;split at qN
            . split at qN
              . rename_i o' eN;rw [hyd] at qN;simp only [A0O] at qN;simp only [aa,ae] at qN;cases gk:h1 id with
                | none=>rw [gk] at xd;simp [iE] at xd
                | some ob =>
                  rw [gk] at xd eN;exact ⟨ob,o',rfl,⟨g1,z1,l1,n1,xd⟩,eN,_,qN.2.symm⟩
              . cases qN
            . cases qN
          . cases qN
        . cases qY
   obtain ⟨w,rfl⟩:=GF;have yO:lC s h1 x=(x.dst.toList++jd h1 (jd h1 [id])).map mG:=by
    unfold lC;rw [Tv];simp only [vG];rw [DK];simp only [ft,aF,bt,mF,OW,va,bD]
   have KU:∀ q∈jd h1 (jd h1 [id]),mG q≠mG d:=by
    intro q hq e;apply hd;rw [← e];apply hF;rw [yO];exact bp.2 ⟨q,by simp [hq],rfl⟩
   have GG:∀ {hh:cj} {ll:List Nat} {q:Nat},q∈ll->q∈jd hh ll:=λhq=>GC hq
   have Tz:id∈jd h1 [id]:=GG (by simp)
   have KV:d≠id:=λe=>KU id (GG Tz) (by rw [e])
   have gS:∃ ca ct,ob=.cell ca ct:=by
    simp only [vF,look,Tx] at hv;cases ob with
    | cell ca ct=>exact ⟨ca,ct,rfl⟩
    | _=>simp at hv
   obtain ⟨ca,ct,rfl⟩:=gS;obtain ⟨g1,z1,l1,n1,dK⟩:=dK;obtain ⟨tl,sl,ol,aFw,dV,cE⟩:∃ (tl:T Nat) (sl ol:Nat),look (some (.cell ca ct)) none [i]=some (tl,sl,ol)∧(sl=g∧ol=o∧tl.cs=xn)∧(xt id [i] tl).isAgg=xa∧NP (xt id [i] tl)=false∧v=xt id [i] tl:=by
    have hk:=F2r hv;rw [Tx] at hk;exact hk
   have aIw:i≠j∨(rest ≠ []∧(xt id [i] tl).isAgg=false):=by
    rcases gM with e | ⟨e1,e2⟩
    . exact .inl e
    . refine .inr ⟨λe=>?_,?_⟩
      . rw [e] at hys;rw [← hys] at e2;simp at e2
      . rw [cE.1];rw [← hxs] at e1;simpa using e1
   obtain ⟨⟨tl',p1,p1c,p1v⟩,p2⟩:=C8e dK eN id aFw aIw;have TA:cq (cq h1 id (some o')) d (some w) id=some o':=by rw [A0C _ _ (Ne.symm KV),nV]
   have Bm:oP K ga x (aST s y.dst u) (cq (cq h1 id (some o')) d (some w))=some (aST (aST s y.dst u) x.dst v,cq (cq h1 id (some o')) d (some w)):=by
    have TE:cJ (aST s y.dst u) xo=.ptr id none [i] g o:=by
     rw [← OW];exact KQ sX xo (by rw [DK];simp [ft])
    have xF:vF (cq (cq h1 id (some o')) d (some w)) xa xn (.ptr id none [i] g o)=some v:=by
     have:=F29 (h:=cq (cq h1 id (some o')) d (some w)) (g:=g) (o:=o) (xa:=xa) (xn:=xn) (by rw [TA];exact p1) ⟨dV.1,dV.2.1,by rw [p1c];exact dV.2.2⟩ (by rw [p1v];exact cE.1) (by rw [p1v];exact cE.2.1)
     rw [this,p1v,cE.2.2]
    rw [ld,TE,xF]
   refine ⟨aST s y.dst u,_,h3,?_,?_,?_,?_,?_⟩
   . rw [Bm];rw [(C0Y a2).symm]
   . exact (OT sY)
   . intro q hq;have TF:lC (aST s y.dst u) (cq (cq h1 id (some o')) d (some w)) x=(x.dst.toList++jd (cq (cq h1 id (some o')) d (some w)) (jd (cq (cq h1 id (some o')) d (some w)) [id])).map mG:=by
      rw [OT sX];unfold lC;rw [Tv];simp only [vG];rw [DK];simp only [ft,aF,bt,mF,OW,va,bD]
     rw [TF] at hq;rw [yO];obtain ⟨r,hr,rfl⟩:=bp.1 hq;refine bp.2 ⟨r,?_,rfl⟩;rcases az.1 hr with hr | hr
     . exact az.2 (.inl hr)
     . refine az.2 (.inr ?_);have step:∀ (l1 l2:List Nat),(∀ q∈l1,q∈l2∧q≠d)->∀ q∈jd (cq (cq h1 id (some o')) d (some w)) l1,q∈jd h1 l2:=by
        intro l1 l2 hl q hq;rcases Tu.1 hq with hq | ⟨p,hp,hq⟩
        . exact Tu.2 (.inl (hl q hq).1)
        . refine Tu.2 (.inr ⟨p,(hl p hp).1,?_⟩);rw [A0C _ _ (hl p hp).2] at hq;by_cases e:p=id
          . subst e;rw [nV] at hq;rw [Tx];exact p2 q hq
          . rw [A0C _ _ e] at hq;exact hq
       have s1:=step [id] [id] (λq hq=>by
        simp only [aX] at hq;subst hq;exact ⟨by simp,Ne.symm KV⟩)
       refine step _ _ (λq hq=>⟨s1 q hq,λe=>?_⟩) r hr
       exact KU q (GG (s1 q hq)) (by rw [e])
   . rw [← v8];exact (OU sY)
   . rw [← sg];exact OU sX
 . cases KT
inductive avD (K:jm) (g0:Nat) (is:List Ins) (F:Nat->List Nat×Option Plc):List Nat->gB->cj->gB->cj->Prop where
 | nil (s:gB) (h:cj):avD K g0 is F [] s h s h
 | cons {i:Nat} {ins:Ins} {r:List Nat} {s:gB} {h:cj} {s1:gB} {h1:cj} {s2:gB} {h2:cj} (hi:is[i]?=some ins) (hf:idle ins.op=true∨((∀ z∈lC s h ins,z∈(F i).1)∧yw s ins=(F i).2))
    (hst:oP K (g0+i) ins s h=some (s1,h1)) (hr:avD K g0 is F r s1 h1 s2 h2):avD K g0 is F (i::r) s h s2 h2
def OX (is:List Ins)(F:Nat->List Nat×Option Plc)(a b:Nat):Prop :=
 ∀ x y,is[a]?=some x->is[b]?=some y->HX x y=true∧(idle x.op=true∨idle y.op=true∨(vI x.op=true∧vI y.op=true)∨(∀ z∈(F a).1,z∉(F b).1)∨Ey (F a).1 (F a).2 (F b).2=true)
theorem avD.swap {K:jm}{g0:Nat}{is:List Ins}{F:Nat->List Nat×Option Plc}{a b:Nat}{r:List Nat}{s:gB}{h:cj}{s':gB}{h':cj}(hr:avD K g0 is F (a::b::r) s h s' h')(hi:OX is F a b):avD K g0 is F (b::a::r) s h s' h':=by
 cases hr with
 | cons hx yO KW hr =>
   rename_i x s1 h1;cases hr with
   | cons hy hfy hsy hr =>
     rename_i y s2 h2;obtain ⟨Af,hc⟩:=hi x y hx hy;obtain ⟨a1,a2,a3⟩:=Tq Af;have main:(idle x.op=true∨idle y.op=true∨(vI x.op=true∧vI y.op=true)∨∀ z∈lC s h x,z∉lC s1 h1 y)->avD K g0 is F (b::a::r) s h s' h':=by
      intro zm;obtain ⟨s3,h3,k1,k2,k3,k4⟩:=C8d KW hsy Af zm;obtain ⟨vx,e1,_⟩:=KR KW;obtain ⟨vy,e3,_⟩:=KR k1;refine .cons hy ?_ k1 (.cons hx ?_ k2 hr)
      . rcases k3 with k3 | k3
        . exact .inl k3
        . refine hfy.imp id λq=>⟨by rw [k3];exact q.1,?_⟩
          rw [← q.2,e1];exact (OU (gD.aST a1 vx)).symm
      . rcases k4 with k4 | k4
        . exact .inl k4
        . refine yO.imp id λq=>⟨by rw [k4];exact q.1,?_⟩
          rw [← q.2,e3];exact OU (gD.aST a3 vy)
     rcases hc with hc | hc | hc | hc | hc
     . exact main (.inl hc)
     . exact main (.inr (.inl hc))
     . exact main (.inr (.inr (.inl hc)))
     . rcases yO with e | yO
       . exact main (.inl e)
       . rcases hfy with e | hfy
         . exact main (.inr (.inl e))
         . exact main (.inr (.inr (.inr λz hz Co=>hc z (yO.1 z hz) (hfy.1 z Co))))
     . rcases yO with e | yO
       . exact main (.inl e)
       . rcases hfy with e | hfy
         . exact main (.inr (.inl e))
         . obtain ⟨s3,h3,k1,k2,k3,k4,k5,k6⟩:=D1W KW hsy Af yO.2 hfy.2 hc yO.1;exact .cons hy (.inr ⟨by rw [k3];exact hfy.1,k5⟩) k1 (.cons hx (.inr ⟨λz hz=>yO.1 z (k4 z hz),k6⟩) k2 hr)
theorem avD.front {K:jm}{g0:Nat}{is:List Ins}{F:Nat->List Nat×Option Plc}{i:Nat}{post:List Nat}:∀ {pre:List Nat} {s:gB} {h:cj} {s':gB} {h':cj},avD K g0 is F (pre++i::post) s h s' h'->(∀ j∈pre,OX is F j i)->avD K g0 is F (i::pre++post) s h s' h'
 | [],s,h,s',h',hr,_=>hr
 | p::pre,s,h,s',h',hr,hp=>by
   cases hr with
   | cons hx yO KW hr =>
     have h2:=avD.front hr (λj hj=>hp j (by simp [hj]))
     exact avD.swap (.cons hx yO KW h2) (hp p (by simp))
end Go.Mid
namespace Go.Mid
open Go.RowKit
section
variable {P:Program}{tC:tC}{nt:Nat}
theorem OY {ops:Array Oper}:∀ {l:List Oper} {is:List Ins},EC P tC nt ops l=some is->is.length=l.length∧∀ (i:Nat) (o:Oper),l[i]?=some o->∃ ins,is[i]?=some ins∧F2n P tC nt ops o=some ins
 | [],is,h=>by simp only [EC,aa] at h;subst h;exact ⟨rfl,λi o ho=>by simp at ho⟩
 | x::r,is,h=>by
   simp only [EC] at h;split at h
   . rename_i y ys h1 h2;cases h;obtain ⟨h3,h4⟩:=OY h2;refine ⟨by simp [h3],λi o ho=>?_⟩
     cases i with
     | zero=>simp at ho;subst ho;exact ⟨y,rfl,h1⟩
     | succ i=>simpa using h4 i o (by simpa using ho)
   . cases h
variable {ops:Array Oper}{is:List Ins}{K:jm}{Q:Exit->Act->World->Prop}
theorem C5a {o:Oper}{ins:Ins}{i:Nat}{a:Act}{w:World}{A:Nat->Prop}{E:dP An}{S:di}{γ:Nat}{s s1:gB}{h h1:cj}(hK:CE P K)(ho:ops[i]?=some o)(avE:F2n P tC nt ops o=some ins)(Aj:nt<=a.tmps.size)
 (hs:qM P w A E S s a) (hm:MR w A E h S) (hγ:¬ S γ) (he:oP K γ ins s h=some (s1,h1)) {next:Act->World->Prop}
 (hn:∀ a' w' A' E',qM P w' A' E' (S.add γ) s1 a'->MR w' A' E' h1 (S.add γ)->gC w A E S w' A' E'->a'.defers=a.defers->(a'.tmps.size=a.tmps.size∧∀ k,o.dst≠some k->a'.tmps.getD k undef=a.tmps.getD k undef)->next a' w'):wpOp P ops Q i next a w:=by
 unfold F2n at avE;split at avE
 . rename_i GH;have hd:∀ d,o.dst=some d->d<nt:=by
    intro d hd;unfold Ye at GH;rw [hd] at GH;simpa using GH
   split at avE
   . rename_i g hg;simp only [aa] at avE;subst avE;have aDX:∀ {w':World} {A':Nat->Prop} {E':dP An} {v:MV} {val:Value},MR w' A' E' h1 (S.add γ)->gC w A E S w' A' E'->bR w' A' E' (S.add γ) v val->s1=aST s o.dst v->qM P w' A' E' (S.add γ) s1 (a.put o.dst val):=by
      intro w' A' E' v val xM ta hv e;refine ⟨λk=>?_,hs.gl.frame ta.sub (λb hb=>ta.vL hm b hb)⟩
      subst e;have old:bR w' A' E' (S.add γ) (s k) (a.tmps.getD k undef):=(hs.sl k).go hm ta (S.eF γ);cases hod:o.dst with
      | none=>exact old
      | some d =>
        simp only [aST,cq,Act.put];by_cases TG:k=d
        . subst TG;have eC:k<a.tmps.size:=Nat.lt_of_lt_of_le (hd k hod) Aj;simp only [if_true]
          have:(a.tmps.setIfInBounds k val).getD k undef=val:=by simp [eC]
          rw [this];exact hv
        . rw [if_neg TG]
          have:(a.tmps.setIfInBounds d val).getD k undef=a.tmps.getD k undef:=by simp [dQ (Ne.symm TG)]
          rw [this];exact old
     have qo:∀ val,(a.put o.dst val).defers=a.defers∧((a.put o.dst val).tmps.size=a.tmps.size∧∀ k,o.dst≠some k->(a.put o.dst val).tmps.getD k undef=a.tmps.getD k undef):=by
      intro val;cases hod:o.dst with
      | none=>exact ⟨rfl,rfl,λ_ _=>rfl⟩
      | some d =>
        refine ⟨rfl,by simp [Act.put],λk hk=>?_⟩
        have hne:d≠k:=λe=>hk (by rw [e])
        simp [Act.put,dQ hne]
     have hw:∀ b,vG s g=some b->Region.wanted o (yielded ops a.tmps)=b:=by
      intro b hb;unfold Yd at hg;unfold Region.wanted;split at hg
      . rename_i TH;cases hg;simp only [vG,aa] at hb;rw [TH];exact hb
      . rename_i j wb TH;split at hg
        . rename_i t ht;cases hg;rw [TH];simp only [vG] at hb;have Ib:(ops[j]?).bind (·.dst)=some t:=ht;have hst:=hs.sl t;split at hb
          . rename_i c hc;simp only [aa] at hb;rw [hc] at hst;have cE:=vM.1 hst
            have:a.tmps[t]?=some (.bool c):=by
             cases hq:a.tmps[t]? with
             | none=>simp [hq] at cE;exact absurd cE (by simp [undef])
             | some q=>simp [hq] at cE;rw [cE]
            simp only [yielded,Ib,ai,this];rw [← hb];cases c<;>cases wb<;>rfl
          . rename_i hc;simp only [aa] at hb;rw [hc] at hst;simp only [bR] at hst;obtain ⟨vs,cE,fN⟩:=hst;simp only [c9] at fN;subst fN
            have:yielded ops a.tmps j=none:=by
             simp only [yielded,Ib,ai];cases hq:a.tmps[t]? with
             | none=>rfl
             | some q=>simp [hq] at cE;rw [cE]
            simp only [this];rw [← hb];rfl
          . cases hb
        . cases hg
     unfold wpOp;simp only [ho];unfold oP at he;simp only at he;split at he
     . rename_i xh;rw [hw true xh];simp only [if_true];split at he
       . rename_i v h' hv;simp only [aa,ae] at he;obtain ⟨e1,rfl⟩:=he;refine .inl ?_;cases eW:qf P (Yf tC o) (NU tC.mt o) (NU tC.pz o) o.type o.op with
         | none =>
           rw [eW] at hv;simp [cb] at hv
         | some m' =>
           rw [eW] at hv;simp only [bI] at hv;refine D3h hs hm hγ hK eW hv next Q ?_
           intro val w' A' E' q1 q2 q3;exact hn _ w' A' E' (aDX q2 q3 q1 e1.symm) q2 q3 (qo val).1 (qo val).2
       . cases he
     . rename_i hwf;rw [hw false hwf];simp only [aI,if_false];simp only [aa,ae] at he;obtain ⟨e1,rfl⟩:=he;have hv:bR w A E (S.add γ) (.eI []) undef:=by simp only [bR];exact ⟨[],rfl,by simp only [c9]⟩
       have q2:=hm.mono (S.eF γ);exact hn _ w A E (aDX q2 (gC.refl w A E S) hv e1.symm) q2 (gC.refl w A E S) (qo undef).1 (qo undef).2
     . cases he
   . cases avE
 . cases avE
def F0X (ops:Array Oper)(a a':Act):Prop:=a'.tmps.size=a.tmps.size∧∀ k,(∀ o∈ops.toList,o.dst≠some k)->a'.tmps.getD k undef=a.tmps.getD k undef
def oR (P:Program)(K:jm)(ops:Array Oper)(a:Act)(w:World)(A:Nat->Prop)(E:dP An)(S:di)(g0 n:Nat)(s':gB)(h':cj)(Q:Exit->Act->World->Prop):Prop :=
 ∀ a' w' A' E' S',S.le S'->(∀ g,S' g->S g∨∃ i,i<n∧g=g0+i)->qM P w' A' E' S' s' a'->MR w' A' E' h' S'->gC w A E S w' A' E'->a'.defers=a.defers->F0X ops a a'->Q .normal a' w'
theorem oR.step {a a1:Act}{w w1:World}{A A1:Nat->Prop}{E E1:dP An}{S:di}{g0 n i:Nat}{s':gB}{h':cj}(hp:oR P K ops a w A E S g0 n s' h' Q)(hi:i<n)(hg:gC w A E S w1 A1 E1)(hd:a1.defers=a.defers)(hsz:F0X ops a a1) :
 oR P K ops a1 w1 A1 E1 (S.add (g0+i)) g0 n s' h' Q:=by
 intro a' w' A' E' S' h1 h2 h3 h4 h5 h6 h7;refine hp a' w' A' E' S' (di.le_trans (S.eF _) h1) (λg ta=>?_) h3 h4 (hg.trans h5 (S.eF _)) (h6.trans hd) ⟨h7.1.trans hsz.1,λk hk=>(h7.2 k hk).trans (hsz.2 k hk)⟩
 rcases h2 g ta with h | h
 . rcases h with h | rfl
   . exact .inl h
   . exact .inr ⟨i,hi,rfl⟩
 . exact .inr h
section
variable (hK:CE P K)(avE:EC P tC nt ops ops.toList=some is)
include hK avE
theorem C5b {g0:Nat}{F:Nat->List Nat×Option Plc}:∀ {π:List Nat} {a:Act} {w:World} {A:Nat->Prop} {E:dP An} {S:di} {s s':gB} {h h':cj},avD K g0 is F π s h s' h'->π.Nodup->(∀ i∈π,i<ops.size∧¬ S (g0+i))->nt<=a.tmps.size->qM P w A E S s a->MR w A E h S->
 oR P K ops a w A E S g0 ops.size s' h' Q->wpOps P ops Q π a w
 | [],a,w,A,E,S,s,s',h,h',hr,_,_,_,hs,hm,hp=>by
   cases hr;exact hp a w A E S (S.le_refl) (λg hg=>.inl hg) hs hm (gC.refl w A E S) rfl ⟨rfl,λ_ _=>rfl⟩
 | i::r,a,w,A,E,S,s,s',h,h',hr,hn,hS,Aj,hs,hm,hp=>by
   cases hr with
   | cons hi hf hst hr =>
     rename_i ins s1 h1;obtain ⟨h2,h3⟩:=hS i (by simp)
     obtain ⟨o,ho⟩:∃ o,ops[i]?=some o:=⟨ops[i],by simp [h2]⟩
     obtain ⟨TI,hi',hc⟩:=(OY avE).2 i o (by simpa using ho)
     rw [hi] at hi';cases hi';rw [wpOps_cons];refine C5a hK ho hc Aj hs hm h3 hst ?_;intro a1 w1 A1 E1 q1 q2 q3 q4 q5;have rV:=bZ.1 hn;have pE:o∈ops.toList:=by simpa using bH (l:=ops.toList) (i:=i) (by simpa using ho)
     refine C5b hr rV.2 (λj hj=>⟨(hS j (by simp [hj])).1,λhc=>?_⟩) (by have:=q5.1;omega) q1 q2 (hp.step h2 q3 q4 ⟨q5.1,λk hk=>q5.2 k (hk o pE)⟩)
     rcases hc with hc | hc
     . exact (hS j (by simp [hj])).2 hc
     . have:j=i:=by omega
       exact rV.1 (this ▸ hj)
end
end
end Go.Mid
