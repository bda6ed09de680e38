/- What an operation touches: it depends on these roots alone, and leaves the others as they are. -/
import Derived.Test.YtfjdpcegbfenbaaGreatDoorM4
set_option linter.unusedSimpArgs false
set_option linter.unusedVariables false
open Array renaming getElem?_setIfInBounds_ne → dX, getElem?_eq_none → iB, getElem?_eq_some_iff → de, replicate → iO, getD_eq_getD_getElem? → fU
open Bool renaming false_eq_true → aF, not_eq_true → ie, and_eq_true → ak, not_eq_true' → dt, or_eq_true → cI
open Go.Region renaming binds → eE, before → gN, ready → p8
open Go.Result renaming andThen_ok → aV
open Go.Sem renaming run_bind → bx, run_pure → bM
open List renaming mem_append → ay, mem_cons → aM, mem_singleton → aW, getElem?_eq_some_iff → aL, mem_of_getElem? → bH, map_cons → aH, append_nil → bE, mem_flatMap → ig, map_congr_left → eU, mem_map → bj, getElem?_map → aN, map_nil → cr, nodup_cons → b5, range → bp, mem_filter → cA, mem_range → bW, pairwise_cons → bL, filter_eq_self → jM, length_cons → bf, range' → mI, getElem?_cons_zero → bP, getElem?_cons_succ → bK, all_eq_true → bg, mapM_cons → mh, getElem?_eq_none → bJ, getD → nh
open Nat renaming ne_of_lt → p7, le_of_not_lt → kZ, strongRecOn → lP, add_zero → du, zero_add → bS, le_refl → au
open Ne renaming symm → dB
open Option renaming map_some → ar, getD_some → bF, bind_some → ah, bind_none → nf
open Option.some renaming injEq → aa, inj → cm
open Prod.mk renaming injEq → ae
namespace Go.Mid
def c7 (X:List Nat)(h k:cq):Prop:=∀ i,mD i∈X→k i=h i
def glue (X:List Nat)(h k:cq):cq:=fun i=>if mD i∈X then h i else k i
theorem c7.refl (X:List Nat)(h:cq):c7 X h h:=fun _ _=>rfl
theorem tF {X:List Nat}{h k:cq}(ha:c7 X h k):glue X h k=k:=by
 funext i;unfold glue;split
 · rename_i hi;exact (ha i hi).symm
 · rfl
theorem zn {X:List Nat}{h k:cq}{i:Nat}{o:Option (Obj Nat)}(hi:mD i∈X):glue X (cD h i o) k=cD (glue X h k) i o:=by
 funext j;by_cases e:j=i
 · subst e;simp [glue,cD,hi]
 · simp [glue,cD,e]
theorem c7.cD {X:List Nat}{h k:cq}(ha:c7 X h k)(i:Nat)(o:Option (Obj Nat)):c7 X (Mid.cD h i o) (Mid.cD k i o):=by
 intro j hj;by_cases e:j=i
 · subst e;simp [Mid.cD]
 · simp [Mid.cD,e,ha j hj]
theorem c7.glue {X:List Nat}(h k:cq):c7 X h (glue X h k):=fun i hi=>by simp [Mid.glue,hi]
def oF (X:List Nat)(h h':cq):Prop:=∀ i,mD i∉X→h' i=h i
theorem oF.refl (X:List Nat)(h:cq):oF X h h:=fun _ _=>rfl
theorem oF.trans {X:List Nat}{h h' Ih:cq}(a:oF X h h')(b:oF X h' Ih):oF X h Ih:=fun i hi=>(b i hi).trans (a i hi)
theorem oF.cD {X:List Nat}{h h':cq}(a:oF X h h'){i:Nat}(hi:mD i∈X)(o:Option (Obj Nat)):oF X h (Mid.cD h' i o):=by
 intro j hj
 have:j≠i:=fun e=>hj (e ▸ hi)
 simp [Mid.cD,this,a j hj]
def qf (X:List Nat)(v:MV):Prop:=∀ i∈kf v,mD i∈X
def fR (X:List Nat)(l:List MV):Prop:=∀ i∈mC l,mD i∈X
theorem fR.cons {X:List Nat}{x:MV}{r:List MV}:fR X (x::r)↔qf X x∧fR X r:=by
 simp only [fR,qf,mC,ay];exact ⟨fun h=>⟨fun i hi=>h i (.inl hi),fun i hi=>h i (.inr hi)⟩,fun h i hi=>hi.elim (h.1 i) (h.2 i)⟩
theorem fR.mem {X:List Nat}{l:List MV}(h:fR X l){v:MV}(hv:v∈l):qf X v:=by
 induction l with
 | nil=>cases hv
 | cons x r ih =>
   rcases aM.1 hv with rfl | hv
   · exact (fR.cons.1 h).1
   · exact ih (fR.cons.1 h).2 hv
section
variable {X:List Nat}{h k:cq}
mutual
theorem Sl (ha:c7 X h k):∀ {v:MV},qf X v→mB k v=mB h v
 | .p _,_=>rfl
 | .nil _,_=>rfl
 | .own id path off len g,hr=>by simp only [mB,ha id (hr id (by simp [kf]))]
 | .ptr id np rp g o,hr=>by simp only [mB,ha id (hr id (by simp [kf]))]
 | .fC id path g,hr=>by simp only [mB,ha id (hr id (by simp [kf]))]
 | .agg l,hr=>by simp only [mB,Jf ha (v:=l) (by simpa only [qf,fR,kf] using hr)]
 | .fn f l,hr=>by simp only [mB,Jf ha (v:=l) (by simpa only [qf,fR,kf] using hr)]
 | .eO _,_=>rfl
 | .dead _,_=>rfl
theorem Jf (ha:c7 X h k):∀ {v:List MV},fR X v→rH k v=rH h v
 | [],_=>rfl
 | x::r,hr=>by
   have:=fR.cons.1 hr
   simp only [rH,Sl ha this.1,Jf ha this.2]
end
end
mutual
theorem Jg {X:List Nat}{γ:Nat}:∀ {v:MV} {h k h':cq} {t:T Nat},c7 X h k→qf X v→o9 γ h v=some (t,h')→o9 γ k v=some (t,glue X h' k)∧oF X h h'
 | .p _,h,k,h',t,ha,hr,he=>by
   simp only [o9,aa,ae] at he ⊢;obtain ⟨rfl,rfl⟩:=he;exact ⟨⟨rfl,(tF ha).symm⟩,oF.refl _ _⟩
 | .nil _,h,k,h',t,ha,hr,he=>by
   simp only [o9,aa,ae] at he ⊢;obtain ⟨rfl,rfl⟩:=he;exact ⟨⟨rfl,(tF ha).symm⟩,oF.refl _ _⟩
 | .own id path off len g,h,k,h',t,ha,hr,he=>by
   have gx:mD id∈X:=hr id (by simp [kf])
   simp only [o9] at he ⊢;rw [ha id gx];have fin:∀ {o},h'=cD h id o→cD k id o=glue X h' k∧oF X h h':=by
    rintro o rfl;exact ⟨by rw [zn gx,tF ha],(oF.refl X h).cD gx o⟩
   split at he
   · rename_i uQ z l hh;split at he
     · rename_i hc;rw [if_pos hc];simp only [aa,ae] at he ⊢;obtain ⟨rfl,rfl⟩:=he;exact ⟨⟨rfl,(fin rfl).1⟩,(fin rfl).2⟩
     · cases he
   · rename_i mF;split at he
     · rename_i uQ z l n hs;split at he
       · rename_i hc;split at he
         · rename_i o' eY;simp only [aa,ae] at he;obtain ⟨rfl,rfl⟩:=he;refine ⟨?_,(fin rfl).2⟩;rw [if_pos hc,(fin rfl).1]
         · cases he
       · cases he
     · cases he
 | .fC id path g,h,k,h',t,ha,hr,he=>by
   have gx:mD id∈X:=hr id (by simp [kf])
   simp only [o9] at he ⊢;rw [ha id gx];split at he
   · rename_i uQ ks vs hh;split at he
     · rename_i hc;rw [if_pos hc];simp only [aa,ae] at he ⊢;obtain ⟨rfl,rfl⟩:=he;exact ⟨⟨rfl,by rw [zn gx,tF ha]⟩,(oF.refl X h).cD gx _⟩
     · cases he
   · cases he
 | .agg l,h,k,h',t,ha,hr,he=>by
   simp only [o9] at he ⊢;split at he
   · rename_i ts h1 hi;simp only [aa,ae] at he;obtain ⟨rfl,rfl⟩:=he;obtain ⟨h2,h3⟩:=GJ ha (by simpa only [qf,fR,kf] using hr) hi
     rw [h2];exact ⟨rfl,h3⟩
   · cases he
 | .ptr ..,h,k,h',t,ha,hr,he=>by
   simp only [o9,aa,ae] at he ⊢;obtain ⟨rfl,rfl⟩:=he;exact ⟨⟨rfl,(tF ha).symm⟩,oF.refl _ _⟩
 | .fn ..,h,k,h',t,ha,hr,he=>by
   simp only [o9,aa,ae] at he ⊢;obtain ⟨rfl,rfl⟩:=he;exact ⟨⟨rfl,(tF ha).symm⟩,oF.refl _ _⟩
 | .eO _,h,k,h',t,ha,hr,he=>by simp only [o9,reduceCtorEq] at he
 | .dead _,h,k,h',t,ha,hr,he=>by simp only [o9,reduceCtorEq] at he
theorem GJ {X:List Nat}{γ:Nat}:∀ {v:List MV} {h k h':cq} {t:List (T Nat)},c7 X h k→fR X v→tN γ h v=some (t,h')→tN γ k v=some (t,glue X h' k)∧oF X h h'
 | [],h,k,h',t,ha,hr,he=>by
   simp only [tN,aa,ae] at he ⊢;obtain ⟨rfl,rfl⟩:=he;exact ⟨⟨rfl,(tF ha).symm⟩,oF.refl _ _⟩
 | x::r,h,k,h',t,ha,hr,he=>by
   have hr:=fR.cons.1 hr;simp only [tN] at he ⊢;split at he
   · rename_i t1 h1 h2;split at he
     · rename_i ts h3 h4;simp only [aa,ae] at he;obtain ⟨rfl,rfl⟩:=he;obtain ⟨q1,q2⟩:=Jg ha hr.1 h2;obtain ⟨q3,q4⟩:=GJ (k:=glue X h1 k) (c7.glue h1 k) hr.2 h4;rw [q1];simp only [q3];refine ⟨?_,q2.trans q4⟩;congr 2;funext i;unfold glue;split
       · rfl
       · rename_i hi;simp [hi]
     · cases he
   · cases he
end
def Loc (X:List Nat)(h h':cq)(f:cq→Option (MV×cq))(v:MV):Prop:=oF X h h'∧∀ k,c7 X h k→f k=some (v,glue X h' k)
theorem Loc.read {X:List Nat}{h:cq}{f:cq→Option (MV×cq)}{v:MV}(hf:∀ k,c7 X h k→f k=some (v,k)):Loc X h h f v :=
 ⟨oF.refl _ _,fun k ha=>by rw [hf k ha,tF ha]⟩
theorem u5 {X:List Nat}{h k h':cq}{d:Option Nat}{o:Obj Nat}(hd:∀ x,d=some x→mD x∈X)(he:mZ d h o=some h'):mZ d (glue X h k) o=some (glue X h' k)∧oF X h h':=by
 cases d with
 | none=>simp [mZ] at he
 | some d =>
   simp only [mZ,aa] at he ⊢;subst he;exact ⟨(zn (hd d rfl)).symm,(oF.refl X h).cD (hd d rfl) _⟩
end Go.Mid
namespace Go.Mid
theorem EO {h:cq}{l:List Nat}{i:Nat}(hi:i∈l):i∈js h l:=Si.2 (ay.2 (.inl hi))
section
variable {K:jC}{γ:Nat}{d:Option Nat}{s:gJ}{X:List Nat}{h h':cq}{v:MV}
theorem Zy (K:jC)(γ:Nat)(d:Option Nat)(s:gJ){op:sr}(hi:idle op=true)(h:cq):∃ f:Option MV,∀ (γ':Nat) (k:cq),cf K γ' d s k op=f.map fun v=>(v,k):=by
 refine ⟨(cf K γ d s h op).map (·.1),fun γ' k=>?_⟩
 cases op<;>simp only [idle,aF] at hi<;>simp only [cf]<;>(repeat' split)<;>(try rfl)<;>simp_all
theorem Sm {id g z off:Nat}{path:List Nat}{vs:List PV}{h1:cq}(gx:mD id∈X)(he:ql h id path g z off vs=some h1):oF X h h1∧∀ k,c7 X h k→ql k id path g z off vs=some (glue X h1 k):=by
 have hex:∃ o,h1=cD h id o∧∀ k,k id=h id→ql k id path g z off vs=some (cD k id o):=by
  unfold ql at he;split at he
  · rename_i hv;split at he
    · rename_i a z' l hh;split at he
      · rename_i hc;simp only [aa] at he;refine ⟨_,he.symm,fun k hk=>?_⟩
        unfold ql;rw [if_pos hv,hk,hh];simp only [if_pos hc]
      · cases he
    · rename_i mF;split at he
      · rename_i a z' l n hs;split at he
        · rename_i hc;split at he
          · rename_i o' hp;simp only [aa] at he;refine ⟨_,he.symm,fun k hk=>?_⟩
            unfold ql;rw [if_pos hv,hk];split
            · rename_i hh;exact (mF _ _ _ hh rfl).elim
            · simp only [hs,if_pos hc,hp]
          · cases he
        · cases he
      · cases he
  · cases he
 obtain ⟨o,rfl,hk⟩:=hex;exact ⟨(oF.refl X h).cD gx o,fun k ha=>by rw [hk k (ha id gx),zn gx,tF ha]⟩
theorem Jh {y:MV}{k:cq}(ha:c7 X h k)(hr:qf X y):elems k y=elems h y:=by
 cases y<;>try rfl
 · rename_i v;cases v<;>rfl
 · rename_i id path off len g;simp only [elems,ha id (hr id (by simp [kf]))]
theorem C2o {y:MV}{ts:List (T Nat)}{h1:cq}(hr:qf X y)(he:rW h y=some (ts,h1)):oF X h h1∧∀ k,c7 X h k→rW k y=some (ts,glue X h1 k):=by
 unfold rW at he;split at he
 · cases he
 · rename_i Rk iw;split at he
   · rename_i hp;simp only [aa,ae] at he;obtain ⟨rfl,rfl⟩:=he;refine ⟨oF.refl _ _,fun k ha=>?_⟩
     unfold rW;rw [Jh ha hr,iw];simp only [if_pos hp,tF ha]
   · rename_i hp;split at he
     · rename_i id len g;have gx:mD id∈X:=hr id (by simp [kf])
       split at he
       · rename_i g1 z1 l hh;split at he
         · rename_i hc;simp only [aa,ae] at he;obtain ⟨rfl,rfl⟩:=he;refine ⟨(oF.refl X h).cD gx _,fun k ha=>?_⟩
           unfold rW;rw [Jh ha hr,iw];simp only [if_neg hp,ha id gx,hh,if_pos hc,zn gx,tF ha]
         · cases he
       · cases he
     · cases he
theorem C7i {op:sr}(fh:∀ md f args,op≠.call md f args)(hd:∀ x,d=some x→mD x∈X)(hr:fR X ((fA op).map (cR s)))(he:cf K γ d s h op=some (v,h')):Loc X h h' (fun k=>cf K γ d s k op) v:=by
 by_cases hi:idle op=true
 · obtain ⟨f,hf⟩:=Zy K γ d s hi h;rw [hf] at he;cases f with
   | none=>cases he
   | some u =>
     simp only [ar,aa,ae] at he;obtain ⟨rfl,rfl⟩:=he;exact Loc.read fun k _=>by rw [hf];rfl
 · cases op<;>simp only [idle,Bool.true_eq_false,not_true_eq_false,not_false_eq_true] at hi
   case nilv z =>
    simp only [cf] at he ⊢;split at he
    · rename_i h1 ho;simp only [aa,ae] at he;obtain ⟨rfl,rfl⟩:=he;refine ⟨(u5 (k:=h) hd ho).2,fun k ha=>?_⟩
      have:=(u5 (k:=k) hd ho).1
      rw [tF ha] at this;simp only [this]
    · cases he
   case box x =>
    have qp:qf X (cR s x):=hr.mem (by simp [fA])
    simp only [cf] at he ⊢;split at he
    · rename_i t h1 hi;split at he
      · rename_i h2 ho;simp only [aa,ae] at he;obtain ⟨rfl,rfl⟩:=he;refine ⟨(Jg (c7.refl X h) qp hi).2.trans (u5 (k:=h) hd ho).2,fun k ha=>?_⟩
        simp only [(Jg ha qp hi).1,(u5 (k:=k) hd ho).1]
      · cases he
    · cases he
   case bsl mt z parts =>
    have qp:fR X (parts.map (cR s)):=by simpa [fA] using hr
    simp only [cf] at he ⊢;split at he
    · rename_i kV;split at he
      · rename_i vs fX;simp only [aa,ae] at he;obtain ⟨rfl,rfl⟩:=he;exact Loc.read fun k _=>by rw [if_pos kV]
      · rename_i fX;split at he
        · rename_i ts h1 hi;split at he
          · rename_i fg;split at he
            · rename_i h2 ho;simp only [aa,ae] at he;obtain ⟨rfl,rfl⟩:=he;refine ⟨(GJ (c7.refl X h) qp hi).2.trans (u5 (k:=h) hd ho).2,fun k ha=>?_⟩
              simp only [if_pos kV,(GJ ha qp hi).1,if_pos fg,(u5 (k:=k) hd ho).1]
            · cases he
          · cases he
        · cases he
    · cases he
   case bslp z parts =>
    have qp:fR X (parts.map (cR s)):=by simpa [fA] using hr
    simp only [cf] at he ⊢;split at he
    · rename_i kV;split at he
      · rename_i ts h1 hi;split at he
        · rename_i fg;split at he
          · rename_i h2 ho;split at he
            · rename_i u hu;simp only [aa,ae] at he;obtain ⟨rfl,rfl⟩:=he;have gx:mD (d.getD 0)∈X:=by
               cases d with
               | none=>simp [mZ] at ho
               | some x=>exact hd x rfl
              have q2:qf X (.own (d.getD 0) [] 0 ts.length γ):=fun i hi=>by
               simp only [kf,aW] at hi;subst hi;exact gx
              have lK:oF X h h2:=(GJ (c7.refl X h) qp hi).2.trans (u5 (k:=h) hd ho).2;refine ⟨lK.cD gx _,fun k ha=>?_⟩
              have nr:mB (glue X h2 k) (.own (d.getD 0) [] 0 ts.length γ)=some u:=by rw [Sl (c7.glue h2 k) q2,hu]
              simp only [if_pos kV,(GJ ha qp hi).1,if_pos fg,(u5 (k:=k) hd ho).1,nr,zn gx]
            · cases he
          · cases he
        · cases he
      · cases he
    · cases he
   case load agg n x =>
    have qp:qf X (cR s x):=hr.mem (by simp [fA])
    simp only [cf] at he ⊢;split at he
    · rename_i u hu;simp only [aa,ae] at he;obtain ⟨rfl,rfl⟩:=he;refine Loc.read fun k ha=>?_
      have:tT k agg n (cR s x)=tT h agg n (cR s x):=by
       cases hx:cR s x with
       | ptr id np rp g o=>simp only [tT,ha id (qp id (by rw [hx];simp [kf]))]
       | p v=>cases v<;>rfl
       | _=>rfl
      rw [this,hu]
    · cases he
   case store n a x =>
    have hra:qf X (cR s a):=hr.mem (by simp [fA])
    have qp:qf X (cR s x):=hr.mem (by simp [fA])
    simp only [cf,Gc] at he ⊢;split at he
    · rename_i id np rp g0 o0 hp;have gx:mD id∈X:=hra id (by rw [hp];simp [kf])
      have pP:∀ {u:MV} {h2:cq},yJ γ h n id (rG np rp) (cR s x)=some (u,h2)→oF X h h2∧∀ k,c7 X h k→yJ γ k n id (rG np rp) (cR s x)=some (u,glue X h2 k):=by
       intro u h2 hn;unfold yJ at hn;split at hn
       · rename_i t h1 hi;split at hn
         · rename_i fg;split at hn
           · rename_i o' eY;simp only [aa,ae] at hn;obtain ⟨rfl,rfl⟩:=hn;refine ⟨(Jg (c7.refl X h) qp hi).2.cD gx _,fun k ha=>?_⟩
             unfold yJ;have e:glue X h1 k id=h1 id:=by simp [glue,gx]
             simp only [(Jg ha qp hi).1,if_pos fg,e,eY,zn gx]
           · cases hn
         · cases hn
       · cases hn
      split at he
      · rename_i old s' o1 hl;split at he
        · rename_i hc;split at he
          · rename_i uU q9 off len g' a' z l n' hx;split at he
            · rename_i oX;split at he
              · rename_i o' eY;simp only [aa,ae] at he;obtain ⟨rfl,rfl⟩:=he;refine ⟨(oF.refl X h).cD gx _,fun k ha=>?_⟩
                simp only [hp,hx,ha id gx,hl,if_pos hc,if_pos oX,eY,zn gx,tF ha]
              · cases he
            · rename_i oX;obtain ⟨q1,q2⟩:=pP he;refine ⟨q1,fun k ha=>?_⟩
              simp only [hp,ha id gx,hl,if_pos hc,if_neg oX,q2 k ha];rw [hx];simp only [if_neg oX]
          · rename_i mF;obtain ⟨q1,q2⟩:=pP he;refine ⟨q1,fun k ha=>?_⟩
            simp only [hp,ha id gx,hl,if_pos hc];exact q2 k ha
        · cases he
      · cases he
    · cases he
   case mksl z bytes zero l c =>
    simp only [cf] at he ⊢;split at he
    · split at he
      · split at he
        · rename_i hc;split at he
          · rename_i h1 ho;simp only [aa,ae] at he;obtain ⟨rfl,rfl⟩:=he;refine ⟨(u5 (k:=h) hd ho).2,fun k ha=>?_⟩
            have:=(u5 (k:=k) hd ho).1
            rw [tF ha] at this;simp only [if_pos hc,this]
          · cases he
        · cases he
      · cases he
    · cases he
   case slice z x lo hj =>
    have qp:qf X (cR s x):=hr.mem (by simp [fA])
    simp only [cf] at he ⊢;split at he
    · rename_i u hu;simp only [aa,ae] at he;obtain ⟨rfl,rfl⟩:=he;refine Loc.read fun k ha=>?_
      have:Av k z (cR s x) (lo.map (cR s)) (hj.map (cR s))=Av h z (cR s x) (lo.map (cR s)) (hj.map (cR s)):=by
       cases hx:cR s x with
       | own id path off len g=>simp only [Av,ha id (qp id (by rw [hx];simp [kf]))]
       | p v=>cases v<;>rfl
       | _=>rfl
      rw [this,hu]
    · cases he
   case clr z zero x =>
    have qp:qf X (cR s x):=hr.mem (by simp [fA])
    simp only [cf] at he ⊢;split at he
    · rename_i hx;simp only [aa,ae] at he;obtain ⟨rfl,rfl⟩:=he;exact Loc.read fun k _=>rfl
    · rename_i hx;simp only [aa,ae] at he;obtain ⟨rfl,rfl⟩:=he;exact Loc.read fun k _=>rfl
    · rename_i id path off len g0 hx;split at he
      · rename_i h1 ho;split at he
        · rename_i hc;simp only [aa,ae] at he;obtain ⟨rfl,rfl⟩:=he;obtain ⟨q1,q2⟩:=Sm (X:=X) (qp id (by rw [hx];simp [kf])) ho
          refine ⟨q1,fun k ha=>?_⟩
          simp only [q2 k ha,if_pos hc]
        · cases he
      · cases he
    · cases he
   case iaddr z x i =>
    have qp:qf X (cR s x):=hr.mem (by simp [fA])
    simp only [cf] at he ⊢;split at he
    · rename_i u hu;simp only [aa,ae] at he;obtain ⟨rfl,rfl⟩:=he;refine Loc.read fun k ha=>?_
      have:Aw k z (cR s x) (cR s i)=Aw h z (cR s x) (cR s i):=by
       cases hx:cR s x with
       | own id path off len g=>simp only [Aw,ha id (qp id (by rw [hx];simp [kf]))]
       | p v=>cases v<;>rfl
       | _=>rfl
      rw [this,hu]
    · cases he
   case call md f args=>exact absurd rfl (fh md f args)
   case app pz z bytes x y =>
    have qp:qf X (cR s x):=hr.mem (by simp [fA])
    have GK:qf X (cR s y):=hr.mem (by simp [fA])
    have B2:∀ {u:MV} {h2:cq},rJ γ d h z bytes (cR s x) (cR s y)=some (u,h2)→(oF X h h2∧qf X u)∧∀ k,c7 X h k→rJ γ d k z bytes (cR s x) (cR s y)=some (u,glue X h2 k):=by
     intro u h2 ho;unfold rJ at ho;split at ho
     · cases ho
     · rename_i ts h1 BQ;obtain ⟨q1,q2⟩:=C2o GK BQ;split at ho
       · cases ho
       · rename_i fg;split at ho
         · rename_i zz hx;split at ho
           · rename_i fY;split at ho
             · rename_i h3 xt;simp only [aa,ae] at ho;obtain ⟨rfl,rfl⟩:=ho;have Sn:qf X (.own (d.getD 0) [] 0 ts.length γ):=by
                intro i hi;simp only [kf,aW] at hi;subst hi;cases d with
                | none=>simp [mZ] at xt
                | some x=>exact hd x rfl
               refine ⟨⟨q1.trans (u5 (k:=h1) hd xt).2,Sn⟩,fun k ha=>?_⟩
               unfold rJ;simp only [q2 k ha,fg,aF,if_false,hx,if_pos fY,(u5 (k:=k) hd xt).1]
             · cases ho
           · cases ho
         · rename_i id path off len g0 hx;have gx:mD id∈X:=qp id (by rw [hx];simp [kf])
           have xS:∀ k,glue X h1 k id=h1 id:=fun k=>by simp [glue,gx]
           split at ho
           · rename_i lK;split at ho
             · rename_i g1 z1 l hh;unfold D0 at ho;split at ho
               · rename_i hc;simp only [aa,ae] at ho;obtain ⟨rfl,rfl⟩:=ho;refine ⟨⟨q1.cD gx _,fun i hi=>by simp only [kf,aW] at hi;subst hi;exact gx⟩,fun k ha=>?_⟩
                 unfold rJ;simp only [q2 k ha,fg,aF,if_false,hx,if_pos lK,xS k,hh,D0,if_pos hc,zn gx]
               · cases ho
             · rename_i mF;unfold Au at ho;split at ho
               · rename_i g1 z1 l n hs;split at ho
                 · rename_i hc;split at ho
                   · rename_i o' eY;split at ho
                     · rename_i h3 xt;simp only [aa,ae] at ho;obtain ⟨rfl,rfl⟩:=ho;have Sn:qf X (.own (d.getD 0) [] 0 (len+ts.length) γ):=by
                        intro i hi;simp only [kf,aW] at hi;subst hi;cases d with
                        | none=>simp [mZ] at xt
                        | some x=>exact hd x rfl
                       refine ⟨⟨(q1.cD gx _).trans (u5 (k:=h1) hd xt).2,Sn⟩,fun k ha=>?_⟩
                       have Ji:=(u5 (k:=k) hd xt).1;rw [zn gx] at Ji;unfold rJ;simp only [q2 k ha,fg,aF,if_false,hx,if_pos lK,xS k];unfold Au;simp only [xS k,hs,if_pos hc,eY,Ji]
                     · cases ho
                   · cases ho
                 · cases ho
               · cases ho
           · cases ho
         · cases ho
    simp only [cf] at he ⊢;split at he
    · rename_i id IX len g1 h1 ho;obtain ⟨⟨q1,q2⟩,q3⟩:=B2 ho;have gx:mD id∈X:=q2 id (by simp [kf])
      split at he
      · rename_i I2;split at he
        · rename_i u hu;simp only [aa,ae] at he;obtain ⟨rfl,rfl⟩:=he;refine ⟨q1.cD gx _,fun k ha=>?_⟩
          have nr:mB (glue X h1 k) (.own id [] IX len g1)=some u:=by rw [Sl (c7.glue h1 k) q2,hu]
          simp only [q3 k ha,if_pos I2,nr,zn gx]
        · cases he
      · rename_i I2;simp only [aa,ae] at he;obtain ⟨rfl,rfl⟩:=he;refine ⟨q1,fun k ha=>?_⟩
        simp only [q3 k ha,if_neg I2]
    · cases he
   case cpy z x y =>
    have qp:qf X (cR s x):=hr.mem (by simp [fA])
    have GK:qf X (cR s y):=hr.mem (by simp [fA])
    simp only [cf,Gb] at he ⊢;split at he
    · cases he
    · rename_i ts iw;split at he
      · cases he
      · rename_i vs fX;split at he
        · rename_i fg;split at he
          · rename_i zz hx;simp only [aa,ae] at he;obtain ⟨rfl,rfl⟩:=he;refine Loc.read fun k ha=>?_
            simp only [Jh ha GK,iw,fX,if_pos fg]
          · rename_i id path off len g hx;split at he
            · rename_i h1 ho;simp only [aa,ae] at he;obtain ⟨rfl,rfl⟩:=he;obtain ⟨q1,q2⟩:=Sm (X:=X) (qp id (by rw [hx];simp [kf])) ho
              refine ⟨q1,fun k ha=>?_⟩
              simp only [Jh ha GK,iw,fX,if_pos fg,q2 k ha]
            · cases he
          · cases he
        · cases he
   case appn z bytes zero x n =>
    simp only [cf] at he ⊢;split at he
    · split at he
      · split at he
        · rename_i hc;split at he
          · rename_i h1 ho;simp only [aa,ae] at he;obtain ⟨rfl,rfl⟩:=he;refine ⟨(u5 (k:=h) hd ho).2,fun k ha=>?_⟩
            have:=(u5 (k:=k) hd ho).1
            rw [tF ha] at this;simp only [if_pos hc,this]
          · cases he
        · cases he
      · cases he
    · cases he
   case appk z x y =>
    have qp:qf X (cR s x):=hr.mem (by simp [fA])
    have GK:qf X (cR s y):=hr.mem (by simp [fA])
    simp only [cf] at he ⊢;split at he
    · cases he
    · rename_i ts iw;split at he
      · cases he
      · rename_i vs fX;split at he
        · rename_i fg;split at he
          · rename_i id path off len g hx;split at he
            · rename_i h1 ho;simp only [aa,ae] at he;obtain ⟨rfl,rfl⟩:=he;obtain ⟨q1,q2⟩:=Sm (X:=X) (qp id (by rw [hx];simp [kf])) ho
              refine ⟨q1,fun k ha=>?_⟩
              simp only [Jh ha GK,iw,fX,if_pos fg,q2 k ha]
            · cases he
          · cases he
        · cases he
   case sliceK z x lo hj =>
    have qp:qf X (cR s x):=hr.mem (by simp [fA])
    simp only [cf] at he ⊢;split at he
    · rename_i id path off len g hx;split at he
      · rename_i g' z' l' hv;split at he
        · rename_i hc;split at he
          · rename_i b hb;split at he
            · rename_i c tC;simp only [aa,ae] at he;obtain ⟨rfl,rfl⟩:=he;refine Loc.read fun k ha=>?_
              simp only [ha id (qp id (by rw [hx];simp [kf])),hv,if_pos hc,hb,tC]
            · cases he
          · cases he
        · cases he
      · cases he
    · cases he
   all_goals simp only [cf,reduceCtorEq] at he
end
end Go.Mid
namespace Go.Mid
section
variable {h k:cq}{ρ:Nat→Option Nat}{ζ:Nat→Nat}
mutual
theorem Sp (ha:∀ i j,ρ i=some j→k i=h i):∀ (v:MV),j6 k ρ ζ v=j6 h ρ ζ v
 | .p _=>rfl
 | .nil _=>rfl
 | .own id path off len g=>by
   simp only [j6];cases hr:ρ id with
   | none=>rfl
   | some j =>
     have:uP k id path g=uP h id path g:=by unfold uP;rw [ha id j hr]
     simp only [this]
 | .ptr id np rp g o=>by
   simp only [j6];cases hr:ρ id with
   | none=>rfl
   | some j =>
     have:xP k id np rp g o=xP h id np rp g o:=by unfold xP;rw [ha id j hr]
     simp only [this]
 | .fC id path g=>by
   simp only [j6];cases hr:ρ id with
   | none=>rfl
   | some j =>
     have:DW k id path g=DW h id path g:=by unfold DW;rw [ha id j hr]
     simp only [this]
 | .agg l=>by simp only [j6,Jj ha l]
 | .fn _ l=>by simp only [j6,Jj ha l]
 | .eO l=>by simp only [j6,Jj ha l]
 | .dead _=>rfl
theorem Jj (ha:∀ i j,ρ i=some j→k i=h i):∀ (l:List MV),sw k ρ ζ l=sw h ρ ζ l
 | []=>rfl
 | x::r=>by simp only [sw,Sp ha x,Jj ha r]
end
end
section
variable {hr h k:cq}{ρ:Nat→Nat}
mutual
theorem Sq (ha:∀ i o,hr i=some o→k (ρ i)=h (ρ i)):∀ (v:MV),nn hr k ρ v=nn hr h ρ v
 | .p _=>rfl
 | .nil _=>rfl
 | .own id path off len g=>by
   cases ho:hr id with
   | none =>
     have:uP hr id path g=false:=by
      unfold uP;rw [ho];have e:jG (none:Option (Obj Nat)) path=none:=by cases path<;>rfl
      rw [e]
     simp only [nn,this,aF,if_false]
   | some o=>simp only [nn,ha id o ho]
 | .ptr id np rp g o=>by
   cases ho:hr id with
   | none =>
     have:xP hr id np rp g o=false:=by
      unfold xP;rw [ho];have e:look (none:Option (Obj Nat)) np rp=none:=by
       cases np with
       | none=>rfl
       | some p=>simp only [look];cases p<;>rfl
      rw [e]
     simp only [nn,this,aF,if_false]
   | some o=>simp only [nn,ha id o ho]
 | .fC id path g=>by
   cases ho:hr id with
   | none =>
     have:DW hr id path g=false:=by
      unfold DW;rw [ho];have e:QI (none:Option (Obj Nat)) path=none:=by cases path<;>rfl
      rw [e]
     simp only [nn,this,aF,if_false]
   | some o=>simp only [nn,ha id o ho]
 | .agg l=>by simp only [nn,NA ha l]
 | .fn _ l=>by simp only [nn,NA ha l]
 | .eO l=>by simp only [nn,NA ha l]
 | .dead _=>rfl
theorem NA (ha:∀ i o,hr i=some o→k (ρ i)=h (ρ i)):∀ (l:List MV),tO hr k ρ l=tO hr h ρ l
 | []=>rfl
 | x::r=>by simp only [tO,Sq ha x,NA ha r]
end
end
section
variable {X:List Nat}{h k:cq}
theorem NC {l:List Nat}(ha:c7 X h k)(hl:∀ i∈l,mD i∈X):js k l=js h l:=by
 unfold js;congr 2
 induction l with
 | nil=>rfl
 | cons x r ih=>simp only [List.flatMap_cons,ha x (hl x (by simp)),ih (fun i hi=>hl i (by simp [hi]))]
theorem C7j {l:List Nat}(ha:c7 X h k)(hl:∀ i∈l,mD i∈X):sx k l=sx h l:=by
 induction l with
 | nil=>rfl
 | cons x r ih=>simp only [sx,ha x (hl x (by simp)),ih (fun i hi=>hl i (by simp [hi]))]
theorem Zz {γ:Nat}{d:Option Nat}{ids:List Nat}{r v:MV}{ext dK:List (Obj Nat)}{h':cq}(hd:∀ x,d=some x→mD x∈X)(hn:ids.Nodup)(B1:∀ i∈ids,mD i∈X)(ht:yI γ d h ids r ext dK=some (v,h')) :
 Loc X h h' (fun k=>yI γ d k ids r ext dK) v:=by
 unfold yI at ht
 dsimp only at ht
 split at ht
 · cases ht
 · rename_i zo;have ee:=zo;simp only [not_or,ne_eq,Decidable.not_not,ie,Nat.not_lt] at ee;obtain ⟨hl,B3,lL,kW,hex⟩:=ee;simp only [aa,ae] at ht;obtain ⟨rfl,rfl⟩:=ht;have jT:∀ i j,mY (kr d dK.length) ids i=some j→mD i∈X:=by
    intro i j hs;rcases Nw hs with ⟨m,hm,_⟩ | ⟨_,m,hm,_⟩
    · have eC:=(aL.1 hm).1;simp only [kr,List.length_map,List.length_range] at eC;rw [Zb d _ m eC] at hm;have hi:=cm hm;cases d with
      | none =>
        exfalso;refine B3 ⟨fun e=>?_,rfl⟩
        rw [e] at eC;exact absurd eC (by simp)
      | some x =>
        have hx:=hd x rfl;simp only [bF,xS] at hi hex;subst hi;have e:mD (x+1000*(m+1))=mD x:=by
         unfold mD;rw [if_pos (by omega),if_pos (by omega)]
         omega
        rw [e];exact hx
    · exact B1 i (bH hm)
   refine ⟨fun i hi=>?_,fun k ha=>?_⟩
   · cases hs:mY (kr d dK.length) ids i with
     | none=>simp only [hs]
     | some j=>exact (hi (jT i j hs)).elim
   · unfold yI
     dsimp only
     rw [if_neg zo];have hm:∀ i j,mY (kr d dK.length) ids i=some j→qV γ k i j=qV γ h i j:=by
      intro i j hs;unfold qV;rw [ha i (jT i j hs)]
     have Nz:∀ i o,kg ext dK i=some o→(match mY (kr d dK.length) ids (qb (d.getD 0) ids i) with | some j=>(kg ext dK j).map (qV γ k (qb (d.getD 0) ids i) j) | none=>k (qb (d.getD 0) ids i)) =
      (match mY (kr d dK.length) ids (qb (d.getD 0) ids i) with | some j=>(kg ext dK j).map (qV γ h (qb (d.getD 0) ids i) j) | none=>h (qb (d.getD 0) ids i)):=by
      intro i o ho
      have:=Zj (d:=d) hl hn lL kW ho
      rw [this];simp only [hm _ _ this]
     have hφ:nn (kg ext dK) (fun i=>match mY (kr d dK.length) ids i with | some j=>(kg ext dK j).map (qV γ k i j) | none=>k i) (qb (d.getD 0) ids) =
      nn (kg ext dK) (fun i=>match mY (kr d dK.length) ids i with | some j=>(kg ext dK j).map (qV γ h i j) | none=>h i) (qb (d.getD 0) ids):=by
      funext v;exact Sq Nz v
     refine congrArg some (Prod.ext (Sq Nz r) ?_);funext i;unfold glue;cases hs:mY (kr d dK.length) ids i with
     | some j =>
       simp only [jT i j hs,if_true,hm i j hs,hs];exact congrArg (fun φ=>Option.map (fun o=>kO φ (fun a=>a) (qV γ h i j o)) (kg ext dK j)) hφ
     | none =>
       simp only [hs];split
       · rename_i hi;exact ha i hi
       · rfl
theorem D01 {K:jC}{γ:Nat}{d:Option Nat}{s:gJ}{v:MV}{h':cq}{md:Nat}{f:dO}{args:List dO}(hd:∀ x,d=some x→mD x∈X)
 (hr:∀ i∈js h (js h (mC ((fA (.call md f args)).map (cR s)))),mD i∈X) (he:cf K γ d s h (.call md f args)=some (v,h')):Loc X h h' (fun k=>cf K γ d s k (.call md f args)) v:=by
 simp only [cf] at he ⊢;split at he
 · rename_i g al hcal;have dP:∀ i∈mC al,i∈mC ((fA (.call md f args)).map (cR s)):=by
    intro i hi;have B2:∀ l m:List MV,mC (l++m)=mC l++mC m:=by
     intro l m
     induction l with
     | nil=>rfl
     | cons x r ih=>simp only [List.cons_append,mC,ih,List.append_assoc]
    have fg:∀ (f0:Nat) (cs:List MV),callee (cR s f)=some (f0,cs)→∀ i∈mC cs,i∈kf (cR s f):=by
     intro f0 cs hcal i hi;unfold callee at hcal;split at hcal
     · cases hcal;exfalso
       have:∀ l:List PV,mC (l.map .p)=[]:=by
        intro l
        induction l with
        | nil=>rfl
        | cons x r ih=>simp only [aH,mC,kf,ih,bE]
       rw [this] at hi;cases hi
     · cases hcal;rename_i heq;rw [heq];simpa only [kf] using hi
     · cases hcal
    simp only [fA,aH,mC];unfold DY at hcal;split at hcal
    · rename_i f0 cs rO;split at hcal<;>(simp only [aa,ae] at hcal;obtain ⟨rfl,rfl⟩:=hcal)
      · rw [B2] at hi;rcases ay.1 hi with hi | hi
        · exact ay.2 (.inr hi)
        · exact ay.2 (.inl (fg _ _ rO i hi))
      · rw [B2] at hi;rcases ay.1 hi with hi | hi
        · exact ay.2 (.inl (fg _ _ rO i hi))
        · exact ay.2 (.inr hi)
    · cases hcal
   have Da:∀ (l m:List Nat),(∀ i∈l,i∈m)→∀ i∈js h l,i∈js h m:=by
    intro l m ZA i hi;unfold js at hi ⊢;rw [Si] at hi ⊢;rcases ay.1 hi with hi | hi
    · exact ay.2 (.inl (ZA i hi))
    · obtain ⟨j,hj,gU⟩:=ig.1 hi;exact ay.2 (.inr (ig.2 ⟨j,ZA j hj,gU⟩))
   have h2:∀ i∈js h (js h (mC al)),mD i∈X:=fun i hi=>hr i (Da _ _ (Da _ _ dP) i hi)
   have h1:∀ i∈js h (mC al),mD i∈X:=fun i hi=>h2 i (EO hi)
   have h0:fR X al:=fun i hi=>h1 i (EO hi)
   split at he
   · unfold yH at he;split at he
     · rename_i vs fX;split at he
       · rename_i u fr qz;split at he
         · rename_i hc;simp only [aa,ae] at he;obtain ⟨rfl,rfl⟩:=he;refine Loc.read fun k ha=>?_
           try simp only
           unfold yH;rw [Jf ha h0,fX];simp only [qz,if_pos hc]
         · cases he
       · cases he
     · cases he
   · unfold Bp at he
     dsimp only at he
     split at he
     · cases he
     · rename_i qk sE;split at he
       · cases he
       · rename_i r ext dK hk;obtain ⟨q1,q2⟩:=Zz hd (Sj _) h2 he;refine ⟨q1,fun k ha=>?_⟩
         try simp only
         unfold Bp
         dsimp only
         have e1:js k (mC al)=js h (mC al):=NC ha h0;have e2:js k (js h (mC al))=js h (js h (mC al)):=NC ha h1;have Ea:∀ i j,tR (js h (js h (mC al))) i=some j→k i=h i:=by
          intro i j gU;unfold tR at gU;cases hi:pc (js h (js h (mC al))) i with
          | none=>simp [hi] at gU
          | some m=>exact ha i (h2 i (bH (EI hi)))
         have e3:j6 k (tR (js h (js h (mC al)))) (fun _=>0)=j6 h (tR (js h (js h (mC al)))) (fun _=>0):=by
          funext v;exact Sp Ea v
         rw [e1,e2,C7j ha h2,sE];simp only [e3,Jj Ea,hk];exact q2 k ha
   · unfold Aq at he;split at he
     · rename_i vs fX;split at he
       · rename_i r dK hk;split at he
         · rename_i hc;obtain ⟨q1,q2⟩:=Zz (X:=X) hd List.nodup_nil (by simp) he
           refine ⟨q1,fun k ha=>?_⟩
           try simp only
           unfold Aq;rw [Jf ha h0,fX];simp only [hk,if_pos hc];exact q2 k ha
         · cases he
       · cases he
     · cases he
 · cases he
end
end Go.Mid
namespace Go.Mid
section
variable {K:jC}{g:Nat}{d:Option Nat}{s s2:gJ}{h h':cq}{v:MV}
theorem ZB {op:sr}(hs:∀ x∈fA op,cR s2 x=cR s x):cf K g d s2 h op=cf K g d s h op:=by
 have hl:∀ l:List dO,(∀ x∈l,cR s2 x=cR s x)→l.map (cR s2)=l.map (cR s):=fun l hl=>eU hl
 cases op with
 | build zs l=>simp only [cf,hl l (by simpa [fA] using hs)]
 | bsl mt z l=>simp only [cf,hl l (by simpa [fA] using hs)]
 | bslp z l=>simp only [cf,hl l (by simpa [fA] using hs)]
 | sP f l=>simp only [cf,hl l (by simpa [fA] using hs)]
 | mx l=>simp only [cf,hl l (by simpa [fA] using hs)]
 | mn l=>simp only [cf,hl l (by simpa [fA] using hs)]
 | call md f l=>simp only [cf,hs f (by simp [fA]),hl l (fun x hx=>hs x (by simp [fA,hx]))]
 | slice z x lo hi =>
   have h1:lo.map (cR s2)=lo.map (cR s):=by
    cases lo with
    | none=>rfl
    | some y=>simp only [ar,hs y (by simp [fA])]
   have h2:hi.map (cR s2)=hi.map (cR s):=by
    cases hi with
    | none=>rfl
    | some y=>simp only [ar,hs y (by simp [fA])]
   simp only [cf,hs x (by simp [fA]),h1,h2]
 | ny x lo hi =>
   have h1:lo.map (cR s2)=lo.map (cR s):=by
    cases lo with
    | none=>rfl
    | some y=>simp only [ar,hs y (by simp [fA])]
   have h2:hi.map (cR s2)=hi.map (cR s):=by
    cases hi with
    | none=>rfl
    | some y=>simp only [ar,hs y (by simp [fA])]
   simp only [cf,hs x (by simp [fA]),h1,h2]
 | nilv z=>rfl
 | tM=>rfl
 | bad=>rfl
 | pick c x y=>simp only [cf,hs c (by simp [fA]),hs x (by simp [fA]),hs y (by simp [fA])]
 | yB m k v=>rfl
 | su z o m k=>rfl
 | yC m k=>rfl
 | store n x y=>simp only [cf,hs x (by simp [fA]),hs y (by simp [fA])]
 | bin b op x y=>simp only [cf,hs x (by simp [fA]),hs y (by simp [fA])]
 | eqs n t x y=>simp only [cf,hs x (by simp [fA]),hs y (by simp [fA])]
 | mksl z b zv x y=>simp only [cf,hs x (by simp [fA]),hs y (by simp [fA])]
 | iaddr z x y=>simp only [cf,hs x (by simp [fA]),hs y (by simp [fA])]
 | nz n z x y=>simp only [cf,hs x (by simp [fA]),hs y (by simp [fA])]
 | idx a z n x y=>simp only [cf,hs x (by simp [fA]),hs y (by simp [fA])]
 | sQ x y=>simp only [cf,hs x (by simp [fA]),hs y (by simp [fA])]
 | app p z b x y=>simp only [cf,hs x (by simp [fA]),hs y (by simp [fA])]
 | cpy z x y=>simp only [cf,hs x (by simp [fA]),hs y (by simp [fA])]
 | move x=>simp only [cf,hs x (by simp [fA])]
 | box x=>simp only [cf,hs x (by simp [fA])]
 | load a n x=>simp only [cf,hs x (by simp [fA])]
 | nilc x=>simp only [cf,hs x (by simp [fA])]
 | isnil f n x=>simp only [cf,hs x (by simp [fA])]
 | not x=>simp only [cf,hs x (by simp [fA])]
 | neg x=>simp only [cf,hs x (by simp [fA])]
 | inv x=>simp only [cf,hs x (by simp [fA])]
 | convI k x=>simp only [cf,hs x (by simp [fA])]
 | convS x=>simp only [cf,hs x (by simp [fA])]
 | convR x=>simp only [cf,hs x (by simp [fA])]
 | cut0 z x=>simp only [cf,hs x (by simp [fA])]
 | clr z zv x=>simp only [cf,hs x (by simp [fA])]
 | faddr x i o=>simp only [cf,hs x (by simp [fA])]
 | fld a n o x i=>simp only [cf,hs x (by simp [fA])]
 | ext x i=>simp only [cf,hs x (by simp [fA])]
 | len x=>simp only [cf,hs x (by simp [fA])]
 | lenS x=>simp only [cf,hs x (by simp [fA])]
 | appn z b zv x n=>simp only [cf,hs x (by simp [fA]),hs n (by simp [fA])]
 | appk z x y=>simp only [cf,hs x (by simp [fA]),hs y (by simp [fA])]
 | Bn n z x=>simp only [cf,hs x (by simp [fA])]
 | sliceK z x lo hi=>simp only [cf,hs x (by simp [fA]),hs lo (by simp [fA]),hs hi (by simp [fA])]
 | slice3 x a b c=>simp only [cf,hs x (by simp [fA]),hs a (by simp [fA]),hs b (by simp [fA]),hs c (by simp [fA])]
 | capn x=>simp only [cf,hs x (by simp [fA])]
end
theorem Sr {x y:Ins}(h:Gd x y=true):(∀ d,x.dst=some d→d∉tX y)∧(∀ d,x.dst=some d→y.dst≠some d)∧(∀ d,y.dst=some d→d∉tX x):=by
 refine ⟨fun d hd=>?_,fun d hd=>?_,fun d hd=>?_⟩<;>simp [Gd,hd] at h
 · exact h.1.1
 · exact h.1.2
 · exact h.2
def gL (l:List Nat)(s t:gJ):Prop:=∀ i∈l,t i=s i
theorem gL.eV {l:List Nat}{s:gJ}{d:Option Nat}(h:∀ x,d=some x→x∉l)(v:MV):gL l s (eV s d v):=by
 intro i hi;cases d with
 | none=>rfl
 | some x =>
   have:i≠x:=fun e=>h x rfl (e ▸ hi)
   simp [Mid.eV,cD,this]
section
variable {K:jC}{g:Nat}{s t:gJ}{h k:cq}{i:Ins}
theorem ND (hs:gL (tX i) s t):tU t i.guard=tU s i.guard:=by
 cases hg:i.guard with
 | none=>rfl
 | some gb =>
   obtain ⟨x,b⟩:=gb
   have:=hs x (by simp [tX,hg])
   simp only [tU,this]
theorem Jk (hs:gL (tX i) s t):∀ x∈fA i.op,cR t x=cR s x:=by
 intro x hx;cases x with
 | t n=>exact hs n (ay.2 (.inl (ig.2 ⟨.t n,hx,by simp [Xy]⟩)))
 | c v=>rfl
 | f n=>rfl
theorem NF (hs:gL (tX i) s t):lJ t k i=lJ s k i:=by
 unfold lJ;rw [ND hs,eU (Jk hs)]
theorem ZC (ha:c7 (lJ s h i) h k):lJ s k i=lJ s h i:=by
 unfold lJ at ha ⊢;cases hw:tU s i.guard with
 | none=>rfl
 | some b =>
   cases b with
   | false=>rfl
   | true =>
     simp only [hw] at ha;have h2:∀ x∈js h (js h (mC ((fA i.op).map (cR s)))),mD x∈(i.dst.toList++js h (js h (mC ((fA i.op).map (cR s))))).map mD:=fun x hx=>bj.2 ⟨x,by simp [hx],rfl⟩
     have h1:∀ x∈js h (mC ((fA i.op).map (cR s))),mD x∈(i.dst.toList++js h (js h (mC ((fA i.op).map (cR s))))).map mD:=fun x hx=>h2 x (EO hx)
     simp only [NC ha (fun x hx=>h1 x (EO hx)),NC ha h1]
theorem Jl {s1:gJ}{h1:cq}(he:oE K g i s h=some (s1,h1)):∃ v,s1=eV s i.dst v∧oF (lJ s h i) h h1 ∧
 (∀ t k,gL (tX i) s t→c7 (lJ s h i) h k→oE K g i t k=some (eV t i.dst v,glue (lJ s h i) h1 k)) ∧
 (idle i.op=true→h1=h∧∀ t k,gL (tX i) s t→oE K g i t k=some (eV t i.dst v,k))∧(tW i.op=true→h1=h):=by
 unfold oE at he;split at he
 · rename_i hw;split at he
   · rename_i v h' hv;simp only [aa,ae] at he;obtain ⟨rfl,rfl⟩:=he;have hX:lJ s h i=(i.dst.toList++js h (js h (mC ((fA i.op).map (cR s))))).map mD:=by unfold lJ;rw [hw]
     have hd:∀ x,i.dst=some x→mD x∈lJ s h i:=fun x hx=>by rw [hX,hx];exact bj.2 ⟨x,by simp,rfl⟩
     have hr:∀ x∈js h (js h (mC ((fA i.op).map (cR s)))),mD x∈lJ s h i:=fun x hx=>by rw [hX];exact bj.2 ⟨x,by simp [hx],rfl⟩
     have jS:Loc (lJ s h i) h h' (fun k=>cf K g i.dst s k i.op) v:=by
      by_cases hc:∃ md f args,i.op=.call md f args
      · obtain ⟨md,f,args,fh⟩:=hc;rw [fh] at hv hr ⊢;exact D01 hd hr hv
      · refine C7i (fun md f args e=>hc ⟨md,f,args,e⟩) hd (fun x hx=>hr x (EO (EO hx))) hv
     refine ⟨v,rfl,jS.1,fun t k hs ha=>?_,fun hi=>?_,fun EP=>?_⟩
     · unfold oE;rw [ND hs,hw];simp only [ZB (Jk hs),jS.2 k ha]
     · obtain ⟨f,hf⟩:=Zy K g i.dst s hi h;rw [hf] at hv;cases f with
       | none=>cases hv
       | some u =>
         simp only [ar,aa,ae] at hv;obtain ⟨rfl,rfl⟩:=hv;refine ⟨rfl,fun t k hs=>?_⟩
         unfold oE;rw [ND hs,hw];simp only [ZB (Jk hs),hf,ar]
     · generalize i.op=op at hv EP;cases op<;>simp only [tW,aF] at EP
       · simp only [cf] at hv;split at hv<;>simp only [aa,ae,reduceCtorEq] at hv;exact hv.2.symm
       · simp only [cf] at hv;split at hv<;>simp only [aa,ae,reduceCtorEq] at hv;exact hv.2.symm
       · simp only [cf] at hv;split at hv<;>simp only [aa,ae,reduceCtorEq] at hv;exact hv.2.symm
       · rename_i md f args;have hmd:md=0:=by
          cases md with
          | zero=>rfl
          | succ n=>simp [tW] at EP
         subst hmd;simp only [cf,yH] at hv;split at hv
         · split at hv
           · split at hv
             · split at hv<;>simp only [aa,ae,reduceCtorEq] at hv;exact hv.2.symm
             · cases hv
           · cases hv
         · cases hv
       · simp only [cf] at hv
         (repeat' split at hv)<;>first | (simp only [aa,ae] at hv;exact hv.2.symm) | cases hv
       · simp only [cf,reduceCtorEq] at hv
   · cases he
 · rename_i hw;simp only [aa,ae] at he;obtain ⟨rfl,rfl⟩:=he;have hst:∀ t k,gL (tX i) s t→oE K g i t k=some (eV t i.dst (.eO []),k):=by
    intro t k hs;unfold oE;rw [ND hs,hw]
   have hX:lJ s h i=[]:=by unfold lJ;rw [hw]
   refine ⟨.eO [],rfl,oF.refl _ _,fun t k hs ha=>?_,fun _=>⟨rfl,hst⟩,fun _=>rfl⟩
   rw [hst t k hs,tF ha]
 · cases he
theorem ZD {s:gJ}{d e:Option Nat}{u v:MV}(h:∀ x,d=some x→e≠some x):eV (eV s d u) e v=eV (eV s e v) d u:=by
 cases d with
 | none=>cases e<;>rfl
 | some x =>
   cases e with
   | none=>rfl
   | some y =>
     have vF:x≠y:=fun e=>h x rfl (by rw [e])
     funext i;simp only [eV,cD];by_cases h1:i=y
     · subst h1;simp [dB vF]
     · simp [h1]
theorem C88 {gi gj:Nat}{i j:Ins}{s1 s2:gJ}{h1 h2:cq}(hj:oE K gj j s h=some (s1,h1))(hi:oE K gi i s1 h1=some (s2,h2))(ye:Gd j i=true)
 (hc:idle j.op=true∨idle i.op=true∨(tW j.op=true∧tW i.op=true)∨∀ x∈lJ s h j,x∉lJ s1 h1 i) :
 ∃ s3 h3,oE K gi i s h=some (s3,h3)∧oE K gj j s3 h3=some (s2,h2)∧(idle i.op=true∨lJ s h i=lJ s1 h1 i)∧(idle j.op=true∨lJ s3 h3 j=lJ s h j):=by
 obtain ⟨a1,a2,a3⟩:=Sr ye;obtain ⟨vj,rfl,oj,lj,ij,rj⟩:=Jl hj;obtain ⟨vi,rfl,oi,li,ii,ri⟩:=Jl hi;have sI:gL (tX i) (eV s j.dst vj) s:=fun x hx=>(gL.eV (s:=s) a1 vj x hx).symm
 have sI':gL (tX i) s (eV s j.dst vj):=gL.eV a1 vj;have sJ:∀ v,gL (tX j) s (eV s i.dst v):=fun v=>gL.eV a3 v
 have wJ:eV (eV s i.dst vi) j.dst vj=eV (eV s j.dst vj) i.dst vi:=(ZD a2).symm;have fI:∀ k,lJ s k i=lJ (eV s j.dst vj) k i:=fun k=>(NF sI').symm
 have fJ:∀ k v,lJ (eV s i.dst v) k j=lJ s k j:=fun k v=>NF (sJ v)
 by_cases Ss:idle j.op=true
 · obtain ⟨rfl,ij2⟩:=ij Ss;have hst:=li s h1 sI (c7.refl _ _);have hg:glue (lJ (eV s j.dst vj) h1 i) h2 h1=h2:=by
    funext x;unfold glue;split
    · rfl
    · rename_i hx;exact (oi x hx).symm
   rw [hg] at hst;refine ⟨eV s i.dst vi,h2,hst,?_,.inr (fI h1),.inl Ss⟩;rw [ij2 _ h2 (sJ vi),wJ]
 · by_cases Su:idle i.op=true
   · obtain ⟨rfl,ii2⟩:=ii Su;refine ⟨eV s i.dst vi,h,ii2 s h sI,?_,.inl Su,.inr (fJ h vi)⟩;rw [lj _ h (sJ vi) (c7.refl _ _),wJ];congr 2;funext x;unfold glue;split
     · rfl
     · rename_i hx;exact (oj x hx).symm
   · rcases hc with hc | hc | hc | hc
     · exact absurd hc Ss
     · exact absurd hc Su
     · have e1:=rj hc.1;subst e1;have e2:=ri hc.2;subst e2;have h3:=li s h2 sI (c7.refl _ _);rw [tF (c7.refl _ _)] at h3;have h4:=lj (eV s i.dst vi) h2 (sJ vi) (c7.refl _ _);rw [tF (c7.refl _ _)] at h4;exact ⟨_,_,h3,by rw [h4,wJ],.inr (fI h2),.inr (fJ h2 vi)⟩
     · -- Jm
       have ZE:c7 (lJ (eV s j.dst vj) h1 i) h1 h:=fun x hx=>(oj x (fun Iq=>hc _ Iq hx)).symm
       have h3:=li s h sI ZE;have fi:lJ s h i=lJ (eV s j.dst vj) h1 i:=by
        rw [fI h];exact ZC ZE
       have ZF:c7 (lJ s h j) h (glue (lJ (eV s j.dst vj) h1 i) h2 h):=by
        intro x hx;unfold glue;rw [if_neg (hc _ hx)]
       have h4:=lj (eV s i.dst vi) _ (sJ vi) ZF;refine ⟨_,_,h3,?_,.inr fi,.inr ?_⟩
       · rw [h4,wJ];congr 2;funext x;unfold glue;by_cases hx:mD x∈lJ s h j
         · rw [if_pos hx];exact (oi x (hc _ hx)).symm
         · rw [if_neg hx];split
           · rfl
           · rename_i hx2;rw [oi x hx2,oj x hx]
       · rw [fJ];exact ZC ZF
end
theorem NG {s t:gJ}{i:Ins}(hs:gL (tX i) s t):wj t i=wj s i:=by
 unfold wj;cases hg:i.guard with
 | some g=>rfl
 | none =>
   have he:∀ x∈fA i.op,cR t x=cR s x:=Jk hs;simp only;cases ho:i.op with
   | load a n x=>simp only [CJ,he x (by rw [ho];simp [fA])]
   | app p z b x y =>
     cases p with
     | true=>rfl
     | false=>simp only [CJ,he x (by rw [ho];simp [fA]),he y (by rw [ho];simp [fA])]
   | _=>rfl
theorem Sv {h:cq}{l:List Nat}{q:Nat}:q∈js h l↔q∈l∨∃ p,p∈l∧q∈yE (h p):=by
 unfold js;rw [Si,ay,ig]
theorem NH (x:Nat):∀ (m:List (T Nat)) (j:Nat) (u:T Nat),(x∈tq u→x∈oV m)→x∈oV (m.set j u)→x∈oV m
 | [],_,_,_,h=>by simpa using h
 | b::r,0,u,hu,h=>by
   simp only [List.set_cons_zero,oV,ay] at h ⊢;rcases h with h | h
   · have:=hu h
     simpa only [oV,ay] using this
   · exact .inr h
 | b::r,j+1,u,hu,h=>by
   simp only [List.set_cons_succ,oV,ay] at h ⊢;rcases h with h | h
   · exact .inl h
   · by_cases hx:x∈tq u
     · have:=hu hx
       simpa only [oV,ay] using this
     · exact .inr (NH x r j u (fun q=>absurd q hx) h)
theorem C89 {a:Nat}{tr:T Nat}{i j:Nat}{o':Obj Nat}{g z n:Nat}{l:List (T Nat)}(hs:ew (some (.cell a tr)) [j]=some (.vec g z l n))(hp:put (some (.cell a tr)) [j] (.hole 1)=some o')(gU:i≠j) :
 look (some o') none [i]=look (some (.cell a tr)) none [i]∧∀ x∈yE (some o'),x∈yE (some (.cell a tr)):=by
 rw [BG] at hs;have iK:(dg tr [j] (.hole 1)).map (Obj.cell a)=some o':=by
  simp only [put] at hp;cases hq:dg tr [j] (.hole 1) with
  | none=>rw [hq] at hp;cases hp
  | some t'=>rw [hq] at hp;exact hp
 cases hq:dg tr [j] (.hole 1) with
 | none=>rw [hq] at iK;cases iK
 | some t' =>
   rw [hq] at iK;simp only [ar,aa] at iK;subst iK;cases tr with
   | agg m =>
     simp only [c6] at hs;simp only [dg] at hq;cases hm:m[j]? with
     | none=>rw [hm] at hs;cases hs
     | some u =>
       rw [hm] at hs hq;simp only [aa] at hs hq;subst hs;subst hq;have mF:ke (m.set j (T.hole (α:=Nat) 1))=.agg (m.set j (.hole 1)):=by
        rcases BC (m.set j (T.hole (α:=Nat) 1)) with e | ⟨vs,e1,e⟩
        · exact e
        · exfalso;have h2:(m.set j (T.hole (α:=Nat) 1))[j]?=some (.hole 1):=by
           rw [List.getElem?_set_self (aL.1 hm).1]
          rw [e1,aN] at h2;cases hv:vs[j]? with
          | none=>rw [hv] at h2;cases h2
          | some v=>rw [hv] at h2;cases h2
       rw [mF];constructor
       · simp only [look,lX];rw [List.getElem?_set_ne (dB gU)];have fg:T.dm ((m.set j (T.hole (α:=Nat) 1)).take i)=T.dm (m.take i):=M1 hm rfl;cases m[i]? with
         | none=>rfl
         | some q=>simp only [fg]
       · intro x hx;simp only [yE,tq] at hx ⊢;exact NH x m j (.hole 1) (fun q=>by simp [tq] at q) hx
   | vec a' z' m n' =>
     simp only [c6] at hs;simp only [dg] at hq;cases hm:m[j]? with
     | none=>rw [hm] at hs;cases hs
     | some u =>
       rw [hm] at hs hq;simp only [aa] at hs hq;subst hs;subst hq;refine ⟨rfl,fun x hx=>?_⟩
       simp only [yE,tq] at hx ⊢;exact NH x m j (.hole 1) (fun q=>by simp [tq] at q) hx
   | mp a' ks m =>
     simp only [c6] at hs;simp only [dg] at hq;cases hm:m[j]? with
     | none=>rw [hm] at hs;cases hs
     | some u =>
       rw [hm] at hs hq;simp only [aa] at hs hq;subst hs;subst hq;refine ⟨rfl,fun x hx=>?_⟩
       simp only [yE,tq] at hx ⊢;exact NH x m j (.hole 1) (fun q=>by simp [tq] at q) hx
   | p v =>
     cases v with
     | agg m =>
       simp only [c6] at hs;cases hm:m[j]? with
       | none=>rw [hm] at hs;cases hs
       | some u=>rw [hm] at hs;cases hs
     | _=>simp only [c6,reduceCtorEq] at hs
   | m v=>simp only [c6,reduceCtorEq] at hs
   | hole n'=>simp only [c6,reduceCtorEq] at hs
theorem D2Y {K:jC}{ga gb:Nat}{x y:Ins}{s:gJ}{h:cq}{s1 s2:gJ}{h1 h2:cq}{F:List Nat}{pa pb:Option rK}(hx:oE K ga x s h=some (s1,h1))(hy:oE K gb y s1 h1=some (s2,h2))(ye:Gd x y=true)
 (qW:wj s x=pa) (uv:wj s1 y=pb) (Jn:CK F pa pb=true) (hF:∀ z∈lJ s h x,z∈F) :
 ∃ s3 h3,oE K gb y s h=some (s3,h3)∧oE K ga x s3 h3=some (s2,h2)∧lJ s h y=lJ s1 h1 y∧(∀ z∈lJ s3 h3 x,z∈lJ s h x)∧wj s y=pb∧wj s3 x=pa:=by
 unfold CK at Jn;split at Jn
 · rename_i id i k0 uU j d;simp only [ak,beq_iff_eq,bne_iff_ne,dt,List.contains_eq_mem,decide_eq_false_iff_not] at Jn;obtain ⟨⟨rfl,gU⟩,hd⟩:=Jn;obtain ⟨a1,a2,a3⟩:=Sr ye;obtain ⟨xa,xn,xo,g,o,Sw,B4,NI⟩:∃ (xa:Bool) (xn:Nat) (xo:dO) (g o:Nat),x.guard=none∧x.op=.load xa xn xo∧cR s xo=.ptr id none [i] g o:=by
    unfold wj at qW;split at qW
    · rename_i hg;generalize fh:x.op=op at qW;unfold CJ at qW;split at qW
      · rename_i xa xn xo;split at qW
        · rename_i id1 i1 g1 o1 he;simp only [aa,ae,true_and] at qW;obtain ⟨rfl,rfl,_⟩:=qW;exact ⟨xa,xn,xo,g1,o1,hg,rfl,he⟩
        · cases qW
      · split at qW
        · split at qW
          · simp at qW
          · cases qW
        · cases qW
      · cases qW
    · cases qW
   have ld:∀ (t:gJ) (k:cq),oE K ga x t k=match tT k xa xn (cR t xo) with | some v=>some (eV t x.dst v,k) | none=>none:=by
    intro t k;unfold oE;rw [Sw];simp only [tU];rw [B4];simp only [cf];cases tT k xa xn (cR t xo)<;>rfl
   obtain ⟨v,hv,rfl,rfl⟩:∃ v,tT h xa xn (.ptr id none [i] g o)=some v∧s1=eV s x.dst v∧h1=h:=by
    rw [ld,NI] at hx;split at hx
    · rename_i v hv;simp only [aa,ae] at hx;exact ⟨v,hv,hx.1.symm,hx.2.symm⟩
    · cases hx
   obtain ⟨u,rfl,oy,ly,_,_⟩:=Jl hy;obtain ⟨yz,yb,yx,yy,off,len,g0,l,hyg,Sx,ZG,hyy,hyd⟩:∃ (yz yb:Nat) (yx yy:dO) (off len g0:Nat) (l:List PV),y.guard=none∧y.op=.app false yz yb yx yy∧cR (eV s x.dst v) yx=.own id [j] off len g0∧cR (eV s x.dst v) yy=.p (.sl l)∧y.dst=some d:=by
    unfold wj at uv;split at uv
    · rename_i hg;generalize fh:y.op=op at uv;unfold CJ at uv;split at uv
      · split at uv
        · simp at uv
        · cases uv
      · rename_i yz yb yx yy;split at uv
        · rename_i id1 j1 off len g0 he;split at uv
          · rename_i l d1 h1 h2;simp only [aa,ae,true_and] at uv;obtain ⟨rfl,rfl,rfl⟩:=uv;exact ⟨yz,yb,yx,yy,off,len,g0,l,hg,rfl,he,h1,h2⟩
          · cases uv
        · cases uv
      · cases uv
    · cases uv
   have sY:gL (tX y) (eV s x.dst v) s:=fun q hq=>(gL.eV (s:=s) a1 v q hq).symm
   have sX:gL (tX x) s (eV s y.dst u):=gL.eV a3 u;have h3:=ly s h1 sY (c7.refl _ _);have hg2:glue (lJ (eV s x.dst v) h1 y) h2 h1=h2:=by
    funext q;unfold glue;split
    · rfl
    · rename_i hq;exact (oy q hq).symm
   rw [hg2] at h3;obtain ⟨ob,o',Sy,dP,eY,ER⟩:∃ (ob:Obj Nat) (o':Obj Nat),h1 id=some ob∧(∃ g1 z1 l1 n1,ew (some ob) [j]=some (.vec g1 z1 l1 n1))∧put (some ob) [j] (.hole 1)=some o'∧∃ w,h2=cD (cD h1 id (some o')) d (some w):=by
    unfold oE at hy;rw [hyg] at hy;simp only [tU] at hy;rw [Sx] at hy;simp only [cf,ZG,hyy] at hy;have BQ:rW h1 (.p (.sl l))=some (l.map .p,h1):=by
     unfold rW elems
     have:(l.map (T.p (α:=Nat))).all tu=true:=by simp [tu]
     simp only [this,if_true]
    cases qq:rJ gb y.dst h1 yz yb (.own id [j] off len g0) (.p (.sl l)) with
    | none=>rw [qq] at hy;cases hy
    | some r =>
      obtain ⟨r1,r2⟩:=r;have GM:r2=h2:=by
       rw [qq] at hy
       try simp only at hy
       split at hy
       · rename_i vv hh heq;split at heq
         · simp only [aF,if_false,aa,ae] at heq hy;rename_i e3;simp only [aa,ae] at e3;rw [← e3.2] at heq;rw [← hy.2,← heq.2,e3.2]
         · cases heq
       · cases hy
      subst GM;unfold rJ at qq;rw [BQ] at qq;simp only at qq;split at qq
      · cases qq
      · split at qq
        · rename_i lK;have qe:Au gb y.dst h1 id [j] yz yb len g0 (l.map .p)=some (r1,r2):=by
           cases gx:h1 id with
           | none=>rw [gx] at qq;exact qq
           | some ob=>rw [gx] at qq;cases ob<;>exact qq
          unfold Au at qe;split at qe
          · rename_i g1 z1 l1 n1 tx;split at qe
            · split at qe
              · rename_i o' eY;rw [hyd] at qe;simp only [mZ] at qe;simp only [aa,ae] at qe;cases gx:h1 id with
                | none=>rw [gx] at tx;simp [ew] at tx
                | some ob =>
                  rw [gx] at tx eY;exact ⟨ob,o',rfl,⟨g1,z1,l1,n1,tx⟩,eY,_,qe.2.symm⟩
              · cases qe
            · cases qe
          · cases qe
        · cases qq
   obtain ⟨w,rfl⟩:=ER;have wK:lJ s h1 x=(x.dst.toList++js h1 (js h1 [id])).map mD:=by
    unfold lJ;rw [Sw];simp only [tU];rw [B4];simp only [fA,aH,cr,mC,NI,kf,bE]
   have Jo:∀ q∈js h1 (js h1 [id]),mD q≠mD d:=by
    intro q hq e;apply hd;rw [← e];apply hF;rw [wK];exact bj.2 ⟨q,by simp [hq],rfl⟩
   have ES:∀ {hh:cq} {ll:List Nat} {q:Nat},q∈ll→q∈js hh ll:=fun hq=>EO hq
   have Sz:id∈js h1 [id]:=ES (by simp)
   have Jp:d≠id:=fun e=>Jo id (ES Sz) (by rw [e])
   have hO:∃ ca ct,ob=.cell ca ct:=by
    simp only [tT,look,Sy] at hv;cases ob with
    | cell ca ct=>exact ⟨ca,ct,rfl⟩
    | _=>simp at hv
   obtain ⟨ca,ct,rfl⟩:=hO;obtain ⟨g1,z1,l1,n1,dP⟩:=dP;obtain ⟨p1,p2⟩:=C89 dP eY gU;have SA:cD (cD h1 id (some o')) d (some w) id=some o':=by rw [nT _ _ (dB Jp),nM]
   have zp:oE K ga x (eV s y.dst u) (cD (cD h1 id (some o')) d (some w))=some (eV (eV s y.dst u) x.dst v,cD (cD h1 id (some o')) d (some w)):=by
    have SB:cR (eV s y.dst u) xo=.ptr id none [i] g o:=by
     rw [← NI];exact Jk sX xo (by rw [B4];simp [fA])
    have vz:tT (cD (cD h1 id (some o')) d (some w)) xa xn (.ptr id none [i] g o)=some v:=by
     rw [← hv];simp only [tT,Sy,SA,p1]
    rw [ld,SB,vz]
   refine ⟨eV s y.dst u,_,h3,?_,?_,?_,?_,?_⟩
   · rw [zp];rw [(ZD a2).symm]
   · exact (NF sY)
   · intro q hq;have SC:lJ (eV s y.dst u) (cD (cD h1 id (some o')) d (some w)) x=(x.dst.toList++js (cD (cD h1 id (some o')) d (some w)) (js (cD (cD h1 id (some o')) d (some w)) [id])).map mD:=by
      rw [NF sX];unfold lJ;rw [Sw];simp only [tU];rw [B4];simp only [fA,aH,cr,mC,NI,kf,bE]
     rw [SC] at hq;rw [wK];obtain ⟨r,hr,rfl⟩:=bj.1 hq;refine bj.2 ⟨r,?_,rfl⟩;rcases ay.1 hr with hr | hr
     · exact ay.2 (.inl hr)
     · refine ay.2 (.inr ?_);have step:∀ (l1 l2:List Nat),(∀ q∈l1,q∈l2∧q≠d)→∀ q∈js (cD (cD h1 id (some o')) d (some w)) l1,q∈js h1 l2:=by
        intro l1 l2 hl q hq;rcases Sv.1 hq with hq | ⟨p,hp,hq⟩
        · exact Sv.2 (.inl (hl q hq).1)
        · refine Sv.2 (.inr ⟨p,(hl p hp).1,?_⟩);rw [nT _ _ (hl p hp).2] at hq;by_cases e:p=id
          · subst e;rw [nM] at hq;rw [Sy];exact p2 q hq
          · rw [nT _ _ e] at hq;exact hq
       have s1:=step [id] [id] (fun q hq=>by
        simp only [aW] at hq;subst hq;exact ⟨by simp,dB Jp⟩)
       refine step _ _ (fun q hq=>⟨s1 q hq,fun e=>?_⟩) r hr
       exact Jo q (ES (s1 q hq)) (by rw [e])
   · rw [← uv];exact (NG sY)
   · rw [← qW];exact NG sX
 · cases Jn
inductive oR (K:jC) (g0:Nat) (is:List Ins) (F:Nat→List Nat×Option rK):List Nat→gJ→cq→gJ→cq→Prop where
 | nil (s:gJ) (h:cq):oR K g0 is F [] s h s h
 | cons {i:Nat} {ins:Ins} {r:List Nat} {s:gJ} {h:cq} {s1:gJ} {h1:cq} {s2:gJ} {h2:cq} (hi:is[i]?=some ins) (hf:idle ins.op=true∨((∀ z∈lJ s h ins,z∈(F i).1)∧wj s ins=(F i).2))
    (hst:oE K (g0+i) ins s h=some (s1,h1)) (hr:oR K g0 is F r s1 h1 s2 h2):oR K g0 is F (i::r) s h s2 h2
def NJ (is:List Ins)(F:Nat→List Nat×Option rK)(a b:Nat):Prop :=
 ∀ x y,is[a]?=some x→is[b]?=some y→Gd x y=true∧(idle x.op=true∨idle y.op=true∨(tW x.op=true∧tW y.op=true)∨(∀ z∈(F a).1,z∉(F b).1)∨CK (F a).1 (F a).2 (F b).2=true)
theorem oR.swap {K:jC}{g0:Nat}{is:List Ins}{F:Nat→List Nat×Option rK}{a b:Nat}{r:List Nat}{s:gJ}{h:cq}{s':gJ}{h':cq}(hr:oR K g0 is F (a::b::r) s h s' h')(hi:NJ is F a b):oR K g0 is F (b::a::r) s h s' h':=by
 cases hr with
 | cons hx wK Jq hr =>
   rename_i x s1 h1;cases hr with
   | cons hy Db ZH hr =>
     rename_i y s2 h2;obtain ⟨ye,hc⟩:=hi x y hx hy;obtain ⟨a1,a2,a3⟩:=Sr ye;have main:(idle x.op=true∨idle y.op=true∨(tW x.op=true∧tW y.op=true)∨∀ z∈lJ s h x,z∉lJ s1 h1 y)→oR K g0 is F (b::a::r) s h s' h':=by
      intro xl;obtain ⟨s3,h3,k1,k2,k3,k4⟩:=C88 Jq ZH ye xl;obtain ⟨vx,e1,_⟩:=Jl Jq;obtain ⟨vy,e3,_⟩:=Jl k1;refine .cons hy ?_ k1 (.cons hx ?_ k2 hr)
      · rcases k3 with k3 | k3
        · exact .inl k3
        · refine Db.imp id fun q=>⟨by rw [k3];exact q.1,?_⟩
          rw [← q.2,e1];exact (NG (gL.eV a1 vx)).symm
      · rcases k4 with k4 | k4
        · exact .inl k4
        · refine wK.imp id fun q=>⟨by rw [k4];exact q.1,?_⟩
          rw [← q.2,e3];exact NG (gL.eV a3 vy)
     rcases hc with hc | hc | hc | hc | hc
     · exact main (.inl hc)
     · exact main (.inr (.inl hc))
     · exact main (.inr (.inr (.inl hc)))
     · rcases wK with e | wK
       · exact main (.inl e)
       · rcases Db with e | Db
         · exact main (.inr (.inl e))
         · exact main (.inr (.inr (.inr fun z hz AE=>hc z (wK.1 z hz) (Db.1 z AE))))
     · rcases wK with e | wK
       · exact main (.inl e)
       · rcases Db with e | Db
         · exact main (.inr (.inl e))
         · obtain ⟨s3,h3,k1,k2,k3,k4,k5,k6⟩:=D2Y Jq ZH ye wK.2 Db.2 hc wK.1;exact .cons hy (.inr ⟨by rw [k3];exact Db.1,k5⟩) k1 (.cons hx (.inr ⟨fun z hz=>wK.1 z (k4 z hz),k6⟩) k2 hr)
theorem oR.front {K:jC}{g0:Nat}{is:List Ins}{F:Nat→List Nat×Option rK}{i:Nat}{post:List Nat}:∀ {pre:List Nat} {s:gJ} {h:cq} {s':gJ} {h':cq},oR K g0 is F (pre++i::post) s h s' h'→(∀ j∈pre,NJ is F j i)→oR K g0 is F (i::pre++post) s h s' h'
 | [],s,h,s',h',hr,_=>hr
 | p::pre,s,h,s',h',hr,hp=>by
   cases hr with
   | cons hx wK Jq hr =>
     have h2:=oR.front hr (fun j hj=>hp j (by simp [hj]))
     exact oR.swap (.cons hx wK Jq h2) (hp p (by simp))
end Go.Mid
namespace Go.Mid
open Go.RowKit
section
variable {P:Program}{rZ:rZ}{nt:Nat}
theorem NK {ops:Array Oper}:∀ {l:List Oper} {is:List Ins},CO P rZ nt ops l=some is→is.length=l.length∧∀ (i:Nat) (o:Oper),l[i]?=some o→∃ ins,is[i]?=some ins∧xg P rZ nt ops o=some ins
 | [],is,h=>by simp only [CO,aa] at h;subst h;exact ⟨rfl,fun i o ho=>by simp at ho⟩
 | x::r,is,h=>by
   simp only [CO] at h;split at h
   · rename_i y ys h1 h2;cases h;obtain ⟨h3,h4⟩:=NK h2;refine ⟨by simp [h3],fun i o ho=>?_⟩
     cases i with
     | zero=>simp at ho;subst ho;exact ⟨y,rfl,h1⟩
     | succ i=>simpa using h4 i o (by simpa using ho)
   · cases h
variable {ops:Array Oper}{is:List Ins}{K:jC}{Q:Exit→Act→World→Prop}
theorem ZI {o:Oper}{ins:Ins}{i:Nat}{a:Act}{w:World}{A:Nat→Prop}{E:dV An}{S:dv}{γ:Nat}{s s1:gJ}{h h1:cq}(hK:AY P K)(ho:ops[i]?=some o)(nU:xg P rZ nt ops o=some ins)(yh:nt≤a.tmps.size)
 (hs:qd P w A E S s a) (hm:MR w A E h S) (hγ:¬ S γ) (he:oE K γ ins s h=some (s1,h1)) {next:Act→World→Prop}
 (hn:∀ a' w' A' E',qd P w' A' E' (S.add γ) s1 a'→MR w' A' E' h1 (S.add γ)→gK w A E S w' A' E'→a'.defers=a.defers→a'.tmps.size=a.tmps.size→next a' w'):wpOp P ops Q i next a w:=by
 unfold xg at nU;split at nU
 · rename_i ET;have hd:∀ d,o.dst=some d→d<nt:=by
    intro d hd;unfold XA at ET;rw [hd] at ET;simpa using ET
   split at nU
   · rename_i g hg;simp only [aa] at nU;subst nU;have Dc:∀ {w':World} {A':Nat→Prop} {E':dV An} {v:MV} {val:Value},MR w' A' E' h1 (S.add γ)→gK w A E S w' A' E'→bT w' A' E' (S.add γ) v val→s1=eV s o.dst v→qd P w' A' E' (S.add γ) s1 (a.put o.dst val):=by
      intro w' A' E' v val vG rM hv e;refine ⟨fun k=>?_,hs.gl.frame rM.sub (fun b hb=>rM.tZ hm b hb)⟩
      subst e;have old:bT w' A' E' (S.add γ) (s k) (a.tmps.getD k undef):=(hs.sl k).go hm rM (S.eP γ);cases hod:o.dst with
      | none=>exact old
      | some d =>
        simp only [eV,cD,Act.put];by_cases SD:k=d
        · subst SD;have eC:k<a.tmps.size:=Nat.lt_of_lt_of_le (hd k hod) yh;simp only [if_true]
          have:(a.tmps.setIfInBounds k val).getD k undef=val:=by simp [eC]
          rw [this];exact hv
        · rw [if_neg SD]
          have:(a.tmps.setIfInBounds d val).getD k undef=a.tmps.getD k undef:=by simp [dX (dB SD)]
          rw [this];exact old
     have pS:∀ val,(a.put o.dst val).defers=a.defers∧(a.put o.dst val).tmps.size=a.tmps.size:=by
      intro val;cases o.dst<;>simp [Act.put]
     have hw:∀ b,tU s g=some b→Region.wanted o (yielded ops a.tmps)=b:=by
      intro b hb;unfold Xz at hg;unfold Region.wanted;split at hg
      · rename_i SE;cases hg;simp only [tU,aa] at hb;rw [SE];exact hb
      · rename_i j wb SE;split at hg
        · rename_i t ht;cases hg;rw [SE];simp only [tU] at hb;have Gs:(ops[j]?).bind (·.dst)=some t:=ht;have hst:=hs.sl t;split at hb
          · rename_i c hc;simp only [aa] at hb;rw [hc] at hst;have cL:=ua.1 hst
            have:a.tmps[t]?=some (.bool c):=by
             cases hq:a.tmps[t]? with
             | none=>simp [hq] at cL;exact absurd cL (by simp [undef])
             | some q=>simp [hq] at cL;rw [cL]
            simp only [yielded,Gs,ah,this];rw [← hb];cases c<;>cases wb<;>rfl
          · rename_i hc;simp only [aa] at hb;rw [hc] at hst;simp only [bT] at hst;obtain ⟨vs,cL,fX⟩:=hst;simp only [dh] at fX;subst fX
            have:yielded ops a.tmps j=none:=by
             simp only [yielded,Gs,ah];cases hq:a.tmps[t]? with
             | none=>rfl
             | some q=>simp [hq] at cL;rw [cL]
            simp only [this];rw [← hb];rfl
          · cases hb
        · cases hg
     unfold wpOp;simp only [ho];unfold oE at he;simp only at he;split at he
     · rename_i u6;rw [hw true u6];simp only [if_true];split at he
       · rename_i v h' hv;simp only [aa,ae] at he;obtain ⟨e1,rfl⟩:=he;refine .inl ?_;cases fh:pJ P (XB rZ o) (MA rZ.mt o) (MA rZ.pz o) o.type o.op with
         | none =>
           rw [fh] at hv;simp [cf] at hv
         | some m' =>
           rw [fh] at hv;simp only [bF] at hv;refine D4o hs hm hγ hK fh hv next Q ?_
           intro val w' A' E' q1 q2 q3;exact hn _ w' A' E' (Dc q2 q3 q1 e1.symm) q2 q3 (pS val).1 (pS val).2
       · cases he
     · rename_i hwf;rw [hw false hwf];simp only [aF,if_false];simp only [aa,ae] at he;obtain ⟨e1,rfl⟩:=he;have hv:bT w A E (S.add γ) (.eO []) undef:=by simp only [bT];exact ⟨[],rfl,by simp only [dh]⟩
       have q2:=hm.mono (S.eP γ);exact hn _ w A E (Dc q2 (gK.refl w A E S) hv e1.symm) q2 (gK.refl w A E S) (pS undef).1 (pS undef).2
     · cases he
   · cases nU
 · cases nU
def oG (P:Program)(K:jC)(a:Act)(w:World)(A:Nat→Prop)(E:dV An)(S:dv)(g0 n:Nat)(s':gJ)(h':cq)(Q:Exit→Act→World→Prop):Prop :=
 ∀ a' w' A' E' S',S.le S'→(∀ g,S' g→S g∨∃ i,i<n∧g=g0+i)→qd P w' A' E' S' s' a'→MR w' A' E' h' S'→gK w A E S w' A' E'→a'.defers=a.defers→a'.tmps.size=a.tmps.size→Q .normal a' w'
theorem oG.step {a a1:Act}{w w1:World}{A A1:Nat→Prop}{E E1:dV An}{S:dv}{g0 n i:Nat}{s':gJ}{h':cq}(hp:oG P K a w A E S g0 n s' h' Q)(hi:i<n)(hg:gK w A E S w1 A1 E1)(hd:a1.defers=a.defers)(hsz:a1.tmps.size=a.tmps.size) :
 oG P K a1 w1 A1 E1 (S.add (g0+i)) g0 n s' h' Q:=by
 intro a' w' A' E' S' h1 h2 h3 h4 h5 h6 h7;refine hp a' w' A' E' S' (dv.le_trans (S.eP _) h1) (fun g rM=>?_) h3 h4 (hg.trans h5 (S.eP _)) (h6.trans hd) (h7.trans hsz)
 rcases h2 g rM with h | h
 · rcases h with h | rfl
   · exact .inl h
   · exact .inr ⟨i,hi,rfl⟩
 · exact .inr h
section
variable (hK:AY P K)(nU:CO P rZ nt ops ops.toList=some is)
include hK nU
theorem ZJ {g0:Nat}{F:Nat→List Nat×Option rK}:∀ {π:List Nat} {a:Act} {w:World} {A:Nat→Prop} {E:dV An} {S:dv} {s s':gJ} {h h':cq},oR K g0 is F π s h s' h'→π.Nodup→(∀ i∈π,i<ops.size∧¬ S (g0+i))→nt≤a.tmps.size→qd P w A E S s a→MR w A E h S →
 oG P K a w A E S g0 ops.size s' h' Q→wpOps P ops Q π a w
 | [],a,w,A,E,S,s,s',h,h',hr,_,_,_,hs,hm,hp=>by
   cases hr;exact hp a w A E S (S.le_refl) (fun g hg=>.inl hg) hs hm (gK.refl w A E S) rfl rfl
 | i::r,a,w,A,E,S,s,s',h,h',hr,hn,hS,yh,hs,hm,hp=>by
   cases hr with
   | cons hi hf hst hr =>
     rename_i ins s1 h1;obtain ⟨h2,h3⟩:=hS i (by simp)
     obtain ⟨o,ho⟩:∃ o,ops[i]?=some o:=⟨ops[i],by simp [h2]⟩
     obtain ⟨SF,dN,hc⟩:=(NK nU).2 i o (by simpa using ho)
     rw [hi] at dN;cases dN;rw [wpOps_cons];refine ZI hK ho hc yh hs hm h3 hst ?_;intro a1 w1 A1 E1 q1 q2 q3 q4 q5;have qR:=b5.1 hn;refine ZJ hr qR.2 (fun j hj=>⟨(hS j (by simp [hj])).1,fun hc=>?_⟩) (by omega) q1 q2 (hp.step h2 q3 q4 q5)
     rcases hc with hc | hc
     · exact (hS j (by simp [hj])).2 hc
     · have:j=i:=by omega
       exact qR.1 (this ▸ hj)
end
end
end Go.Mid
namespace Go.Mid
open Go.RowKit
section
variable {ops:Array Oper}
theorem D2Z {acc:Array Nat}{k:Nat}(l:List Edge):∀ (s:Nat),(l.foldl (fun s e=>if eE .any e then s ||| 2 ^ e.on ||| acc.getD e.on 0 else s) s).testBit k=true →
 s.testBit k=true∨∃ e∈l,eE .any e=true∧(k=e.on∨(acc.getD e.on 0).testBit k=true):=by
 induction l with
 | nil=>intro s h;exact .inl h
 | cons e r ih =>
   intro s h;simp only [List.foldl_cons] at h;rcases ih _ h with h | ⟨e',he',hb,hk⟩
   · split at h
     · rename_i hb;simp only [Nat.testBit_or,cI,Nat.testBit_two_pow,decide_eq_true_eq] at h;rcases h with (h | h) | h
       · exact .inl h
       · exact .inr ⟨e,by simp,hb,.inl h.symm⟩
       · exact .inr ⟨e,by simp,hb,.inr h⟩
     · exact .inl h
   · exact .inr ⟨e',by simp [he'],hb,hk⟩
theorem C7k:∀ j k,((gN ops).getD j 0).testBit k=true→∃ o,ops[j]?=some o∧∃ e∈o.after,eE .any e=true∧(k=e.on∨(e.on<j∧((gN ops).getD e.on 0).testBit k=true)):=by
 have key:=Array.foldl_induction (as:=ops) (motive:=fun n (acc:Array Nat)=>acc.size=n∧∀ j k,(acc.getD j 0).testBit k=true→∃ o,ops[j]?=some o∧∃ e∈o.after,eE .any e=true∧(k=e.on∨(e.on<j∧(acc.getD e.on 0).testBit k=true))) (init:=#[])
  (f:=fun acc o=>acc.push (o.after.foldl (fun s e=>if eE .any e then s ||| 2 ^ e.on ||| acc.getD e.on 0 else s) 0)) ⟨rfl,fun j k h=>by simp at h⟩ (by
  intro i acc ⟨h1,h2⟩;refine ⟨by simp [h1],fun j k h=>?_⟩
  have old:∀ m,m<acc.size→∀ v,(acc.push v).getD m 0=acc.getD m 0:=by
   intro m hm v;simp [Array.getElem?_push,p7 hm]
  by_cases hj:j<acc.size
  · rw [old j hj] at h;obtain ⟨o,ho,e,he,hb,hk⟩:=h2 j k h;refine ⟨o,ho,e,he,hb,hk.imp (fun h=>h) (fun hk=>⟨hk.1,?_⟩)⟩
    rw [old e.on (by omega)];exact hk.2
  · by_cases ZK:j=acc.size
    · subst ZK;have e0:(acc.push (ops[i].after.foldl (fun s e=>if eE .any e then s ||| 2 ^ e.on ||| acc.getD e.on 0 else s) 0)).getD acc.size 0=ops[i].after.foldl (fun s e=>if eE .any e then s ||| 2 ^ e.on ||| acc.getD e.on 0 else s) 0:=by simp
      rw [e0,← Array.foldl_toList] at h;have r6:ops[acc.size]?=some ops[i]:=by rw [h1];simp
      rcases D2Z _ _ h with h | ⟨e,he,hb,hk⟩
      · simp at h
      · refine ⟨_,r6,e,by simpa using he,hb,hk.imp (fun h=>h) (fun hk=>?_)⟩
        have eC:e.on<acc.size:=by
         by_cases hh:e.on<acc.size
         · exact hh
         · simp [iB (kZ hh)] at hk
        exact ⟨eC,by rw [old e.on eC];exact hk⟩
    · simp [Array.getElem?_push,ZK,iB (kZ hj)] at h)
 exact key.2
theorem C2p {listed:Array Bool}(hc:∀ (j:Nat) (o:Oper),listed.getD j false=true→ops[j]?=some o→∀ e∈o.after,eE .any e=true→listed.getD e.on false=true) :
 ∀ j,(∀ o,ops[j]?=some o→∀ e∈o.after,eE .any e=true→listed.getD e.on false=true)→∀ k,((gN ops).getD j 0).testBit k=true→listed.getD k false=true:=by
 intro j
 induction j using lP with
 | _ j ih =>
   intro hj k hk;obtain ⟨o,ho,e,he,hb,nX⟩:=C7k j k hk;have hl:=hj o ho e he hb;rcases nX with rfl | ⟨eC,hk⟩
   · exact hl
   · exact ih e.on eC (fun o' oQ=>hc e.on o' hl oQ) k hk
end
section
variable {P:Program}{rZ:rZ}{nt:Nat}{ops:Array Oper}{is:List Ins}{K:jC}{Q:Exit→Act→World→Prop}
def rq (n:Nat)(listed:Array Bool):List Nat:=(bp n).filter fun i=>!listed.getD i true
theorem EU {n i:Nat}{listed:Array Bool}:i∈rq n listed↔i<n∧listed.getD i true=false:=by
 simp only [rq,cA,bW,dt]
theorem SG {n:Nat}{listed:Array Bool}:(rq n listed).Pairwise (· < ·):=List.Pairwise.filter _ List.pairwise_lt_range
theorem C7l {n i:Nat}{listed:Array Bool}(hsz:listed.size=n)(hi:i∈rq n listed):∃ pre post,rq n listed=pre++i::post∧rq n (listed.setIfInBounds i true)=pre++post∧∀ j∈pre,j<i:=by
 obtain ⟨pre,post,e⟩:=List.append_of_mem hi;have hp:=SG (n:=n) (listed:=listed);rw [e] at hp;have iK:=List.pairwise_append.1 hp;have zq:=bL.1 iK.2.1;refine ⟨pre,post,e,?_,fun j hj=>iK.2.2 j hj i (by simp)⟩
 have e2:rq n (listed.setIfInBounds i true)=(rq n listed).filter (fun k=>decide (k≠i)):=by
  unfold rq;rw [List.filter_filter];refine List.filter_congr fun k hk=>?_
  by_cases BJ:k=i
  · subst BJ;have eC:k<listed.size:=by rw [hsz];exact (EU.1 hi).1
    simp [eC]
  · simp [BJ,dX (dB BJ)]
 rw [e2,e,List.filter_append,List.filter_cons];have h1:pre.filter (fun k=>decide (k≠i))=pre:=jM.2 fun k hk=>by have:=iK.2.2 k hk i (by simp);simp;omega
 have h2:post.filter (fun k=>decide (k≠i))=post:=jM.2 fun k hk=>by have:=zq.1 k hk;simp;omega
 rw [h1,h2];simp
theorem D4p (hK:AY P K)(nU:CO P rZ nt ops ops.toList=some is){g0:Nat}{F:Nat→List Nat×Option rK}
 (zr:∀ (j:Nat) (o:Oper),ops[j]?=some o→∀ e∈o.after,eE .any e=true→e.on<j)
 (zu:∀ i j,i<j→j<ops.size→((gN ops).getD j 0).testBit i=false→NJ is F i j) :
 ∀ (fuel:Nat) (listed:Array Bool) (a:Act) (w:World) (A:Nat→Prop) (E:dV An) (S:dv) (s s':gJ) (h h':cq),listed.size=ops.size→(rq ops.size listed).length=fuel →
  (∀ (j:Nat) (o:Oper),listed.getD j false=true→ops[j]?=some o→∀ e∈o.after,eE .any e=true→listed.getD e.on false=true) →
  oR K g0 is F (rq ops.size listed) s h s' h'→(∀ i∈rq ops.size listed,¬ S (g0+i))→nt≤a.tmps.size→qd P w A E S s a→MR w A E h S→oG P K a w A E S g0 ops.size s' h' Q →
  wpAny P .any ops Q fuel listed a w:=by
 intro fuel
 induction fuel with
 | zero =>
   intro listed a w A E S s s' h h' hsz hlen nO hr hS yh hs hm hp;have zw:rq ops.size listed=[]:=List.eq_nil_of_length_eq_zero hlen;rw [zw] at hr;cases hr;refine ⟨?_,hp a w A E S S.le_refl (fun g hg=>.inl hg) hs hm (gK.refl w A E S) rfl rfl⟩
   cases EP:p8 .any ops listed with
   | nil=>rfl
   | cons i r =>
     exfalso;have hi:i∈p8 .any ops listed:=by rw [EP];simp
     obtain ⟨h0,o,ho,_⟩:=mem_ready.1 hi;have eC:i<ops.size:=(de.1 ho).1
     have:i∈rq ops.size listed:=EU.2 ⟨eC,h0⟩
     rw [zw] at this;cases this
 | succ fuel ih =>
   intro listed a w A E S s s' h h' hsz hlen nO hr hS yh hs hm hp;refine ⟨fun EP=>?_,fun i hi=>?_⟩
   · exfalso;cases xu:rq ops.size listed with
     | nil=>rw [xu] at hlen;simp at hlen
     | cons j r =>
       have hj:j∈rq ops.size listed:=by rw [xu];simp
       obtain ⟨eC,h0⟩:=EU.1 hj;have ZL:j∈p8 .any ops listed:=by
        refine mem_ready.2 ⟨h0,ops[j],by simp [eC],fun e he hb=>?_⟩
        have B5:=zr j ops[j] (by simp [eC]) e he hb
        have eD:e.on∉rq ops.size listed:=by
         intro wL;have zq:=SG (n:=ops.size) (listed:=listed);rw [xu] at zq wL;rcases aM.1 wL with h3 | h3
         · omega
         · have:=(bL.1 zq).1 _ h3;omega
        have SH:e.on<ops.size:=by omega
        have:¬ (listed.getD e.on true=false):=fun h=>eD (EU.2 ⟨SH,h⟩)
        have Gv:e.on<listed.size:=by omega
        simp [Gv] at this ⊢;exact this
       rw [EP] at ZL;cases ZL
   · obtain ⟨h0,o,ho,ko⟩:=mem_ready.1 hi;have eC:i<ops.size:=(de.1 ho).1;have Nl:i∈rq ops.size listed:=EU.2 ⟨eC,h0⟩;obtain ⟨pre,post,e1,e2,po⟩:=C7l hsz Nl;rw [e1] at hr;have EV:=hr.front (fun j hj=>by
      refine zu j i (po j hj) eC ?_;cases hb:((gN ops).getD i 0).testBit j with
      | false=>rfl
      | true =>
        exfalso;have hl:=C2p nO i (fun o' oQ=>by rw [ho] at oQ;cases oQ;exact ko) j hb
        have EW:j∈rq ops.size listed:=by rw [e1];simp [hj]
        have:=(EU.1 EW).2
        have AR:j<listed.size:=by rw [hsz];exact (EU.1 EW).1
        simp [AR] at hl this;rw [hl] at this;cases this)
     cases EV with
     | cons dN hf hst hr' =>
       rename_i ins s1 h1;obtain ⟨SF,oS,hc⟩:=(NK nU).2 i o (by simpa using ho)
       rw [dN] at oS;cases oS;refine ZI hK ho hc yh hs hm (hS i Nl) hst ?_;intro a1 w1 A1 E1 q1 q2 q3 q4 q5;have iq:(rq ops.size listed).Nodup:=List.Pairwise.imp (fun h=>p7 h) SG
       have hni:i∉pre++post:=by
        rw [e1] at iq
        have:=List.nodup_append.1 iq
        intro wL;rcases ay.1 wL with wL | wL
        · exact this.2.2 i wL i (by simp) rfl
        · exact (b5.1 this.2.1).1 wL
       refine ih (listed.setIfInBounds i true) a1 w1 A1 E1 (S.add (g0+i)) s1 s' h1 h' (by simp [hsz]) ?_ ?_ (by rw [e2];exact hr') ?_ (by omega) q1 q2 (hp.step eC q3 q4 q5)
       · rw [e2];rw [e1] at hlen;simp only [List.length_append,bf] at hlen ⊢;omega
       · intro j oj hj BI e he hb;by_cases vH:j=i
         · subst vH;rw [ho] at BI;cases BI;exact getD_set_true (ko e he hb)
         · rw [getD_set_ne false (dB vH)] at hj;exact getD_set_true (nO j oj hj BI e he hb)
       · rw [e2];intro j hj oX;have EW:j∈rq ops.size listed:=by
          rw [e1];rcases ay.1 hj with hj | hj<;>simp [hj]
         rcases oX with oX | oX
         · exact hS j EW oX
         · have:j=i:=by omega
           exact hni (this ▸ hj)
theorem ZM {g0:Nat}{F:Nat→List Nat×Option rK}:∀ (l:List Ins) (m:Nat) (s s':gJ) (h h':cq),is.drop m=l→tV K (g0+m) l s h=some (s',h')→(∀ (k:Nat) (x:List Nat×Bool×Option rK),(tY K (g0+m) l s h)[k]?=some x→F (m+k)=(x.1,x.2.2)) →
 oR K g0 is F (mI m l.length) s h s' h'
 | [],m,s,s',h,h',_,hst,_=>by
   simp only [tV,aa,ae] at hst;obtain ⟨rfl,rfl⟩:=hst;exact .nil s h
 | ins::r,m,s,s',h,h',hd,hst,hF=>by
   simp only [tV] at hst;split at hst
   · rename_i s1 h1 he;have SI:is[m]?=some ins:=by
      have:=congrArg (·[0]?) hd
      simpa using this
     have MQ:is.drop (m+1)=r:=by
      rw [← List.drop_drop,hd];rfl
     rw [bf,List.range'_succ];refine .cons SI (.inr ?_) he (ZM r (m+1) s1 s' h1 h' MQ hst ?_)
     · have:=hF 0 (lJ s h ins,idle ins.op || tW ins.op,wj s ins) (by simp only [tY,bP])
       rw [du] at this;rw [this];exact ⟨fun z hz=>hz,rfl⟩
     · intro k x hx
       have:=hF (k+1) x (by simp only [tY,bK,he];exact hx)
       rw [← this];congr 1;omega
   · cases hst
theorem SJ {g:Nat}:∀ (l:List Ins) (s:gJ) (h:cq) (k:Nat) (x:List Nat×Bool×Option rK) (ins:Ins),(tY K g l s h)[k]?=some x→l[k]?=some ins→x.2.1=(idle ins.op || tW ins.op)
 | [],s,h,k,x,ins,hx,_=>by simp [tY] at hx
 | i::r,s,h,0,x,ins,hx,hi=>by
   simp only [tY,bP,aa] at hx hi;subst hx hi;rfl
 | i::r,s,h,k+1,x,ins,hx,hi=>by
   simp only [tY,bK] at hx hi;split at hx
   · exact SJ r _ _ k x ins hx hi
   · simp at hx
theorem D4q (hK:AY P K)(vI:P.follows .mixedOrders=true)(nU:CO P rZ nt ops ops.toList=some is){id:Nat}{draw:Bool}(kN:(!draw || MB ops is)=true){σ σ':St}(hr:rY K (if draw then Bv ops is else []) is σ=some σ')
 {a:Act} {w:World} {A:Nat→Prop} {E:dV An} (yh:nt≤a.tmps.size) (hs:qd P w A E (· < σ.nx) σ.s a) (hm:MR w A E σ.h (· < σ.nx))
 (hn:∀ a' w' A' E',qd P w' A' E' (· < σ'.nx) σ'.s a'→MR w' A' E' σ'.h (· < σ'.nx)→gK w A E (· < σ.nx) w' A' E'→a'.defers=a.defers→a'.tmps.size=a.tmps.size→Q .normal a' w') (SK:σ'.nx=σ.nx+ops.size→True):(Code.region id ops draw).wp P Q a w:=by
 generalize BP:(if draw then Bv ops is else [])=loose at hr
 unfold rY at hr;split at hr
 · rename_i s1 h1 hst;split at hr
   · rename_i zx;simp only [aa] at hr;subst hr;have hlen:is.length=ops.size:=by rw [(NK nU).1];simp
     let F:Nat→List Nat×Option rK:=fun i=>match (tY K σ.nx is σ.s σ.h)[i]? with | some (x,_,p)=>(x,p) | none=>([],none)
     have zy:oR K σ.nx is F (mI 0 is.length) σ.s σ.h s1 h1:=by
      refine ZM is 0 σ.s s1 σ.h h1 rfl hst ?_;intro k x hx;rw [du] at hx;simp only [F,bS,hx]
     rw [hlen,← List.range_eq_range'] at zy;have Dd:oG P K a w A E (· < σ.nx) σ.nx ops.size s1 h1 Q:=by
      intro a' w' A' E' S' q1 q2 q3 q4 q5 q6 q7;have hle:dv.le S' (· < σ.nx+is.length):=by
       intro g hg;rw [hlen];rcases q2 g hg with h | ⟨i,hi,rfl⟩
       · have:g<σ.nx:=h
         show g<σ.nx+ops.size;omega
       · show σ.nx+i<σ.nx+ops.size;omega
      exact hn a' w' A' E' ⟨fun k=>(q3.sl k).frame (Fr.same w' A' E' hle),q3.gl⟩ (q4.mono hle) q5 q6 q7
     cases draw with
     | false =>
       refine wp_region (ZJ hK nU zy List.nodup_range (fun i hi=>⟨bW.1 hi,?_⟩) yh hs hm Dd)
       show ¬ (σ.nx+i<σ.nx);omega
     | true =>
       have B6:MB ops is=true:=by simpa using kN
       simp only [if_true] at BP;subst BP;unfold MB at B6;simp only [bg,bW,ak] at B6;refine wp_region_any vI ?_;have zr:∀ (j:Nat) (o:Oper),ops[j]?=some o→∀ e∈o.after,eE .any e=true→e.on<j:=by
        intro j o ho e he hb;have hj:j<is.length:=by rw [hlen];exact (de.1 ho).1
        have:=(B6 j hj).1
        rw [ho] at this;simp only [bg] at this
        have:=this e (by simpa using he)
        simpa [hb] using this
       have zu:∀ i j,i<j→j<ops.size→((gN ops).getD j 0).testBit i=false→NJ is F i j:=by
        intro i j gU hj hb x y hx hy;have ye:=(B6 j (by omega)).2 i (by simpa using gU)
        rw [hb,hx,hy] at ye;refine ⟨by simpa using ye,?_⟩
        by_cases oH:(idle x.op || idle y.op || (tW x.op&&tW y.op))=true
        · simp only [cI,ak] at oH;rcases oH with (h | h) | h
          · exact .inl h
          · exact .inr (.inl h)
          · exact .inr (.inr (.inl h))
        · have pf:(i,j)∈Bv ops is:=by
           unfold Bv;refine ig.2 ⟨j,by simp;omega,List.mem_filterMap.2 ⟨i,by simpa using gU,?_⟩⟩
           simp only [hx,hy];rw [if_neg];simp only [ie] at oH;rw [hb,oH];simp
          have wk:Ge (tY K σ.nx is σ.s σ.h) (Bv ops is)=true:=by
           simp only [cI] at zx;rcases zx with h | h
           · have:Bv ops is=[]:=by simpa using h
             rw [this] at pf;cases pf
           · exact h
          have:=bg.1 wk (i,j) pf
          simp only at this;split at this
          · rename_i xa rx px ya ry py Jr SM;have m1:=SJ is σ.s σ.h i _ x Jr hx;have m2:=SJ is σ.s σ.h j _ y SM hy;simp only at m1 m2;rw [m1,m2] at this;simp only [cI,ak] at this oH;rcases this with (⟨h3,h4⟩ | h3) | h3
            · exfalso;apply oH;rcases h3 with h3 | h3
              · exact .inl (.inl h3)
              · rcases h4 with h4 | h4
                · exact .inl (.inr h4)
                · exact .inr ⟨h3,h4⟩
            · refine .inr (.inr (.inr (.inl fun z hz GH=>?_)))
              simp only [F,Jr,SM] at hz GH
              have:=bg.1 h3 z hz
              simp at this;exact this GH
            · refine .inr (.inr (.inr (.inr ?_)));simp only [F,Jr,SM];exact h3
          · cases this
       have xu:rq ops.size (iO ops.size false)=bp ops.size:=by
        unfold rq;refine jM.2 fun i hi=>?_
        have:i<ops.size:=bW.1 hi
        simp [this]
       have EM:Fr w { w with drawn:=w.drawn+1 } A A E E (· < σ.nx) (· < σ.nx):=⟨fun _ h=>h,fun _ _=>rfl,oW.refl _ _,dv.le_refl _⟩
       have vG:MR { w with drawn:=w.drawn+1 } A E σ.h (· < σ.nx):=⟨hm.er,fun i o ho=>OAt.frame EM (fun _ _=>rfl) (hm.at_ i o ho),hm.lt,hm.nd,hm.dj,hm.im,hm.st⟩
       have BW:gK w A E (· < σ.nx) { w with drawn:=w.drawn+1 } A E:=⟨rfl,rfl,rfl,au _,fun _ _ _=>rfl,fun _ h=>h,fun _ _ h=>.inl h,fun _ _ h=>h,oW.refl _ _⟩
       refine D4p hK nU zr zu ops.size _ a _ A E (· < σ.nx) σ.s s1 σ.h h1 (by simp) (by rw [xu];simp) ?_ (by rw [xu];exact zy) ?_ yh ⟨fun k=>(hs.sl k).frame EM,hs.gl.frame (fun _ h=>h) (fun _ _=>rfl)⟩ vG ?_
       · intro j o hj;exfalso;by_cases GN:j<ops.size
         · simp [GN] at hj
         · rw [fU,iB (by simpa using GN)] at hj
           cases hj
       · intro i _;show ¬ (σ.nx+i<σ.nx);omega
       · intro a' w' A' E' S' q1 q2 q3 q4 q5 q6 q7;exact Dd a' w' A' E' S' q1 q2 q3 q4 (BW.trans q5 (dv.le_refl _)) q6 q7
   · cases hr
 · cases hr
end
end Go.Mid
namespace Go.Mid
open Go.RowKit
structure u7 (P:Program)(w:World)(A:Nat→Prop)(E:dV An)(nt:Nat)(σ:St)(a:Act):Prop where
 sl:qd P w A E (· < σ.nx) σ.s a
 mr:MR w A E σ.h (· < σ.nx)
 nx:1≤σ.nx
 df:a.defers=[]
 sz:nt≤a.tmps.size
def ZN:Ex→Exit
 | .normal=>.normal
 | .exit id=>.exit id
 | .ret=>.ret
theorem C3t {P:Program}{c:Code}{Q:Exit→Act→World→Prop}(R:Nat→Act→World→Prop)(round:∀ n a w,R n a w→c.wp P (Exit.then (fun a' w'=>∃ m,m<n∧R m a' w') Q) a w) :
 ∀ n a w,R n a w→(Code.loop c).wp P Q a w:=by
 intro n a w h₀ b k cs;have key:∀ n a w,R n a w→∃ e a' w',Q e a' w'∧Arrives P (lone (b.at a (.code c::.inLoop c::k)) cs w) b k cs e a' w':=by
  intro n
  induction n using lP with
  | _ n ih =>
    intro a w hR;obtain ⟨e,a₁,w₁,hq,sa⟩:=round n a w hR b (.inLoop c::k) cs;cases e with
    | normal =>
      obtain ⟨m,eC,hm⟩:=hq;obtain ⟨e₂,a₂,w₂,hq₂,Js⟩:=ih m eC a₁ w₁ hm;exact ⟨e₂,a₂,w₂,hq₂,.of_steps (Steps.trans sa (.one step_inLoop)) Js⟩
    | exit id=>exact ⟨_,a₁,w₁,hq,.pass (x:=.inLoop c) rfl (fun _ _=>.inl (by simp)) sa⟩
    | goto l=>exact ⟨_,a₁,w₁,hq,.pass (x:=.inLoop c) rfl (fun _ _=>.inl (by simp)) sa⟩
    | ret=>exact ⟨_,a₁,w₁,hq,.pass (x:=.inLoop c) rfl (fun _ _=>.inl (by simp)) sa⟩
    | panic ch=>exact ⟨_,a₁,w₁,hq,.pass (x:=.inLoop c) rfl (fun _ _=>.inl (by simp)) sa⟩
    | outgrown=>exact ⟨_,a₁,w₁,hq,.pass (x:=.inLoop c) rfl (fun _ _=>.inl (by simp)) sa⟩
 obtain ⟨e,a',w',hq,sa⟩:=key n a w h₀;exact ⟨e,a',w',hq,.of_steps (.one step_loop) sa⟩
section
variable {P:Program}{w:World}{A:Nat→Prop}{E:dV An}{nt:Nat}{σ:St}{a:Act}
theorem AZ {n:Nat}(h:1≤n):S0.le (· < n):=by
 intro g hg
 have:g=0:=hg
 show g<n;omega
theorem B7 (g:Nat):jP g<2:=by unfold jP;split<;>omega
theorem SN {g:Nat}(h:jP g=0):g=0:=by
 unfold jP at h;split at h
 · assumption
 · omega
theorem gK.weaken {w':World}{A':Nat→Prop}{E':dV An}{S S':dv}(g:gK w A E S' w' A' E')(h:S.le S'):gK w A E S w' A' E' :=
 ⟨g.os,g.tape,g.output,g.size,g.bn,g.sub,g.Az,g.own,fun id np an z hn hg=>g.ns id np an z hn (h _ hg)⟩
theorem NL (k:u7 P w A E nt σ a)(ks ids:List Nat):∃ E',u7 P w A E' nt (rI ks ids σ) a∧gK w A E S0 w A E':=by
 let bk:Nat→Option Nat:=fun j=>if wc ids j then some j else none
 have hρ:∀ i j,tt ids i=some j→bk j=some i:=by
  intro i j h;unfold tt at h;split at h
  · rename_i hk;cases h;simp only [bk,hk,if_true]
  · cases h
 have sZ:∀ i j j',bk j=some i→bk j'=some i→j=j':=by
  intro i j j' h h';simp only [bk] at h h';split at h<;>split at h'<;>simp_all
 have hm:=k.mr.clean (nx':=(· < 2)) (ζ:=jP) (ζn:=fun _=>jP) hρ sZ (fun g _=>B7 g) (fun _ g _=>B7 g)
 have hh:zh σ.h (tt ids) jP (fun _=>jP) bk=(rI ks ids σ).h:=by
  funext j;simp only [zh,rI,bk];split<;>rfl
 rw [hh] at hm;refine ⟨r8 E σ.h (tt ids) jP (fun _=>jP) bk,⟨⟨?_,k.sl.gl⟩,hm,by simp [rI],k.df,k.sz⟩,?_⟩
 · intro i;simp only [rI];split
   · exact bT.clean (nx':=(· < 2)) k.mr hρ (fun g _=>B7 g) (k.sl.sl i)
   · simp only [bT]
 · refine ⟨rfl,rfl,rfl,au _,fun _ _ _=>rfl,fun _ h=>h,fun _ _ h=>.inl h,fun b _ h=>Nu h,?_⟩
   intro id np an z hn hg;have yd:an.g=0:=hg;by_cases hb:wc ids id=true
   · have rP:bk id=some id:=by simp only [bk,hb,if_true]
     rw [I6 rP] at hn;cases AP:fq (E id) np with
     | none=>simp [AP] at hn
     | some y =>
       simp only [AP,ar,aa,ae] at hn;obtain ⟨rfl,rfl⟩:=hn;have h0:=SN yd;obtain ⟨⟨g,bb,cc⟩,z⟩:=y;simp only at h0;subst h0;rfl
   · have:r8 E σ.h (tt ids) jP (fun _=>jP) bk id=none:=by
      simp only [r8,bk,hb,aF,if_false,nf]
     rw [this] at hn;cases np with
     | none=>cases hn
     | some p=>cases p<;>cases hn
theorem C7m {σ':St}{g:Gh}(k:u7 P w A E nt σ a)(h:yL g σ=some σ'):∃ A' E',u7 P w A' E' nt σ' a∧gK w A E S0 w A' E':=by
 cases g with
 | bn ks ids =>
   simp only [yL,aa] at h;subst h;obtain ⟨E',h1,h2⟩:=NL k ks ids;exact ⟨A,E',h1,h2⟩
 | freeze t =>
   simp only [yL] at h;have hγ:¬ (fun g=>g<σ.nx) σ.nx:=Nat.lt_irrefl _
   have EE:dv.add (· < σ.nx) σ.nx=(· < σ.nx+1):=by
    funext g;exact propext ⟨fun hg=>by rcases hg with hg | hg<;>omega,fun hg=>by
     rcases Nat.lt_or_eq_of_le (Nat.le_of_lt_succ hg) with e | e
     · exact .inl e
     · exact .inr e⟩
   have fin:∀ {E':dV An} {h':cq},MR w A E' h' (dv.add (· < σ.nx) σ.nx)→gK w A E (· < σ.nx) w A E'→u7 P w A E' nt ⟨σ.s,h',σ.nx+1⟩ a:=by
    intro E' h' q1 q2;rw [EE] at q1;exact ⟨⟨fun i=>(k.sl.sl i).go k.mr q2 (fun g hg=>Nat.lt_succ_of_lt hg),k.sl.gl.frame q2.sub (fun b hb=>q2.tZ k.mr b hb)⟩,q1,by have:=k.nx;show 1≤σ.nx+1;omega,k.df,k.sz⟩
   split at h
   · split at h
     · rename_i h' ht;cases h;simp only [D2] at ht;split at ht
       · rename_i a' t' gx;cases ht;obtain ⟨E',q1,q2⟩:=k.mr.sD hγ gx;exact ⟨A,E',fin q1 q2,q2.weaken (AZ k.nx)⟩
       · cases ht
     · cases h
   split at h
   · split at h
     · rename_i z hst gx;cases h;obtain ⟨E',q1,q2,q3⟩:=k.mr.Ez (z:=z) hγ gx;have q:=fin q1 q2;have tG:=k.sl.sl (t%1000);rw [hst] at tG;simp only [bT] at tG;obtain ⟨ad,cL⟩:=tG;refine ⟨A,E',⟨⟨fun i=>?_,q.sl.gl⟩,q.mr,q.nx,q.df,q.sz⟩,q2.weaken (AZ k.nx)⟩
       show bT w A E' _ (cD σ.s (t%1000) _ i) _;by_cases e:i=t%1000
       · subst e;rw [nM];simp only [bT];refine ⟨Nat.lt_succ_self _,ad,0,cL,au _,fun an z' hn hg=>?_⟩
         rw [q3] at hn;cases hn;exact ⟨rfl,rfl⟩
       · rw [nT _ _ e];exact q.sl.sl i
     · cases h
     · cases h;exact ⟨A,E,fin (k.mr.mono (dv.eP _ _)) (gK.refl w A E _),gK.refl w A E _⟩
   split at h
   · split at h
     · rename_i h' ht;cases h;unfold D2 at ht;split at ht
       · rename_i id g o hst;split at ht
         · rename_i a' t' gx;cases ht;obtain ⟨E',q1,q2⟩:=k.mr.sD hγ gx;exact ⟨A,E',fin q1 q2,q2.weaken (AZ k.nx)⟩
         · cases ht
       · rename_i id i0 p off len g hst;split at ht
         · rename_i g1 z l n dP;split at ht
           · rename_i o' eY;cases ht;obtain ⟨E',q1,q2⟩:=k.mr.BT hγ dP eY;exact ⟨A,E',fin q1 q2,q2.weaken (AZ k.nx)⟩
           · cases ht
         · cases ht
       · cases ht
     · cases h
   have set:∀ {A':Nat→Prop} {E':dV An} {v:MV} {h':cq},gK w A E (· < σ.nx) w A' E'→MR w A' E' h' (· < σ.nx)→bT w A' E' (· < σ.nx) v (a.tmps.getD t undef)→u7 P w A' E' nt ⟨cD σ.s t v,h',σ.nx⟩ a:=by
    intro A' E' v h' hg hm hv;refine ⟨⟨fun i=>?_,k.sl.gl.frame hg.sub (fun b hb=>hg.tZ k.mr b hb)⟩,hm,k.nx,k.df,k.sz⟩
    show bT w A' E' _ (cD σ.s t v i) _;by_cases e:i=t
    · subst e;rw [nM];exact hv
    · rw [nT _ _ e];exact (k.sl.sl i).go k.mr hg (dv.le_refl _)
   have tG:=k.sl.sl t;split at h
   · rename_i id len g0 hst;split at h
     · rename_i g1 z l gx;split at h
       · rename_i hc;obtain ⟨rfl,hlen⟩:=hc;split at h
         · rename_i vs fX;cases h;cases hE:E id with
           | none=>rw [k.mr.er id,hE] at gx;cases gx
           | some o =>
             obtain ⟨q1,q2⟩:=k.mr.wE hE;rw [hst] at tG;have hp:mB σ.h (.own id [] 0 len g0)=some (.sl (vs.take len)):=by
              simp only [mB,gx,jG,bS,hlen,true_and,if_true,fX,List.drop_zero]
             have hv:=C5 (A':=fun b=>A b∨b∈o.blk) k.mr (fun b hb=>.inl hb) hp (fun i hi o1 nu b hb=>by
              simp only [kf,aW] at hi;subst hi;rw [hE] at nu;cases nu;exact .inr hb) tG
             exact ⟨_,_,set q2 q1 (by simp only [bT];exact hv),q2.weaken (AZ k.nx)⟩
         · cases h
       · cases h
     · cases h
   · rename_i id i0 p off len g0 hst;split at h
     · rename_i g1 z l n dP;split at h
       · rename_i vs fX;split at h
         · rename_i o' eY;cases h;obtain ⟨A',E',q1,q2⟩:=k.mr.IW dP fX eY;refine ⟨A',E',⟨⟨fun i=>(k.sl.sl i).go k.mr q2 (dv.le_refl _),k.sl.gl.frame q2.sub (fun b hb=>q2.tZ k.mr b hb)⟩,q1,k.nx,k.df,k.sz⟩,q2.weaken (AZ k.nx)⟩
         · cases h
       · cases h
     · cases h
   · rename_i id g0 hst;split at h
     · rename_i g1 u gx;split at h
       · rename_i hc;subst hc;split at h
         · rename_i v yY;cases h;cases hE:E id with
           | none=>rw [k.mr.er id,hE] at gx;cases gx
           | some o =>
             obtain ⟨q1,q2⟩:=k.mr.wE hE;rw [hst] at tG;have hp:mB σ.h (.ptr id none [] g0 0)=some (.ref v):=by
              simp only [mB,gx,look,lX,true_and,if_true,yY]
             have hv:=C5 (A':=fun b=>A b∨b∈o.blk) k.mr (fun b hb=>.inl hb) hp (fun i hi o1 nu b hb=>by
              simp only [kf,aW] at hi;subst hi;rw [hE] at nu;cases nu;exact .inr hb) tG
             exact ⟨_,_,set q2 q1 (by simp only [bT];exact hv),q2.weaken (AZ k.nx)⟩
         · cases h
       · cases h
     · cases h
   · rename_i v hst;cases h;refine ⟨A,E,set (gK.refl w A E _) k.mr (by rw [← hst];exact tG),gK.refl w A E _⟩
   · rename_i z hst;cases h;rw [hst] at tG;simp only [bT] at tG;obtain ⟨ad,cL⟩:=tG;refine ⟨A,E,set (gK.refl w A E _) k.mr ?_,gK.refl w A E _⟩;rw [cL];exact vu.2 ⟨ad,0,rfl,au _,.inl rfl⟩
   · cases h
end
section
variable {P:Program}{Φ:mz}
def NM (P:Program)(Φ:mz)(n:Nat):Prop :=
 ∀ (B:rZ) (nt:Nat) (c:Code) (k:Nat) (mc:MC) (k':Nat),sA P B nt c k=some (mc,k')→∀ (σ σ':St) (e:Ex),run Φ n mc σ=some (e,σ') →
  ∀ (Q:Exit→Act→World→Prop) (a:Act) (w:World) (A:Nat→Prop) (E:dV An),u7 P w A E nt σ a →
   (∀ a' w' A' E',u7 P w' A' E' nt σ' a'→gK w A E S0 w' A' E'→Q (ZN e) a' w')→c.wp P Q a w
theorem ZO {r:MC}{nt:Nat}:∀ (l:List Nat) (n:Nat) (σ σ':St) (e:Ex),run Φ n (MD l r) σ=some (e,σ')→∀ (a:Act) (w:World) (A:Nat→Prop) (E:dV An),u7 P w A E nt σ a →
 ∃ m σ1 A1 E1,m≤n∧run Φ m r σ1=some (e,σ')∧u7 P w A1 E1 nt σ1 a∧gK w A E S0 w A1 E1
 | [],n,σ,σ',e,hr,a,w,A,E,k=>⟨n,σ,A,E,au n,hr,k,gK.refl w A E _⟩
 | t::l,n,σ,σ',e,hr,a,w,A,E,k=>by
   cases n with
   | zero=>simp [run] at hr
   | succ n =>
     have e0:MD (t::l) r=.seq (.gh (.freeze t)) (MD l r):=rfl;rw [e0] at hr;simp only [run] at hr;cases n with
     | zero=>simp [run] at hr
     | succ n =>
       cases hg:yL (.freeze t) σ with
       | none=>simp [run,hg] at hr
       | some σ1 =>
         have h1:run Φ (n+1) (.gh (.freeze t)) σ=some (.normal,σ1):=by simp only [run,hg]
         rw [h1] at hr;simp only at hr;obtain ⟨A1,E1,k1,g1⟩:=C7m k hg;obtain ⟨m,σ2,A2,E2,q1,q2,q3,q4⟩:=ZO l (n+1) σ1 σ' e hr a w A1 E1 k1;exact ⟨m,σ2,A2,E2,by omega,q2,q3,g1.trans q4 (dv.le_refl _)⟩
theorem C7n (vI:P.follows .mixedOrders=true)(n:Nat)(ih:∀ m,m<n→NM P Φ m)(zm:∀ m,m<n→AY P (n4 Φ (run Φ m))):NM P Φ n:=by
 intro B nt c k mc k' hc σ σ' e hr Q a w A E hk hQ;cases n with
 | zero=>simp [run] at hr
 | succ n =>
   cases c with
   | skip =>
     simp only [sA,aa,ae] at hc;obtain ⟨rfl,_⟩:=hc;simp only [run,aa,ae] at hr;obtain ⟨rfl,rfl⟩:=hr;exact wp_skip (hQ a w A E hk (gK.refl w A E _))
   | ret =>
     simp only [sA,aa,ae] at hc;obtain ⟨rfl,_⟩:=hc;cases n with
     | zero=>simp [run] at hr
     | succ n =>
       simp only [run,yL,aa,ae] at hr;obtain ⟨rfl,rfl⟩:=hr;obtain ⟨E',h1,h2⟩:=NL hk _ _;exact wp_ret (hQ a w A E' h1 h2)
   | exit id =>
     simp only [sA,aa,ae] at hc;obtain ⟨rfl,_⟩:=hc;cases n with
     | zero=>simp [run] at hr
     | succ n =>
       simp only [run,yL,aa,ae] at hr;obtain ⟨rfl,rfl⟩:=hr;obtain ⟨E',h1,h2⟩:=NL hk _ _;exact wp_exit (hQ a w A E' h1 h2)
   | region id ops draw =>
     simp only [sA] at hc;split at hc
     · rename_i is his;split at hc
       · rename_i kN;simp only [aa,ae] at hc;obtain ⟨rfl,_⟩:=hc;obtain ⟨m,σ1,A1,E1,q1,q2,q3,q4⟩:=ZO _ _ σ σ' e hr a w A E hk;cases m with
         | zero=>simp [run] at q2
         | succ m =>
           cases A0:rY (n4 Φ (run Φ m)) (if draw then Bv ops is else []) is σ1 with
           | none=>simp [run,A0] at q2
           | some σ2 =>
             simp only [run,A0,aa,ae] at q2;have SK:σ2.nx=σ1.nx+is.length:=by
              clear q2 hQ hr;generalize (if draw then Bv ops is else [])=loose at A0
              unfold rY at A0;split at A0
              · split at A0
                · cases A0;rfl
                · cases A0
              · cases A0
             obtain ⟨rfl,rfl⟩:=q2;refine D4q (zm m (by omega)) vI his kN A0 q3.sz q3.sl q3.mr ?_ (fun _=>trivial)
             intro a' w' A' E' r1 r2 r3 r4 r5;refine hQ a' w' A' E' ⟨r1,r2,by have:=q3.nx;omega,r4.trans q3.df,by rw [r5];exact q3.sz⟩ ?_
             exact q4.trans (r3.weaken (AZ q3.nx)) (dv.le_refl _)
       · simp only [aa,ae] at hc;obtain ⟨rfl,_⟩:=hc;simp [run] at hr
     · cases hc
   | seq x y =>
     simp only [sA] at hc;split at hc
     · rename_i mx n1 hx;split at hc
       · rename_i my n2 hy;simp only [aa,ae] at hc;obtain ⟨rfl,_⟩:=hc;simp only [run] at hr;refine wp_seq ?_;split at hr
         · rename_i σ1 yi;refine ih n (by omega) B nt x k mx n1 hx σ σ1 .normal yi _ a w A E hk ?_
           intro a1 w1 A1 E1 k1 g1;refine ih n (by omega) B nt y n1 my n2 hy σ1 σ' e hr Q a1 w1 A1 E1 k1 ?_
           intro a2 w2 A2 E2 k2 g2;exact hQ a2 w2 A2 E2 k2 (g1.trans g2 (dv.le_refl _))
         · rename_i mF;refine ih n (by omega) B nt x k mx n1 hx σ σ' e hr _ a w A E hk ?_
           intro a1 w1 A1 E1 k1 g1
           have:=hQ a1 w1 A1 E1 k1 g1
           cases e with
           | normal=>exact (mF _ hr).elim
           | exit id=>exact this
           | ret=>exact this
       · cases hc
     · cases hc
   | cond o x y =>
     simp only [sA] at hc;split at hc
     · rename_i co mx n1 ho hx;split at hc
       · rename_i my n2 hy;simp only [aa,ae] at hc;obtain ⟨rfl,_⟩:=hc;simp only [run] at hr;have hv:=j0 hk.sl ho;split at hr
         · rename_i hb;rw [hb] at hv;refine wp_cond_true (ua.1 hv) (ih n (by omega) B nt x k mx n1 hx σ σ' e hr Q a w A E hk hQ)
         · rename_i hb;rw [hb] at hv;refine wp_cond_false (ua.1 hv) (ih n (by omega) B nt y n1 my n2 hy σ σ' e hr Q a w A E hk hQ)
         · cases hr
       · cases hc
     · cases hc
   | block id x =>
     simp only [sA] at hc;split at hc
     · rename_i mx n1 hx;simp only [aa,ae] at hc;obtain ⟨rfl,_⟩:=hc;simp only [run] at hr;refine wp_block ?_;split at hr
       · rename_i j σ1 yi;refine ih n (by omega) B nt x k mx n1 hx σ σ1 (.exit j) yi _ a w A E hk ?_
         intro a1 w1 A1 E1 k1 g1;simp only [ZN,Exit.inBlock];split at hr
         · rename_i hj;simp only [aa,ae] at hr;obtain ⟨rfl,rfl⟩:=hr;rw [if_pos hj];exact hQ a1 w1 A1 E1 k1 g1
         · rename_i hj;simp only [aa,ae] at hr;obtain ⟨rfl,rfl⟩:=hr;rw [if_neg hj];exact hQ a1 w1 A1 E1 k1 g1
       · rename_i mF;refine ih n (by omega) B nt x k mx n1 hx σ σ' e hr _ a w A E hk ?_
         intro a1 w1 A1 E1 k1 g1
         have:=hQ a1 w1 A1 E1 k1 g1
         cases e with
         | normal=>exact this
         | exit j=>exact (mF _ _ hr).elim
         | ret=>exact this
     · cases hc
   | loop x =>
     simp only [sA] at hc;split at hc
     · rename_i mx n1 hx;simp only [aa,ae] at hc;obtain ⟨rfl,_⟩:=hc;generalize hks:(B.bn.getD k ([],[])).1=ks at hr;generalize B1:(B.bn.getD k ([],[])).2=ids at hr
       let R:Nat→Act→World→Prop:=fun m a1 w1=>m≤n+1∧∃ σ1 A1 E1,run Φ m (.loop ks ids mx) σ1=some (e,σ')∧u7 P w1 A1 E1 nt σ1 a1∧gK w A E S0 w1 A1 E1
       refine C3t R ?_ (n+1) a w ⟨au _,σ,A,E,hr,hk,gK.refl w A E _⟩;rintro m a1 w1 ⟨hm,σ1,A1,E1,yi,k1,g1⟩;cases m with
       | zero=>simp [run] at yi
       | succ m =>
         simp only [run] at yi;obtain ⟨E2,k2,g2⟩:=NL k1 ks ids;split at yi
         · rename_i σ2 GM;refine ih m (by omega) B nt x (k+1) mx n1 hx _ σ2 .normal GM _ a1 w1 A1 E2 k2 ?_
           intro a3 w3 A3 E3 k3 g3;exact ⟨m,by omega,by omega,σ2,A3,E3,yi,k3,(g1.trans g2 (dv.le_refl _)).trans g3 (dv.le_refl _)⟩
         · rename_i mF;refine ih m (by omega) B nt x (k+1) mx n1 hx _ σ' e yi _ a1 w1 A1 E2 k2 ?_
           intro a3 w3 A3 E3 k3 g3
           have:=hQ a3 w3 A3 E3 k3 ((g1.trans g2 (dv.le_refl _)).trans g3 (dv.le_refl _))
           cases e with
           | normal=>exact (mF _ yi).elim
           | exit j=>exact this
           | ret=>exact this
     · cases hc
   | _ =>
     simp only [sA,aa,ae] at hc;obtain ⟨rfl,_⟩:=hc;simp [run] at hr
end
end Go.Mid
namespace Go.Mid
open Go.RowKit
section
variable {P:Program}{w:World}{A A':Nat→Prop}{E:dV An}{nx:dv}{h:cq}
theorem C7o (hm:MR w A E h nx){t:TypeId}(hU:qO P t=true){x u:MV}{val:Value}(dL:bT w A E nx x val)(hu:tT h (mU P t) (P.cellsOf t) x=some u) :
 ∃ ad v,val=.pointer (some ad)∧(loadVar t ad).run P w=.ok v w∧bT w A E nx u v:=by
 unfold tT at hu;split at hu
 · rename_i pv;split at hu
   · rename_i hc;cases hu;obtain ⟨b,o',cL,hA,cv,h1,h2⟩:=AD.1 dL;refine ⟨_,_,cL,MP w hU (by rw [h1.len,hc.1]) h2 (fun hg=>by rw [← hc.2] at hg;obtain ⟨_,rfl,_⟩:=h1.one hg;rfl),?_⟩
     simp only [bT,pe];exact ⟨cv,h1,by rw [hc.2]⟩
   · cases hu
 · rename_i id np rp g o';split at hu
   · rename_i t' s' oo hl;simp only at hu;split at hu
     · rename_i hc;obtain ⟨rfl,rfl,fg⟩:=hc;split at hu
       · rename_i hagg;obtain ⟨hagg,rb⟩:=hagg;cases hu;obtain ⟨an,tA,n5,hg,rfl⟩:=hm.look hl;obtain ⟨b,hb,lh⟩:=hm.sS n5;simp only [bT] at dL;obtain ⟨_,ad,cL,re⟩:=dL;obtain ⟨z,hn⟩:=Gj n5;obtain ⟨b',jt,rfl⟩:=re an z hn hg;rw [hb] at jt;cases jt;obtain ⟨cs,hrow,It,hlen⟩:=QZ hm tA (rG np rp) b oo (ML n5) lh;rw [T.ky] at fg;refine ⟨_,_,cL,MP w hU (by rw [hlen,fg]) hrow ?_,?_⟩
         · intro rM;rw [← hagg] at rM;rcases It.2 with ⟨n,hn⟩ | ⟨_,h2⟩
           · rw [hn] at rb;cases rb
           · obtain ⟨x,rfl,_⟩:=h2 rM;rfl
         · rw [← hagg];exact It.val
       · cases hu
     · cases hu
   · cases hu
 · cases hu
def GO (tmps:Array Value):ResultVar→Sem Value
 | .tmp t=>pure (tmps.getD t undef)
 | .cell b t=>do loadVar t (← asAddr (tmps.getD b undef))
theorem C7p (fn:Func)(tmps:Array Value):results fn tmps=(do let vs ← fn.results.mapM (GO tmps);pure (if h:vs.size=1 then vs[0] else .tuple vs)):=by
 have:(fun | .tmp t=>pure (tmps.getD t undef) | .cell a t=>do loadVar t (← asAddr (tmps.getD a undef)):ResultVar→Sem Value)=GO tmps:=by
  funext x;cases x<;>rfl
 unfold results;rw [← this];rfl
theorem ZP {s:gJ}{a:Act}(hs:qd P w A E nx s a)(hm:MR w A E h nx){nt:Nat}:∀ {rs:List ResultVar} {vs:List RV} {l:List MV},CP P nt rs=some vs→xU s h vs=some l →
 ∃ us:List Value,(rs.mapM (GO a.tmps)).run P w=.ok us w∧dh w A E nx l us
 | [],vs,l,hc,hr=>by
   simp only [CP,aa] at hc;subst hc;simp only [xU,aa] at hr;subst hr;exact ⟨[],by simp,by simp only [dh]⟩
 | x::rs,vs,l,hc,hr=>by
   simp only [CP] at hc;split at hc
   · rename_i v yc h1 h2;simp only [aa] at hc;subst hc;simp only [xU] at hr;split at hr
     · rename_i u us h3 h4;simp only [aa] at hr;subst hr;obtain ⟨ws,h5,h6⟩:=ZP hs hm h2 h4;cases x with
       | tmp t =>
         simp only [QM] at h1;split at h1
         · simp only [aa] at h1;subst h1;simp only [CL,aa] at h3;subst h3;refine ⟨a.tmps.getD t undef::ws,?_,by simp only [dh];exact ⟨_,ws,rfl,hs.sl t,h6⟩⟩
           rw [mh];simp only [GO,bx,bM,aV,h5]
         · cases h1
       | cell b t =>
         simp only [QM] at h1;split at h1
         · rename_i ee;simp only [aa] at h1;subst h1;simp only [CL] at h3;obtain ⟨ad,v,cL,zp,hv⟩:=C7o hm ee.2 (hs.sl b) h3;refine ⟨v::ws,?_,by simp only [dh];exact ⟨_,ws,rfl,hv,h6⟩⟩
           rw [mh];have e:(GO a.tmps (.cell b t)).run P w=.ok v w:=by simp only [GO,bx,cL,asAddr,bM,aV,zp]
           simp only [bx,bM,aV,h5,e]
         · cases h1
     · cases hr
   · cases hc
theorem C5r {s:gJ}{a:Act}(hs:qd P w A E nx s a)(hm:MR w A E h nx){nt:Nat}{fn:Func}{vs:List RV}{l:List MV}(hc:CP P nt fn.results.toList=some vs)(hr:xU s h vs=some l) :
 ∃ v,(results fn a.tmps).run P w=.ok v w∧bT w A E nx (CM l) v:=by
 obtain ⟨us,h1,h2⟩:=ZP hs hm hc hr;have h3:(results fn a.tmps).run P w=.ok (if h:us.toArray.size=1 then us.toArray[0] else .tuple us.toArray) w:=by
  rw [C7p,Array.mapM_eq_mapM_toList];simp only [bx,Sem.run_map,h1,aV,bM]
 refine ⟨_,h3,?_⟩;cases l with
 | nil =>
   simp only [dh] at h2;subst h2;simp only [CM,bT];exact ⟨[],rfl,by simp only [dh]⟩
 | cons x r =>
   cases r with
   | nil =>
     simp only [dh] at h2;obtain ⟨u,d,rfl,h4,rfl⟩:=h2;exact h4
   | cons y q =>
     have hl:us.length≠1:=by
      simp only [dh] at h2;obtain ⟨u,d,rfl,_,u',d',rfl,_,_⟩:=h2;simp
     rw [dif_neg (by simpa using hl)]
     show bT w A E nx (.eO (x::y::q)) _;simp only [bT];exact ⟨us,rfl,h2⟩
theorem bT.xx {x:MV}{v:Value}{r:List MV}{d:List Value}{nx:dv}(hv:bT w A E nx x v)(hl:rX x=true)(hr:ef w A E nx r d):ef w A E nx (x::r) (v.cells.toList++d):=(hv.uj hl).cons hr
mutual
theorem SO (m:MR w A E h nx){E0:dV An}(f:Fr w w A A' E E0 nx nx)(jS:∀ i,m4 i=true→∀ o,E i=some o→∀ b∈o.blk,A' b):∀ {v u:MV} {val:Value},rL h v=some u→bT w A E nx v val→bT w A' E0 nx u val∧(rX v=true→rX u=true)∧(rX v=false→∃ l,u=.eO l)
 | .p v,u,val,hp,hv=>by
   simp only [rL,aa] at hp;subst hp;exact ⟨hv.frame f,fun h=>h,fun h=>by simp [rX] at h⟩
 | .agg l,u,val,hp,hv=>by
   simp only [rL] at hp;split at hp
   · rename_i vs fX;simp only [aa] at hp;subst hp;simp only [bT] at hv;obtain ⟨cs,rfl,hv⟩:=hv;refine ⟨MO (ZQ m f jS fX hv),fun _=>?_,fun h=>by simp [rX] at h⟩
     unfold uO;split<;>rfl
   · cases hp
 | .eO l,u,val,hp,hv=>by
   simp only [rL] at hp;split at hp
   · rename_i vs fX;simp only [aa] at hp;subst hp;simp only [bT] at hv ⊢;obtain ⟨ws,rfl,hv⟩:=hv;exact ⟨⟨ws,rfl,ZR m f jS fX hv⟩,fun h=>by simp [rX] at h,fun _=>⟨vs,rfl⟩⟩
   · cases hp
 | .own id path off len g,u,val,hp,hv=>NN m f jS (by simp only [rL] at hp;exact hp) hv rfl
 | .ptr id np rp g o,u,val,hp,hv=>NN m f jS (by simp only [rL] at hp;exact hp) hv rfl
 | .fC id path g,u,val,hp,hv=>by simp only [bT] at hv
 | .nil z,u,val,hp,hv=>NN m f jS (by simp only [rL] at hp;exact hp) hv rfl
 | .fn i l,u,val,hp,hv=>NN m f jS (by simp only [rL] at hp;exact hp) hv rfl
 | .dead n,u,val,hp,hv=>by simp [rL,kf,mB] at hp
theorem NN (m:MR w A E h nx){E0:dV An}(f:Fr w w A A' E E0 nx nx)(jS:∀ i,m4 i=true→∀ o,E i=some o→∀ b∈o.blk,A' b){v u:MV}{val:Value}
 (hp:(if ((kf v).all (fun i=>!m4 i) && !(kf v).isEmpty)=true then some v else match mB h v with | some w=>if (kf v).all m4=true then some (.p w) else none | none=>none)=some u) (hv:bT w A E nx v val) (hl:rX v=true):bT w A' E0 nx u val∧(rX v=true→rX u=true)∧(rX v=false→∃ l,u=.eO l):=by
 refine ⟨?_,fun _=>?_,fun h=>by rw [hl] at h;cases h⟩
 · split at hp
   · simp only [aa] at hp;subst hp;exact hv.frame f
   · split at hp
     · rename_i w' hw;split at hp
       · rename_i ko;simp only [aa] at hp;subst hp;simp only [bT];refine C5 m f.hA hw (fun i hi o ho b hb=>jS i (bg.1 ko i hi) o ho b hb) hv
       · cases hp
     · cases hp
 · split at hp
   · simp only [aa] at hp;subst hp;exact hl
   · split at hp
     · split at hp
       · simp only [aa] at hp;subst hp;rfl
       · cases hp
     · cases hp
theorem ZQ (m:MR w A E h nx){E0:dV An}(f:Fr w w A A' E E0 nx nx)(jS:∀ i,m4 i=true→∀ o,E i=some o→∀ b∈o.blk,A' b):∀ {l us:List MV} {cs:List Value},yM h l=some us→ef w A E nx l cs→ef w A' E0 nx us cs
 | [],us,cs,hp,hv=>by
   simp only [yM,aa] at hp;subst hp;simpa only [ef] using hv
 | x::r,us,cs,hp,hv=>by
   simp only [yM] at hp;split at hp
   · rename_i v vs h1 h2;simp only [aa] at hp;subst hp;simp only [ef] at hv;obtain ⟨val,d,rfl,h3,h4,h5,h6⟩:=hv;obtain ⟨q1,q2,q3⟩:=SO m f jS h1 h5;have hr:=ZQ m f jS h2 h6;cases hx:rX x with
     | true=>exact q1.xx (q2 hx) hr
     | false =>
       exfalso;obtain ⟨l',rfl⟩:=q3 hx;cases x<;>simp only [rX,reduceCtorEq] at hx
       · simp only [bT] at h5;obtain ⟨ws,rfl,_⟩:=h5;simp [MV.cs,Value.cells] at h3
       · simp [rL,kf,mB] at h1
   · cases hp
theorem ZR (m:MR w A E h nx){E0:dV An}(f:Fr w w A A' E E0 nx nx)(jS:∀ i,m4 i=true→∀ o,E i=some o→∀ b∈o.blk,A' b):∀ {l us:List MV} {vs:List Value},yM h l=some us→dh w A E nx l vs→dh w A' E0 nx us vs
 | [],us,vs,hp,hv=>by
   simp only [yM,aa] at hp;subst hp;simpa only [dh] using hv
 | x::r,us,vs,hp,hv=>by
   simp only [yM] at hp;split at hp
   · rename_i v yc h1 h2;simp only [aa] at hp;subst hp;simp only [dh] at hv ⊢;obtain ⟨val,d,rfl,h5,h6⟩:=hv;exact ⟨val,d,rfl,(SO m f jS h1 h5).1,ZR m f jS h2 h6⟩
   · cases hp
end
end
end Go.Mid
namespace Go.Mid
open Go.RowKit
section
variable {P:Program}{w:World}{A:Nat→Prop}{E:dV An}{nt:Nat}{σ:St}{a:Act}
theorem ZS (n k:Nat):((bp n).map (eB + ·))[k]?=if k<n then some (eB+k) else none:=by
 rw [aN];split
 · rename_i h;rw [List.getElem?_range h];rfl
 · rename_i h;rw [bJ (by simpa using h)];rfl
theorem ZT {h:cq}{ρ:Nat→Option Nat}{ζ:Nat→Nat}{ζn:Nat→Nat→Nat}{bk:Nat→Option Nat}(hz:∀ i j,bk j=some i→∀ g,ζn i g=0→g=0∧i=j):oW S0 E (r8 E h ρ ζ ζn bk):=by
 intro id np an z hn hg;have yd:an.g=0:=hg;cases hb:bk id with
 | none =>
   have:r8 E h ρ ζ ζn bk id=none:=by simp only [r8,hb,nf]
   rw [this] at hn;cases np with
   | none=>cases hn
   | some p=>cases p<;>cases hn
 | some i =>
   rw [I6 hb] at hn;cases AP:fq (E i) np with
   | none=>simp [AP] at hn
   | some y =>
     simp only [AP,ar,aa,ae] at hn;obtain ⟨rfl,rfl⟩:=hn;obtain ⟨h0,rfl⟩:=hz i id hb _ yd;rw [AP];obtain ⟨⟨g,bb,cc⟩,z⟩:=y;simp only at h0;subst h0
     have:ζn i 0=0:=yd
     simp only [zA,this]
theorem ZU (k:u7 P w A E nt σ a){fn:Func}{F:qj}{n:Nat}{r:MV}{ext dK:List (Obj Nat)}(nS:CP P fn.ntmps fn.results.toList=some F.res)(hf:xV F n σ=some (r,ext,dK)) :
 ∃ v,(results fn a.tmps).run P w=.ok v w∧∃ A' E' nx',MR w A' E' (kg ext dK) nx'∧gK w A E S0 w A' E'∧bT w A' E' nx' r v:=by
 unfold xV at hf;split at hf
 · cases hf
 · rename_i hn;split at hf
   · cases hf
   · rename_i vs fX;obtain ⟨v,il,hv⟩:=C5r k.sl k.mr nS fX;refine ⟨v,il,?_⟩
     dsimp only at hf
     split at hf
     · -- frozen
       split at hf
       · rename_i u ex hu hex;simp only [aa,ae] at hf;obtain ⟨rfl,rfl,rfl⟩:=hf
         let A':Nat→Prop:=fun b=>A b∨∃ i o,m4 i=true∧E i=some o∧b∈o.blk
         let E0:dV An:=fun i=>if m4 i then none else E i
         let h0:cq:=fun i=>if m4 i then none else σ.h i
         have vJ:∀ {i o},E0 i=some o→m4 i=false∧E i=some o:=by
          intro i o ho;simp only [E0] at ho;split at ho
          · cases ho
          · rename_i hl;exact ⟨by simpa using hl,ho⟩
         have De:∀ i np y,fq (E0 i) np=some y→fq (E i) np=some y:=by
          intro i np y hy;simp only [E0] at hy;split at hy
          · cases np with
            | none=>cases hy
            | some p=>cases p<;>cases hy
          · exact hy
         have f:Fr w w A A' E E0 (· < σ.nx) (· < σ.nx):=⟨fun b hb=>.inl hb,fun _ _=>rfl,fun id np an z h _=>De id np _ h,dv.le_refl _⟩
         have m0:MR w A' E0 h0 (· < σ.nx):=by
          constructor
          · intro i;simp only [E0,h0];split
            · rfl
            · exact k.mr.er i
          · intro i o ho;exact OAt.frame f (fun _ _=>rfl) (k.mr.at_ i o (vJ ho).2)
          · rintro b ⟨i,o,ho,hb⟩;obtain ⟨hl,ho⟩:=vJ ho
            have:=k.mr.kp ho hb
            refine ⟨this.1,fun hA=>?_⟩
            rcases hA with hA | ⟨j,o',hj,oQ,jt⟩
            · exact this.2 hA
            · have eD:i≠j:=fun e=>by subst e;rw [hl] at hj;cases hj
              exact k.mr.dj i j o o' eD ho oQ b hb jt
          · intro i o ho;exact k.mr.nd i o (vJ ho).2
          · intro i j o o' eD ho oQ;exact k.mr.dj i j o o' eD (vJ ho).2 (vJ oQ).2
          · rintro b (hA | ⟨j,o',_,oQ,jt⟩)
            · exact k.mr.im b hA
            · exact (k.mr.kp oQ jt).1
          · intro i o ho;exact k.mr.st i o (vJ ho).2
         have hu0:=(SO k.mr f (fun i hi o ho b hb=>.inr ⟨i,o,hi,ho,hb⟩) hu hv).1
         let bk:Nat→Option Nat:=fun j=>if eB≤j∧j<eB+n then some j else none
         have hρ:∀ i j,qc n [] i=some j→bk j=some i:=by
          intro i j gU;unfold qc at gU;split at gU
          · split at gU
            · rename_i h1 h2;simp only [aa] at gU;subst gU;simp only [bk];rw [if_pos ⟨h1,h2⟩]
            · cases gU
          · simp [pc] at gU
         have rP:∀ i j,bk j=some i→i=j∧eB≤j∧j<eB+n:=by
          intro i j h;simp only [bk] at h;split at h
          · rename_i hc;cases h;exact ⟨rfl,hc⟩
          · cases h
         have sZ:∀ i j j',bk j=some i→bk j'=some i→j=j':=fun i j j' h h'=>by rw [← (rP i j h).1,← (rP i j' h').1]
         have hm:=m0.clean (nx':=(· < 2)) (ζ:=jP) (ζn:=fun _=>jP) hρ sZ (fun g _=>B7 g) (fun _ g _=>B7 g)
         have Gx:=bT.clean (nx':=(· < 2)) (ζ:=jP) (ζn:=fun _=>jP) m0 hρ (fun g _=>B7 g) hu0
         have jS:∀ i j,qc n [] i=some j→h0 i=σ.h i:=by
          intro i j gU
          have:=hρ i j gU
          obtain ⟨rfl,h1,_⟩:=rP i j this;simp only [h0];rw [if_neg];simp only [m4,decide_eq_true_eq];omega
         have nO:j6 h0 (qc n []) jP=j6 σ.h (qc n []) jP:=funext fun v=>Sp jS v
         have zB:zh h0 (qc n []) jP (fun _=>jP) bk=kg (ex.map (kO (j6 σ.h (qc n []) jP) jP)) []:=by
          funext j;simp only [zh,kg,bk,nO];by_cases h1:kP≤j
          · rw [if_pos h1,if_neg (by simp only [kP,eB] at *;omega)]
            simp
          · rw [if_neg h1];by_cases h2:eB≤j
            · rw [if_pos h2,aN,Jb hex,ZS];by_cases h3:j<eB+n
              · rw [if_pos ⟨h2,h3⟩,if_pos (by omega),show eB+(j-eB)=j by omega]
                simp only [ah,h0];rw [if_neg];simp only [m4,decide_eq_true_eq];omega
              · rw [if_neg (fun h=>h3 h.2),if_neg (by omega)]
                rfl
            · rw [if_neg h2,if_neg (fun h=>h2 h.1)]
              rfl
         rw [zB] at hm;rw [nO] at Gx;refine ⟨A',_,_,hm,?_,Gx⟩;refine ⟨rfl,rfl,rfl,au _,fun _ _ _=>rfl,fun b hb=>.inl hb,fun b _ hb=>hb.imp (fun h=>h) (fun ⟨i,o,_,ho,l6⟩=>⟨i,o,ho,l6⟩),fun b _ hb=>?_,?_⟩
         · obtain ⟨i,o,ho,l6⟩:=Nu hb;exact ⟨i,o,(vJ ho).2,l6⟩
         · have h1:oW S0 E0 (r8 E0 h0 (qc n []) jP (fun _=>jP) bk):=ZT fun i j hb g hg=>⟨SN hg,(rP i j hb).1⟩
           exact fun id np an z hh hg=>De id np _ (h1 id np an z hh hg)
       · cases hf
     · -- roots go out
       generalize B3:(js σ.h (js σ.h (kf (CM vs)++(bp n).map (eB + ·)))).filter m4=es at hf;have iq:es.Nodup:=by
        rw [← B3];exact List.Pairwise.filter _ (Sj _)
       have zC:∀ i∈es,m4 i=true:=by
        intro i hi;rw [← B3] at hi;exact (cA.1 hi).2
       split at hf
       · rename_i ex eo hex heo;simp only [aa,ae] at hf;obtain ⟨rfl,rfl,rfl⟩:=hf
         let bk:Nat→Option Nat:=fun j=>if kP≤j then es[j-kP]? else if eB≤j∧j<eB+n then some j else none
         let ζn:Nat→Nat→Nat:=fun i=>if m4 i then fun _=>1 else jP
         have rP:∀ i j,bk j=some i→(kP≤j∧es[j-kP]?=some i∧m4 i=true)∨(i=j∧eB≤j∧j<eB+n∧¬ kP≤j):=by
          intro i j h;simp only [bk] at h;split at h
          · rename_i h1;exact .inl ⟨h1,h,zC i (bH h)⟩
          · rename_i h1;split at h
            · rename_i hc;cases h;exact .inr ⟨rfl,hc.1,hc.2,h1⟩
            · cases h
         have hρ:∀ i j,qc n es i=some j→bk j=some i:=by
          intro i j gU;unfold qc at gU;split at gU
          · split at gU
            · rename_i h1 h2;simp only [aa] at gU;subst gU;simp only [bk];rw [if_neg (by simp only [kP,eB] at *;omega),if_pos ⟨h1,h2⟩]
            · cases gU
          · cases hi:pc es i with
            | none=>simp [hi] at gU
            | some m =>
              simp only [hi,ar,aa] at gU;subst gU;simp only [bk];rw [if_pos (Nat.le_add_right _ _),Nat.add_sub_cancel_left];exact EI hi
         have sZ:∀ i j j',bk j=some i→bk j'=some i→j=j':=by
          intro i j j' h h';rcases rP i j h with ⟨h1,h2,h3⟩ | ⟨rfl,h2,h3,_⟩<;>rcases rP i j' h' with ⟨h4,h5,h6⟩ | ⟨e,h5,h6,_⟩
          · have e1:=GD iq h2;have e2:=GD iq h5;rw [e1] at e2
            have:=cm e2
            omega
          · subst e;simp only [m4,decide_eq_true_eq] at h3;omega
          · simp only [m4,decide_eq_true_eq] at h6;omega
          · exact e
         have hm:=k.mr.clean (nx':=(· < 2)) (ζ:=jP) (ζn:=ζn) hρ sZ (fun g _=>B7 g) (fun i g _=>by
          simp only [ζn];split
          · show 1<2;omega
          · exact B7 g)
         have Gx:=bT.clean (nx':=(· < 2)) (ζ:=jP) (ζn:=ζn) k.mr hρ (fun g _=>B7 g) hv
         have zB:zh σ.h (qc n es) jP ζn bk=kg (ex.map (kO (j6 σ.h (qc n es) jP) jP)) (eo.map (kO (j6 σ.h (qc n es) jP) (fun _=>1))):=by
          funext j;simp only [zh,kg,bk];by_cases h1:kP≤j
          · rw [if_pos h1,if_pos h1,aN,Jb heo];cases he:es[j-kP]? with
            | none=>rfl
            | some i =>
              have:=zC i (bH he)
              simp only [ah,ζn,this,if_true]
          · rw [if_neg h1,if_neg h1];by_cases h2:eB≤j
            · rw [if_pos h2,aN,Jb hex,ZS];by_cases h3:j<eB+n
              · rw [if_pos ⟨h2,h3⟩,if_pos (by omega),show eB+(j-eB)=j by omega]
                have hl:m4 j=false:=by simp only [m4,decide_eq_false_iff_not];omega
                simp only [ah,ζn,hl,aF,if_false]
              · rw [if_neg (fun h=>h3 h.2),if_neg (by omega)]
                rfl
            · rw [if_neg h2,if_neg (fun h=>h2 h.1)]
              rfl
         rw [zB] at hm;refine ⟨A,_,_,hm,?_,Gx⟩;refine ⟨rfl,rfl,rfl,au _,fun _ _ _=>rfl,fun _ h=>h,fun _ _ h=>.inl h,fun b _ hb=>Nu hb,ZT fun i j hb g hg=>?_⟩
         rcases rP i j hb with ⟨_,_,h3⟩ | ⟨e,h2,_,_⟩
         · simp only [ζn,h3,if_true] at hg;omega
         · have hl:m4 i=false:=by simp only [m4,decide_eq_false_iff_not];omega
           simp only [ζn,hl,aF,if_false] at hg;exact ⟨SN hg,e⟩
       · cases hf
end
def GP (P:Program)(f:Nat)(p:Prim):Prop:=∀ args ext r ext' dK,vn p args ext=some (r,ext',dK)→EK P f ∧
 ∀ (w:World) (A:Nat→Prop) (E:dV An) (hJ:List Value),GL P w A→dh w A E S0 args hJ→MR w A E (nq ext) S0 →
  Calls P f hJ.toArray w fun e w'=>∃ v,e=.returned v∧∃ A' E' nx',MR w' A' E' (kg ext' dK) nx'∧gK w A E S0 w' A' E'∧bT w' A' E' nx' r v
structure oZ (P:Program)(Φ:mz):Prop where
 mix:P.follows .mixedOrders=true
 code:∀ f F,Φ f=some (.code F)→∃ fn B,P.funcs[f]?=some fn∧(fn.name == "runtime.NumGoroutine")=false∧QN P B fn=some F
 qm:∀ f p,Φ f=some (.qm p)→GP P f p
section
variable {P:Program}{Φ:mz}
theorem ZV {w:World}{A:Nat→Prop}{E:dV An}{S:dv}:∀ {l:List MV} {vs:List Value},dh w A E S l vs→∀ i,bT w A E S (l.getD i (.dead 0)) (vs.getD i undef)
 | [],vs,h,i=>by simp only [dh] at h;subst h;simp [bT]
 | x::r,vs,h,i=>by
   simp only [dh] at h;obtain ⟨v,d,rfl,h1,h2⟩:=h;cases i with
   | zero=>exact h1
   | succ i=>simpa using ZV h2 i
theorem ZW (hT:oZ P Φ)(n:Nat)(hc:NM P Φ n):AY P (n4 Φ (run Φ n)):=by
 intro f args ext r ext' dK hk;unfold n4 at hk;split at hk
 · cases hk
 · rename_i p hp;exact hT.qm f p hp args ext r ext' dK hk
 · rename_i F hF;obtain ⟨fn,B,xy,ub,vK⟩:=hT.code f F hF;unfold QN at vK;split at vK
   · rename_i c uw;split at vK
     · rename_i mc k' rs Jt nS;simp only [aa] at vK;subst vK;refine ⟨⟨fn,xy,ub,by rw [uw];rfl⟩,?_⟩
       intro w A E hJ r9 hv hm;have EX:u7 P w A E fn.ntmps ⟨uV args,nq ext,1⟩ { tmps:=hJ.toArray++iO (fn.ntmps-hJ.toArray.size) undef,defers:=[] }:=by
        have hle:S0.le (· < 1):=AZ (au 1);refine ⟨⟨fun i=>?_,r9⟩,hm.mono hle,au 1,rfl,?_⟩
        · have h1:=(ZV hv i).frame (Fr.same w A E hle);have h2:(hJ.toArray++iO (fn.ntmps-hJ.toArray.size) undef).getD i undef=hJ.getD i undef:=by
           by_cases hi:i<hJ.length
           · simp only [fU];rw [Array.getElem?_append_left (by simpa using hi)]
             simp [hi,nh]
           · simp only [fU];rw [Array.getElem?_append_right (by simpa using hi)]
             have:hJ.getD i undef=undef:=by simp [nh,bJ (kZ hi)]
             rw [this,Array.getElem?_replicate];split<;>rfl
          rw [h2];exact h1
        · simp only [Array.size_append,List.size_toArray,Array.size_replicate];omega
       refine calls_of_wp xy uw ?_;have main:∀ (e:Ex) (σ:St),(e=.normal∨e=.ret)→run Φ n mc ⟨uV args,nq ext,1⟩=some (e,σ)→xV ⟨mc,rs,B.DV⟩ ext.length σ=some (r,ext',dK) →
        c.wp P (bodyPost P fn fun e w'=>∃ v,e=.returned v∧∃ A' E' nx',MR w' A' E' (kg ext' dK) nx'∧gK w A E S0 w' A' E'∧bT w' A' E' nx' r v) { tmps:=hJ.toArray++iO (fn.ntmps-hJ.toArray.size) undef,defers:=[] } w:=by
        intro e σ he hr hf;refine hc B fn.ntmps c 0 mc k' Jt _ σ e hr _ _ w A E EX ?_;intro a' w' A' E' k1 g1;obtain ⟨v,AJ,A2,E2,NO,q1,q2,q3⟩:=ZU k1 (F:=⟨mc,rs,B.DV⟩) nS hf
        have:k1.df=k1.df:=rfl
        rcases he with rfl | rfl
        · exact ⟨k1.df,v,AJ,v,rfl,A2,E2,NO,q1,g1.trans q2 (dv.le_refl _),q3⟩
        · exact ⟨k1.df,v,AJ,v,rfl,A2,E2,NO,q1,g1.trans q2 (dv.le_refl _),q3⟩
       split at hk
       · rename_i σ hr;exact main _ σ (.inl rfl) hr hk
       · rename_i σ hr;exact main _ σ (.inr rfl) hr hk
       · cases hk
     · cases vK
   · cases vK
theorem NP (hT:oZ P Φ):∀ n,NM P Φ n:=by
 intro n
 induction n using lP with
 | _ n ih=>exact C7n hT.mix n ih (fun m hm=>ZW hT m (ih m hm))
theorem ZX (hT:oZ P Φ)(n:Nat):AY P (n4 Φ (run Φ n)):=ZW hT n (NP hT n)
end
end Go.Mid
