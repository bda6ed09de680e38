/- What an operation touches: it depends on these roots alone, and leaves the others as they are. -/
import Derived.Test.YtfjdpcegbfenbaaGreatDoorM4
set_option linter.unusedSimpArgs false
set_option linter.unusedVariables false
open Array renaming getElem?_setIfInBounds_ne → dY, getElem?_eq_none → iC, getElem?_eq_some_iff → dg, replicate → iR, getD_eq_getD_getElem? → fV
open Bool renaming false_eq_true → aF, not_eq_true → gq, and_eq_true → ak, not_eq_true' → db, or_eq_true → cG
open Go.Region renaming binds → eF, before → gM, ready → qa
open Go.Result renaming andThen_ok → aV
open Go.Sem renaming run_bind → bx, run_pure → bN
open List renaming mem_append → ay, mem_cons → aM, mem_singleton → aW, getElem?_eq_some_iff → aL, mem_of_getElem? → bI, map_cons → aG, append_nil → bF, mem_flatMap → ie, map_congr_left → eU, mem_map → bh, getElem?_map → aN, map_nil → cr, nodup_cons → b5, range → bp, mem_filter → cA, mem_range → bX, pairwise_cons → bM, filter_eq_self → jO, length_cons → ba, range' → mJ, getElem?_cons_zero → bQ, getElem?_cons_succ → bL, all_eq_true → bj, mapM_cons → mi, getElem?_eq_none → bK, getD → nh
open Nat renaming ne_of_lt → p9, le_of_not_lt → kZ, strongRecOn → lQ, add_zero → du, zero_add → bS, le_refl → au
open Ne renaming symm → dB
open Option renaming map_some → ar, getD_some → bG, bind_some → ah, bind_none → nf
open Option.some renaming injEq → aa, inj → cm
open Prod.mk renaming injEq → ae
namespace Go.Mid
def c7 (X:List Nat) (h k:cq):Prop:=∀ i,mE i∈X→k i=h i
def glue (X:List Nat) (h k:cq):cq:=fun i=>if mE i∈X then h i else k i
theorem c7.refl (X:List Nat) (h:cq):c7 X h h:=fun _ _=>rfl
theorem tJ {X:List Nat} {h k:cq} (ha:c7 X h k):glue X h k=k:=by
 funext i;unfold glue;split
 · rename_i hi;exact (ha i hi).symm
 · rfl
theorem zo {X:List Nat} {h k:cq} {i:Nat} {o:Option (Obj Nat)} (hi:mE i∈X):glue X (cD h i o) k=cD (glue X h k) i o:=by
 funext j;by_cases e:j=i
 · subst e;simp [glue,cD,hi]
 · simp [glue,cD,e]
theorem c7.cD {X:List Nat} {h k:cq} (ha:c7 X h k) (i:Nat) (o:Option (Obj Nat)):c7 X (Mid.cD h i o) (Mid.cD k i o):=by
 intro j hj;by_cases e:j=i
 · subst e;simp [Mid.cD]
 · simp [Mid.cD,e,ha j hj]
theorem c7.glue {X:List Nat} (h k:cq):c7 X h (glue X h k):=fun i hi=>by simp [Mid.glue,hi]
def oF (X:List Nat) (h h':cq):Prop:=∀ i,mE i∉X→h' i=h i
theorem oF.refl (X:List Nat) (h:cq):oF X h h:=fun _ _=>rfl
theorem oF.trans {X:List Nat} {h h' Ih:cq} (a:oF X h h') (b:oF X h' Ih):oF X h Ih:=fun i hi=>(b i hi).trans (a i hi)
theorem oF.cD {X:List Nat} {h h':cq} (a:oF X h h') {i:Nat} (hi:mE i∈X) (o:Option (Obj Nat)):oF X h (Mid.cD h' i o):=by
 intro j hj
 have:j≠i:=fun e=>hj (e ▸ hi)
 simp [Mid.cD,this,a j hj]
def qh (X:List Nat) (v:MV):Prop:=∀ i∈kf v,mE i∈X
def fS (X:List Nat) (l:List MV):Prop:=∀ i∈mD l,mE i∈X
theorem fS.cons {X:List Nat} {x:MV} {r:List MV}:fS X (x::r)↔qh X x∧fS X r:=by
 simp only [fS,qh,mD,ay];exact ⟨fun h=>⟨fun i hi=>h i (.inl hi),fun i hi=>h i (.inr hi)⟩,fun h i hi=>hi.elim (h.1 i) (h.2 i)⟩
theorem fS.mem {X:List Nat} {l:List MV} (h:fS X l) {v:MV} (hv:v∈l):qh X v:=by
 induction l with
 | nil=>cases hv
 | cons x r ih =>
   rcases aM.1 hv with rfl | hv
   · exact (fS.cons.1 h).1
   · exact ih (fS.cons.1 h).2 hv
section
variable {X:List Nat} {h k:cq}
mutual
theorem Sl (ha:c7 X h k):∀ {v:MV},qh X v→mC k v=mC h v
 | .p _,_=>rfl
 | .nil _,_=>rfl
 | .own id path off len g,hr=>by simp only [mC,ha id (hr id (by simp [kf]))]
 | .ptr id np rp g o,hr=>by simp only [mC,ha id (hr id (by simp [kf]))]
 | .fE id path g,hr=>by simp only [mC,ha id (hr id (by simp [kf]))]
 | .agg l,hr=>by simp only [mC,Jf ha (v:=l) (by simpa only [qh,fS,kf] using hr)]
 | .fn f l,hr=>by simp only [mC,Jf ha (v:=l) (by simpa only [qh,fS,kf] using hr)]
 | .eO _,_=>rfl
 | .dead _,_=>rfl
theorem Jf (ha:c7 X h k):∀ {v:List MV},fS X v→rI k v=rI h v
 | [],_=>rfl
 | x::r,hr=>by
   have:=fS.cons.1 hr
   simp only [rI,Sl ha this.1,Jf ha this.2]
end
end
mutual
theorem Jg {X:List Nat} {γ:Nat}:∀ {v:MV} {h k h':cq} {t:T Nat},c7 X h k→qh X v→o9 γ h v=some (t,h')→o9 γ k v=some (t,glue X h' k)∧oF X h h'
 | .p _,h,k,h',t,ha,hr,he=>by
   simp only [o9,aa,ae] at he ⊢;obtain ⟨rfl,rfl⟩:=he;exact ⟨⟨rfl,(tJ ha).symm⟩,oF.refl _ _⟩
 | .nil _,h,k,h',t,ha,hr,he=>by
   simp only [o9,aa,ae] at he ⊢;obtain ⟨rfl,rfl⟩:=he;exact ⟨⟨rfl,(tJ ha).symm⟩,oF.refl _ _⟩
 | .own id path off len g,h,k,h',t,ha,hr,he=>by
   have gx:mE id∈X:=hr id (by simp [kf])
   simp only [o9] at he ⊢;rw [ha id gx];have fin:∀ {o},h'=cD h id o→cD k id o=glue X h' k∧oF X h h':=by
    rintro o rfl;exact ⟨by rw [zo gx,tJ ha],(oF.refl X h).cD gx o⟩
   split at he
   · rename_i uR z l hh;split at he
     · rename_i hc;rw [if_pos hc];simp only [aa,ae] at he ⊢;obtain ⟨rfl,rfl⟩:=he;exact ⟨⟨rfl,(fin rfl).1⟩,(fin rfl).2⟩
     · cases he
   · rename_i mG;split at he
     · rename_i uR z l n hs;split at he
       · rename_i hc;split at he
         · rename_i o' eZ;simp only [aa,ae] at he;obtain ⟨rfl,rfl⟩:=he;refine ⟨?_,(fin rfl).2⟩;rw [if_pos hc,(fin rfl).1]
         · cases he
       · cases he
     · cases he
 | .fE id path g,h,k,h',t,ha,hr,he=>by
   have gx:mE id∈X:=hr id (by simp [kf])
   simp only [o9] at he ⊢;rw [ha id gx];split at he
   · rename_i uR ks vs hh;split at he
     · rename_i hc;rw [if_pos hc];simp only [aa,ae] at he ⊢;obtain ⟨rfl,rfl⟩:=he;exact ⟨⟨rfl,by rw [zo gx,tJ ha]⟩,(oF.refl X h).cD gx _⟩
     · cases he
   · cases he
 | .agg l,h,k,h',t,ha,hr,he=>by
   simp only [o9] at he ⊢;split at he
   · rename_i ts h1 hi;simp only [aa,ae] at he;obtain ⟨rfl,rfl⟩:=he;obtain ⟨h2,h3⟩:=GH ha (by simpa only [qh,fS,kf] using hr) hi
     rw [h2];exact ⟨rfl,h3⟩
   · cases he
 | .ptr ..,h,k,h',t,ha,hr,he=>by
   simp only [o9,aa,ae] at he ⊢;obtain ⟨rfl,rfl⟩:=he;exact ⟨⟨rfl,(tJ ha).symm⟩,oF.refl _ _⟩
 | .fn ..,h,k,h',t,ha,hr,he=>by
   simp only [o9,aa,ae] at he ⊢;obtain ⟨rfl,rfl⟩:=he;exact ⟨⟨rfl,(tJ ha).symm⟩,oF.refl _ _⟩
 | .eO _,h,k,h',t,ha,hr,he=>by simp only [o9,reduceCtorEq] at he
 | .dead _,h,k,h',t,ha,hr,he=>by simp only [o9,reduceCtorEq] at he
theorem GH {X:List Nat} {γ:Nat}:∀ {v:List MV} {h k h':cq} {t:List (T Nat)},c7 X h k→fS X v→tQ γ h v=some (t,h')→tQ γ k v=some (t,glue X h' k)∧oF X h h'
 | [],h,k,h',t,ha,hr,he=>by
   simp only [tQ,aa,ae] at he ⊢;obtain ⟨rfl,rfl⟩:=he;exact ⟨⟨rfl,(tJ ha).symm⟩,oF.refl _ _⟩
 | x::r,h,k,h',t,ha,hr,he=>by
   have hr:=fS.cons.1 hr;simp only [tQ] at he ⊢;split at he
   · rename_i t1 h1 h2;split at he
     · rename_i ts h3 h4;simp only [aa,ae] at he;obtain ⟨rfl,rfl⟩:=he;obtain ⟨q1,q2⟩:=Jg ha hr.1 h2;obtain ⟨q3,q4⟩:=GH (k:=glue X h1 k) (c7.glue h1 k) hr.2 h4;rw [q1];simp only [q3];refine ⟨?_,q2.trans q4⟩;congr 2;funext i;unfold glue;split
       · rfl
       · rename_i hi;simp [hi]
     · cases he
   · cases he
end
def Loc (X:List Nat) (h h':cq) (f:cq→Option (MV×cq)) (v:MV):Prop:=oF X h h'∧∀ k,c7 X h k→f k=some (v,glue X h' k)
theorem Loc.read {X:List Nat} {h:cq} {f:cq→Option (MV×cq)} {v:MV} (hf:∀ k,c7 X h k→f k=some (v,k)):Loc X h h f v :=
 ⟨oF.refl _ _,fun k ha=>by rw [hf k ha,tJ ha]⟩
theorem u6 {X:List Nat} {h k h':cq} {d:Option Nat} {o:Obj Nat} (hd:∀ x,d=some x→mE x∈X) (he:m4 d h o=some h'):m4 d (glue X h k) o=some (glue X h' k)∧oF X h h':=by
 cases d with
 | none=>simp [m4] at he
 | some d =>
   simp only [m4,aa] at he ⊢;subst he;exact ⟨(zo (hd d rfl)).symm,(oF.refl X h).cD (hd d rfl) _⟩
end Go.Mid
namespace Go.Mid
theorem EP {h:cq} {l:List Nat} {i:Nat} (hi:i∈l):i∈jw h l:=Si.2 (ay.2 (.inl hi))
section
variable {K:jE} {γ:Nat} {d:Option Nat} {s:gI} {X:List Nat} {h h':cq} {v:MV}
theorem Zz (K:jE) (γ:Nat) (d:Option Nat) (s:gI) {op:su} (hi:idle op=true) (h:cq):∃ f:Option MV,∀ (γ':Nat) (k:cq),cf K γ' d s k op=f.map fun v=>(v,k):=by
 refine ⟨(cf K γ d s h op).map (·.1),fun γ' k=>?_⟩
 cases op<;>simp only [idle,aF] at hi<;>simp only [cf]<;>(repeat' split)<;>(try rfl)<;>simp_all
theorem Sm {id g z off:Nat} {path:List Nat} {vs:List PV} {h1:cq} (gx:mE id∈X) (he:qm h id path g z off vs=some h1):oF X h h1∧∀ k,c7 X h k→qm k id path g z off vs=some (glue X h1 k):=by
 have hex:∃ o,h1=cD h id o∧∀ k,k id=h id→qm k id path g z off vs=some (cD k id o):=by
  unfold qm at he;split at he
  · rename_i hv;split at he
    · rename_i a z' l hh;split at he
      · rename_i hc;simp only [aa] at he;refine ⟨_,he.symm,fun k hk=>?_⟩
        unfold qm;rw [if_pos hv,hk,hh];simp only [if_pos hc]
      · cases he
    · rename_i mG;split at he
      · rename_i a z' l n hs;split at he
        · rename_i hc;split at he
          · rename_i o' hp;simp only [aa] at he;refine ⟨_,he.symm,fun k hk=>?_⟩
            unfold qm;rw [if_pos hv,hk];split
            · rename_i hh;exact (mG _ _ _ hh rfl).elim
            · simp only [hs,if_pos hc,hp]
          · cases he
        · cases he
      · cases he
  · cases he
 obtain ⟨o,rfl,hk⟩:=hex;exact ⟨(oF.refl X h).cD gx o,fun k ha=>by rw [hk k (ha id gx),zo gx,tJ ha]⟩
theorem Jh {y:MV} {k:cq} (ha:c7 X h k) (hr:qh X y):elems k y=elems h y:=by
 cases y<;>try rfl
 · rename_i v;cases v<;>rfl
 · rename_i id path off len g;simp only [elems,ha id (hr id (by simp [kf]))]
theorem C2e {y:MV} {ts:List (T Nat)} {h1:cq} (hr:qh X y) (he:rY h y=some (ts,h1)):oF X h h1∧∀ k,c7 X h k→rY k y=some (ts,glue X h1 k):=by
 unfold rY at he;split at he
 · cases he
 · rename_i Rk iw;split at he
   · rename_i hp;simp only [aa,ae] at he;obtain ⟨rfl,rfl⟩:=he;refine ⟨oF.refl _ _,fun k ha=>?_⟩
     unfold rY;rw [Jh ha hr,iw];simp only [if_pos hp,tJ ha]
   · rename_i hp;split at he
     · rename_i id len g;have gx:mE id∈X:=hr id (by simp [kf])
       split at he
       · rename_i g1 z1 l hh;split at he
         · rename_i hc;simp only [aa,ae] at he;obtain ⟨rfl,rfl⟩:=he;refine ⟨(oF.refl X h).cD gx _,fun k ha=>?_⟩
           unfold rY;rw [Jh ha hr,iw];simp only [if_neg hp,ha id gx,hh,if_pos hc,zo gx,tJ ha]
         · cases he
       · cases he
     · cases he
theorem C69 {op:su} (fj:∀ md f args,op≠.call md f args) (hd:∀ x,d=some x→mE x∈X) (hr:fS X ((fC op).map (cQ s))) (he:cf K γ d s h op=some (v,h')):Loc X h h' (fun k=>cf K γ d s k op) v:=by
 by_cases hi:idle op=true
 · obtain ⟨f,hf⟩:=Zz K γ d s hi h;rw [hf] at he;cases f with
   | none=>cases he
   | some u =>
     simp only [ar,aa,ae] at he;obtain ⟨rfl,rfl⟩:=he;exact Loc.read fun k _=>by rw [hf];rfl
 · cases op<;>simp only [idle,Bool.true_eq_false,not_true_eq_false,not_false_eq_true] at hi
   case nilv z =>
    simp only [cf] at he ⊢;split at he
    · rename_i h1 ho;simp only [aa,ae] at he;obtain ⟨rfl,rfl⟩:=he;refine ⟨(u6 (k:=h) hd ho).2,fun k ha=>?_⟩
      have:=(u6 (k:=k) hd ho).1
      rw [tJ ha] at this;simp only [this]
    · cases he
   case box x =>
    have qq:qh X (cQ s x):=hr.mem (by simp [fC])
    simp only [cf] at he ⊢;split at he
    · rename_i t h1 hi;split at he
      · rename_i h2 ho;simp only [aa,ae] at he;obtain ⟨rfl,rfl⟩:=he;refine ⟨(Jg (c7.refl X h) qq hi).2.trans (u6 (k:=h) hd ho).2,fun k ha=>?_⟩
        simp only [(Jg ha qq hi).1,(u6 (k:=k) hd ho).1]
      · cases he
    · cases he
   case bsl mt z parts =>
    have qq:fS X (parts.map (cQ s)):=by simpa [fC] using hr
    simp only [cf] at he ⊢;split at he
    · rename_i kV;split at he
      · rename_i vs fY;simp only [aa,ae] at he;obtain ⟨rfl,rfl⟩:=he;exact Loc.read fun k _=>by rw [if_pos kV]
      · rename_i fY;split at he
        · rename_i ts h1 hi;split at he
          · rename_i fh;split at he
            · rename_i h2 ho;simp only [aa,ae] at he;obtain ⟨rfl,rfl⟩:=he;refine ⟨(GH (c7.refl X h) qq hi).2.trans (u6 (k:=h) hd ho).2,fun k ha=>?_⟩
              simp only [if_pos kV,(GH ha qq hi).1,if_pos fh,(u6 (k:=k) hd ho).1]
            · cases he
          · cases he
        · cases he
    · cases he
   case bslp z parts =>
    have qq:fS X (parts.map (cQ s)):=by simpa [fC] using hr
    simp only [cf] at he ⊢;split at he
    · rename_i kV;split at he
      · rename_i ts h1 hi;split at he
        · rename_i fh;split at he
          · rename_i h2 ho;split at he
            · rename_i u hu;simp only [aa,ae] at he;obtain ⟨rfl,rfl⟩:=he;have gx:mE (d.getD 0)∈X:=by
               cases d with
               | none=>simp [m4] at ho
               | some x=>exact hd x rfl
              have q2:qh X (.own (d.getD 0) [] 0 ts.length γ):=fun i hi=>by
               simp only [kf,aW] at hi;subst hi;exact gx
              have lL:oF X h h2:=(GH (c7.refl X h) qq hi).2.trans (u6 (k:=h) hd ho).2;refine ⟨lL.cD gx _,fun k ha=>?_⟩
              have nr:mC (glue X h2 k) (.own (d.getD 0) [] 0 ts.length γ)=some u:=by rw [Sl (c7.glue h2 k) q2,hu]
              simp only [if_pos kV,(GH ha qq hi).1,if_pos fh,(u6 (k:=k) hd ho).1,nr,zo gx]
            · cases he
          · cases he
        · cases he
      · cases he
    · cases he
   case load agg n x =>
    have qq:qh X (cQ s x):=hr.mem (by simp [fC])
    simp only [cf] at he ⊢;split at he
    · rename_i u hu;simp only [aa,ae] at he;obtain ⟨rfl,rfl⟩:=he;refine Loc.read fun k ha=>?_
      have:tV k agg n (cQ s x)=tV h agg n (cQ s x):=by
       cases hx:cQ s x with
       | ptr id np rp g o=>simp only [tV,ha id (qq id (by rw [hx];simp [kf]))]
       | p v=>cases v<;>rfl
       | _=>rfl
      rw [this,hu]
    · cases he
   case store n a x =>
    have hra:qh X (cQ s a):=hr.mem (by simp [fC])
    have qq:qh X (cQ s x):=hr.mem (by simp [fC])
    simp only [cf,Gb] at he ⊢;split at he
    · rename_i id np rp g0 o0 hp;have gx:mE id∈X:=hra id (by rw [hp];simp [kf])
      have pP:∀ {u:MV} {h2:cq},yK γ h n id (rH np rp) (cQ s x)=some (u,h2)→oF X h h2∧∀ k,c7 X h k→yK γ k n id (rH np rp) (cQ s x)=some (u,glue X h2 k):=by
       intro u h2 hn;unfold yK at hn;split at hn
       · rename_i t h1 hi;split at hn
         · rename_i fh;split at hn
           · rename_i o' eZ;simp only [aa,ae] at hn;obtain ⟨rfl,rfl⟩:=hn;refine ⟨(Jg (c7.refl X h) qq hi).2.cD gx _,fun k ha=>?_⟩
             unfold yK;have e:glue X h1 k id=h1 id:=by simp [glue,gx]
             simp only [(Jg ha qq hi).1,if_pos fh,e,eZ,zo gx]
           · cases hn
         · cases hn
       · cases hn
      split at he
      · rename_i old s' o1 hl;split at he
        · rename_i hc;split at he
          · rename_i uV ra off len g' a' z l n' hx;split at he
            · rename_i oW;split at he
              · rename_i o' eZ;simp only [aa,ae] at he;obtain ⟨rfl,rfl⟩:=he;refine ⟨(oF.refl X h).cD gx _,fun k ha=>?_⟩
                simp only [hp,hx,ha id gx,hl,if_pos hc,if_pos oW,eZ,zo gx,tJ ha]
              · cases he
            · rename_i oW;obtain ⟨q1,q2⟩:=pP he;refine ⟨q1,fun k ha=>?_⟩
              simp only [hp,ha id gx,hl,if_pos hc,if_neg oW,q2 k ha];rw [hx];simp only [if_neg oW]
          · rename_i mG;obtain ⟨q1,q2⟩:=pP he;refine ⟨q1,fun k ha=>?_⟩
            simp only [hp,ha id gx,hl,if_pos hc];exact q2 k ha
        · cases he
      · cases he
    · cases he
   case mksl z bytes zero l c =>
    simp only [cf] at he ⊢;split at he
    · split at he
      · split at he
        · rename_i hc;split at he
          · rename_i h1 ho;simp only [aa,ae] at he;obtain ⟨rfl,rfl⟩:=he;refine ⟨(u6 (k:=h) hd ho).2,fun k ha=>?_⟩
            have:=(u6 (k:=k) hd ho).1
            rw [tJ ha] at this;simp only [if_pos hc,this]
          · cases he
        · cases he
      · cases he
    · cases he
   case slice z x lo hj =>
    have qq:qh X (cQ s x):=hr.mem (by simp [fC])
    simp only [cf] at he ⊢;split at he
    · rename_i u hu;simp only [aa,ae] at he;obtain ⟨rfl,rfl⟩:=he;refine Loc.read fun k ha=>?_
      have:Ax k z (cQ s x) (lo.map (cQ s)) (hj.map (cQ s))=Ax h z (cQ s x) (lo.map (cQ s)) (hj.map (cQ s)):=by
       cases hx:cQ s x with
       | own id path off len g=>simp only [Ax,ha id (qq id (by rw [hx];simp [kf]))]
       | p v=>cases v<;>rfl
       | _=>rfl
      rw [this,hu]
    · cases he
   case clr z zero x =>
    have qq:qh X (cQ s x):=hr.mem (by simp [fC])
    simp only [cf] at he ⊢;split at he
    · rename_i hx;simp only [aa,ae] at he;obtain ⟨rfl,rfl⟩:=he;exact Loc.read fun k _=>rfl
    · rename_i hx;simp only [aa,ae] at he;obtain ⟨rfl,rfl⟩:=he;exact Loc.read fun k _=>rfl
    · rename_i id path off len g0 hx;split at he
      · rename_i h1 ho;split at he
        · rename_i hc;simp only [aa,ae] at he;obtain ⟨rfl,rfl⟩:=he;obtain ⟨q1,q2⟩:=Sm (X:=X) (qq id (by rw [hx];simp [kf])) ho
          refine ⟨q1,fun k ha=>?_⟩
          simp only [q2 k ha,if_pos hc]
        · cases he
      · cases he
    · cases he
   case iaddr z x i =>
    have qq:qh X (cQ s x):=hr.mem (by simp [fC])
    simp only [cf] at he ⊢;split at he
    · rename_i u hu;simp only [aa,ae] at he;obtain ⟨rfl,rfl⟩:=he;refine Loc.read fun k ha=>?_
      have:Ay k z (cQ s x) (cQ s i)=Ay h z (cQ s x) (cQ s i):=by
       cases hx:cQ s x with
       | own id path off len g=>simp only [Ay,ha id (qq id (by rw [hx];simp [kf]))]
       | p v=>cases v<;>rfl
       | _=>rfl
      rw [this,hu]
    · cases he
   case call md f args=>exact absurd rfl (fj md f args)
   case app pz z bytes x y =>
    have qq:qh X (cQ s x):=hr.mem (by simp [fC])
    have GJ:qh X (cQ s y):=hr.mem (by simp [fC])
    have B4:∀ {u:MV} {h2:cq},rK γ d h z bytes (cQ s x) (cQ s y)=some (u,h2)→(oF X h h2∧qh X u)∧∀ k,c7 X h k→rK γ d k z bytes (cQ s x) (cQ s y)=some (u,glue X h2 k):=by
     intro u h2 ho;unfold rK at ho;split at ho
     · cases ho
     · rename_i ts h1 BS;obtain ⟨q1,q2⟩:=C2e GJ BS;split at ho
       · cases ho
       · rename_i fh;split at ho
         · rename_i zz hx;split at ho
           · rename_i fZ;split at ho
             · rename_i h3 xt;simp only [aa,ae] at ho;obtain ⟨rfl,rfl⟩:=ho;have Sn:qh X (.own (d.getD 0) [] 0 ts.length γ):=by
                intro i hi;simp only [kf,aW] at hi;subst hi;cases d with
                | none=>simp [m4] at xt
                | some x=>exact hd x rfl
               refine ⟨⟨q1.trans (u6 (k:=h1) hd xt).2,Sn⟩,fun k ha=>?_⟩
               unfold rK;simp only [q2 k ha,fh,aF,if_false,hx,if_pos fZ,(u6 (k:=k) hd xt).1]
             · cases ho
           · cases ho
         · rename_i id path off len g0 hx;have gx:mE id∈X:=qq id (by rw [hx];simp [kf])
           have xT:∀ k,glue X h1 k id=h1 id:=fun k=>by simp [glue,gx]
           split at ho
           · rename_i lL;split at ho
             · rename_i g1 z1 l hh;unfold D1 at ho;split at ho
               · rename_i hc;simp only [aa,ae] at ho;obtain ⟨rfl,rfl⟩:=ho;refine ⟨⟨q1.cD gx _,fun i hi=>by simp only [kf,aW] at hi;subst hi;exact gx⟩,fun k ha=>?_⟩
                 unfold rK;simp only [q2 k ha,fh,aF,if_false,hx,if_pos lL,xT k,hh,D1,if_pos hc,zo gx]
               · cases ho
             · rename_i mG;unfold Aw at ho;split at ho
               · rename_i g1 z1 l n hs;split at ho
                 · rename_i hc;split at ho
                   · rename_i o' eZ;split at ho
                     · rename_i h3 xt;simp only [aa,ae] at ho;obtain ⟨rfl,rfl⟩:=ho;have Sn:qh X (.own (d.getD 0) [] 0 (len+ts.length) γ):=by
                        intro i hi;simp only [kf,aW] at hi;subst hi;cases d with
                        | none=>simp [m4] at xt
                        | some x=>exact hd x rfl
                       refine ⟨⟨(q1.cD gx _).trans (u6 (k:=h1) hd xt).2,Sn⟩,fun k ha=>?_⟩
                       have Ji:=(u6 (k:=k) hd xt).1;rw [zo gx] at Ji;unfold rK;simp only [q2 k ha,fh,aF,if_false,hx,if_pos lL,xT k];unfold Aw;simp only [xT k,hs,if_pos hc,eZ,Ji]
                     · cases ho
                   · cases ho
                 · cases ho
               · cases ho
           · cases ho
         · cases ho
    simp only [cf] at he ⊢;split at he
    · rename_i id IX len g1 h1 ho;obtain ⟨⟨q1,q2⟩,q3⟩:=B4 ho;have gx:mE id∈X:=q2 id (by simp [kf])
      split at he
      · rename_i I2;split at he
        · rename_i u hu;simp only [aa,ae] at he;obtain ⟨rfl,rfl⟩:=he;refine ⟨q1.cD gx _,fun k ha=>?_⟩
          have nr:mC (glue X h1 k) (.own id [] IX len g1)=some u:=by rw [Sl (c7.glue h1 k) q2,hu]
          simp only [q3 k ha,if_pos I2,nr,zo gx]
        · cases he
      · rename_i I2;simp only [aa,ae] at he;obtain ⟨rfl,rfl⟩:=he;refine ⟨q1,fun k ha=>?_⟩
        simp only [q3 k ha,if_neg I2]
    · cases he
   case cpy z x y =>
    have qq:qh X (cQ s x):=hr.mem (by simp [fC])
    have GJ:qh X (cQ s y):=hr.mem (by simp [fC])
    simp only [cf,Ga] at he ⊢;split at he
    · cases he
    · rename_i ts iw;split at he
      · cases he
      · rename_i vs fY;split at he
        · rename_i fh;split at he
          · rename_i zz hx;simp only [aa,ae] at he;obtain ⟨rfl,rfl⟩:=he;refine Loc.read fun k ha=>?_
            simp only [Jh ha GJ,iw,fY,if_pos fh]
          · rename_i id path off len g hx;split at he
            · rename_i h1 ho;simp only [aa,ae] at he;obtain ⟨rfl,rfl⟩:=he;obtain ⟨q1,q2⟩:=Sm (X:=X) (qq id (by rw [hx];simp [kf])) ho
              refine ⟨q1,fun k ha=>?_⟩
              simp only [Jh ha GJ,iw,fY,if_pos fh,q2 k ha]
            · cases he
          · cases he
        · cases he
   case appn z bytes zero x n =>
    simp only [cf] at he ⊢;split at he
    · split at he
      · split at he
        · rename_i hc;split at he
          · rename_i h1 ho;simp only [aa,ae] at he;obtain ⟨rfl,rfl⟩:=he;refine ⟨(u6 (k:=h) hd ho).2,fun k ha=>?_⟩
            have:=(u6 (k:=k) hd ho).1
            rw [tJ ha] at this;simp only [if_pos hc,this]
          · cases he
        · cases he
      · cases he
    · cases he
   case appk z x y =>
    have qq:qh X (cQ s x):=hr.mem (by simp [fC])
    have GJ:qh X (cQ s y):=hr.mem (by simp [fC])
    simp only [cf] at he ⊢;split at he
    · cases he
    · rename_i ts iw;split at he
      · cases he
      · rename_i vs fY;split at he
        · rename_i fh;split at he
          · rename_i id path off len g hx;split at he
            · rename_i h1 ho;simp only [aa,ae] at he;obtain ⟨rfl,rfl⟩:=he;obtain ⟨q1,q2⟩:=Sm (X:=X) (qq id (by rw [hx];simp [kf])) ho
              refine ⟨q1,fun k ha=>?_⟩
              simp only [Jh ha GJ,iw,fY,if_pos fh,q2 k ha]
            · cases he
          · cases he
        · cases he
   case sliceK z x lo hj =>
    have qq:qh X (cQ s x):=hr.mem (by simp [fC])
    simp only [cf] at he ⊢;split at he
    · rename_i id path off len g hx;split at he
      · rename_i g' z' l' hv;split at he
        · rename_i hc;split at he
          · rename_i b hb;split at he
            · rename_i c tF;simp only [aa,ae] at he;obtain ⟨rfl,rfl⟩:=he;refine Loc.read fun k ha=>?_
              simp only [ha id (qq id (by rw [hx];simp [kf])),hv,if_pos hc,hb,tF]
            · cases he
          · cases he
        · cases he
      · cases he
    · cases he
   all_goals simp only [cf,reduceCtorEq] at he
end
end Go.Mid
namespace Go.Mid
section
variable {h k:cq} {ρ:Nat→Option Nat} {ζ:Nat→Nat}
mutual
theorem Sp (ha:∀ i j,ρ i=some j→k i=h i):∀ (v:MV),j7 k ρ ζ v=j7 h ρ ζ v
 | .p _=>rfl
 | .nil _=>rfl
 | .own id path off len g=>by
   simp only [j7];cases hr:ρ id with
   | none=>rfl
   | some j =>
     have:uQ k id path g=uQ h id path g:=by unfold uQ;rw [ha id j hr]
     simp only [this]
 | .ptr id np rp g o=>by
   simp only [j7];cases hr:ρ id with
   | none=>rfl
   | some j =>
     have:xQ k id np rp g o=xQ h id np rp g o:=by unfold xQ;rw [ha id j hr]
     simp only [this]
 | .fE id path g=>by
   simp only [j7];cases hr:ρ id with
   | none=>rfl
   | some j =>
     have:DX k id path g=DX h id path g:=by unfold DX;rw [ha id j hr]
     simp only [this]
 | .agg l=>by simp only [j7,Jj ha l]
 | .fn _ l=>by simp only [j7,Jj ha l]
 | .eO l=>by simp only [j7,Jj ha l]
 | .dead _=>rfl
theorem Jj (ha:∀ i j,ρ i=some j→k i=h i):∀ (l:List MV),sx k ρ ζ l=sx h ρ ζ l
 | []=>rfl
 | x::r=>by simp only [sx,Sp ha x,Jj ha r]
end
end
section
variable {hr h k:cq} {ρ:Nat→Nat}
mutual
theorem Sq (ha:∀ i o,hr i=some o→k (ρ i)=h (ρ i)):∀ (v:MV),nn hr k ρ v=nn hr h ρ v
 | .p _=>rfl
 | .nil _=>rfl
 | .own id path off len g=>by
   cases ho:hr id with
   | none =>
     have:uQ hr id path g=false:=by
      unfold uQ;rw [ho];have e:jI (none:Option (Obj Nat)) path=none:=by cases path<;>rfl
      rw [e]
     simp only [nn,this,aF,if_false]
   | some o=>simp only [nn,ha id o ho]
 | .ptr id np rp g o=>by
   cases ho:hr id with
   | none =>
     have:xQ hr id np rp g o=false:=by
      unfold xQ;rw [ho];have e:look (none:Option (Obj Nat)) np rp=none:=by
       cases np with
       | none=>rfl
       | some p=>simp only [look];cases p<;>rfl
      rw [e]
     simp only [nn,this,aF,if_false]
   | some o=>simp only [nn,ha id o ho]
 | .fE id path g=>by
   cases ho:hr id with
   | none =>
     have:DX hr id path g=false:=by
      unfold DX;rw [ho];have e:QI (none:Option (Obj Nat)) path=none:=by cases path<;>rfl
      rw [e]
     simp only [nn,this,aF,if_false]
   | some o=>simp only [nn,ha id o ho]
 | .agg l=>by simp only [nn,Nx ha l]
 | .fn _ l=>by simp only [nn,Nx ha l]
 | .eO l=>by simp only [nn,Nx ha l]
 | .dead _=>rfl
theorem Nx (ha:∀ i o,hr i=some o→k (ρ i)=h (ρ i)):∀ (l:List MV),tR hr k ρ l=tR hr h ρ l
 | []=>rfl
 | x::r=>by simp only [tR,Sq ha x,Nx ha r]
end
end
section
variable {X:List Nat} {h k:cq}
theorem Ny {l:List Nat} (ha:c7 X h k) (hl:∀ i∈l,mE i∈X):jw k l=jw h l:=by
 unfold jw;congr 2
 induction l with
 | nil=>rfl
 | cons x r ih=>simp only [List.flatMap_cons,ha x (hl x (by simp)),ih (fun i hi=>hl i (by simp [hi]))]
theorem C7a {l:List Nat} (ha:c7 X h k) (hl:∀ i∈l,mE i∈X):sy k l=sy h l:=by
 induction l with
 | nil=>rfl
 | cons x r ih=>simp only [sy,ha x (hl x (by simp)),ih (fun i hi=>hl i (by simp [hi]))]
theorem ZA {γ:Nat} {d:Option Nat} {ids:List Nat} {r v:MV} {ext dL:List (Obj Nat)} {h':cq} (hd:∀ x,d=some x→mE x∈X) (hn:ids.Nodup) (B3:∀ i∈ids,mE i∈X) (ht:yJ γ d h ids r ext dL=some (v,h')) :
 Loc X h h' (fun k=>yJ γ d k ids r ext dL) v:=by
 unfold yJ at ht
 dsimp only at ht
 split at ht
 · cases ht
 · rename_i zp;have ed:=zp;simp only [not_or,ne_eq,Decidable.not_not,gq,Nat.not_lt] at ed;obtain ⟨hl,B5,lM,kW,hex⟩:=ed;simp only [aa,ae] at ht;obtain ⟨rfl,rfl⟩:=ht;have jV:∀ i j,mZ (kr d dL.length) ids i=some j→mE i∈X:=by
    intro i j hs;rcases Nt hs with ⟨m,hm,_⟩ | ⟨_,m,hm,_⟩
    · have eE:=(aL.1 hm).1;simp only [kr,List.length_map,List.length_range] at eE;rw [Zc d _ m eE] at hm;have hi:=cm hm;cases d with
      | none =>
        exfalso;refine B5 ⟨fun e=>?_,rfl⟩
        rw [e] at eE;exact absurd eE (by simp)
      | some x =>
        have hx:=hd x rfl;simp only [bG,xT] at hi hex;subst hi;have e:mE (x+1000*(m+1))=mE x:=by
         unfold mE;rw [if_pos (by omega),if_pos (by omega)]
         omega
        rw [e];exact hx
    · exact B3 i (bI hm)
   refine ⟨fun i hi=>?_,fun k ha=>?_⟩
   · cases hs:mZ (kr d dL.length) ids i with
     | none=>simp only [hs]
     | some j=>exact (hi (jV i j hs)).elim
   · unfold yJ
     dsimp only
     rw [if_neg zp];have hm:∀ i j,mZ (kr d dL.length) ids i=some j→qX γ k i j=qX γ h i j:=by
      intro i j hs;unfold qX;rw [ha i (jV i j hs)]
     have Nw:∀ i o,kg ext dL i=some o→(match mZ (kr d dL.length) ids (qd (d.getD 0) ids i) with | some j=>(kg ext dL j).map (qX γ k (qd (d.getD 0) ids i) j) | none=>k (qd (d.getD 0) ids i)) =
      (match mZ (kr d dL.length) ids (qd (d.getD 0) ids i) with | some j=>(kg ext dL j).map (qX γ h (qd (d.getD 0) ids i) j) | none=>h (qd (d.getD 0) ids i)):=by
      intro i o ho
      have:=Zk (d:=d) hl hn lM kW ho
      rw [this];simp only [hm _ _ this]
     have hφ:nn (kg ext dL) (fun i=>match mZ (kr d dL.length) ids i with | some j=>(kg ext dL j).map (qX γ k i j) | none=>k i) (qd (d.getD 0) ids) =
      nn (kg ext dL) (fun i=>match mZ (kr d dL.length) ids i with | some j=>(kg ext dL j).map (qX γ h i j) | none=>h i) (qd (d.getD 0) ids):=by
      funext v;exact Sq Nw v
     refine congrArg some (Prod.ext (Sq Nw r) ?_);funext i;unfold glue;cases hs:mZ (kr d dL.length) ids i with
     | some j =>
       simp only [jV i j hs,if_true,hm i j hs,hs];exact congrArg (fun φ=>Option.map (fun o=>kO φ (fun a=>a) (qX γ h i j o)) (kg ext dL j)) hφ
     | none =>
       simp only [hs];split
       · rename_i hi;exact ha i hi
       · rfl
theorem D0R {K:jE} {γ:Nat} {d:Option Nat} {s:gI} {v:MV} {h':cq} {md:Nat} {f:dQ} {args:List dQ} (hd:∀ x,d=some x→mE x∈X)
 (hr:∀ i∈jw h (jw h (mD ((fC (.call md f args)).map (cQ s)))),mE i∈X) (he:cf K γ d s h (.call md f args)=some (v,h')):Loc X h h' (fun k=>cf K γ d s k (.call md f args)) v:=by
 simp only [cf] at he ⊢;split at he
 · rename_i g al hcal;have dM:∀ i∈mD al,i∈mD ((fC (.call md f args)).map (cQ s)):=by
    intro i hi;have B4:∀ l m:List MV,mD (l++m)=mD l++mD m:=by
     intro l m
     induction l with
     | nil=>rfl
     | cons x r ih=>simp only [List.cons_append,mD,ih,List.append_assoc]
    have fh:∀ (f0:Nat) (cs:List MV),callee (cQ s f)=some (f0,cs)→∀ i∈mD cs,i∈kf (cQ s f):=by
     intro f0 cs hcal i hi;unfold callee at hcal;split at hcal
     · cases hcal;exfalso
       have:∀ l:List PV,mD (l.map .p)=[]:=by
        intro l
        induction l with
        | nil=>rfl
        | cons x r ih=>simp only [aG,mD,kf,ih,bF]
       rw [this] at hi;cases hi
     · cases hcal;rename_i heq;rw [heq];simpa only [kf] using hi
     · cases hcal
    simp only [fC,aG,mD];unfold DZ at hcal;split at hcal
    · rename_i f0 cs rP;split at hcal<;>(simp only [aa,ae] at hcal;obtain ⟨rfl,rfl⟩:=hcal)
      · rw [B4] at hi;rcases ay.1 hi with hi | hi
        · exact ay.2 (.inr hi)
        · exact ay.2 (.inl (fh _ _ rP i hi))
      · rw [B4] at hi;rcases ay.1 hi with hi | hi
        · exact ay.2 (.inl (fh _ _ rP i hi))
        · exact ay.2 (.inr hi)
    · cases hcal
   have Dc:∀ (l m:List Nat),(∀ i∈l,i∈m)→∀ i∈jw h l,i∈jw h m:=by
    intro l m ZB i hi;unfold jw at hi ⊢;rw [Si] at hi ⊢;rcases ay.1 hi with hi | hi
    · exact ay.2 (.inl (ZB i hi))
    · obtain ⟨j,hj,gU⟩:=ie.1 hi;exact ay.2 (.inr (ie.2 ⟨j,ZB j hj,gU⟩))
   have h2:∀ i∈jw h (jw h (mD al)),mE i∈X:=fun i hi=>hr i (Dc _ _ (Dc _ _ dM) i hi)
   have h1:∀ i∈jw h (mD al),mE i∈X:=fun i hi=>h2 i (EP hi)
   have h0:fS X al:=fun i hi=>h1 i (EP hi)
   split at he
   · unfold yI at he;split at he
     · rename_i vs fY;split at he
       · rename_i u fr qA;split at he
         · rename_i hc;simp only [aa,ae] at he;obtain ⟨rfl,rfl⟩:=he;refine Loc.read fun k ha=>?_
           try simp only
           unfold yI;rw [Jf ha h0,fY];simp only [qA,if_pos hc]
         · cases he
       · cases he
     · cases he
   · unfold Br at he
     dsimp only at he
     split at he
     · cases he
     · rename_i ql sF;split at he
       · cases he
       · rename_i r ext dL hk;obtain ⟨q1,q2⟩:=ZA hd (Sj _) h2 he;refine ⟨q1,fun k ha=>?_⟩
         try simp only
         unfold Br
         dsimp only
         have e1:jw k (mD al)=jw h (mD al):=Ny ha h0;have e2:jw k (jw h (mD al))=jw h (jw h (mD al)):=Ny ha h1;have Ee:∀ i j,tU (jw h (jw h (mD al))) i=some j→k i=h i:=by
          intro i j gU;unfold tU at gU;cases hi:pc (jw h (jw h (mD al))) i with
          | none=>simp [hi] at gU
          | some m=>exact ha i (h2 i (bI (EJ hi)))
         have e3:j7 k (tU (jw h (jw h (mD al)))) (fun _=>0)=j7 h (tU (jw h (jw h (mD al)))) (fun _=>0):=by
          funext v;exact Sp Ee v
         rw [e1,e2,C7a ha h2,sF];simp only [e3,Jj Ee,hk];exact q2 k ha
   · unfold As at he;split at he
     · rename_i vs fY;split at he
       · rename_i r dL hk;split at he
         · rename_i hc;obtain ⟨q1,q2⟩:=ZA (X:=X) hd List.nodup_nil (by simp) he
           refine ⟨q1,fun k ha=>?_⟩
           try simp only
           unfold As;rw [Jf ha h0,fY];simp only [hk,if_pos hc];exact q2 k ha
         · cases he
       · cases he
     · cases he
 · cases he
end
end Go.Mid
namespace Go.Mid
section
variable {K:jE} {g:Nat} {d:Option Nat} {s s2:gI} {h h':cq} {v:MV}
theorem ZC {op:su} (hs:∀ x∈fC op,cQ s2 x=cQ s x):cf K g d s2 h op=cf K g d s h op:=by
 have hl:∀ l:List dQ,(∀ x∈l,cQ s2 x=cQ s x)→l.map (cQ s2)=l.map (cQ s):=fun l hl=>eU hl
 cases op with
 | build zs l=>simp only [cf,hl l (by simpa [fC] using hs)]
 | bsl mt z l=>simp only [cf,hl l (by simpa [fC] using hs)]
 | bslp z l=>simp only [cf,hl l (by simpa [fC] using hs)]
 | sQ f l=>simp only [cf,hl l (by simpa [fC] using hs)]
 | mx l=>simp only [cf,hl l (by simpa [fC] using hs)]
 | mn l=>simp only [cf,hl l (by simpa [fC] using hs)]
 | call md f l=>simp only [cf,hs f (by simp [fC]),hl l (fun x hx=>hs x (by simp [fC,hx]))]
 | slice z x lo hi =>
   have h1:lo.map (cQ s2)=lo.map (cQ s):=by
    cases lo with
    | none=>rfl
    | some y=>simp only [ar,hs y (by simp [fC])]
   have h2:hi.map (cQ s2)=hi.map (cQ s):=by
    cases hi with
    | none=>rfl
    | some y=>simp only [ar,hs y (by simp [fC])]
   simp only [cf,hs x (by simp [fC]),h1,h2]
 | nz x lo hi =>
   have h1:lo.map (cQ s2)=lo.map (cQ s):=by
    cases lo with
    | none=>rfl
    | some y=>simp only [ar,hs y (by simp [fC])]
   have h2:hi.map (cQ s2)=hi.map (cQ s):=by
    cases hi with
    | none=>rfl
    | some y=>simp only [ar,hs y (by simp [fC])]
   simp only [cf,hs x (by simp [fC]),h1,h2]
 | nilv z=>rfl
 | tO=>rfl
 | bad=>rfl
 | pick c x y=>simp only [cf,hs c (by simp [fC]),hs x (by simp [fC]),hs y (by simp [fC])]
 | yC m k v=>rfl
 | sw z o m k=>rfl
 | yD m k=>rfl
 | store n x y=>simp only [cf,hs x (by simp [fC]),hs y (by simp [fC])]
 | bin b op x y=>simp only [cf,hs x (by simp [fC]),hs y (by simp [fC])]
 | eqs n t x y=>simp only [cf,hs x (by simp [fC]),hs y (by simp [fC])]
 | mksl z b zv x y=>simp only [cf,hs x (by simp [fC]),hs y (by simp [fC])]
 | iaddr z x y=>simp only [cf,hs x (by simp [fC]),hs y (by simp [fC])]
 | nA n z x y=>simp only [cf,hs x (by simp [fC]),hs y (by simp [fC])]
 | idx a z n x y=>simp only [cf,hs x (by simp [fC]),hs y (by simp [fC])]
 | sR x y=>simp only [cf,hs x (by simp [fC]),hs y (by simp [fC])]
 | app p z b x y=>simp only [cf,hs x (by simp [fC]),hs y (by simp [fC])]
 | cpy z x y=>simp only [cf,hs x (by simp [fC]),hs y (by simp [fC])]
 | move x=>simp only [cf,hs x (by simp [fC])]
 | box x=>simp only [cf,hs x (by simp [fC])]
 | load a n x=>simp only [cf,hs x (by simp [fC])]
 | nilc x=>simp only [cf,hs x (by simp [fC])]
 | isnil f n x=>simp only [cf,hs x (by simp [fC])]
 | not x=>simp only [cf,hs x (by simp [fC])]
 | neg x=>simp only [cf,hs x (by simp [fC])]
 | inv x=>simp only [cf,hs x (by simp [fC])]
 | convI k x=>simp only [cf,hs x (by simp [fC])]
 | convS x=>simp only [cf,hs x (by simp [fC])]
 | convR x=>simp only [cf,hs x (by simp [fC])]
 | cut0 z x=>simp only [cf,hs x (by simp [fC])]
 | clr z zv x=>simp only [cf,hs x (by simp [fC])]
 | faddr x i o=>simp only [cf,hs x (by simp [fC])]
 | fld a n o x i=>simp only [cf,hs x (by simp [fC])]
 | ext x i=>simp only [cf,hs x (by simp [fC])]
 | len x=>simp only [cf,hs x (by simp [fC])]
 | lenS x=>simp only [cf,hs x (by simp [fC])]
 | appn z b zv x n=>simp only [cf,hs x (by simp [fC]),hs n (by simp [fC])]
 | appk z x y=>simp only [cf,hs x (by simp [fC]),hs y (by simp [fC])]
 | Bp n z x=>simp only [cf,hs x (by simp [fC])]
 | sliceK z x lo hi=>simp only [cf,hs x (by simp [fC]),hs lo (by simp [fC]),hs hi (by simp [fC])]
 | slice3 x a b c=>simp only [cf,hs x (by simp [fC]),hs a (by simp [fC]),hs b (by simp [fC]),hs c (by simp [fC])]
 | capn x=>simp only [cf,hs x (by simp [fC])]
end
theorem Sr {x y:Ins} (h:Gc x y=true):(∀ d,x.dst=some d→d∉tZ y)∧(∀ d,x.dst=some d→y.dst≠some d)∧(∀ d,y.dst=some d→d∉tZ x):=by
 refine ⟨fun d hd=>?_,fun d hd=>?_,fun d hd=>?_⟩<;>simp [Gc,hd] at h
 · exact h.1.1
 · exact h.1.2
 · exact h.2
def gK (l:List Nat) (s t:gI):Prop:=∀ i∈l,t i=s i
theorem gK.eW {l:List Nat} {s:gI} {d:Option Nat} (h:∀ x,d=some x→x∉l) (v:MV):gK l s (eW s d v):=by
 intro i hi;cases d with
 | none=>rfl
 | some x =>
   have:i≠x:=fun e=>h x rfl (e ▸ hi)
   simp [Mid.eW,cD,this]
section
variable {K:jE} {g:Nat} {s t:gI} {h k:cq} {i:Ins}
theorem Nz (hs:gK (tZ i) s t):tW t i.guard=tW s i.guard:=by
 cases hg:i.guard with
 | none=>rfl
 | some gb =>
   obtain ⟨x,b⟩:=gb
   have:=hs x (by simp [tZ,hg])
   simp only [tW,this]
theorem Jk (hs:gK (tZ i) s t):∀ x∈fC i.op,cQ t x=cQ s x:=by
 intro x hx;cases x with
 | t n=>exact hs n (ay.2 (.inl (ie.2 ⟨.t n,hx,by simp [Xz]⟩)))
 | c v=>rfl
 | f n=>rfl
theorem NA (hs:gK (tZ i) s t):lK t k i=lK s k i:=by
 unfold lK;rw [Nz hs,eU (Jk hs)]
theorem ZD (ha:c7 (lK s h i) h k):lK s k i=lK s h i:=by
 unfold lK at ha ⊢;cases hw:tW s i.guard with
 | none=>rfl
 | some b =>
   cases b with
   | false=>rfl
   | true =>
     simp only [hw] at ha;have h2:∀ x∈jw h (jw h (mD ((fC i.op).map (cQ s)))),mE x∈(i.dst.toList++jw h (jw h (mD ((fC i.op).map (cQ s))))).map mE:=fun x hx=>bh.2 ⟨x,by simp [hx],rfl⟩
     have h1:∀ x∈jw h (mD ((fC i.op).map (cQ s))),mE x∈(i.dst.toList++jw h (jw h (mD ((fC i.op).map (cQ s))))).map mE:=fun x hx=>h2 x (EP hx)
     simp only [Ny ha (fun x hx=>h1 x (EP hx)),Ny ha h1]
theorem Jl {s1:gI} {h1:cq} (he:oE K g i s h=some (s1,h1)):∃ v,s1=eW s i.dst v∧oF (lK s h i) h h1 ∧
 (∀ t k,gK (tZ i) s t→c7 (lK s h i) h k→oE K g i t k=some (eW t i.dst v,glue (lK s h i) h1 k)) ∧
 (idle i.op=true→h1=h∧∀ t k,gK (tZ i) s t→oE K g i t k=some (eW t i.dst v,k))∧(tY i.op=true→h1=h):=by
 unfold oE at he;split at he
 · rename_i hw;split at he
   · rename_i v h' hv;simp only [aa,ae] at he;obtain ⟨rfl,rfl⟩:=he;have hX:lK s h i=(i.dst.toList++jw h (jw h (mD ((fC i.op).map (cQ s))))).map mE:=by unfold lK;rw [hw]
     have hd:∀ x,i.dst=some x→mE x∈lK s h i:=fun x hx=>by rw [hX,hx];exact bh.2 ⟨x,by simp,rfl⟩
     have hr:∀ x∈jw h (jw h (mD ((fC i.op).map (cQ s)))),mE x∈lK s h i:=fun x hx=>by rw [hX];exact bh.2 ⟨x,by simp [hx],rfl⟩
     have jU:Loc (lK s h i) h h' (fun k=>cf K g i.dst s k i.op) v:=by
      by_cases hc:∃ md f args,i.op=.call md f args
      · obtain ⟨md,f,args,fj⟩:=hc;rw [fj] at hv hr ⊢;exact D0R hd hr hv
      · refine C69 (fun md f args e=>hc ⟨md,f,args,e⟩) hd (fun x hx=>hr x (EP (EP hx))) hv
     refine ⟨v,rfl,jU.1,fun t k hs ha=>?_,fun hi=>?_,fun ER=>?_⟩
     · unfold oE;rw [Nz hs,hw];simp only [ZC (Jk hs),jU.2 k ha]
     · obtain ⟨f,hf⟩:=Zz K g i.dst s hi h;rw [hf] at hv;cases f with
       | none=>cases hv
       | some u =>
         simp only [ar,aa,ae] at hv;obtain ⟨rfl,rfl⟩:=hv;refine ⟨rfl,fun t k hs=>?_⟩
         unfold oE;rw [Nz hs,hw];simp only [ZC (Jk hs),hf,ar]
     · generalize i.op=op at hv ER;cases op<;>simp only [tY,aF] at ER
       · simp only [cf] at hv;split at hv<;>simp only [aa,ae,reduceCtorEq] at hv;exact hv.2.symm
       · simp only [cf] at hv;split at hv<;>simp only [aa,ae,reduceCtorEq] at hv;exact hv.2.symm
       · simp only [cf] at hv;split at hv<;>simp only [aa,ae,reduceCtorEq] at hv;exact hv.2.symm
       · rename_i md f args;have hmd:md=0:=by
          cases md with
          | zero=>rfl
          | succ n=>simp [tY] at ER
         subst hmd;simp only [cf,yI] at hv;split at hv
         · split at hv
           · split at hv
             · split at hv<;>simp only [aa,ae,reduceCtorEq] at hv;exact hv.2.symm
             · cases hv
           · cases hv
         · cases hv
       · simp only [cf] at hv
         (repeat' split at hv)<;>first | (simp only [aa,ae] at hv;exact hv.2.symm) | cases hv
       · simp only [cf,reduceCtorEq] at hv
   · cases he
 · rename_i hw;simp only [aa,ae] at he;obtain ⟨rfl,rfl⟩:=he;have hst:∀ t k,gK (tZ i) s t→oE K g i t k=some (eW t i.dst (.eO []),k):=by
    intro t k hs;unfold oE;rw [Nz hs,hw]
   have hX:lK s h i=[]:=by unfold lK;rw [hw]
   refine ⟨.eO [],rfl,oF.refl _ _,fun t k hs ha=>?_,fun _=>⟨rfl,hst⟩,fun _=>rfl⟩
   rw [hst t k hs,tJ ha]
 · cases he
theorem ZE {s:gI} {d e:Option Nat} {u v:MV} (h:∀ x,d=some x→e≠some x):eW (eW s d u) e v=eW (eW s e v) d u:=by
 cases d with
 | none=>cases e<;>rfl
 | some x =>
   cases e with
   | none=>rfl
   | some y =>
     have vH:x≠y:=fun e=>h x rfl (by rw [e])
     funext i;simp only [eW,cD];by_cases h1:i=y
     · subst h1;simp [dB vH]
     · simp [h1]
theorem C8Z {gi gj:Nat} {i j:Ins} {s1 s2:gI} {h1 h2:cq} (hj:oE K gj j s h=some (s1,h1)) (hi:oE K gi i s1 h1=some (s2,h2)) (yf:Gc j i=true)
 (hc:idle j.op=true∨idle i.op=true∨(tY j.op=true∧tY i.op=true)∨∀ x∈lK s h j,x∉lK s1 h1 i) :
 ∃ s3 h3,oE K gi i s h=some (s3,h3)∧oE K gj j s3 h3=some (s2,h2)∧(idle i.op=true∨lK s h i=lK s1 h1 i)∧(idle j.op=true∨lK s3 h3 j=lK s h j):=by
 obtain ⟨a1,a2,a3⟩:=Sr yf;obtain ⟨vj,rfl,oj,lj,ij,rj⟩:=Jl hj;obtain ⟨vi,rfl,oi,li,ii,ri⟩:=Jl hi;have sI:gK (tZ i) (eW s j.dst vj) s:=fun x hx=>(gK.eW (s:=s) a1 vj x hx).symm
 have sI':gK (tZ i) s (eW s j.dst vj):=gK.eW a1 vj;have sJ:∀ v,gK (tZ j) s (eW s i.dst v):=fun v=>gK.eW a3 v
 have wL:eW (eW s i.dst vi) j.dst vj=eW (eW s j.dst vj) i.dst vi:=(ZE a2).symm;have fI:∀ k,lK s k i=lK (eW s j.dst vj) k i:=fun k=>(NA sI').symm
 have fJ:∀ k v,lK (eW s i.dst v) k j=lK s k j:=fun k v=>NA (sJ v)
 by_cases Ss:idle j.op=true
 · obtain ⟨rfl,ij2⟩:=ij Ss;have hst:=li s h1 sI (c7.refl _ _);have hg:glue (lK (eW s j.dst vj) h1 i) h2 h1=h2:=by
    funext x;unfold glue;split
    · rfl
    · rename_i hx;exact (oi x hx).symm
   rw [hg] at hst;refine ⟨eW s i.dst vi,h2,hst,?_,.inr (fI h1),.inl Ss⟩;rw [ij2 _ h2 (sJ vi),wL]
 · by_cases Su:idle i.op=true
   · obtain ⟨rfl,ii2⟩:=ii Su;refine ⟨eW s i.dst vi,h,ii2 s h sI,?_,.inl Su,.inr (fJ h vi)⟩;rw [lj _ h (sJ vi) (c7.refl _ _),wL];congr 2;funext x;unfold glue;split
     · rfl
     · rename_i hx;exact (oj x hx).symm
   · rcases hc with hc | hc | hc | hc
     · exact absurd hc Ss
     · exact absurd hc Su
     · have e1:=rj hc.1;subst e1;have e2:=ri hc.2;subst e2;have h3:=li s h2 sI (c7.refl _ _);rw [tJ (c7.refl _ _)] at h3;have h4:=lj (eW s i.dst vi) h2 (sJ vi) (c7.refl _ _);rw [tJ (c7.refl _ _)] at h4;exact ⟨_,_,h3,by rw [h4,wL],.inr (fI h2),.inr (fJ h2 vi)⟩
     · -- Jm
       have ZF:c7 (lK (eW s j.dst vj) h1 i) h1 h:=fun x hx=>(oj x (fun Iq=>hc _ Iq hx)).symm
       have h3:=li s h sI ZF;have fi:lK s h i=lK (eW s j.dst vj) h1 i:=by
        rw [fI h];exact ZD ZF
       have ZG:c7 (lK s h j) h (glue (lK (eW s j.dst vj) h1 i) h2 h):=by
        intro x hx;unfold glue;rw [if_neg (hc _ hx)]
       have h4:=lj (eW s i.dst vi) _ (sJ vi) ZG;refine ⟨_,_,h3,?_,.inr fi,.inr ?_⟩
       · rw [h4,wL];congr 2;funext x;unfold glue;by_cases hx:mE x∈lK s h j
         · rw [if_pos hx];exact (oi x (hc _ hx)).symm
         · rw [if_neg hx];split
           · rfl
           · rename_i hx2;rw [oi x hx2,oj x hx]
       · rw [fJ];exact ZD ZG
end
theorem NC {s t:gI} {i:Ins} (hs:gK (tZ i) s t):wo t i=wo s i:=by
 unfold wo;cases hg:i.guard with
 | some g=>rfl
 | none =>
   have he:∀ x∈fC i.op,cQ t x=cQ s x:=Jk hs;simp only;cases ho:i.op with
   | load a n x=>simp only [CL,he x (by rw [ho];simp [fC])]
   | app p z b x y =>
     cases p with
     | true=>rfl
     | false=>simp only [CL,he x (by rw [ho];simp [fC]),he y (by rw [ho];simp [fC])]
   | _=>rfl
theorem Sv {h:cq} {l:List Nat} {q:Nat}:q∈jw h l↔q∈l∨∃ p,p∈l∧q∈yF (h p):=by
 unfold jw;rw [Si,ay,ie]
theorem ND (x:Nat):∀ (m:List (T Nat)) (j:Nat) (u:T Nat),(x∈tw u→x∈oU m)→x∈oU (m.set j u)→x∈oU m
 | [],_,_,_,h=>by simpa using h
 | b::r,0,u,hu,h=>by
   simp only [List.set_cons_zero,oU,ay] at h ⊢;rcases h with h | h
   · have:=hu h
     simpa only [oU,ay] using this
   · exact .inr h
 | b::r,j+1,u,hu,h=>by
   simp only [List.set_cons_succ,oU,ay] at h ⊢;rcases h with h | h
   · exact .inl h
   · by_cases hx:x∈tw u
     · have:=hu hx
       simpa only [oU,ay] using this
     · exact .inr (ND x r j u (fun q=>absurd q hx) h)
theorem C80 {a:Nat} {tr:T Nat} {i j:Nat} {o':Obj Nat} {g z n:Nat} {l:List (T Nat)} (hs:ew (some (.cell a tr)) [j]=some (.vec g z l n)) (hp:put (some (.cell a tr)) [j] (.hole 1)=some o') (gU:i≠j) :
 look (some o') none [i]=look (some (.cell a tr)) none [i]∧∀ x∈yF (some o'),x∈yF (some (.cell a tr)):=by
 rw [BI] at hs;have iM:(dh tr [j] (.hole 1)).map (Obj.cell a)=some o':=by
  simp only [put] at hp;cases hq:dh tr [j] (.hole 1) with
  | none=>rw [hq] at hp;cases hp
  | some t'=>rw [hq] at hp;exact hp
 cases hq:dh tr [j] (.hole 1) with
 | none=>rw [hq] at iM;cases iM
 | some t' =>
   rw [hq] at iM;simp only [ar,aa] at iM;subst iM;cases tr with
   | agg m =>
     simp only [c6] at hs;simp only [dh] at hq;cases hm:m[j]? with
     | none=>rw [hm] at hs;cases hs
     | some u =>
       rw [hm] at hs hq;simp only [aa] at hs hq;subst hs;subst hq;have mG:ke (m.set j (T.hole (α:=Nat) 1))=.agg (m.set j (.hole 1)):=by
        rcases BE (m.set j (T.hole (α:=Nat) 1)) with e | ⟨vs,e1,e⟩
        · exact e
        · exfalso;have h2:(m.set j (T.hole (α:=Nat) 1))[j]?=some (.hole 1):=by
           rw [List.getElem?_set_self (aL.1 hm).1]
          rw [e1,aN] at h2;cases hv:vs[j]? with
          | none=>rw [hv] at h2;cases h2
          | some v=>rw [hv] at h2;cases h2
       rw [mG];constructor
       · simp only [look,lY];rw [List.getElem?_set_ne (dB gU)];have fh:T.dm ((m.set j (T.hole (α:=Nat) 1)).take i)=T.dm (m.take i):=MZ hm rfl;cases m[i]? with
         | none=>rfl
         | some q=>simp only [fh]
       · intro x hx;simp only [yF,tw] at hx ⊢;exact ND x m j (.hole 1) (fun q=>by simp [tw] at q) hx
   | vec a' z' m n' =>
     simp only [c6] at hs;simp only [dh] at hq;cases hm:m[j]? with
     | none=>rw [hm] at hs;cases hs
     | some u =>
       rw [hm] at hs hq;simp only [aa] at hs hq;subst hs;subst hq;refine ⟨rfl,fun x hx=>?_⟩
       simp only [yF,tw] at hx ⊢;exact ND x m j (.hole 1) (fun q=>by simp [tw] at q) hx
   | mp a' ks m =>
     simp only [c6] at hs;simp only [dh] at hq;cases hm:m[j]? with
     | none=>rw [hm] at hs;cases hs
     | some u =>
       rw [hm] at hs hq;simp only [aa] at hs hq;subst hs;subst hq;refine ⟨rfl,fun x hx=>?_⟩
       simp only [yF,tw] at hx ⊢;exact ND x m j (.hole 1) (fun q=>by simp [tw] at q) hx
   | p v =>
     cases v with
     | agg m =>
       simp only [c6] at hs;cases hm:m[j]? with
       | none=>rw [hm] at hs;cases hs
       | some u=>rw [hm] at hs;cases hs
     | _=>simp only [c6,reduceCtorEq] at hs
   | m v=>simp only [c6,reduceCtorEq] at hs
   | hole n'=>simp only [c6,reduceCtorEq] at hs
theorem D2P {K:jE} {ga gb:Nat} {x y:Ins} {s:gI} {h:cq} {s1 s2:gI} {h1 h2:cq} {F:List Nat} {pa pb:Option rL} (hx:oE K ga x s h=some (s1,h1)) (hy:oE K gb y s1 h1=some (s2,h2)) (yf:Gc x y=true)
 (qY:wo s x=pa) (ux:wo s1 y=pb) (Jn:CM F pa pb=true) (hF:∀ z∈lK s h x,z∈F) :
 ∃ s3 h3,oE K gb y s h=some (s3,h3)∧oE K ga x s3 h3=some (s2,h2)∧lK s h y=lK s1 h1 y∧(∀ z∈lK s3 h3 x,z∈lK s h x)∧wo s y=pb∧wo s3 x=pa:=by
 unfold CM at Jn;split at Jn
 · rename_i id i k0 uV j d;simp only [ak,beq_iff_eq,bne_iff_ne,db,List.contains_eq_mem,decide_eq_false_iff_not] at Jn;obtain ⟨⟨rfl,gU⟩,hd⟩:=Jn;obtain ⟨a1,a2,a3⟩:=Sr yf;obtain ⟨xa,xn,xo,g,o,Sw,B6,NF⟩:∃ (xa:Bool) (xn:Nat) (xo:dQ) (g o:Nat),x.guard=none∧x.op=.load xa xn xo∧cQ s xo=.ptr id none [i] g o:=by
    unfold wo at qY;split at qY
    · rename_i hg;generalize fj:x.op=op at qY;unfold CL at qY;split at qY
      · rename_i xa xn xo;split at qY
        · rename_i id1 i1 g1 o1 he;simp only [aa,ae,true_and] at qY;obtain ⟨rfl,rfl,_⟩:=qY;exact ⟨xa,xn,xo,g1,o1,hg,rfl,he⟩
        · cases qY
      · split at qY
        · split at qY
          · simp at qY
          · cases qY
        · cases qY
      · cases qY
    · cases qY
   have ld:∀ (t:gI) (k:cq),oE K ga x t k=match tV k xa xn (cQ t xo) with | some v=>some (eW t x.dst v,k) | none=>none:=by
    intro t k;unfold oE;rw [Sw];simp only [tW];rw [B6];simp only [cf];cases tV k xa xn (cQ t xo)<;>rfl
   obtain ⟨v,hv,rfl,rfl⟩:∃ v,tV h xa xn (.ptr id none [i] g o)=some v∧s1=eW s x.dst v∧h1=h:=by
    rw [ld,NF] at hx;split at hx
    · rename_i v hv;simp only [aa,ae] at hx;exact ⟨v,hv,hx.1.symm,hx.2.symm⟩
    · cases hx
   obtain ⟨u,rfl,oy,ly,_,_⟩:=Jl hy;obtain ⟨yz,yb,yx,yy,off,len,g0,l,hyg,Sx,ZH,hyy,hyd⟩:∃ (yz yb:Nat) (yx yy:dQ) (off len g0:Nat) (l:List PV),y.guard=none∧y.op=.app false yz yb yx yy∧cQ (eW s x.dst v) yx=.own id [j] off len g0∧cQ (eW s x.dst v) yy=.p (.sl l)∧y.dst=some d:=by
    unfold wo at ux;split at ux
    · rename_i hg;generalize fj:y.op=op at ux;unfold CL at ux;split at ux
      · split at ux
        · simp at ux
        · cases ux
      · rename_i yz yb yx yy;split at ux
        · rename_i id1 j1 off len g0 he;split at ux
          · rename_i l d1 h1 h2;simp only [aa,ae,true_and] at ux;obtain ⟨rfl,rfl,rfl⟩:=ux;exact ⟨yz,yb,yx,yy,off,len,g0,l,hg,rfl,he,h1,h2⟩
          · cases ux
        · cases ux
      · cases ux
    · cases ux
   have sY:gK (tZ y) (eW s x.dst v) s:=fun q hq=>(gK.eW (s:=s) a1 v q hq).symm
   have sX:gK (tZ x) s (eW s y.dst u):=gK.eW a3 u;have h3:=ly s h1 sY (c7.refl _ _);have hg2:glue (lK (eW s x.dst v) h1 y) h2 h1=h2:=by
    funext q;unfold glue;split
    · rfl
    · rename_i hq;exact (oy q hq).symm
   rw [hg2] at h3;obtain ⟨ob,o',Sy,dM,eZ,ES⟩:∃ (ob:Obj Nat) (o':Obj Nat),h1 id=some ob∧(∃ g1 z1 l1 n1,ew (some ob) [j]=some (.vec g1 z1 l1 n1))∧put (some ob) [j] (.hole 1)=some o'∧∃ w,h2=cD (cD h1 id (some o')) d (some w):=by
    unfold oE at hy;rw [hyg] at hy;simp only [tW] at hy;rw [Sx] at hy;simp only [cf,ZH,hyy] at hy;have BS:rY h1 (.p (.sl l))=some (l.map .p,h1):=by
     unfold rY elems
     have:(l.map (T.p (α:=Nat))).all tC=true:=by simp [tC]
     simp only [this,if_true]
    cases qs:rK gb y.dst h1 yz yb (.own id [j] off len g0) (.p (.sl l)) with
    | none=>rw [qs] at hy;cases hy
    | some r =>
      obtain ⟨r1,r2⟩:=r;have GK:r2=h2:=by
       rw [qs] at hy
       try simp only at hy
       split at hy
       · rename_i vv hh heq;split at heq
         · simp only [aF,if_false,aa,ae] at heq hy;rename_i e3;simp only [aa,ae] at e3;rw [← e3.2] at heq;rw [← hy.2,← heq.2,e3.2]
         · cases heq
       · cases hy
      subst GK;unfold rK at qs;rw [BS] at qs;simp only at qs;split at qs
      · cases qs
      · split at qs
        · rename_i lL;have qg:Aw gb y.dst h1 id [j] yz yb len g0 (l.map .p)=some (r1,r2):=by
           cases gx:h1 id with
           | none=>rw [gx] at qs;exact qs
           | some ob=>rw [gx] at qs;cases ob<;>exact qs
          unfold Aw at qg;split at qg
          · rename_i g1 z1 l1 n1 tE;split at qg
            · split at qg
              · rename_i o' eZ;rw [hyd] at qg;simp only [m4] at qg;simp only [aa,ae] at qg;cases gx:h1 id with
                | none=>rw [gx] at tE;simp [ew] at tE
                | some ob =>
                  rw [gx] at tE eZ;exact ⟨ob,o',rfl,⟨g1,z1,l1,n1,tE⟩,eZ,_,qg.2.symm⟩
              · cases qg
            · cases qg
          · cases qg
        · cases qs
   obtain ⟨w,rfl⟩:=ES;have wM:lK s h1 x=(x.dst.toList++jw h1 (jw h1 [id])).map mE:=by
    unfold lK;rw [Sw];simp only [tW];rw [B6];simp only [fC,aG,cr,mD,NF,kf,bF]
   have Jo:∀ q∈jw h1 (jw h1 [id]),mE q≠mE d:=by
    intro q hq e;apply hd;rw [← e];apply hF;rw [wM];exact bh.2 ⟨q,by simp [hq],rfl⟩
   have ET:∀ {hh:cq} {ll:List Nat} {q:Nat},q∈ll→q∈jw hh ll:=fun hq=>EP hq
   have Sz:id∈jw h1 [id]:=ET (by simp)
   have Jp:d≠id:=fun e=>Jo id (ET Sz) (by rw [e])
   have hO:∃ ca ct,ob=.cell ca ct:=by
    simp only [tV,look,Sy] at hv;cases ob with
    | cell ca ct=>exact ⟨ca,ct,rfl⟩
    | _=>simp at hv
   obtain ⟨ca,ct,rfl⟩:=hO;obtain ⟨g1,z1,l1,n1,dM⟩:=dM;obtain ⟨p1,p2⟩:=C80 dM eZ gU;have SA:cD (cD h1 id (some o')) d (some w) id=some o':=by rw [nU _ _ (dB Jp),nN]
   have zq:oE K ga x (eW s y.dst u) (cD (cD h1 id (some o')) d (some w))=some (eW (eW s y.dst u) x.dst v,cD (cD h1 id (some o')) d (some w)):=by
    have SB:cQ (eW s y.dst u) xo=.ptr id none [i] g o:=by
     rw [← NF];exact Jk sX xo (by rw [B6];simp [fC])
    have vA:tV (cD (cD h1 id (some o')) d (some w)) xa xn (.ptr id none [i] g o)=some v:=by
     rw [← hv];simp only [tV,Sy,SA,p1]
    rw [ld,SB,vA]
   refine ⟨eW s y.dst u,_,h3,?_,?_,?_,?_,?_⟩
   · rw [zq];rw [(ZE a2).symm]
   · exact (NA sY)
   · intro q hq;have SC:lK (eW s y.dst u) (cD (cD h1 id (some o')) d (some w)) x=(x.dst.toList++jw (cD (cD h1 id (some o')) d (some w)) (jw (cD (cD h1 id (some o')) d (some w)) [id])).map mE:=by
      rw [NA sX];unfold lK;rw [Sw];simp only [tW];rw [B6];simp only [fC,aG,cr,mD,NF,kf,bF]
     rw [SC] at hq;rw [wM];obtain ⟨r,hr,rfl⟩:=bh.1 hq;refine bh.2 ⟨r,?_,rfl⟩;rcases ay.1 hr with hr | hr
     · exact ay.2 (.inl hr)
     · refine ay.2 (.inr ?_);have step:∀ (l1 l2:List Nat),(∀ q∈l1,q∈l2∧q≠d)→∀ q∈jw (cD (cD h1 id (some o')) d (some w)) l1,q∈jw h1 l2:=by
        intro l1 l2 hl q hq;rcases Sv.1 hq with hq | ⟨p,hp,hq⟩
        · exact Sv.2 (.inl (hl q hq).1)
        · refine Sv.2 (.inr ⟨p,(hl p hp).1,?_⟩);rw [nU _ _ (hl p hp).2] at hq;by_cases e:p=id
          · subst e;rw [nN] at hq;rw [Sy];exact p2 q hq
          · rw [nU _ _ e] at hq;exact hq
       have s1:=step [id] [id] (fun q hq=>by
        simp only [aW] at hq;subst hq;exact ⟨by simp,dB Jp⟩)
       refine step _ _ (fun q hq=>⟨s1 q hq,fun e=>?_⟩) r hr
       exact Jo q (ET (s1 q hq)) (by rw [e])
   · rw [← ux];exact (NC sY)
   · rw [← qY];exact NC sX
 · cases Jn
inductive oQ (K:jE) (g0:Nat) (is:List Ins) (F:Nat→List Nat×Option rL):List Nat→gI→cq→gI→cq→Prop where
 | nil (s:gI) (h:cq):oQ K g0 is F [] s h s h
 | cons {i:Nat} {ins:Ins} {r:List Nat} {s:gI} {h:cq} {s1:gI} {h1:cq} {s2:gI} {h2:cq} (hi:is[i]?=some ins) (hf:idle ins.op=true∨((∀ z∈lK s h ins,z∈(F i).1)∧wo s ins=(F i).2))
    (hst:oE K (g0+i) ins s h=some (s1,h1)) (hr:oQ K g0 is F r s1 h1 s2 h2):oQ K g0 is F (i::r) s h s2 h2
def NG (is:List Ins) (F:Nat→List Nat×Option rL) (a b:Nat):Prop :=
 ∀ x y,is[a]?=some x→is[b]?=some y→Gc x y=true∧(idle x.op=true∨idle y.op=true∨(tY x.op=true∧tY y.op=true)∨(∀ z∈(F a).1,z∉(F b).1)∨CM (F a).1 (F a).2 (F b).2=true)
theorem oQ.swap {K:jE} {g0:Nat} {is:List Ins} {F:Nat→List Nat×Option rL} {a b:Nat} {r:List Nat} {s:gI} {h:cq} {s':gI} {h':cq} (hr:oQ K g0 is F (a::b::r) s h s' h') (hi:NG is F a b):oQ K g0 is F (b::a::r) s h s' h':=by
 cases hr with
 | cons hx wM Jq hr =>
   rename_i x s1 h1;cases hr with
   | cons hy Dd ZI hr =>
     rename_i y s2 h2;obtain ⟨yf,hc⟩:=hi x y hx hy;obtain ⟨a1,a2,a3⟩:=Sr yf;have main:(idle x.op=true∨idle y.op=true∨(tY x.op=true∧tY y.op=true)∨∀ z∈lK s h x,z∉lK s1 h1 y)→oQ K g0 is F (b::a::r) s h s' h':=by
      intro vD;obtain ⟨s3,h3,k1,k2,k3,k4⟩:=C8Z Jq ZI yf vD;obtain ⟨vx,e1,_⟩:=Jl Jq;obtain ⟨vy,e3,_⟩:=Jl k1;refine .cons hy ?_ k1 (.cons hx ?_ k2 hr)
      · rcases k3 with k3 | k3
        · exact .inl k3
        · refine Dd.imp id fun q=>⟨by rw [k3];exact q.1,?_⟩
          rw [← q.2,e1];exact (NC (gK.eW a1 vx)).symm
      · rcases k4 with k4 | k4
        · exact .inl k4
        · refine wM.imp id fun q=>⟨by rw [k4];exact q.1,?_⟩
          rw [← q.2,e3];exact NC (gK.eW a3 vy)
     rcases hc with hc | hc | hc | hc | hc
     · exact main (.inl hc)
     · exact main (.inr (.inl hc))
     · exact main (.inr (.inr (.inl hc)))
     · rcases wM with e | wM
       · exact main (.inl e)
       · rcases Dd with e | Dd
         · exact main (.inr (.inl e))
         · exact main (.inr (.inr (.inr fun z hz AG=>hc z (wM.1 z hz) (Dd.1 z AG))))
     · rcases wM with e | wM
       · exact main (.inl e)
       · rcases Dd with e | Dd
         · exact main (.inr (.inl e))
         · obtain ⟨s3,h3,k1,k2,k3,k4,k5,k6⟩:=D2P Jq ZI yf wM.2 Dd.2 hc wM.1;exact .cons hy (.inr ⟨by rw [k3];exact Dd.1,k5⟩) k1 (.cons hx (.inr ⟨fun z hz=>wM.1 z (k4 z hz),k6⟩) k2 hr)
theorem oQ.front {K:jE} {g0:Nat} {is:List Ins} {F:Nat→List Nat×Option rL} {i:Nat} {post:List Nat}:∀ {pre:List Nat} {s:gI} {h:cq} {s':gI} {h':cq},oQ K g0 is F (pre++i::post) s h s' h'→(∀ j∈pre,NG is F j i)→oQ K g0 is F (i::pre++post) s h s' h'
 | [],s,h,s',h',hr,_=>hr
 | p::pre,s,h,s',h',hr,hp=>by
   cases hr with
   | cons hx wM Jq hr =>
     have h2:=oQ.front hr (fun j hj=>hp j (by simp [hj]))
     exact oQ.swap (.cons hx wM Jq h2) (hp p (by simp))
end Go.Mid
namespace Go.Mid
open Go.RowKit
section
variable {P:Program} {r6:r6} {nt:Nat}
theorem NH {ops:Array Oper}:∀ {l:List Oper} {is:List Ins},CQ P r6 nt ops l=some is→is.length=l.length∧∀ (i:Nat) (o:Oper),l[i]?=some o→∃ ins,is[i]?=some ins∧xh P r6 nt ops o=some ins
 | [],is,h=>by simp only [CQ,aa] at h;subst h;exact ⟨rfl,fun i o ho=>by simp at ho⟩
 | x::r,is,h=>by
   simp only [CQ] at h;split at h
   · rename_i y ys h1 h2;cases h;obtain ⟨h3,h4⟩:=NH h2;refine ⟨by simp [h3],fun i o ho=>?_⟩
     cases i with
     | zero=>simp at ho;subst ho;exact ⟨y,rfl,h1⟩
     | succ i=>simpa using h4 i o (by simpa using ho)
   · cases h
variable {ops:Array Oper} {is:List Ins} {K:jE} {Q:Exit→Act→World→Prop}
theorem ZJ {o:Oper} {ins:Ins} {i:Nat} {a:Act} {w:World} {A:Nat→Prop} {E:dW An} {S:dv} {γ:Nat} {s s1:gI} {h h1:cq} (hK:A0 P K) (ho:ops[i]?=some o) (nV:xh P r6 nt ops o=some ins) (yi:nt≤a.tmps.size)
 (hs:qf P w A E S s a) (hm:MR w A E h S) (hγ:¬ S γ) (he:oE K γ ins s h=some (s1,h1)) {next:Act→World→Prop}
 (hn:∀ a' w' A' E',qf P w' A' E' (S.add γ) s1 a'→MR w' A' E' h1 (S.add γ)→gJ w A E S w' A' E'→a'.defers=a.defers→a'.tmps.size=a.tmps.size→next a' w'):wpOp P ops Q i next a w:=by
 unfold xh at nV;split at nV
 · rename_i EU;have hd:∀ d,o.dst=some d→d<nt:=by
    intro d hd;unfold XB at EU;rw [hd] at EU;simpa using EU
   split at nV
   · rename_i g hg;simp only [aa] at nV;subst nV;have De:∀ {w':World} {A':Nat→Prop} {E':dW An} {v:MV} {val:Value},MR w' A' E' h1 (S.add γ)→gJ w A E S w' A' E'→bT w' A' E' (S.add γ) v val→s1=eW s o.dst v→qf P w' A' E' (S.add γ) s1 (a.put o.dst val):=by
      intro w' A' E' v val vI rN hv e;refine ⟨fun k=>?_,hs.gl.frame rN.sub (fun b hb=>rN.ub hm b hb)⟩
      subst e;have old:bT w' A' E' (S.add γ) (s k) (a.tmps.getD k undef):=(hs.sl k).go hm rN (S.eP γ);cases hod:o.dst with
      | none=>exact old
      | some d =>
        simp only [eW,cD,Act.put];by_cases SD:k=d
        · subst SD;have eE:k<a.tmps.size:=Nat.lt_of_lt_of_le (hd k hod) yi;simp only [if_true]
          have:(a.tmps.setIfInBounds k val).getD k undef=val:=by simp [eE]
          rw [this];exact hv
        · rw [if_neg SD]
          have:(a.tmps.setIfInBounds d val).getD k undef=a.tmps.getD k undef:=by simp [dY (dB SD)]
          rw [this];exact old
     have pS:∀ val,(a.put o.dst val).defers=a.defers∧(a.put o.dst val).tmps.size=a.tmps.size:=by
      intro val;cases o.dst<;>simp [Act.put]
     have hw:∀ b,tW s g=some b→Region.wanted o (yielded ops a.tmps)=b:=by
      intro b hb;unfold XA at hg;unfold Region.wanted;split at hg
      · rename_i SE;cases hg;simp only [tW,aa] at hb;rw [SE];exact hb
      · rename_i j wb SE;split at hg
        · rename_i t ht;cases hg;rw [SE];simp only [tW] at hb;have Gq:(ops[j]?).bind (·.dst)=some t:=ht;have hst:=hs.sl t;split at hb
          · rename_i c hc;simp only [aa] at hb;rw [hc] at hst;have cL:=uc.1 hst
            have:a.tmps[t]?=some (.bool c):=by
             cases hq:a.tmps[t]? with
             | none=>simp [hq] at cL;exact absurd cL (by simp [undef])
             | some q=>simp [hq] at cL;rw [cL]
            simp only [yielded,Gq,ah,this];rw [← hb];cases c<;>cases wb<;>rfl
          · rename_i hc;simp only [aa] at hb;rw [hc] at hst;simp only [bT] at hst;obtain ⟨vs,cL,fY⟩:=hst;simp only [di] at fY;subst fY
            have:yielded ops a.tmps j=none:=by
             simp only [yielded,Gq,ah];cases hq:a.tmps[t]? with
             | none=>rfl
             | some q=>simp [hq] at cL;rw [cL]
            simp only [this];rw [← hb];rfl
          · cases hb
        · cases hg
     unfold wpOp;simp only [ho];unfold oE at he;simp only at he;split at he
     · rename_i u7;rw [hw true u7];simp only [if_true];split at he
       · rename_i v h' hv;simp only [aa,ae] at he;obtain ⟨e1,rfl⟩:=he;refine .inl ?_;cases fj:pJ P (XC r6 o) (My r6.mt o) (My r6.pz o) o.type o.op with
         | none =>
           rw [fj] at hv;simp [cf] at hv
         | some m' =>
           rw [fj] at hv;simp only [bG] at hv;refine D4f hs hm hγ hK fj hv next Q ?_
           intro val w' A' E' q1 q2 q3;exact hn _ w' A' E' (De q2 q3 q1 e1.symm) q2 q3 (pS val).1 (pS val).2
       · cases he
     · rename_i hwf;rw [hw false hwf];simp only [aF,if_false];simp only [aa,ae] at he;obtain ⟨e1,rfl⟩:=he;have hv:bT w A E (S.add γ) (.eO []) undef:=by simp only [bT];exact ⟨[],rfl,by simp only [di]⟩
       have q2:=hm.mono (S.eP γ);exact hn _ w A E (De q2 (gJ.refl w A E S) hv e1.symm) q2 (gJ.refl w A E S) (pS undef).1 (pS undef).2
     · cases he
   · cases nV
 · cases nV
def oG (P:Program) (K:jE) (a:Act) (w:World) (A:Nat→Prop) (E:dW An) (S:dv) (g0 n:Nat) (s':gI) (h':cq) (Q:Exit→Act→World→Prop):Prop :=
 ∀ a' w' A' E' S',S.le S'→(∀ g,S' g→S g∨∃ i,i<n∧g=g0+i)→qf P w' A' E' S' s' a'→MR w' A' E' h' S'→gJ w A E S w' A' E'→a'.defers=a.defers→a'.tmps.size=a.tmps.size→Q .normal a' w'
theorem oG.step {a a1:Act} {w w1:World} {A A1:Nat→Prop} {E E1:dW An} {S:dv} {g0 n i:Nat} {s':gI} {h':cq} (hp:oG P K a w A E S g0 n s' h' Q) (hi:i<n) (hg:gJ w A E S w1 A1 E1) (hd:a1.defers=a.defers) (hsz:a1.tmps.size=a.tmps.size) :
 oG P K a1 w1 A1 E1 (S.add (g0+i)) g0 n s' h' Q:=by
 intro a' w' A' E' S' h1 h2 h3 h4 h5 h6 h7;refine hp a' w' A' E' S' (dv.le_trans (S.eP _) h1) (fun g rN=>?_) h3 h4 (hg.trans h5 (S.eP _)) (h6.trans hd) (h7.trans hsz)
 rcases h2 g rN with h | h
 · rcases h with h | rfl
   · exact .inl h
   · exact .inr ⟨i,hi,rfl⟩
 · exact .inr h
section
variable (hK:A0 P K) (nV:CQ P r6 nt ops ops.toList=some is)
include hK nV
theorem ZK {g0:Nat} {F:Nat→List Nat×Option rL}:∀ {π:List Nat} {a:Act} {w:World} {A:Nat→Prop} {E:dW An} {S:dv} {s s':gI} {h h':cq},oQ K g0 is F π s h s' h'→π.Nodup→(∀ i∈π,i<ops.size∧¬ S (g0+i))→nt≤a.tmps.size→qf P w A E S s a→MR w A E h S →
 oG P K a w A E S g0 ops.size s' h' Q→wpOps P ops Q π a w
 | [],a,w,A,E,S,s,s',h,h',hr,_,_,_,hs,hm,hp=>by
   cases hr;exact hp a w A E S (S.le_refl) (fun g hg=>.inl hg) hs hm (gJ.refl w A E S) rfl rfl
 | i::r,a,w,A,E,S,s,s',h,h',hr,hn,hS,yi,hs,hm,hp=>by
   cases hr with
   | cons hi hf hst hr =>
     rename_i ins s1 h1;obtain ⟨h2,h3⟩:=hS i (by simp)
     obtain ⟨o,ho⟩:∃ o,ops[i]?=some o:=⟨ops[i],by simp [h2]⟩
     obtain ⟨SF,dP,hc⟩:=(NH nV).2 i o (by simpa using ho)
     rw [hi] at dP;cases dP;rw [wpOps_cons];refine ZJ hK ho hc yi hs hm h3 hst ?_;intro a1 w1 A1 E1 q1 q2 q3 q4 q5;have qT:=b5.1 hn;refine ZK hr qT.2 (fun j hj=>⟨(hS j (by simp [hj])).1,fun hc=>?_⟩) (by omega) q1 q2 (hp.step h2 q3 q4 q5)
     rcases hc with hc | hc
     · exact (hS j (by simp [hj])).2 hc
     · have:j=i:=by omega
       exact qT.1 (this ▸ hj)
end
end
end Go.Mid
namespace Go.Mid
open Go.RowKit
section
variable {ops:Array Oper}
theorem D2Q {acc:Array Nat} {k:Nat} (l:List Edge):∀ (s:Nat),(l.foldl (fun s e=>if eF .any e then s ||| 2 ^ e.on ||| acc.getD e.on 0 else s) s).testBit k=true →
 s.testBit k=true∨∃ e∈l,eF .any e=true∧(k=e.on∨(acc.getD e.on 0).testBit k=true):=by
 induction l with
 | nil=>intro s h;exact .inl h
 | cons e r ih =>
   intro s h;simp only [List.foldl_cons] at h;rcases ih _ h with h | ⟨e',he',hb,hk⟩
   · split at h
     · rename_i hb;simp only [Nat.testBit_or,cG,Nat.testBit_two_pow,decide_eq_true_eq] at h;rcases h with (h | h) | h
       · exact .inl h
       · exact .inr ⟨e,by simp,hb,.inl h.symm⟩
       · exact .inr ⟨e,by simp,hb,.inr h⟩
     · exact .inl h
   · exact .inr ⟨e',by simp [he'],hb,hk⟩
theorem C7b:∀ j k,((gM ops).getD j 0).testBit k=true→∃ o,ops[j]?=some o∧∃ e∈o.after,eF .any e=true∧(k=e.on∨(e.on<j∧((gM ops).getD e.on 0).testBit k=true)):=by
 have key:=Array.foldl_induction (as:=ops) (motive:=fun n (acc:Array Nat)=>acc.size=n∧∀ j k,(acc.getD j 0).testBit k=true→∃ o,ops[j]?=some o∧∃ e∈o.after,eF .any e=true∧(k=e.on∨(e.on<j∧(acc.getD e.on 0).testBit k=true))) (init:=#[])
  (f:=fun acc o=>acc.push (o.after.foldl (fun s e=>if eF .any e then s ||| 2 ^ e.on ||| acc.getD e.on 0 else s) 0)) ⟨rfl,fun j k h=>by simp at h⟩ (by
  intro i acc ⟨h1,h2⟩;refine ⟨by simp [h1],fun j k h=>?_⟩
  have old:∀ m,m<acc.size→∀ v,(acc.push v).getD m 0=acc.getD m 0:=by
   intro m hm v;simp [Array.getElem?_push,p9 hm]
  by_cases hj:j<acc.size
  · rw [old j hj] at h;obtain ⟨o,ho,e,he,hb,hk⟩:=h2 j k h;refine ⟨o,ho,e,he,hb,hk.imp (fun h=>h) (fun hk=>⟨hk.1,?_⟩)⟩
    rw [old e.on (by omega)];exact hk.2
  · by_cases ZL:j=acc.size
    · subst ZL;have e0:(acc.push (ops[i].after.foldl (fun s e=>if eF .any e then s ||| 2 ^ e.on ||| acc.getD e.on 0 else s) 0)).getD acc.size 0=ops[i].after.foldl (fun s e=>if eF .any e then s ||| 2 ^ e.on ||| acc.getD e.on 0 else s) 0:=by simp
      rw [e0,← Array.foldl_toList] at h;have r8:ops[acc.size]?=some ops[i]:=by rw [h1];simp
      rcases D2Q _ _ h with h | ⟨e,he,hb,hk⟩
      · simp at h
      · refine ⟨_,r8,e,by simpa using he,hb,hk.imp (fun h=>h) (fun hk=>?_)⟩
        have eE:e.on<acc.size:=by
         by_cases hh:e.on<acc.size
         · exact hh
         · simp [iC (kZ hh)] at hk
        exact ⟨eE,by rw [old e.on eE];exact hk⟩
    · simp [Array.getElem?_push,ZL,iC (kZ hj)] at h)
 exact key.2
theorem C2f {listed:Array Bool} (hc:∀ (j:Nat) (o:Oper),listed.getD j false=true→ops[j]?=some o→∀ e∈o.after,eF .any e=true→listed.getD e.on false=true) :
 ∀ j,(∀ o,ops[j]?=some o→∀ e∈o.after,eF .any e=true→listed.getD e.on false=true)→∀ k,((gM ops).getD j 0).testBit k=true→listed.getD k false=true:=by
 intro j
 induction j using lQ with
 | _ j ih =>
   intro hj k hk;obtain ⟨o,ho,e,he,hb,nY⟩:=C7b j k hk;have hl:=hj o ho e he hb;rcases nY with rfl | ⟨eE,hk⟩
   · exact hl
   · exact ih e.on eE (fun o' oP=>hc e.on o' hl oP) k hk
end
section
variable {P:Program} {r6:r6} {nt:Nat} {ops:Array Oper} {is:List Ins} {K:jE} {Q:Exit→Act→World→Prop}
def rr (n:Nat) (listed:Array Bool):List Nat:=(bp n).filter fun i=>!listed.getD i true
theorem EV {n i:Nat} {listed:Array Bool}:i∈rr n listed↔i<n∧listed.getD i true=false:=by
 simp only [rr,cA,bX,db]
theorem SG {n:Nat} {listed:Array Bool}:(rr n listed).Pairwise (· < ·):=List.Pairwise.filter _ List.pairwise_lt_range
theorem C7c {n i:Nat} {listed:Array Bool} (hsz:listed.size=n) (hi:i∈rr n listed):∃ pre post,rr n listed=pre++i::post∧rr n (listed.setIfInBounds i true)=pre++post∧∀ j∈pre,j<i:=by
 obtain ⟨pre,post,e⟩:=List.append_of_mem hi;have hp:=SG (n:=n) (listed:=listed);rw [e] at hp;have iM:=List.pairwise_append.1 hp;have zr:=bM.1 iM.2.1;refine ⟨pre,post,e,?_,fun j hj=>iM.2.2 j hj i (by simp)⟩
 have e2:rr n (listed.setIfInBounds i true)=(rr n listed).filter (fun k=>decide (k≠i)):=by
  unfold rr;rw [List.filter_filter];refine List.filter_congr fun k hk=>?_
  by_cases BL:k=i
  · subst BL;have eE:k<listed.size:=by rw [hsz];exact (EV.1 hi).1
    simp [eE]
  · simp [BL,dY (dB BL)]
 rw [e2,e,List.filter_append,List.filter_cons];have h1:pre.filter (fun k=>decide (k≠i))=pre:=jO.2 fun k hk=>by have:=iM.2.2 k hk i (by simp);simp;omega
 have h2:post.filter (fun k=>decide (k≠i))=post:=jO.2 fun k hk=>by have:=zr.1 k hk;simp;omega
 rw [h1,h2];simp
theorem D4g (hK:A0 P K) (nV:CQ P r6 nt ops ops.toList=some is) {g0:Nat} {F:Nat→List Nat×Option rL}
 (zu:∀ (j:Nat) (o:Oper),ops[j]?=some o→∀ e∈o.after,eF .any e=true→e.on<j)
 (zw:∀ i j,i<j→j<ops.size→((gM ops).getD j 0).testBit i=false→NG is F i j) :
 ∀ (fuel:Nat) (listed:Array Bool) (a:Act) (w:World) (A:Nat→Prop) (E:dW An) (S:dv) (s s':gI) (h h':cq),listed.size=ops.size→(rr ops.size listed).length=fuel →
  (∀ (j:Nat) (o:Oper),listed.getD j false=true→ops[j]?=some o→∀ e∈o.after,eF .any e=true→listed.getD e.on false=true) →
  oQ K g0 is F (rr ops.size listed) s h s' h'→(∀ i∈rr ops.size listed,¬ S (g0+i))→nt≤a.tmps.size→qf P w A E S s a→MR w A E h S→oG P K a w A E S g0 ops.size s' h' Q →
  wpAny P .any ops Q fuel listed a w:=by
 intro fuel
 induction fuel with
 | zero =>
   intro listed a w A E S s s' h h' hsz hlen nP hr hS yi hs hm hp;have zx:rr ops.size listed=[]:=List.eq_nil_of_length_eq_zero hlen;rw [zx] at hr;cases hr;refine ⟨?_,hp a w A E S S.le_refl (fun g hg=>.inl hg) hs hm (gJ.refl w A E S) rfl rfl⟩
   cases ER:qa .any ops listed with
   | nil=>rfl
   | cons i r =>
     exfalso;have hi:i∈qa .any ops listed:=by rw [ER];simp
     obtain ⟨h0,o,ho,_⟩:=mem_ready.1 hi;have eE:i<ops.size:=(dg.1 ho).1
     have:i∈rr ops.size listed:=EV.2 ⟨eE,h0⟩
     rw [zx] at this;cases this
 | succ fuel ih =>
   intro listed a w A E S s s' h h' hsz hlen nP hr hS yi hs hm hp;refine ⟨fun ER=>?_,fun i hi=>?_⟩
   · exfalso;cases xu:rr ops.size listed with
     | nil=>rw [xu] at hlen;simp at hlen
     | cons j r =>
       have hj:j∈rr ops.size listed:=by rw [xu];simp
       obtain ⟨eE,h0⟩:=EV.1 hj;have ZM:j∈qa .any ops listed:=by
        refine mem_ready.2 ⟨h0,ops[j],by simp [eE],fun e he hb=>?_⟩
        have Jr:=zu j ops[j] (by simp [eE]) e he hb
        have ev:e.on∉rr ops.size listed:=by
         intro wN;have zr:=SG (n:=ops.size) (listed:=listed);rw [xu] at zr wN;rcases aM.1 wN with h3 | h3
         · omega
         · have:=(bM.1 zr).1 _ h3;omega
        have SH:e.on<ops.size:=by omega
        have:¬ (listed.getD e.on true=false):=fun h=>ev (EV.2 ⟨SH,h⟩)
        have Gu:e.on<listed.size:=by omega
        simp [Gu] at this ⊢;exact this
       rw [ER] at ZM;cases ZM
   · obtain ⟨h0,o,ho,ko⟩:=mem_ready.1 hi;have eE:i<ops.size:=(dg.1 ho).1;have Ni:i∈rr ops.size listed:=EV.2 ⟨eE,h0⟩;obtain ⟨pre,post,e1,e2,po⟩:=C7c hsz Ni;rw [e1] at hr;have EW:=hr.front (fun j hj=>by
      refine zw j i (po j hj) eE ?_;cases hb:((gM ops).getD i 0).testBit j with
      | false=>rfl
      | true =>
        exfalso;have hl:=C2f nP i (fun o' oP=>by rw [ho] at oP;cases oP;exact ko) j hb
        have EX:j∈rr ops.size listed:=by rw [e1];simp [hj]
        have:=(EV.1 EX).2
        have AV:j<listed.size:=by rw [hsz];exact (EV.1 EX).1
        simp [AV] at hl this;rw [hl] at this;cases this)
     cases EW with
     | cons dP hf hst hr' =>
       rename_i ins s1 h1;obtain ⟨SF,oR,hc⟩:=(NH nV).2 i o (by simpa using ho)
       rw [dP] at oR;cases oR;refine ZJ hK ho hc yi hs hm (hS i Ni) hst ?_;intro a1 w1 A1 E1 q1 q2 q3 q4 q5;have iq:(rr ops.size listed).Nodup:=List.Pairwise.imp (fun h=>p9 h) SG
       have hni:i∉pre++post:=by
        rw [e1] at iq
        have:=List.nodup_append.1 iq
        intro wN;rcases ay.1 wN with wN | wN
        · exact this.2.2 i wN i (by simp) rfl
        · exact (b5.1 this.2.1).1 wN
       refine ih (listed.setIfInBounds i true) a1 w1 A1 E1 (S.add (g0+i)) s1 s' h1 h' (by simp [hsz]) ?_ ?_ (by rw [e2];exact hr') ?_ (by omega) q1 q2 (hp.step eE q3 q4 q5)
       · rw [e2];rw [e1] at hlen;simp only [List.length_append,ba] at hlen ⊢;omega
       · intro j oj hj BK e he hb;by_cases vJ:j=i
         · subst vJ;rw [ho] at BK;cases BK;exact getD_set_true (ko e he hb)
         · rw [getD_set_ne false (dB vJ)] at hj;exact getD_set_true (nP j oj hj BK e he hb)
       · rw [e2];intro j hj oW;have EX:j∈rr ops.size listed:=by
          rw [e1];rcases ay.1 hj with hj | hj<;>simp [hj]
         rcases oW with oW | oW
         · exact hS j EX oW
         · have:j=i:=by omega
           exact hni (this ▸ hj)
theorem ZN {g0:Nat} {F:Nat→List Nat×Option rL}:∀ (l:List Ins) (m:Nat) (s s':gI) (h h':cq),is.drop m=l→tX K (g0+m) l s h=some (s',h')→(∀ (k:Nat) (x:List Nat×Bool×Option rL),(ua K (g0+m) l s h)[k]?=some x→F (m+k)=(x.1,x.2.2)) →
 oQ K g0 is F (mJ m l.length) s h s' h'
 | [],m,s,s',h,h',_,hst,_=>by
   simp only [tX,aa,ae] at hst;obtain ⟨rfl,rfl⟩:=hst;exact .nil s h
 | ins::r,m,s,s',h,h',hd,hst,hF=>by
   simp only [tX] at hst;split at hst
   · rename_i s1 h1 he;have SI:is[m]?=some ins:=by
      have:=congrArg (·[0]?) hd
      simpa using this
     have MO:is.drop (m+1)=r:=by
      rw [← List.drop_drop,hd];rfl
     rw [ba,List.range'_succ];refine .cons SI (.inr ?_) he (ZN r (m+1) s1 s' h1 h' MO hst ?_)
     · have:=hF 0 (lK s h ins,idle ins.op || tY ins.op,wo s ins) (by simp only [ua,bQ])
       rw [du] at this;rw [this];exact ⟨fun z hz=>hz,rfl⟩
     · intro k x hx
       have:=hF (k+1) x (by simp only [ua,bL,he];exact hx)
       rw [← this];congr 1;omega
   · cases hst
theorem SJ {g:Nat}:∀ (l:List Ins) (s:gI) (h:cq) (k:Nat) (x:List Nat×Bool×Option rL) (ins:Ins),(ua K g l s h)[k]?=some x→l[k]?=some ins→x.2.1=(idle ins.op || tY ins.op)
 | [],s,h,k,x,ins,hx,_=>by simp [ua] at hx
 | i::r,s,h,0,x,ins,hx,hi=>by
   simp only [ua,bQ,aa] at hx hi;subst hx hi;rfl
 | i::r,s,h,k+1,x,ins,hx,hi=>by
   simp only [ua,bL] at hx hi;split at hx
   · exact SJ r _ _ k x ins hx hi
   · simp at hx
theorem D4h (hK:A0 P K) (vK:P.follows .mixedOrders=true) (nV:CQ P r6 nt ops ops.toList=some is) {id:Nat} {draw:Bool} (kN:(!draw || Mz ops is)=true) {σ σ':St} (hr:r0 K (if draw then Bx ops is else []) is σ=some σ')
 {a:Act} {w:World} {A:Nat→Prop} {E:dW An} (yi:nt≤a.tmps.size) (hs:qf P w A E (· < σ.nx) σ.s a) (hm:MR w A E σ.h (· < σ.nx))
 (hn:∀ a' w' A' E',qf P w' A' E' (· < σ'.nx) σ'.s a'→MR w' A' E' σ'.h (· < σ'.nx)→gJ w A E (· < σ.nx) w' A' E'→a'.defers=a.defers→a'.tmps.size=a.tmps.size→Q .normal a' w') (SK:σ'.nx=σ.nx+ops.size→True):(Code.region id ops draw).wp P Q a w:=by
 generalize BR:(if draw then Bx ops is else [])=loose at hr
 unfold r0 at hr;split at hr
 · rename_i s1 h1 hst;split at hr
   · rename_i zy;simp only [aa] at hr;subst hr;have hlen:is.length=ops.size:=by rw [(NH nV).1];simp
     let F:Nat→List Nat×Option rL:=fun i=>match (ua K σ.nx is σ.s σ.h)[i]? with | some (x,_,p)=>(x,p) | none=>([],none)
     have zB:oQ K σ.nx is F (mJ 0 is.length) σ.s σ.h s1 h1:=by
      refine ZN is 0 σ.s s1 σ.h h1 rfl hst ?_;intro k x hx;rw [du] at hx;simp only [F,bS,hx]
     rw [hlen,← List.range_eq_range'] at zB;have Df:oG P K a w A E (· < σ.nx) σ.nx ops.size s1 h1 Q:=by
      intro a' w' A' E' S' q1 q2 q3 q4 q5 q6 q7;have hle:dv.le S' (· < σ.nx+is.length):=by
       intro g hg;rw [hlen];rcases q2 g hg with h | ⟨i,hi,rfl⟩
       · have:g<σ.nx:=h
         show g<σ.nx+ops.size;omega
       · show σ.nx+i<σ.nx+ops.size;omega
      exact hn a' w' A' E' ⟨fun k=>(q3.sl k).frame (Fr.same w' A' E' hle),q3.gl⟩ (q4.mono hle) q5 q6 q7
     cases draw with
     | false =>
       refine wp_region (ZK hK nV zB List.nodup_range (fun i hi=>⟨bX.1 hi,?_⟩) yi hs hm Df)
       show ¬ (σ.nx+i<σ.nx);omega
     | true =>
       have B7:Mz ops is=true:=by simpa using kN
       simp only [if_true] at BR;subst BR;unfold Mz at B7;simp only [bj,bX,ak] at B7;refine wp_region_any vK ?_;have zu:∀ (j:Nat) (o:Oper),ops[j]?=some o→∀ e∈o.after,eF .any e=true→e.on<j:=by
        intro j o ho e he hb;have hj:j<is.length:=by rw [hlen];exact (dg.1 ho).1
        have:=(B7 j hj).1
        rw [ho] at this;simp only [bj] at this
        have:=this e (by simpa using he)
        simpa [hb] using this
       have zw:∀ i j,i<j→j<ops.size→((gM ops).getD j 0).testBit i=false→NG is F i j:=by
        intro i j gU hj hb x y hx hy;have yf:=(B7 j (by omega)).2 i (by simpa using gU)
        rw [hb,hx,hy] at yf;refine ⟨by simpa using yf,?_⟩
        by_cases oH:(idle x.op || idle y.op || (tY x.op&&tY y.op))=true
        · simp only [cG,ak] at oH;rcases oH with (h | h) | h
          · exact .inl h
          · exact .inr (.inl h)
          · exact .inr (.inr (.inl h))
        · have pf:(i,j)∈Bx ops is:=by
           unfold Bx;refine ie.2 ⟨j,by simp;omega,List.mem_filterMap.2 ⟨i,by simpa using gU,?_⟩⟩
           simp only [hx,hy];rw [if_neg];simp only [gq] at oH;rw [hb,oH];simp
          have wq:Gd (ua K σ.nx is σ.s σ.h) (Bx ops is)=true:=by
           simp only [cG] at zy;rcases zy with h | h
           · have:Bx ops is=[]:=by simpa using h
             rw [this] at pf;cases pf
           · exact h
          have:=bj.1 wq (i,j) pf
          simp only at this;split at this
          · rename_i xa rx px ya ry py Js SM;have m1:=SJ is σ.s σ.h i _ x Js hx;have m2:=SJ is σ.s σ.h j _ y SM hy;simp only at m1 m2;rw [m1,m2] at this;simp only [cG,ak] at this oH;rcases this with (⟨h3,h4⟩ | h3) | h3
            · exfalso;apply oH;rcases h3 with h3 | h3
              · exact .inl (.inl h3)
              · rcases h4 with h4 | h4
                · exact .inl (.inr h4)
                · exact .inr ⟨h3,h4⟩
            · refine .inr (.inr (.inr (.inl fun z hz GG=>?_)))
              simp only [F,Js,SM] at hz GG
              have:=bj.1 h3 z hz
              simp at this;exact this GG
            · refine .inr (.inr (.inr (.inr ?_)));simp only [F,Js,SM];exact h3
          · cases this
       have xu:rr ops.size (iR ops.size false)=bp ops.size:=by
        unfold rr;refine jO.2 fun i hi=>?_
        have:i<ops.size:=bX.1 hi
        simp [this]
       have EN:Fr w { w with drawn:=w.drawn+1 } A A E E (· < σ.nx) (· < σ.nx):=⟨fun _ h=>h,fun _ _=>rfl,oV.refl _ _,dv.le_refl _⟩
       have vI:MR { w with drawn:=w.drawn+1 } A E σ.h (· < σ.nx):=⟨hm.er,fun i o ho=>OAt.frame EN (fun _ _=>rfl) (hm.at_ i o ho),hm.lt,hm.nd,hm.dj,hm.im,hm.st⟩
       have BZ:gJ w A E (· < σ.nx) { w with drawn:=w.drawn+1 } A E:=⟨rfl,rfl,rfl,au _,fun _ _ _=>rfl,fun _ h=>h,fun _ _ h=>.inl h,fun _ _ h=>h,oV.refl _ _⟩
       refine D4g hK nV zu zw ops.size _ a _ A E (· < σ.nx) σ.s s1 σ.h h1 (by simp) (by rw [xu];simp) ?_ (by rw [xu];exact zB) ?_ yi ⟨fun k=>(hs.sl k).frame EN,hs.gl.frame (fun _ h=>h) (fun _ _=>rfl)⟩ vI ?_
       · intro j o hj;exfalso;by_cases GM:j<ops.size
         · simp [GM] at hj
         · rw [fV,iC (by simpa using GM)] at hj
           cases hj
       · intro i _;show ¬ (σ.nx+i<σ.nx);omega
       · intro a' w' A' E' S' q1 q2 q3 q4 q5 q6 q7;exact Df a' w' A' E' S' q1 q2 q3 q4 (BZ.trans q5 (dv.le_refl _)) q6 q7
   · cases hr
 · cases hr
end
end Go.Mid
namespace Go.Mid
open Go.RowKit
structure u9 (P:Program) (w:World) (A:Nat→Prop) (E:dW An) (nt:Nat) (σ:St) (a:Act):Prop where
 sl:qf P w A E (· < σ.nx) σ.s a
 mr:MR w A E σ.h (· < σ.nx)
 nx:1≤σ.nx
 df:a.defers=[]
 sz:nt≤a.tmps.size
def ZO:Ex→Exit
 | .normal=>.normal
 | .exit id=>.exit id
 | .ret=>.ret
theorem C3k {P:Program} {c:Code} {Q:Exit→Act→World→Prop} (R:Nat→Act→World→Prop) (round:∀ n a w,R n a w→c.wp P (Exit.then (fun a' w'=>∃ m,m<n∧R m a' w') Q) a w) :
 ∀ n a w,R n a w→(Code.loop c).wp P Q a w:=by
 intro n a w h₀ b k cs;have key:∀ n a w,R n a w→∃ e a' w',Q e a' w'∧Arrives P (lone (b.at a (.code c::.inLoop c::k)) cs w) b k cs e a' w':=by
  intro n
  induction n using lQ with
  | _ n ih =>
    intro a w hR;obtain ⟨e,a₁,w₁,hq,se⟩:=round n a w hR b (.inLoop c::k) cs;cases e with
    | normal =>
      obtain ⟨m,eE,hm⟩:=hq;obtain ⟨e₂,a₂,w₂,hq₂,Jt⟩:=ih m eE a₁ w₁ hm;exact ⟨e₂,a₂,w₂,hq₂,.of_steps (Steps.trans se (.one step_inLoop)) Jt⟩
    | exit id=>exact ⟨_,a₁,w₁,hq,.pass (x:=.inLoop c) rfl (fun _ _=>.inl (by simp)) se⟩
    | goto l=>exact ⟨_,a₁,w₁,hq,.pass (x:=.inLoop c) rfl (fun _ _=>.inl (by simp)) se⟩
    | ret=>exact ⟨_,a₁,w₁,hq,.pass (x:=.inLoop c) rfl (fun _ _=>.inl (by simp)) se⟩
    | panic ch=>exact ⟨_,a₁,w₁,hq,.pass (x:=.inLoop c) rfl (fun _ _=>.inl (by simp)) se⟩
    | outgrown=>exact ⟨_,a₁,w₁,hq,.pass (x:=.inLoop c) rfl (fun _ _=>.inl (by simp)) se⟩
 obtain ⟨e,a',w',hq,se⟩:=key n a w h₀;exact ⟨e,a',w',hq,.of_steps (.one step_loop) se⟩
section
variable {P:Program} {w:World} {A:Nat→Prop} {E:dW An} {nt:Nat} {σ:St} {a:Act}
theorem A4 {n:Nat} (h:1≤n):S0.le (· < n):=by
 intro g hg
 have:g=0:=hg
 show g<n;omega
theorem B8 (g:Nat):jR g<2:=by unfold jR;split<;>omega
theorem SN {g:Nat} (h:jR g=0):g=0:=by
 unfold jR at h;split at h
 · assumption
 · omega
theorem gJ.weaken {w':World} {A':Nat→Prop} {E':dW An} {S S':dv} (g:gJ w A E S' w' A' E') (h:S.le S'):gJ w A E S w' A' E' :=
 ⟨g.os,g.tape,g.output,g.size,g.bn,g.sub,g.AD,g.own,fun id np an z hn hg=>g.ns id np an z hn (h _ hg)⟩
theorem NI (k:u9 P w A E nt σ a) (ks ids:List Nat):∃ E',u9 P w A E' nt (rJ ks ids σ) a∧gJ w A E S0 w A E':=by
 let bk:Nat→Option Nat:=fun j=>if wg ids j then some j else none
 have hρ:∀ i j,tx ids i=some j→bk j=some i:=by
  intro i j h;unfold tx at h;split at h
  · rename_i hk;cases h;simp only [bk,hk,if_true]
  · cases h
 have s0:∀ i j j',bk j=some i→bk j'=some i→j=j':=by
  intro i j j' h h';simp only [bk] at h h';split at h<;>split at h'<;>simp_all
 have hm:=k.mr.clean (nx':=(· < 2)) (ζ:=jR) (ζn:=fun _=>jR) hρ s0 (fun g _=>B8 g) (fun _ g _=>B8 g)
 have hh:zi σ.h (tx ids) jR (fun _=>jR) bk=(rJ ks ids σ).h:=by
  funext j;simp only [zi,rJ,bk];split<;>rfl
 rw [hh] at hm;refine ⟨sa E σ.h (tx ids) jR (fun _=>jR) bk,⟨⟨?_,k.sl.gl⟩,hm,by simp [rJ],k.df,k.sz⟩,?_⟩
 · intro i;simp only [rJ];split
   · exact bT.clean (nx':=(· < 2)) k.mr hρ (fun g _=>B8 g) (k.sl.sl i)
   · simp only [bT]
 · refine ⟨rfl,rfl,rfl,au _,fun _ _ _=>rfl,fun _ h=>h,fun _ _ h=>.inl h,fun b _ h=>Nr h,?_⟩
   intro id np an z hn hg;have ye:an.g=0:=hg;by_cases hb:wg ids id=true
   · have rQ:bk id=some id:=by simp only [bk,hb,if_true]
     rw [I6 rQ] at hn;cases AR:fu (E id) np with
     | none=>simp [AR] at hn
     | some y =>
       simp only [AR,ar,aa,ae] at hn;obtain ⟨rfl,rfl⟩:=hn;have h0:=SN ye;obtain ⟨⟨g,bb,cc⟩,z⟩:=y;simp only at h0;subst h0;rfl
   · have:sa E σ.h (tx ids) jR (fun _=>jR) bk id=none:=by
      simp only [sa,bk,hb,aF,if_false,nf]
     rw [this] at hn;cases np with
     | none=>cases hn
     | some p=>cases p<;>cases hn
theorem C7d {σ':St} {g:Gh} (k:u9 P w A E nt σ a) (h:yM g σ=some σ'):∃ A' E',u9 P w A' E' nt σ' a∧gJ w A E S0 w A' E':=by
 cases g with
 | bn ks ids =>
   simp only [yM,aa] at h;subst h;obtain ⟨E',h1,h2⟩:=NI k ks ids;exact ⟨A,E',h1,h2⟩
 | freeze t =>
   simp only [yM] at h;have hγ:¬ (fun g=>g<σ.nx) σ.nx:=Nat.lt_irrefl _
   have EF:dv.add (· < σ.nx) σ.nx=(· < σ.nx+1):=by
    funext g;exact propext ⟨fun hg=>by rcases hg with hg | hg<;>omega,fun hg=>by
     rcases Nat.lt_or_eq_of_le (Nat.le_of_lt_succ hg) with e | e
     · exact .inl e
     · exact .inr e⟩
   have fin:∀ {E':dW An} {h':cq},MR w A E' h' (dv.add (· < σ.nx) σ.nx)→gJ w A E (· < σ.nx) w A E'→u9 P w A E' nt ⟨σ.s,h',σ.nx+1⟩ a:=by
    intro E' h' q1 q2;rw [EF] at q1;exact ⟨⟨fun i=>(k.sl.sl i).go k.mr q2 (fun g hg=>Nat.lt_succ_of_lt hg),k.sl.gl.frame q2.sub (fun b hb=>q2.ub k.mr b hb)⟩,q1,by have:=k.nx;show 1≤σ.nx+1;omega,k.df,k.sz⟩
   split at h
   · split at h
     · rename_i h' ht;cases h;simp only [D3] at ht;split at ht
       · rename_i a' t' gx;cases ht;obtain ⟨E',q1,q2⟩:=k.mr.sE hγ gx;exact ⟨A,E',fin q1 q2,q2.weaken (A4 k.nx)⟩
       · cases ht
     · cases h
   split at h
   · split at h
     · rename_i z hst gx;cases h;obtain ⟨E',q1,q2,q3⟩:=k.mr.EA (z:=z) hγ gx;have q:=fin q1 q2;have tK:=k.sl.sl (t%1000);rw [hst] at tK;simp only [bT] at tK;obtain ⟨ad,cL⟩:=tK;refine ⟨A,E',⟨⟨fun i=>?_,q.sl.gl⟩,q.mr,q.nx,q.df,q.sz⟩,q2.weaken (A4 k.nx)⟩
       show bT w A E' _ (cD σ.s (t%1000) _ i) _;by_cases e:i=t%1000
       · subst e;rw [nN];simp only [bT];refine ⟨Nat.lt_succ_self _,ad,0,cL,au _,fun an z' hn hg=>?_⟩
         rw [q3] at hn;cases hn;exact ⟨rfl,rfl⟩
       · rw [nU _ _ e];exact q.sl.sl i
     · cases h
     · cases h;exact ⟨A,E,fin (k.mr.mono (dv.eP _ _)) (gJ.refl w A E _),gJ.refl w A E _⟩
   split at h
   · split at h
     · rename_i h' ht;cases h;unfold D3 at ht;split at ht
       · rename_i id g o hst;split at ht
         · rename_i a' t' gx;cases ht;obtain ⟨E',q1,q2⟩:=k.mr.sE hγ gx;exact ⟨A,E',fin q1 q2,q2.weaken (A4 k.nx)⟩
         · cases ht
       · rename_i id i0 p off len g hst;split at ht
         · rename_i g1 z l n dM;split at ht
           · rename_i o' eZ;cases ht;obtain ⟨E',q1,q2⟩:=k.mr.BV hγ dM eZ;exact ⟨A,E',fin q1 q2,q2.weaken (A4 k.nx)⟩
           · cases ht
         · cases ht
       · cases ht
     · cases h
   have set:∀ {A':Nat→Prop} {E':dW An} {v:MV} {h':cq},gJ w A E (· < σ.nx) w A' E'→MR w A' E' h' (· < σ.nx)→bT w A' E' (· < σ.nx) v (a.tmps.getD t undef)→u9 P w A' E' nt ⟨cD σ.s t v,h',σ.nx⟩ a:=by
    intro A' E' v h' hg hm hv;refine ⟨⟨fun i=>?_,k.sl.gl.frame hg.sub (fun b hb=>hg.ub k.mr b hb)⟩,hm,k.nx,k.df,k.sz⟩
    show bT w A' E' _ (cD σ.s t v i) _;by_cases e:i=t
    · subst e;rw [nN];exact hv
    · rw [nU _ _ e];exact (k.sl.sl i).go k.mr hg (dv.le_refl _)
   have tK:=k.sl.sl t;split at h
   · rename_i id len g0 hst;split at h
     · rename_i g1 z l gx;split at h
       · rename_i hc;obtain ⟨rfl,hlen⟩:=hc;split at h
         · rename_i vs fY;cases h;cases hE:E id with
           | none=>rw [k.mr.er id,hE] at gx;cases gx
           | some o =>
             obtain ⟨q1,q2⟩:=k.mr.wG hE;rw [hst] at tK;have hp:mC σ.h (.own id [] 0 len g0)=some (.sl (vs.take len)):=by
              simp only [mC,gx,jI,bS,hlen,true_and,if_true,fY,List.drop_zero]
             have hv:=C7 (A':=fun b=>A b∨b∈o.blk) k.mr (fun b hb=>.inl hb) hp (fun i hi o1 nw b hb=>by
              simp only [kf,aW] at hi;subst hi;rw [hE] at nw;cases nw;exact .inr hb) tK
             exact ⟨_,_,set q2 q1 (by simp only [bT];exact hv),q2.weaken (A4 k.nx)⟩
         · cases h
       · cases h
     · cases h
   · rename_i id i0 p off len g0 hst;split at h
     · rename_i g1 z l n dM;split at h
       · rename_i vs fY;split at h
         · rename_i o' eZ;cases h;obtain ⟨A',E',q1,q2⟩:=k.mr.IW dM fY eZ;refine ⟨A',E',⟨⟨fun i=>(k.sl.sl i).go k.mr q2 (dv.le_refl _),k.sl.gl.frame q2.sub (fun b hb=>q2.ub k.mr b hb)⟩,q1,k.nx,k.df,k.sz⟩,q2.weaken (A4 k.nx)⟩
         · cases h
       · cases h
     · cases h
   · rename_i id g0 hst;split at h
     · rename_i g1 u gx;split at h
       · rename_i hc;subst hc;split at h
         · rename_i v yZ;cases h;cases hE:E id with
           | none=>rw [k.mr.er id,hE] at gx;cases gx
           | some o =>
             obtain ⟨q1,q2⟩:=k.mr.wG hE;rw [hst] at tK;have hp:mC σ.h (.ptr id none [] g0 0)=some (.ref v):=by
              simp only [mC,gx,look,lY,true_and,if_true,yZ]
             have hv:=C7 (A':=fun b=>A b∨b∈o.blk) k.mr (fun b hb=>.inl hb) hp (fun i hi o1 nw b hb=>by
              simp only [kf,aW] at hi;subst hi;rw [hE] at nw;cases nw;exact .inr hb) tK
             exact ⟨_,_,set q2 q1 (by simp only [bT];exact hv),q2.weaken (A4 k.nx)⟩
         · cases h
       · cases h
     · cases h
   · rename_i v hst;cases h;refine ⟨A,E,set (gJ.refl w A E _) k.mr (by rw [← hst];exact tK),gJ.refl w A E _⟩
   · rename_i z hst;cases h;rw [hst] at tK;simp only [bT] at tK;obtain ⟨ad,cL⟩:=tK;refine ⟨A,E,set (gJ.refl w A E _) k.mr ?_,gJ.refl w A E _⟩;rw [cL];exact vw.2 ⟨ad,0,rfl,au _,.inl rfl⟩
   · cases h
end
section
variable {P:Program} {Φ:mA}
def NJ (P:Program) (Φ:mA) (n:Nat):Prop :=
 ∀ (B:r6) (nt:Nat) (c:Code) (k:Nat) (mc:MC) (k':Nat),sB P B nt c k=some (mc,k')→∀ (σ σ':St) (e:Ex),run Φ n mc σ=some (e,σ') →
  ∀ (Q:Exit→Act→World→Prop) (a:Act) (w:World) (A:Nat→Prop) (E:dW An),u9 P w A E nt σ a →
   (∀ a' w' A' E',u9 P w' A' E' nt σ' a'→gJ w A E S0 w' A' E'→Q (ZO e) a' w')→c.wp P Q a w
theorem ZP {r:MC} {nt:Nat}:∀ (l:List Nat) (n:Nat) (σ σ':St) (e:Ex),run Φ n (MA l r) σ=some (e,σ')→∀ (a:Act) (w:World) (A:Nat→Prop) (E:dW An),u9 P w A E nt σ a →
 ∃ m σ1 A1 E1,m≤n∧run Φ m r σ1=some (e,σ')∧u9 P w A1 E1 nt σ1 a∧gJ w A E S0 w A1 E1
 | [],n,σ,σ',e,hr,a,w,A,E,k=>⟨n,σ,A,E,au n,hr,k,gJ.refl w A E _⟩
 | t::l,n,σ,σ',e,hr,a,w,A,E,k=>by
   cases n with
   | zero=>simp [run] at hr
   | succ n =>
     have e0:MA (t::l) r=.seq (.gh (.freeze t)) (MA l r):=rfl;rw [e0] at hr;simp only [run] at hr;cases n with
     | zero=>simp [run] at hr
     | succ n =>
       cases hg:yM (.freeze t) σ with
       | none=>simp [run,hg] at hr
       | some σ1 =>
         have h1:run Φ (n+1) (.gh (.freeze t)) σ=some (.normal,σ1):=by simp only [run,hg]
         rw [h1] at hr;simp only at hr;obtain ⟨A1,E1,k1,g1⟩:=C7d k hg;obtain ⟨m,σ2,A2,E2,q1,q2,q3,q4⟩:=ZP l (n+1) σ1 σ' e hr a w A1 E1 k1;exact ⟨m,σ2,A2,E2,by omega,q2,q3,g1.trans q4 (dv.le_refl _)⟩
theorem C7e (vK:P.follows .mixedOrders=true) (n:Nat) (ih:∀ m,m<n→NJ P Φ m) (zn:∀ m,m<n→A0 P (n5 Φ (run Φ m))):NJ P Φ n:=by
 intro B nt c k mc k' hc σ σ' e hr Q a w A E hk hQ;cases n with
 | zero=>simp [run] at hr
 | succ n =>
   cases c with
   | skip =>
     simp only [sB,aa,ae] at hc;obtain ⟨rfl,_⟩:=hc;simp only [run,aa,ae] at hr;obtain ⟨rfl,rfl⟩:=hr;exact wp_skip (hQ a w A E hk (gJ.refl w A E _))
   | ret =>
     simp only [sB,aa,ae] at hc;obtain ⟨rfl,_⟩:=hc;cases n with
     | zero=>simp [run] at hr
     | succ n =>
       simp only [run,yM,aa,ae] at hr;obtain ⟨rfl,rfl⟩:=hr;obtain ⟨E',h1,h2⟩:=NI hk _ _;exact wp_ret (hQ a w A E' h1 h2)
   | exit id =>
     simp only [sB,aa,ae] at hc;obtain ⟨rfl,_⟩:=hc;cases n with
     | zero=>simp [run] at hr
     | succ n =>
       simp only [run,yM,aa,ae] at hr;obtain ⟨rfl,rfl⟩:=hr;obtain ⟨E',h1,h2⟩:=NI hk _ _;exact wp_exit (hQ a w A E' h1 h2)
   | region id ops draw =>
     simp only [sB] at hc;split at hc
     · rename_i is his;split at hc
       · rename_i kN;simp only [aa,ae] at hc;obtain ⟨rfl,_⟩:=hc;obtain ⟨m,σ1,A1,E1,q1,q2,q3,q4⟩:=ZP _ _ σ σ' e hr a w A E hk;cases m with
         | zero=>simp [run] at q2
         | succ m =>
           cases A5:r0 (n5 Φ (run Φ m)) (if draw then Bx ops is else []) is σ1 with
           | none=>simp [run,A5] at q2
           | some σ2 =>
             simp only [run,A5,aa,ae] at q2;have SK:σ2.nx=σ1.nx+is.length:=by
              clear q2 hQ hr;generalize (if draw then Bx ops is else [])=loose at A5
              unfold r0 at A5;split at A5
              · split at A5
                · cases A5;rfl
                · cases A5
              · cases A5
             obtain ⟨rfl,rfl⟩:=q2;refine D4h (zn m (by omega)) vK his kN A5 q3.sz q3.sl q3.mr ?_ (fun _=>trivial)
             intro a' w' A' E' r1 r2 r3 r4 r5;refine hQ a' w' A' E' ⟨r1,r2,by have:=q3.nx;omega,r4.trans q3.df,by rw [r5];exact q3.sz⟩ ?_
             exact q4.trans (r3.weaken (A4 q3.nx)) (dv.le_refl _)
       · simp only [aa,ae] at hc;obtain ⟨rfl,_⟩:=hc;simp [run] at hr
     · cases hc
   | seq x y =>
     simp only [sB] at hc;split at hc
     · rename_i mx n1 hx;split at hc
       · rename_i my n2 hy;simp only [aa,ae] at hc;obtain ⟨rfl,_⟩:=hc;simp only [run] at hr;refine wp_seq ?_;split at hr
         · rename_i σ1 yj;refine ih n (by omega) B nt x k mx n1 hx σ σ1 .normal yj _ a w A E hk ?_
           intro a1 w1 A1 E1 k1 g1;refine ih n (by omega) B nt y n1 my n2 hy σ1 σ' e hr Q a1 w1 A1 E1 k1 ?_
           intro a2 w2 A2 E2 k2 g2;exact hQ a2 w2 A2 E2 k2 (g1.trans g2 (dv.le_refl _))
         · rename_i mG;refine ih n (by omega) B nt x k mx n1 hx σ σ' e hr _ a w A E hk ?_
           intro a1 w1 A1 E1 k1 g1
           have:=hQ a1 w1 A1 E1 k1 g1
           cases e with
           | normal=>exact (mG _ hr).elim
           | exit id=>exact this
           | ret=>exact this
       · cases hc
     · cases hc
   | cond o x y =>
     simp only [sB] at hc;split at hc
     · rename_i co mx n1 ho hx;split at hc
       · rename_i my n2 hy;simp only [aa,ae] at hc;obtain ⟨rfl,_⟩:=hc;simp only [run] at hr;have hv:=j3 hk.sl ho;split at hr
         · rename_i hb;rw [hb] at hv;refine wp_cond_true (uc.1 hv) (ih n (by omega) B nt x k mx n1 hx σ σ' e hr Q a w A E hk hQ)
         · rename_i hb;rw [hb] at hv;refine wp_cond_false (uc.1 hv) (ih n (by omega) B nt y n1 my n2 hy σ σ' e hr Q a w A E hk hQ)
         · cases hr
       · cases hc
     · cases hc
   | block id x =>
     simp only [sB] at hc;split at hc
     · rename_i mx n1 hx;simp only [aa,ae] at hc;obtain ⟨rfl,_⟩:=hc;simp only [run] at hr;refine wp_block ?_;split at hr
       · rename_i j σ1 yj;refine ih n (by omega) B nt x k mx n1 hx σ σ1 (.exit j) yj _ a w A E hk ?_
         intro a1 w1 A1 E1 k1 g1;simp only [ZO,Exit.inBlock];split at hr
         · rename_i hj;simp only [aa,ae] at hr;obtain ⟨rfl,rfl⟩:=hr;rw [if_pos hj];exact hQ a1 w1 A1 E1 k1 g1
         · rename_i hj;simp only [aa,ae] at hr;obtain ⟨rfl,rfl⟩:=hr;rw [if_neg hj];exact hQ a1 w1 A1 E1 k1 g1
       · rename_i mG;refine ih n (by omega) B nt x k mx n1 hx σ σ' e hr _ a w A E hk ?_
         intro a1 w1 A1 E1 k1 g1
         have:=hQ a1 w1 A1 E1 k1 g1
         cases e with
         | normal=>exact this
         | exit j=>exact (mG _ _ hr).elim
         | ret=>exact this
     · cases hc
   | loop x =>
     simp only [sB] at hc;split at hc
     · rename_i mx n1 hx;simp only [aa,ae] at hc;obtain ⟨rfl,_⟩:=hc;generalize hks:(B.bn.getD k ([],[])).1=ks at hr;generalize B3:(B.bn.getD k ([],[])).2=ids at hr
       let R:Nat→Act→World→Prop:=fun m a1 w1=>m≤n+1∧∃ σ1 A1 E1,run Φ m (.loop ks ids mx) σ1=some (e,σ')∧u9 P w1 A1 E1 nt σ1 a1∧gJ w A E S0 w1 A1 E1
       refine C3k R ?_ (n+1) a w ⟨au _,σ,A,E,hr,hk,gJ.refl w A E _⟩;rintro m a1 w1 ⟨hm,σ1,A1,E1,yj,k1,g1⟩;cases m with
       | zero=>simp [run] at yj
       | succ m =>
         simp only [run] at yj;obtain ⟨E2,k2,g2⟩:=NI k1 ks ids;split at yj
         · rename_i σ2 GK;refine ih m (by omega) B nt x (k+1) mx n1 hx _ σ2 .normal GK _ a1 w1 A1 E2 k2 ?_
           intro a3 w3 A3 E3 k3 g3;exact ⟨m,by omega,by omega,σ2,A3,E3,yj,k3,(g1.trans g2 (dv.le_refl _)).trans g3 (dv.le_refl _)⟩
         · rename_i mG;refine ih m (by omega) B nt x (k+1) mx n1 hx _ σ' e yj _ a1 w1 A1 E2 k2 ?_
           intro a3 w3 A3 E3 k3 g3
           have:=hQ a3 w3 A3 E3 k3 ((g1.trans g2 (dv.le_refl _)).trans g3 (dv.le_refl _))
           cases e with
           | normal=>exact (mG _ yj).elim
           | exit j=>exact this
           | ret=>exact this
     · cases hc
   | _ =>
     simp only [sB,aa,ae] at hc;obtain ⟨rfl,_⟩:=hc;simp [run] at hr
end
end Go.Mid
namespace Go.Mid
open Go.RowKit
section
variable {P:Program} {w:World} {A A':Nat→Prop} {E:dW An} {nx:dv} {h:cq}
theorem C7f (hm:MR w A E h nx) {t:TypeId} (hU:qQ P t=true) {x u:MV} {val:Value} (dN:bT w A E nx x val) (hu:tV h (mV P t) (P.cellsOf t) x=some u) :
 ∃ ad v,val=.pointer (some ad)∧(loadVar t ad).run P w=.ok v w∧bT w A E nx u v:=by
 unfold tV at hu;split at hu
 · rename_i pv;split at hu
   · rename_i hc;cases hu;obtain ⟨b,o',cL,hA,cv,h1,h2⟩:=AF.1 dN;refine ⟨_,_,cL,MN w hU (by rw [h1.len,hc.1]) h2 (fun hg=>by rw [← hc.2] at hg;obtain ⟨_,rfl,_⟩:=h1.one hg;rfl),?_⟩
     simp only [bT,pe];exact ⟨cv,h1,by rw [hc.2]⟩
   · cases hu
 · rename_i id np rp g o';split at hu
   · rename_i t' s' oo hl;simp only at hu;split at hu
     · rename_i hc;obtain ⟨rfl,rfl,fh⟩:=hc;split at hu
       · rename_i hagg;obtain ⟨hagg,re⟩:=hagg;cases hu;obtain ⟨an,tA,n7,hg,rfl⟩:=hm.look hl;obtain ⟨b,hb,lh⟩:=hm.sT n7;simp only [bT] at dN;obtain ⟨_,ad,cL,rf⟩:=dN;obtain ⟨z,hn⟩:=Gi n7;obtain ⟨b',jx,rfl⟩:=rf an z hn hg;rw [hb] at jx;cases jx;obtain ⟨cs,hrow,It,hlen⟩:=QZ hm tA (rH np rp) b oo (MJ n7) lh;rw [T.ky] at fh;refine ⟨_,_,cL,MN w hU (by rw [hlen,fh]) hrow ?_,?_⟩
         · intro rN;rw [← hagg] at rN;rcases It.2 with ⟨n,hn⟩ | ⟨_,h2⟩
           · rw [hn] at re;cases re
           · obtain ⟨x,rfl,_⟩:=h2 rN;rfl
         · rw [← hagg];exact It.val
       · cases hu
     · cases hu
   · cases hu
 · cases hu
def GN (tmps:Array Value):ResultVar→Sem Value
 | .tmp t=>pure (tmps.getD t undef)
 | .cell b t=>do loadVar t (← asAddr (tmps.getD b undef))
theorem C7g (fn:Func) (tmps:Array Value):results fn tmps=(do let vs ← fn.results.mapM (GN tmps);pure (if h:vs.size=1 then vs[0] else .tuple vs)):=by
 have:(fun | .tmp t=>pure (tmps.getD t undef) | .cell a t=>do loadVar t (← asAddr (tmps.getD a undef)):ResultVar→Sem Value)=GN tmps:=by
  funext x;cases x<;>rfl
 unfold results;rw [← this];rfl
theorem ZQ {s:gI} {a:Act} (hs:qf P w A E nx s a) (hm:MR w A E h nx) {nt:Nat}:∀ {rs:List ResultVar} {vs:List RV} {l:List MV},CR P nt rs=some vs→xV s h vs=some l →
 ∃ us:List Value,(rs.mapM (GN a.tmps)).run P w=.ok us w∧di w A E nx l us
 | [],vs,l,hc,hr=>by
   simp only [CR,aa] at hc;subst hc;simp only [xV,aa] at hr;subst hr;exact ⟨[],by simp,by simp only [di]⟩
 | x::rs,vs,l,hc,hr=>by
   simp only [CR] at hc;split at hc
   · rename_i v yd h1 h2;simp only [aa] at hc;subst hc;simp only [xV] at hr;split at hr
     · rename_i u us h3 h4;simp only [aa] at hr;subst hr;obtain ⟨ws,h5,h6⟩:=ZQ hs hm h2 h4;cases x with
       | tmp t =>
         simp only [QM] at h1;split at h1
         · simp only [aa] at h1;subst h1;simp only [CN,aa] at h3;subst h3;refine ⟨a.tmps.getD t undef::ws,?_,by simp only [di];exact ⟨_,ws,rfl,hs.sl t,h6⟩⟩
           rw [mi];simp only [GN,bx,bN,aV,h5]
         · cases h1
       | cell b t =>
         simp only [QM] at h1;split at h1
         · rename_i ed;simp only [aa] at h1;subst h1;simp only [CN] at h3;obtain ⟨ad,v,cL,zq,hv⟩:=C7f hm ed.2 (hs.sl b) h3;refine ⟨v::ws,?_,by simp only [di];exact ⟨_,ws,rfl,hv,h6⟩⟩
           rw [mi];have e:(GN a.tmps (.cell b t)).run P w=.ok v w:=by simp only [GN,bx,cL,asAddr,bN,aV,zq]
           simp only [bx,bN,aV,h5,e]
         · cases h1
     · cases hr
   · cases hc
theorem C5i {s:gI} {a:Act} (hs:qf P w A E nx s a) (hm:MR w A E h nx) {nt:Nat} {fn:Func} {vs:List RV} {l:List MV} (hc:CR P nt fn.results.toList=some vs) (hr:xV s h vs=some l) :
 ∃ v,(results fn a.tmps).run P w=.ok v w∧bT w A E nx (CO l) v:=by
 obtain ⟨us,h1,h2⟩:=ZQ hs hm hc hr;have h3:(results fn a.tmps).run P w=.ok (if h:us.toArray.size=1 then us.toArray[0] else .tuple us.toArray) w:=by
  rw [C7g,Array.mapM_eq_mapM_toList];simp only [bx,Sem.run_map,h1,aV,bN]
 refine ⟨_,h3,?_⟩;cases l with
 | nil =>
   simp only [di] at h2;subst h2;simp only [CO,bT];exact ⟨[],rfl,by simp only [di]⟩
 | cons x r =>
   cases r with
   | nil =>
     simp only [di] at h2;obtain ⟨u,d,rfl,h4,rfl⟩:=h2;exact h4
   | cons y q =>
     have hl:us.length≠1:=by
      simp only [di] at h2;obtain ⟨u,d,rfl,_,u',d',rfl,_,_⟩:=h2;simp
     rw [dif_neg (by simpa using hl)]
     show bT w A E nx (.eO (x::y::q)) _;simp only [bT];exact ⟨us,rfl,h2⟩
theorem bT.xx {x:MV} {v:Value} {r:List MV} {d:List Value} {nx:dv} (hv:bT w A E nx x v) (hl:rZ x=true) (hr:ee w A E nx r d):ee w A E nx (x::r) (v.cells.toList++d):=(hv.um hl).cons hr
mutual
theorem SO (m:MR w A E h nx) {E0:dW An} (f:Fr w w A A' E E0 nx nx) (jU:∀ i,m5 i=true→∀ o,E i=some o→∀ b∈o.blk,A' b):∀ {v u:MV} {val:Value},rM h v=some u→bT w A E nx v val→bT w A' E0 nx u val∧(rZ v=true→rZ u=true)∧(rZ v=false→∃ l,u=.eO l)
 | .p v,u,val,hp,hv=>by
   simp only [rM,aa] at hp;subst hp;exact ⟨hv.frame f,fun h=>h,fun h=>by simp [rZ] at h⟩
 | .agg l,u,val,hp,hv=>by
   simp only [rM] at hp;split at hp
   · rename_i vs fY;simp only [aa] at hp;subst hp;simp only [bT] at hv;obtain ⟨cs,rfl,hv⟩:=hv;refine ⟨MM (ZR m f jU fY hv),fun _=>?_,fun h=>by simp [rZ] at h⟩
     unfold uP;split<;>rfl
   · cases hp
 | .eO l,u,val,hp,hv=>by
   simp only [rM] at hp;split at hp
   · rename_i vs fY;simp only [aa] at hp;subst hp;simp only [bT] at hv ⊢;obtain ⟨ws,rfl,hv⟩:=hv;exact ⟨⟨ws,rfl,ZS m f jU fY hv⟩,fun h=>by simp [rZ] at h,fun _=>⟨vs,rfl⟩⟩
   · cases hp
 | .own id path off len g,u,val,hp,hv=>NK m f jU (by simp only [rM] at hp;exact hp) hv rfl
 | .ptr id np rp g o,u,val,hp,hv=>NK m f jU (by simp only [rM] at hp;exact hp) hv rfl
 | .fE id path g,u,val,hp,hv=>by simp only [bT] at hv
 | .nil z,u,val,hp,hv=>NK m f jU (by simp only [rM] at hp;exact hp) hv rfl
 | .fn i l,u,val,hp,hv=>NK m f jU (by simp only [rM] at hp;exact hp) hv rfl
 | .dead n,u,val,hp,hv=>by simp [rM,kf,mC] at hp
theorem NK (m:MR w A E h nx) {E0:dW An} (f:Fr w w A A' E E0 nx nx) (jU:∀ i,m5 i=true→∀ o,E i=some o→∀ b∈o.blk,A' b) {v u:MV} {val:Value}
 (hp:(if ((kf v).all (fun i=>!m5 i) && !(kf v).isEmpty)=true then some v else match mC h v with | some w=>if (kf v).all m5=true then some (.p w) else none | none=>none)=some u) (hv:bT w A E nx v val) (hl:rZ v=true):bT w A' E0 nx u val∧(rZ v=true→rZ u=true)∧(rZ v=false→∃ l,u=.eO l):=by
 refine ⟨?_,fun _=>?_,fun h=>by rw [hl] at h;cases h⟩
 · split at hp
   · simp only [aa] at hp;subst hp;exact hv.frame f
   · split at hp
     · rename_i w' hw;split at hp
       · rename_i ko;simp only [aa] at hp;subst hp;simp only [bT];refine C7 m f.hA hw (fun i hi o ho b hb=>jU i (bj.1 ko i hi) o ho b hb) hv
       · cases hp
     · cases hp
 · split at hp
   · simp only [aa] at hp;subst hp;exact hl
   · split at hp
     · split at hp
       · simp only [aa] at hp;subst hp;rfl
       · cases hp
     · cases hp
theorem ZR (m:MR w A E h nx) {E0:dW An} (f:Fr w w A A' E E0 nx nx) (jU:∀ i,m5 i=true→∀ o,E i=some o→∀ b∈o.blk,A' b):∀ {l us:List MV} {cs:List Value},yN h l=some us→ee w A E nx l cs→ee w A' E0 nx us cs
 | [],us,cs,hp,hv=>by
   simp only [yN,aa] at hp;subst hp;simpa only [ee] using hv
 | x::r,us,cs,hp,hv=>by
   simp only [yN] at hp;split at hp
   · rename_i v vs h1 h2;simp only [aa] at hp;subst hp;simp only [ee] at hv;obtain ⟨val,d,rfl,h3,h4,h5,h6⟩:=hv;obtain ⟨q1,q2,q3⟩:=SO m f jU h1 h5;have hr:=ZR m f jU h2 h6;cases hx:rZ x with
     | true=>exact q1.xx (q2 hx) hr
     | false =>
       exfalso;obtain ⟨l',rfl⟩:=q3 hx;cases x<;>simp only [rZ,reduceCtorEq] at hx
       · simp only [bT] at h5;obtain ⟨ws,rfl,_⟩:=h5;simp [MV.cs,Value.cells] at h3
       · simp [rM,kf,mC] at h1
   · cases hp
theorem ZS (m:MR w A E h nx) {E0:dW An} (f:Fr w w A A' E E0 nx nx) (jU:∀ i,m5 i=true→∀ o,E i=some o→∀ b∈o.blk,A' b):∀ {l us:List MV} {vs:List Value},yN h l=some us→di w A E nx l vs→di w A' E0 nx us vs
 | [],us,vs,hp,hv=>by
   simp only [yN,aa] at hp;subst hp;simpa only [di] using hv
 | x::r,us,vs,hp,hv=>by
   simp only [yN] at hp;split at hp
   · rename_i v yd h1 h2;simp only [aa] at hp;subst hp;simp only [di] at hv ⊢;obtain ⟨val,d,rfl,h5,h6⟩:=hv;exact ⟨val,d,rfl,(SO m f jU h1 h5).1,ZS m f jU h2 h6⟩
   · cases hp
end
end
end Go.Mid
namespace Go.Mid
open Go.RowKit
section
variable {P:Program} {w:World} {A:Nat→Prop} {E:dW An} {nt:Nat} {σ:St} {a:Act}
theorem ZT (n k:Nat):((bp n).map (eD + ·))[k]?=if k<n then some (eD+k) else none:=by
 rw [aN];split
 · rename_i h;rw [List.getElem?_range h];rfl
 · rename_i h;rw [bK (by simpa using h)];rfl
theorem ZU {h:cq} {ρ:Nat→Option Nat} {ζ:Nat→Nat} {ζn:Nat→Nat→Nat} {bk:Nat→Option Nat} (hz:∀ i j,bk j=some i→∀ g,ζn i g=0→g=0∧i=j):oV S0 E (sa E h ρ ζ ζn bk):=by
 intro id np an z hn hg;have ye:an.g=0:=hg;cases hb:bk id with
 | none =>
   have:sa E h ρ ζ ζn bk id=none:=by simp only [sa,hb,nf]
   rw [this] at hn;cases np with
   | none=>cases hn
   | some p=>cases p<;>cases hn
 | some i =>
   rw [I6 hb] at hn;cases AR:fu (E i) np with
   | none=>simp [AR] at hn
   | some y =>
     simp only [AR,ar,aa,ae] at hn;obtain ⟨rfl,rfl⟩:=hn;obtain ⟨h0,rfl⟩:=hz i id hb _ ye;rw [AR];obtain ⟨⟨g,bb,cc⟩,z⟩:=y;simp only at h0;subst h0
     have:ζn i 0=0:=ye
     simp only [zA,this]
theorem ZV (k:u9 P w A E nt σ a) {fn:Func} {F:qk} {n:Nat} {r:MV} {ext dL:List (Obj Nat)} (nT:CR P fn.ntmps fn.results.toList=some F.res) (hf:xW F n σ=some (r,ext,dL)) :
 ∃ v,(results fn a.tmps).run P w=.ok v w∧∃ A' E' nx',MR w A' E' (kg ext dL) nx'∧gJ w A E S0 w A' E'∧bT w A' E' nx' r v:=by
 unfold xW at hf;split at hf
 · cases hf
 · rename_i hn;split at hf
   · cases hf
   · rename_i vs fY;obtain ⟨v,il,hv⟩:=C5i k.sl k.mr nT fY;refine ⟨v,il,?_⟩
     dsimp only at hf
     split at hf
     · -- frozen
       split at hf
       · rename_i u ex hu hex;simp only [aa,ae] at hf;obtain ⟨rfl,rfl,rfl⟩:=hf
         let A':Nat→Prop:=fun b=>A b∨∃ i o,m5 i=true∧E i=some o∧b∈o.blk
         let E0:dW An:=fun i=>if m5 i then none else E i
         let h0:cq:=fun i=>if m5 i then none else σ.h i
         have vL:∀ {i o},E0 i=some o→m5 i=false∧E i=some o:=by
          intro i o ho;simp only [E0] at ho;split at ho
          · cases ho
          · rename_i hl;exact ⟨by simpa using hl,ho⟩
         have Dg:∀ i np y,fu (E0 i) np=some y→fu (E i) np=some y:=by
          intro i np y hy;simp only [E0] at hy;split at hy
          · cases np with
            | none=>cases hy
            | some p=>cases p<;>cases hy
          · exact hy
         have f:Fr w w A A' E E0 (· < σ.nx) (· < σ.nx):=⟨fun b hb=>.inl hb,fun _ _=>rfl,fun id np an z h _=>Dg id np _ h,dv.le_refl _⟩
         have m0:MR w A' E0 h0 (· < σ.nx):=by
          constructor
          · intro i;simp only [E0,h0];split
            · rfl
            · exact k.mr.er i
          · intro i o ho;exact OAt.frame f (fun _ _=>rfl) (k.mr.at_ i o (vL ho).2)
          · rintro b ⟨i,o,ho,hb⟩;obtain ⟨hl,ho⟩:=vL ho
            have:=k.mr.kp ho hb
            refine ⟨this.1,fun hA=>?_⟩
            rcases hA with hA | ⟨j,o',hj,oP,jx⟩
            · exact this.2 hA
            · have ev:i≠j:=fun e=>by subst e;rw [hl] at hj;cases hj
              exact k.mr.dj i j o o' ev ho oP b hb jx
          · intro i o ho;exact k.mr.nd i o (vL ho).2
          · intro i j o o' ev ho oP;exact k.mr.dj i j o o' ev (vL ho).2 (vL oP).2
          · rintro b (hA | ⟨j,o',_,oP,jx⟩)
            · exact k.mr.im b hA
            · exact (k.mr.kp oP jx).1
          · intro i o ho;exact k.mr.st i o (vL ho).2
         have hu0:=(SO k.mr f (fun i hi o ho b hb=>.inr ⟨i,o,hi,ho,hb⟩) hu hv).1
         let bk:Nat→Option Nat:=fun j=>if eD≤j∧j<eD+n then some j else none
         have hρ:∀ i j,qe n [] i=some j→bk j=some i:=by
          intro i j gU;unfold qe at gU;split at gU
          · split at gU
            · rename_i h1 h2;simp only [aa] at gU;subst gU;simp only [bk];rw [if_pos ⟨h1,h2⟩]
            · cases gU
          · simp [pc] at gU
         have rQ:∀ i j,bk j=some i→i=j∧eD≤j∧j<eD+n:=by
          intro i j h;simp only [bk] at h;split at h
          · rename_i hc;cases h;exact ⟨rfl,hc⟩
          · cases h
         have s0:∀ i j j',bk j=some i→bk j'=some i→j=j':=fun i j j' h h'=>by rw [← (rQ i j h).1,← (rQ i j' h').1]
         have hm:=m0.clean (nx':=(· < 2)) (ζ:=jR) (ζn:=fun _=>jR) hρ s0 (fun g _=>B8 g) (fun _ g _=>B8 g)
         have Gw:=bT.clean (nx':=(· < 2)) (ζ:=jR) (ζn:=fun _=>jR) m0 hρ (fun g _=>B8 g) hu0
         have jU:∀ i j,qe n [] i=some j→h0 i=σ.h i:=by
          intro i j gU
          have:=hρ i j gU
          obtain ⟨rfl,h1,_⟩:=rQ i j this;simp only [h0];rw [if_neg];simp only [m5,decide_eq_true_eq];omega
         have nP:j7 h0 (qe n []) jR=j7 σ.h (qe n []) jR:=funext fun v=>Sp jU v
         have zC:zi h0 (qe n []) jR (fun _=>jR) bk=kg (ex.map (kO (j7 σ.h (qe n []) jR) jR)) []:=by
          funext j;simp only [zi,kg,bk,nP];by_cases h1:kP≤j
          · rw [if_pos h1,if_neg (by simp only [kP,eD] at *;omega)]
            simp
          · rw [if_neg h1];by_cases h2:eD≤j
            · rw [if_pos h2,aN,Jb hex,ZT];by_cases h3:j<eD+n
              · rw [if_pos ⟨h2,h3⟩,if_pos (by omega),show eD+(j-eD)=j by omega]
                simp only [ah,h0];rw [if_neg];simp only [m5,decide_eq_true_eq];omega
              · rw [if_neg (fun h=>h3 h.2),if_neg (by omega)]
                rfl
            · rw [if_neg h2,if_neg (fun h=>h2 h.1)]
              rfl
         rw [zC] at hm;rw [nP] at Gw;refine ⟨A',_,_,hm,?_,Gw⟩;refine ⟨rfl,rfl,rfl,au _,fun _ _ _=>rfl,fun b hb=>.inl hb,fun b _ hb=>hb.imp (fun h=>h) (fun ⟨i,o,_,ho,l7⟩=>⟨i,o,ho,l7⟩),fun b _ hb=>?_,?_⟩
         · obtain ⟨i,o,ho,l7⟩:=Nr hb;exact ⟨i,o,(vL ho).2,l7⟩
         · have h1:oV S0 E0 (sa E0 h0 (qe n []) jR (fun _=>jR) bk):=ZU fun i j hb g hg=>⟨SN hg,(rQ i j hb).1⟩
           exact fun id np an z hh hg=>Dg id np _ (h1 id np an z hh hg)
       · cases hf
     · -- roots go out
       generalize B5:(jw σ.h (jw σ.h (kf (CO vs)++(bp n).map (eD + ·)))).filter m5=es at hf;have iq:es.Nodup:=by
        rw [← B5];exact List.Pairwise.filter _ (Sj _)
       have zD:∀ i∈es,m5 i=true:=by
        intro i hi;rw [← B5] at hi;exact (cA.1 hi).2
       split at hf
       · rename_i ex eo hex heo;simp only [aa,ae] at hf;obtain ⟨rfl,rfl,rfl⟩:=hf
         let bk:Nat→Option Nat:=fun j=>if kP≤j then es[j-kP]? else if eD≤j∧j<eD+n then some j else none
         let ζn:Nat→Nat→Nat:=fun i=>if m5 i then fun _=>1 else jR
         have rQ:∀ i j,bk j=some i→(kP≤j∧es[j-kP]?=some i∧m5 i=true)∨(i=j∧eD≤j∧j<eD+n∧¬ kP≤j):=by
          intro i j h;simp only [bk] at h;split at h
          · rename_i h1;exact .inl ⟨h1,h,zD i (bI h)⟩
          · rename_i h1;split at h
            · rename_i hc;cases h;exact .inr ⟨rfl,hc.1,hc.2,h1⟩
            · cases h
         have hρ:∀ i j,qe n es i=some j→bk j=some i:=by
          intro i j gU;unfold qe at gU;split at gU
          · split at gU
            · rename_i h1 h2;simp only [aa] at gU;subst gU;simp only [bk];rw [if_neg (by simp only [kP,eD] at *;omega),if_pos ⟨h1,h2⟩]
            · cases gU
          · cases hi:pc es i with
            | none=>simp [hi] at gU
            | some m =>
              simp only [hi,ar,aa] at gU;subst gU;simp only [bk];rw [if_pos (Nat.le_add_right _ _),Nat.add_sub_cancel_left];exact EJ hi
         have s0:∀ i j j',bk j=some i→bk j'=some i→j=j':=by
          intro i j j' h h';rcases rQ i j h with ⟨h1,h2,h3⟩ | ⟨rfl,h2,h3,_⟩<;>rcases rQ i j' h' with ⟨h4,h5,h6⟩ | ⟨e,h5,h6,_⟩
          · have e1:=GC iq h2;have e2:=GC iq h5;rw [e1] at e2
            have:=cm e2
            omega
          · subst e;simp only [m5,decide_eq_true_eq] at h3;omega
          · simp only [m5,decide_eq_true_eq] at h6;omega
          · exact e
         have hm:=k.mr.clean (nx':=(· < 2)) (ζ:=jR) (ζn:=ζn) hρ s0 (fun g _=>B8 g) (fun i g _=>by
          simp only [ζn];split
          · show 1<2;omega
          · exact B8 g)
         have Gw:=bT.clean (nx':=(· < 2)) (ζ:=jR) (ζn:=ζn) k.mr hρ (fun g _=>B8 g) hv
         have zC:zi σ.h (qe n es) jR ζn bk=kg (ex.map (kO (j7 σ.h (qe n es) jR) jR)) (eo.map (kO (j7 σ.h (qe n es) jR) (fun _=>1))):=by
          funext j;simp only [zi,kg,bk];by_cases h1:kP≤j
          · rw [if_pos h1,if_pos h1,aN,Jb heo];cases he:es[j-kP]? with
            | none=>rfl
            | some i =>
              have:=zD i (bI he)
              simp only [ah,ζn,this,if_true]
          · rw [if_neg h1,if_neg h1];by_cases h2:eD≤j
            · rw [if_pos h2,aN,Jb hex,ZT];by_cases h3:j<eD+n
              · rw [if_pos ⟨h2,h3⟩,if_pos (by omega),show eD+(j-eD)=j by omega]
                have hl:m5 j=false:=by simp only [m5,decide_eq_false_iff_not];omega
                simp only [ah,ζn,hl,aF,if_false]
              · rw [if_neg (fun h=>h3 h.2),if_neg (by omega)]
                rfl
            · rw [if_neg h2,if_neg (fun h=>h2 h.1)]
              rfl
         rw [zC] at hm;refine ⟨A,_,_,hm,?_,Gw⟩;refine ⟨rfl,rfl,rfl,au _,fun _ _ _=>rfl,fun _ h=>h,fun _ _ h=>.inl h,fun b _ hb=>Nr hb,ZU fun i j hb g hg=>?_⟩
         rcases rQ i j hb with ⟨_,_,h3⟩ | ⟨e,h2,_,_⟩
         · simp only [ζn,h3,if_true] at hg;omega
         · have hl:m5 i=false:=by simp only [m5,decide_eq_false_iff_not];omega
           simp only [ζn,hl,aF,if_false] at hg;exact ⟨SN hg,e⟩
       · cases hf
end
def GO (P:Program) (f:Nat) (p:Prim):Prop:=∀ args ext r ext' dL,vo p args ext=some (r,ext',dL)→EL P f ∧
 ∀ (w:World) (A:Nat→Prop) (E:dW An) (hJ:List Value),GL P w A→di w A E S0 args hJ→MR w A E (nq ext) S0 →
  Calls P f hJ.toArray w fun e w'=>∃ v,e=.returned v∧∃ A' E' nx',MR w' A' E' (kg ext' dL) nx'∧gJ w A E S0 w' A' E'∧bT w' A' E' nx' r v
structure oY (P:Program) (Φ:mA):Prop where
 mix:P.follows .mixedOrders=true
 code:∀ f F,Φ f=some (.code F)→∃ fn B,P.funcs[f]?=some fn∧(fn.name == "runtime.NumGoroutine")=false∧QN P B fn=some F
 qn:∀ f p,Φ f=some (.qn p)→GO P f p
section
variable {P:Program} {Φ:mA}
theorem ZW {w:World} {A:Nat→Prop} {E:dW An} {S:dv}:∀ {l:List MV} {vs:List Value},di w A E S l vs→∀ i,bT w A E S (l.getD i (.dead 0)) (vs.getD i undef)
 | [],vs,h,i=>by simp only [di] at h;subst h;simp [bT]
 | x::r,vs,h,i=>by
   simp only [di] at h;obtain ⟨v,d,rfl,h1,h2⟩:=h;cases i with
   | zero=>exact h1
   | succ i=>simpa using ZW h2 i
theorem ZX (hT:oY P Φ) (n:Nat) (hc:NJ P Φ n):A0 P (n5 Φ (run Φ n)):=by
 intro f args ext r ext' dL hk;unfold n5 at hk;split at hk
 · cases hk
 · rename_i p hp;exact hT.qn f p hp args ext r ext' dL hk
 · rename_i F hF;obtain ⟨fn,B,xy,ud,vM⟩:=hT.code f F hF;unfold QN at vM;split at vM
   · rename_i c uy;split at vM
     · rename_i mc k' rs Ju nT;simp only [aa] at vM;subst vM;refine ⟨⟨fn,xy,ud,by rw [uy];rfl⟩,?_⟩
       intro w A E hJ sd hv hm;have EY:u9 P w A E fn.ntmps ⟨uW args,nq ext,1⟩ { tmps:=hJ.toArray++iR (fn.ntmps-hJ.toArray.size) undef,defers:=[] }:=by
        have hle:S0.le (· < 1):=A4 (au 1);refine ⟨⟨fun i=>?_,sd⟩,hm.mono hle,au 1,rfl,?_⟩
        · have h1:=(ZW hv i).frame (Fr.same w A E hle);have h2:(hJ.toArray++iR (fn.ntmps-hJ.toArray.size) undef).getD i undef=hJ.getD i undef:=by
           by_cases hi:i<hJ.length
           · simp only [fV];rw [Array.getElem?_append_left (by simpa using hi)]
             simp [hi,nh]
           · simp only [fV];rw [Array.getElem?_append_right (by simpa using hi)]
             have:hJ.getD i undef=undef:=by simp [nh,bK (kZ hi)]
             rw [this,Array.getElem?_replicate];split<;>rfl
          rw [h2];exact h1
        · simp only [Array.size_append,List.size_toArray,Array.size_replicate];omega
       refine calls_of_wp xy uy ?_;have main:∀ (e:Ex) (σ:St),(e=.normal∨e=.ret)→run Φ n mc ⟨uW args,nq ext,1⟩=some (e,σ)→xW ⟨mc,rs,B.DW⟩ ext.length σ=some (r,ext',dL) →
        c.wp P (bodyPost P fn fun e w'=>∃ v,e=.returned v∧∃ A' E' nx',MR w' A' E' (kg ext' dL) nx'∧gJ w A E S0 w' A' E'∧bT w' A' E' nx' r v) { tmps:=hJ.toArray++iR (fn.ntmps-hJ.toArray.size) undef,defers:=[] } w:=by
        intro e σ he hr hf;refine hc B fn.ntmps c 0 mc k' Ju _ σ e hr _ _ w A E EY ?_;intro a' w' A' E' k1 g1;obtain ⟨v,AL,A2,E2,NL,q1,q2,q3⟩:=ZV k1 (F:=⟨mc,rs,B.DW⟩) nT hf
        have:k1.df=k1.df:=rfl
        rcases he with rfl | rfl
        · exact ⟨k1.df,v,AL,v,rfl,A2,E2,NL,q1,g1.trans q2 (dv.le_refl _),q3⟩
        · exact ⟨k1.df,v,AL,v,rfl,A2,E2,NL,q1,g1.trans q2 (dv.le_refl _),q3⟩
       split at hk
       · rename_i σ hr;exact main _ σ (.inl rfl) hr hk
       · rename_i σ hr;exact main _ σ (.inr rfl) hr hk
       · cases hk
     · cases vM
   · cases vM
theorem NM (hT:oY P Φ):∀ n,NJ P Φ n:=by
 intro n
 induction n using lQ with
 | _ n ih=>exact C7e hT.mix n ih (fun m hm=>ZX hT m (ih m hm))
theorem ZY (hT:oY P Φ) (n:Nat):A0 P (n5 Φ (run Φ n)):=ZX hT n (NM hT n)
end
end Go.Mid
