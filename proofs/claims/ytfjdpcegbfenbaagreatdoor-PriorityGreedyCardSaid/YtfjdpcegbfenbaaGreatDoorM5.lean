/- What an operation touches: it depends on these roots alone, and leaves the others as they are. -/
import Derived.Test.YtfjdpcegbfenbaaGreatDoorM4
set_option linter.unusedSimpArgs false
set_option linter.unusedVariables false
open Array renaming getElem?_setIfInBounds_ne → dM, getElem?_eq_none → hZ, getElem?_eq_some_iff → c6, replicate → iq, getD_eq_getD_getElem? → fN
open Bool renaming false_eq_true → aI, not_eq_true → fZ, and_eq_true → aj, not_eq_true' → ec, or_eq_true → cr
open Go.Region renaming binds → eu, before → gG, ready → pV
open Go.Result renaming andThen_ok → aV
open Go.Sem renaming run_bind → bn, run_pure → bL
open List renaming mem_append → ay, mem_cons → aE, mem_singleton → aX, getElem?_eq_some_iff → aF, mem_of_getElem? → bG, map_cons → aD, append_nil → bD, mem_flatMap → gT, map_congr_left → eK, mem_map → bj, getElem?_map → aH, map_nil → cl, nodup_cons → bV, range → bA, mem_filter → cf, mem_range → cA, pairwise_cons → bN, filter_eq_self → jv, length_cons → ba, range' → mD, getElem?_cons_zero → bP, getElem?_cons_succ → bJ, all_eq_true → bB, mapM_cons → l7, getElem?_eq_none → bI, getD → m6
open Nat renaming ne_of_lt → pU, le_of_not_lt → kO, strongRecOn → lF, add_zero → dF, zero_add → bR, le_refl → ar
open Ne renaming symm → dw
open Option renaming map_some → ak, getD_some → bK, bind_some → ai, bind_none → m5
open Option.some renaming injEq → aa, inj → b9
open Prod.mk renaming injEq → ae
namespace Go.Mid
def cV (X:List Nat) (h k:cj):Prop:=∀ i,mw i ∈ X→k i=h i
def glue (X:List Nat) (h k:cj):cj:=fun i=>if mw i ∈ X then h i else k i
theorem cV.refl (X:List Nat) (h:cj):cV X h h:=fun _ _=>rfl
theorem tt {X:List Nat} {h k:cj} (ha:cV X h k):glue X h k=k:=by
 funext i; unfold glue; split
 · rename_i hi; exact (ha i hi).symm
 · rfl
theorem za {X:List Nat} {h k:cj} {i:Nat} {o:Option (Obj Nat)} (hi:mw i ∈ X):glue X (cz h i o) k=cz (glue X h k) i o:=by
 funext j;by_cases e:j=i
 · subst e; simp [glue,cz,hi]
 · simp [glue,cz,e]
theorem cV.cz {X:List Nat} {h k:cj} (ha:cV X h k) (i:Nat) (o:Option (Obj Nat)):cV X (Mid.cz h i o) (Mid.cz k i o):=by
 intro j hj;by_cases e:j=i
 · subst e; simp [Mid.cz]
 · simp [Mid.cz,e,ha j hj]
theorem cV.glue {X:List Nat} (h k:cj):cV X h (glue X h k):=fun i hi=>by simp [Mid.glue,hi]
def ox (X:List Nat) (h h':cj):Prop:=∀ i,mw i ∉ X→h' i=h i
theorem ox.refl (X:List Nat) (h:cj):ox X h h:=fun _ _=>rfl
theorem ox.trans {X:List Nat} {h h' HW:cj} (a:ox X h h') (b:ox X h' HW):ox X h HW:=fun i hi=>(b i hi).trans (a i hi)
theorem ox.cz {X:List Nat} {h h':cj} (a:ox X h h') {i:Nat} (hi:mw i ∈ X) (o:Option (Obj Nat)):ox X h (Mid.cz h' i o):=by
 intro j hj
 have:j ≠ i:=fun e=>hj (e ▸ hi)
 simp [Mid.cz,this,a j hj]
def p5 (X:List Nat) (v:MV):Prop:=∀ i ∈ jZ v,mw i ∈ X
def fL (X:List Nat) (l:List MV):Prop:=∀ i ∈ mu l,mw i ∈ X
theorem fL.cons {X:List Nat} {x:MV} {r:List MV}:fL X (x::r)↔p5 X x∧fL X r:=by
 simp only [fL,p5,mu,ay];exact ⟨fun h=>⟨fun i hi=>h i (.inl hi),fun i hi=>h i (.inr hi)⟩,fun h i hi=>hi.elim (h.1 i) (h.2 i)⟩
theorem fL.mem {X:List Nat} {l:List MV} (h:fL X l) {v:MV} (hv:v ∈ l):p5 X v:=by
 induction l with
 | nil=>cases hv
 | cons x r ih =>
   rcases aE.1 hv with rfl | hv
   · exact (fL.cons.1 h).1
   · exact ih (fL.cons.1 h).2 hv
section
variable {X:List Nat} {h k:cj}
mutual
theorem Q8 (ha:cV X h k):∀ {v:MV},p5 X v→mq k v=mq h v
 | .p _,_=>rfl
 | .nil _,_=>rfl
 | .own id path off len g,hr=>by simp only [mq,ha id (hr id (by simp [jZ]))]
 | .ptr id np rp g o,hr=>by simp only [mq,ha id (hr id (by simp [jZ]))]
 | .fy id path g,hr=>by simp only [mq,ha id (hr id (by simp [jZ]))]
 | .agg l,hr=>by simp only [mq,IY ha (v:=l) (by simpa only [p5,fL,jZ] using hr)]
 | .fn f l,hr=>by simp only [mq,IY ha (v:=l) (by simpa only [p5,fL,jZ] using hr)]
 | .eJ _,_=>rfl
 | .dead _,_=>rfl
theorem IY (ha:cV X h k):∀ {v:List MV},fL X v→rz k v=rz h v
 | [],_=>rfl
 | x::r,hr=>by
   have:=fL.cons.1 hr
   simp only [rz,Q8 ha this.1,IY ha this.2]
end
end
mutual
theorem IZ {X:List Nat} {γ:Nat}:∀ {v:MV} {h k h':cj} {t:T Nat},cV X h k→p5 X v→oW γ h v=some (t,h')→oW γ k v=some (t,glue X h' k)∧ox X h h'
 | .p _,h,k,h',t,ha,hr,he=>by
   simp only [oW,aa,ae] at he ⊢;obtain ⟨rfl,rfl⟩:=he;exact ⟨⟨rfl,(tt ha).symm⟩,ox.refl _ _⟩
 | .nil _,h,k,h',t,ha,hr,he=>by
   simp only [oW,aa,ae] at he ⊢;obtain ⟨rfl,rfl⟩:=he;exact ⟨⟨rfl,(tt ha).symm⟩,ox.refl _ _⟩
 | .own id path off len g,h,k,h',t,ha,hr,he=>by
   have gq:mw id ∈ X:=hr id (by simp [jZ])
   simp only [oW] at he ⊢;rw [ha id gq];have fin:∀ {o},h'=cz h id o→cz k id o=glue X h' k∧ox X h h':=by
    rintro o rfl;exact ⟨by rw [za gq,tt ha],(ox.refl X h).cz gq o⟩
   split at he
   · rename_i uD z l hh;split at he
     · rename_i hc;rw [if_pos hc];simp only [aa,ae] at he ⊢;obtain ⟨rfl,rfl⟩:=he;exact ⟨⟨rfl,(fin rfl).1⟩,(fin rfl).2⟩
     · cases he
   · rename_i ng;split at he
     · rename_i uD z l n hs;split at he
       · rename_i hc;split at he
         · rename_i o' eR;simp only [aa,ae] at he;obtain ⟨rfl,rfl⟩:=he;refine ⟨?_,(fin rfl).2⟩;rw [if_pos hc,(fin rfl).1]
         · cases he
       · cases he
     · cases he
 | .fy id path g,h,k,h',t,ha,hr,he=>by
   have gq:mw id ∈ X:=hr id (by simp [jZ])
   simp only [oW] at he ⊢;rw [ha id gq];split at he
   · rename_i uD ks vs hh;split at he
     · rename_i hc;rw [if_pos hc];simp only [aa,ae] at he ⊢;obtain ⟨rfl,rfl⟩:=he;exact ⟨⟨rfl,by rw [za gq,tt ha]⟩,(ox.refl X h).cz gq _⟩
     · cases he
   · cases he
 | .agg l,h,k,h',t,ha,hr,he=>by
   simp only [oW] at he ⊢;split at he
   · rename_i ts h1 hi;simp only [aa,ae] at he;obtain ⟨rfl,rfl⟩:=he;obtain ⟨h2,h3⟩:=Gv ha (by simpa only [p5,fL,jZ] using hr) hi
     rw [h2];exact ⟨rfl,h3⟩
   · cases he
 | .ptr ..,h,k,h',t,ha,hr,he=>by
   simp only [oW,aa,ae] at he ⊢;obtain ⟨rfl,rfl⟩:=he;exact ⟨⟨rfl,(tt ha).symm⟩,ox.refl _ _⟩
 | .fn ..,h,k,h',t,ha,hr,he=>by
   simp only [oW,aa,ae] at he ⊢;obtain ⟨rfl,rfl⟩:=he;exact ⟨⟨rfl,(tt ha).symm⟩,ox.refl _ _⟩
 | .eJ _,h,k,h',t,ha,hr,he=>by simp only [oW,reduceCtorEq] at he
 | .dead _,h,k,h',t,ha,hr,he=>by simp only [oW,reduceCtorEq] at he
theorem Gv {X:List Nat} {γ:Nat}:∀ {v:List MV} {h k h':cj} {t:List (T Nat)},cV X h k→fL X v→tC γ h v=some (t,h')→tC γ k v=some (t,glue X h' k)∧ox X h h'
 | [],h,k,h',t,ha,hr,he=>by
   simp only [tC,aa,ae] at he ⊢;obtain ⟨rfl,rfl⟩:=he;exact ⟨⟨rfl,(tt ha).symm⟩,ox.refl _ _⟩
 | x::r,h,k,h',t,ha,hr,he=>by
   have hr:=fL.cons.1 hr;simp only [tC] at he ⊢;split at he
   · rename_i t1 h1 h2;split at he
     · rename_i ts h3 h4;simp only [aa,ae] at he;obtain ⟨rfl,rfl⟩:=he;obtain ⟨q1,q2⟩:=IZ ha hr.1 h2;obtain ⟨q3,q4⟩:=Gv (k:=glue X h1 k) (cV.glue h1 k) hr.2 h4;rw [q1];simp only [q3];refine ⟨?_,q2.trans q4⟩;congr 2;funext i;unfold glue;split
       · rfl
       · rename_i hi; simp [hi]
     · cases he
   · cases he
end
def Loc (X:List Nat) (h h':cj) (f:cj→Option (MV×cj)) (v:MV):Prop:=ox X h h'∧∀ k,cV X h k→f k=some (v,glue X h' k)
theorem Loc.read {X:List Nat} {h:cj} {f:cj→Option (MV×cj)} {v:MV} (hf:∀ k,cV X h k→f k=some (v,k)):Loc X h h f v :=
 ⟨ox.refl _ _,fun k ha=>by rw [hf k ha,tt ha]⟩
theorem uP {X:List Nat} {h k h':cj} {d:Option Nat} {o:Obj Nat} (hd:∀ x,d=some x→mw x ∈ X) (he:mS d h o=some h'):mS d (glue X h k) o=some (glue X h' k)∧ox X h h':=by
 cases d with
 | none=>simp [mS] at he
 | some d =>
   simp only [mS,aa] at he ⊢;subst he;exact ⟨(za (hd d rfl)).symm,(ox.refl X h).cz (hd d rfl) _⟩
end Go.Mid
namespace Go.Mid
theorem EB {h:cj} {l:List Nat} {i:Nat} (hi:i ∈ l):i ∈ jd h l:=Q5.2 (ay.2 (.inl hi))
section
variable {K:jl} {γ:Nat} {d:Option Nat} {s:gD} {X:List Nat} {h h':cj} {v:MV}
theorem X0 (K:jl) (γ:Nat) (d:Option Nat) (s:gD) {op:si} (hi:idle op=true) (h:cj):∃ f:Option MV,∀ (γ':Nat) (k:cj),b7 K γ' d s k op=f.map fun v=>(v,k):=by
 refine ⟨(b7 K γ d s h op).map (·.1),fun γ' k=>?_⟩
 cases op <;> simp only [idle,aI] at hi <;> simp only [b7] <;> (repeat' split) <;> (try rfl) <;> simp_all
theorem Q9 {id g z off:Nat} {path:List Nat} {vs:List PV} {h1:cj} (gq:mw id ∈ X) (he:qb h id path g z off vs=some h1):ox X h h1∧∀ k,cV X h k→qb k id path g z off vs=some (glue X h1 k):=by
 have hex:∃ o,h1=cz h id o∧∀ k,k id=h id→qb k id path g z off vs=some (cz k id o):=by
  unfold qb at he;split at he
  · rename_i hv;split at he
    · rename_i a z' l hh;split at he
      · rename_i hc;simp only [aa] at he;refine ⟨_,he.symm,fun k hk=>?_⟩
        unfold qb;rw [if_pos hv,hk,hh];simp only [if_pos hc]
      · cases he
    · rename_i ng;split at he
      · rename_i a z' l n hs;split at he
        · rename_i hc;split at he
          · rename_i o' hp;simp only [aa] at he;refine ⟨_,he.symm,fun k hk=>?_⟩
            unfold qb;rw [if_pos hv,hk];split
            · rename_i hh; exact (ng _ _ _ hh rfl).elim
            · simp only [hs,if_pos hc,hp]
          · cases he
        · cases he
      · cases he
  · cases he
 obtain ⟨o,rfl,hk⟩:=hex;exact ⟨(ox.refl X h).cz gq o,fun k ha=>by rw [hk k (ha id gq),za gq,tt ha]⟩
theorem I0 {y:MV} {k:cj} (ha:cV X h k) (hr:p5 X y):elems k y=elems h y:=by
 cases y <;> try rfl
 · rename_i v; cases v <;> rfl
 · rename_i id path off len g;simp only [elems,ha id (hr id (by simp [jZ]))]
theorem C1A {y:MV} {ts:List (T Nat)} {h1:cj} (hr:p5 X y) (he:rP h y=some (ts,h1)):ox X h h1∧∀ k,cV X h k→rP k y=some (ts,glue X h1 k):=by
 unfold rP at he;split at he
 · cases he
 · rename_i Qa gZ;split at he
   · rename_i hp;simp only [aa,ae] at he;obtain ⟨rfl,rfl⟩:=he;refine ⟨ox.refl _ _,fun k ha=>?_⟩
     unfold rP;rw [I0 ha hr,gZ];simp only [if_pos hp,tt ha]
   · rename_i hp;split at he
     · rename_i id len g;have gq:mw id ∈ X:=hr id (by simp [jZ])
       split at he
       · rename_i g1 z1 l hh;split at he
         · rename_i hc;simp only [aa,ae] at he;obtain ⟨rfl,rfl⟩:=he;refine ⟨(ox.refl X h).cz gq _,fun k ha=>?_⟩
           unfold rP;rw [I0 ha hr,gZ];simp only [if_neg hp,ha id gq,hh,if_pos hc,za gq,tt ha]
         · cases he
       · cases he
     · cases he
theorem C6i {op:si} (eZ:∀ md f args,op ≠ .call md f args) (hd:∀ x,d=some x→mw x ∈ X) (hr:fL X ((fv op).map (cJ s))) (he:b7 K γ d s h op=some (v,h')):Loc X h h' (fun k=>b7 K γ d s k op) v:=by
 by_cases hi:idle op=true
 · obtain ⟨f,hf⟩:=X0 K γ d s hi h;rw [hf] at he;cases f with
   | none=>cases he
   | some u =>
     simp only [ak,aa,ae] at he;obtain ⟨rfl,rfl⟩:=he;exact Loc.read fun k _=>by rw [hf]; rfl
 · cases op <;> simp only [idle,Bool.true_eq_false,not_true_eq_false,not_false_eq_true] at hi
   case nilv z =>
    simp only [b7] at he ⊢;split at he
    · rename_i h1 ho;simp only [aa,ae] at he;obtain ⟨rfl,rfl⟩:=he;refine ⟨(uP (k:=h) hd ho).2,fun k ha=>?_⟩
      have:=(uP (k:=k) hd ho).1
      rw [tt ha] at this;simp only [this]
    · cases he
   case box x =>
    have qf:p5 X (cJ s x):=hr.mem (by simp [fv])
    simp only [b7] at he ⊢;split at he
    · rename_i t h1 hi;split at he
      · rename_i h2 ho;simp only [aa,ae] at he;obtain ⟨rfl,rfl⟩:=he;refine ⟨(IZ (cV.refl X h) qf hi).2.trans (uP (k:=h) hd ho).2,fun k ha=>?_⟩
        simp only [(IZ ha qf hi).1,(uP (k:=k) hd ho).1]
      · cases he
    · cases he
   case bsl mt z parts =>
    have qf:fL X (parts.map (cJ s)):=by simpa [fv] using hr
    simp only [b7] at he ⊢;split at he
    · rename_i kL;split at he
      · rename_i vs fR;simp only [aa,ae] at he;obtain ⟨rfl,rfl⟩:=he;exact Loc.read fun k _=>by rw [if_pos kL]
      · rename_i fR;split at he
        · rename_i ts h1 hi;split at he
          · rename_i eY;split at he
            · rename_i h2 ho;simp only [aa,ae] at he;obtain ⟨rfl,rfl⟩:=he;refine ⟨(Gv (cV.refl X h) qf hi).2.trans (uP (k:=h) hd ho).2,fun k ha=>?_⟩
              simp only [if_pos kL,(Gv ha qf hi).1,if_pos eY,(uP (k:=k) hd ho).1]
            · cases he
          · cases he
        · cases he
    · cases he
   case bslp z parts =>
    have qf:fL X (parts.map (cJ s)):=by simpa [fv] using hr
    simp only [b7] at he ⊢;split at he
    · rename_i kL;split at he
      · rename_i ts h1 hi;split at he
        · rename_i eY;split at he
          · rename_i h2 ho;split at he
            · rename_i u hu;simp only [aa,ae] at he;obtain ⟨rfl,rfl⟩:=he;have gq:mw (d.getD 0) ∈ X:=by
               cases d with
               | none=>simp [mS] at ho
               | some x=>exact hd x rfl
              have q2:p5 X (.own (d.getD 0) [] 0 ts.length γ):=fun i hi=>by
               simp only [jZ,aX] at hi;subst hi;exact gq
              have lz:ox X h h2:=(Gv (cV.refl X h) qf hi).2.trans (uP (k:=h) hd ho).2;refine ⟨lz.cz gq _,fun k ha=>?_⟩
              have nD:mq (glue X h2 k) (.own (d.getD 0) [] 0 ts.length γ)=some u:=by rw [Q8 (cV.glue h2 k) q2,hu]
              simp only [if_pos kL,(Gv ha qf hi).1,if_pos eY,(uP (k:=k) hd ho).1,nD,za gq]
            · cases he
          · cases he
        · cases he
      · cases he
    · cases he
   case load agg n x =>
    have qf:p5 X (cJ s x):=hr.mem (by simp [fv])
    simp only [b7] at he ⊢;split at he
    · rename_i u hu;simp only [aa,ae] at he;obtain ⟨rfl,rfl⟩:=he;refine Loc.read fun k ha=>?_
      have:tG k agg n (cJ s x)=tG h agg n (cJ s x):=by
       cases hx:cJ s x with
       | ptr id np rp g o=>simp only [tG,ha id (qf id (by rw [hx]; simp [jZ]))]
       | p v=>cases v <;> rfl
       | _=>rfl
      rw [this,hu]
    · cases he
   case store n a x =>
    have hra:p5 X (cJ s a):=hr.mem (by simp [fv])
    have qf:p5 X (cJ s x):=hr.mem (by simp [fv])
    simp only [b7,FZ] at he ⊢;split at he
    · rename_i id np rp g0 o0 hp;have gq:mw id ∈ X:=hra id (by rw [hp]; simp [jZ])
      have pG:∀ {u:MV} {h2:cj},yw γ h n id (ru np rp) (cJ s x)=some (u,h2)→ox X h h2∧∀ k,cV X h k→yw γ k n id (ru np rp) (cJ s x)=some (u,glue X h2 k):=by
       intro u h2 hn;unfold yw at hn;split at hn
       · rename_i t h1 hi;split at hn
         · rename_i eY;split at hn
           · rename_i o' eR;simp only [aa,ae] at hn;obtain ⟨rfl,rfl⟩:=hn;refine ⟨(IZ (cV.refl X h) qf hi).2.cz gq _,fun k ha=>?_⟩
             unfold yw;have e:glue X h1 k id=h1 id:=by simp [glue,gq]
             simp only [(IZ ha qf hi).1,if_pos eY,e,eR,za gq]
           · cases hn
         · cases hn
       · cases hn
      split at he
      · rename_i old s' o1 hl;split at he
        · rename_i hc;split at he
          · rename_i uH qU off len g' a' z l n' hx;split at he
            · rename_i oP;split at he
              · rename_i o' eR;simp only [aa,ae] at he;obtain ⟨rfl,rfl⟩:=he;refine ⟨(ox.refl X h).cz gq _,fun k ha=>?_⟩
                simp only [hp,hx,ha id gq,hl,if_pos hc,if_pos oP,eR,za gq,tt ha]
              · cases he
            · rename_i oP;obtain ⟨q1,q2⟩:=pG he;refine ⟨q1,fun k ha=>?_⟩
              simp only [hp,ha id gq,hl,if_pos hc,if_neg oP,q2 k ha];rw [hx];simp only [if_neg oP]
          · rename_i ng;obtain ⟨q1,q2⟩:=pG he;refine ⟨q1,fun k ha=>?_⟩
            simp only [hp,ha id gq,hl,if_pos hc];exact q2 k ha
        · cases he
      · cases he
    · cases he
   case mksl z bytes zero l c =>
    simp only [b7] at he ⊢;split at he
    · split at he
      · split at he
        · rename_i hc;split at he
          · rename_i h1 ho;simp only [aa,ae] at he;obtain ⟨rfl,rfl⟩:=he;refine ⟨(uP (k:=h) hd ho).2,fun k ha=>?_⟩
            have:=(uP (k:=k) hd ho).1
            rw [tt ha] at this;simp only [if_pos hc,this]
          · cases he
        · cases he
      · cases he
    · cases he
   case slice z x lo hj =>
    have qf:p5 X (cJ s x):=hr.mem (by simp [fv])
    simp only [b7] at he ⊢;split at he
    · rename_i u hu;simp only [aa,ae] at he;obtain ⟨rfl,rfl⟩:=he;refine Loc.read fun k ha=>?_
      have:Ah k z (cJ s x) (lo.map (cJ s)) (hj.map (cJ s))=Ah h z (cJ s x) (lo.map (cJ s)) (hj.map (cJ s)):=by
       cases hx:cJ s x with
       | own id path off len g=>simp only [Ah,ha id (qf id (by rw [hx]; simp [jZ]))]
       | p v=>cases v <;> rfl
       | _=>rfl
      rw [this,hu]
    · cases he
   case clr z zero x =>
    have qf:p5 X (cJ s x):=hr.mem (by simp [fv])
    simp only [b7] at he ⊢;split at he
    · rename_i hx;simp only [aa,ae] at he;obtain ⟨rfl,rfl⟩:=he;exact Loc.read fun k _=>rfl
    · rename_i hx;simp only [aa,ae] at he;obtain ⟨rfl,rfl⟩:=he;exact Loc.read fun k _=>rfl
    · rename_i id path off len g0 hx;split at he
      · rename_i h1 ho;split at he
        · rename_i hc;simp only [aa,ae] at he;obtain ⟨rfl,rfl⟩:=he;obtain ⟨q1,q2⟩:=Q9 (X:=X) (qf id (by rw [hx]; simp [jZ])) ho
          refine ⟨q1,fun k ha=>?_⟩
          simp only [q2 k ha,if_pos hc]
        · cases he
      · cases he
    · cases he
   case iaddr z x i =>
    have qf:p5 X (cJ s x):=hr.mem (by simp [fv])
    simp only [b7] at he ⊢;split at he
    · rename_i u hu;simp only [aa,ae] at he;obtain ⟨rfl,rfl⟩:=he;refine Loc.read fun k ha=>?_
      have:Ai k z (cJ s x) (cJ s i)=Ai h z (cJ s x) (cJ s i):=by
       cases hx:cJ s x with
       | own id path off len g=>simp only [Ai,ha id (qf id (by rw [hx]; simp [jZ]))]
       | p v=>cases v <;> rfl
       | _=>rfl
      rw [this,hu]
    · cases he
   case call md f args=>exact absurd rfl (eZ md f args)
   case app pz z bytes x y =>
    have qf:p5 X (cJ s x):=hr.mem (by simp [fv])
    have Gw:p5 X (cJ s y):=hr.mem (by simp [fv])
    have BQ:∀ {u:MV} {h2:cj},rB γ d h z bytes (cJ s x) (cJ s y)=some (u,h2)→(ox X h h2∧p5 X u)∧∀ k,cV X h k→rB γ d k z bytes (cJ s x) (cJ s y)=some (u,glue X h2 k):=by
     intro u h2 ho;unfold rB at ho;split at ho
     · cases ho
     · rename_i ts h1 BE;obtain ⟨q1,q2⟩:=C1A Gw BE;split at ho
       · cases ho
       · rename_i eY;split at ho
         · rename_i zz hx;split at ho
           · rename_i fS;split at ho
             · rename_i h3 sR;simp only [aa,ae] at ho;obtain ⟨rfl,rfl⟩:=ho;have Ra:p5 X (.own (d.getD 0) [] 0 ts.length γ):=by
                intro i hi;simp only [jZ,aX] at hi;subst hi;cases d with
                | none=>simp [mS] at sR
                | some x=>exact hd x rfl
               refine ⟨⟨q1.trans (uP (k:=h1) hd sR).2,Ra⟩,fun k ha=>?_⟩
               unfold rB;simp only [q2 k ha,eY,aI,if_false,hx,if_pos fS,(uP (k:=k) hd sR).1]
             · cases ho
           · cases ho
         · rename_i id path off len g0 hx;have gq:mw id ∈ X:=qf id (by rw [hx]; simp [jZ])
           have xG:∀ k,glue X h1 k id=h1 id:=fun k=>by simp [glue,gq]
           split at ho
           · rename_i lz;split at ho
             · rename_i g1 z1 l hh;unfold DM at ho;split at ho
               · rename_i hc;simp only [aa,ae] at ho;obtain ⟨rfl,rfl⟩:=ho;refine ⟨⟨q1.cz gq _,fun i hi=>by simp only [jZ,aX] at hi; subst hi; exact gq⟩,fun k ha=>?_⟩
                 unfold rB;simp only [q2 k ha,eY,aI,if_false,hx,if_pos lz,xG k,hh,DM,if_pos hc,za gq]
               · cases ho
             · rename_i ng;unfold Ag at ho;split at ho
               · rename_i g1 z1 l n hs;split at ho
                 · rename_i hc;split at ho
                   · rename_i o' eR;split at ho
                     · rename_i h3 sR;simp only [aa,ae] at ho;obtain ⟨rfl,rfl⟩:=ho;have Ra:p5 X (.own (d.getD 0) [] 0 (len + ts.length) γ):=by
                        intro i hi;simp only [jZ,aX] at hi;subst hi;cases d with
                        | none=>simp [mS] at sR
                        | some x=>exact hd x rfl
                       refine ⟨⟨(q1.cz gq _).trans (uP (k:=h1) hd sR).2,Ra⟩,fun k ha=>?_⟩
                       have I1:=(uP (k:=k) hd sR).1;rw [za gq] at I1;unfold rB;simp only [q2 k ha,eY,aI,if_false,hx,if_pos lz,xG k];unfold Ag;simp only [xG k,hs,if_pos hc,eR,I1]
                     · cases ho
                   · cases ho
                 · cases ho
               · cases ho
           · cases ho
         · cases ho
    simp only [b7] at he ⊢;split at he
    · rename_i id IA len g1 h1 ho;obtain ⟨⟨q1,q2⟩,q3⟩:=BQ ho;have gq:mw id ∈ X:=q2 id (by simp [jZ])
      split at he
      · rename_i IF;split at he
        · rename_i u hu;simp only [aa,ae] at he;obtain ⟨rfl,rfl⟩:=he;refine ⟨q1.cz gq _,fun k ha=>?_⟩
          have nD:mq (glue X h1 k) (.own id [] IA len g1)=some u:=by rw [Q8 (cV.glue h1 k) q2,hu]
          simp only [q3 k ha,if_pos IF,nD,za gq]
        · cases he
      · rename_i IF;simp only [aa,ae] at he;obtain ⟨rfl,rfl⟩:=he;refine ⟨q1,fun k ha=>?_⟩
        simp only [q3 k ha,if_neg IF]
    · cases he
   case cpy z x y =>
    have qf:p5 X (cJ s x):=hr.mem (by simp [fv])
    have Gw:p5 X (cJ s y):=hr.mem (by simp [fv])
    simp only [b7,FY] at he ⊢;split at he
    · cases he
    · rename_i ts gZ;split at he
      · cases he
      · rename_i vs fR;split at he
        · rename_i eY;split at he
          · rename_i zz hx;simp only [aa,ae] at he;obtain ⟨rfl,rfl⟩:=he;refine Loc.read fun k ha=>?_
            simp only [I0 ha Gw,gZ,fR,if_pos eY]
          · rename_i id path off len g hx;split at he
            · rename_i h1 ho;simp only [aa,ae] at he;obtain ⟨rfl,rfl⟩:=he;obtain ⟨q1,q2⟩:=Q9 (X:=X) (qf id (by rw [hx]; simp [jZ])) ho
              refine ⟨q1,fun k ha=>?_⟩
              simp only [I0 ha Gw,gZ,fR,if_pos eY,q2 k ha]
            · cases he
          · cases he
        · cases he
   case appn z bytes zero x n =>
    simp only [b7] at he ⊢;split at he
    · split at he
      · split at he
        · rename_i hc;split at he
          · rename_i h1 ho;simp only [aa,ae] at he;obtain ⟨rfl,rfl⟩:=he;refine ⟨(uP (k:=h) hd ho).2,fun k ha=>?_⟩
            have:=(uP (k:=k) hd ho).1
            rw [tt ha] at this;simp only [if_pos hc,this]
          · cases he
        · cases he
      · cases he
    · cases he
   case appk z x y =>
    have qf:p5 X (cJ s x):=hr.mem (by simp [fv])
    have Gw:p5 X (cJ s y):=hr.mem (by simp [fv])
    simp only [b7] at he ⊢;split at he
    · cases he
    · rename_i ts gZ;split at he
      · cases he
      · rename_i vs fR;split at he
        · rename_i eY;split at he
          · rename_i id path off len g hx;split at he
            · rename_i h1 ho;simp only [aa,ae] at he;obtain ⟨rfl,rfl⟩:=he;obtain ⟨q1,q2⟩:=Q9 (X:=X) (qf id (by rw [hx]; simp [jZ])) ho
              refine ⟨q1,fun k ha=>?_⟩
              simp only [I0 ha Gw,gZ,fR,if_pos eY,q2 k ha]
            · cases he
          · cases he
        · cases he
   case sliceK z x lo hj =>
    have qf:p5 X (cJ s x):=hr.mem (by simp [fv])
    simp only [b7] at he ⊢;split at he
    · rename_i id path off len g hx;split at he
      · rename_i g' z' l' hv;split at he
        · rename_i hc;split at he
          · rename_i b hb;split at he
            · rename_i c tn;simp only [aa,ae] at he;obtain ⟨rfl,rfl⟩:=he;refine Loc.read fun k ha=>?_
              simp only [ha id (qf id (by rw [hx]; simp [jZ])),hv,if_pos hc,hb,tn]
            · cases he
          · cases he
        · cases he
      · cases he
    · cases he
   all_goals simp only [b7,reduceCtorEq] at he
end
end Go.Mid
namespace Go.Mid
section
variable {h k:cj} {ρ:Nat→Option Nat} {ζ:Nat→Nat}
mutual
theorem Rb (ha:∀ i j,ρ i=some j→k i=h i):∀ (v:MV),jT k ρ ζ v=jT h ρ ζ v
 | .p _=>rfl
 | .nil _=>rfl
 | .own id path off len g=>by
   simp only [jT];cases hr:ρ id with
   | none=>rfl
   | some j =>
     have:uC k id path g=uC h id path g:=by unfold uC; rw [ha id j hr]
     simp only [this]
 | .ptr id np rp g o=>by
   simp only [jT];cases hr:ρ id with
   | none=>rfl
   | some j =>
     have:xD k id np rp g o=xD h id np rp g o:=by unfold xD; rw [ha id j hr]
     simp only [this]
 | .fy id path g=>by
   simp only [jT];cases hr:ρ id with
   | none=>rfl
   | some j =>
     have:DI k id path g=DI h id path g:=by unfold DI; rw [ha id j hr]
     simp only [this]
 | .agg l=>by simp only [jT,I2 ha l]
 | .fn _ l=>by simp only [jT,I2 ha l]
 | .eJ l=>by simp only [jT,I2 ha l]
 | .dead _=>rfl
theorem I2 (ha:∀ i j,ρ i=some j→k i=h i):∀ (l:List MV),sm k ρ ζ l=sm h ρ ζ l
 | []=>rfl
 | x::r=>by simp only [sm,Rb ha x,I2 ha r]
end
end
section
variable {hr h k:cj} {ρ:Nat→Nat}
mutual
theorem Re (ha:∀ i o,hr i=some o→k (ρ i)=h (ρ i)):∀ (v:MV),na hr k ρ v=na hr h ρ v
 | .p _=>rfl
 | .nil _=>rfl
 | .own id path off len g=>by
   cases ho:hr id with
   | none =>
     have:uC hr id path g=false:=by
      unfold uC; rw [ho];have e:jo (none:Option (Obj Nat)) path=none:=by cases path <;> rfl
      rw [e]
     simp only [na,this,aI,if_false]
   | some o=>simp only [na,ha id o ho]
 | .ptr id np rp g o=>by
   cases ho:hr id with
   | none =>
     have:xD hr id np rp g o=false:=by
      unfold xD; rw [ho];have e:look (none:Option (Obj Nat)) np rp=none:=by
       cases np with
       | none=>rfl
       | some p=>simp only [look]; cases p <;> rfl
      rw [e]
     simp only [na,this,aI,if_false]
   | some o=>simp only [na,ha id o ho]
 | .fy id path g=>by
   cases ho:hr id with
   | none =>
     have:DI hr id path g=false:=by
      unfold DI; rw [ho];have e:Pz (none:Option (Obj Nat)) path=none:=by cases path <;> rfl
      rw [e]
     simp only [na,this,aI,if_false]
   | some o=>simp only [na,ha id o ho]
 | .agg l=>by simp only [na,MH ha l]
 | .fn _ l=>by simp only [na,MH ha l]
 | .eJ l=>by simp only [na,MH ha l]
 | .dead _=>rfl
theorem MH (ha:∀ i o,hr i=some o→k (ρ i)=h (ρ i)):∀ (l:List MV),tD hr k ρ l=tD hr h ρ l
 | []=>rfl
 | x::r=>by simp only [tD,Re ha x,MH ha r]
end
end
section
variable {X:List Nat} {h k:cj}
theorem MI {l:List Nat} (ha:cV X h k) (hl:∀ i ∈ l,mw i ∈ X):jd k l=jd h l:=by
 unfold jd;congr 2
 induction l with
 | nil=>rfl
 | cons x r ih=>simp only [List.flatMap_cons,ha x (hl x (by simp)),ih (fun i hi=>hl i (by simp [hi]))]
theorem C6j {l:List Nat} (ha:cV X h k) (hl:∀ i ∈ l,mw i ∈ X):sn k l=sn h l:=by
 induction l with
 | nil=>rfl
 | cons x r ih=>simp only [sn,ha x (hl x (by simp)),ih (fun i hi=>hl i (by simp [hi]))]
theorem X1 {γ:Nat} {d:Option Nat} {ids:List Nat} {r v:MV} {ext dG:List (Obj Nat)} {h':cj} (hd:∀ x,d=some x→mw x ∈ X) (hn:ids.Nodup) (BP:∀ i ∈ ids,mw i ∈ X) (ht:yu γ d h ids r ext dG=some (v,h')) :
 Loc X h h' (fun k=>yu γ d k ids r ext dG) v:=by
 unfold yu at ht
 dsimp only at ht
 split at ht
 · cases ht
 · rename_i zb;have dS:=zb;simp only [not_or,ne_eq,Decidable.not_not,fZ,Nat.not_lt] at dS;obtain ⟨hl,BR,lB,kM,hex⟩:=dS;simp only [aa,ae] at ht;obtain ⟨rfl,rfl⟩:=ht;have jB:∀ i j,mR (j6 d dG.length) ids i=some j→mw i ∈ X:=by
    intro i j hs;rcases MD hs with ⟨m,hm,_⟩ | ⟨_,m,hm,_⟩
    · have eF:=(aF.1 hm).1;simp only [j6,List.length_map,List.length_range] at eF;rw [XD d _ m eF] at hm;have hi:=b9 hm;cases d with
      | none =>
        exfalso;refine BR ⟨fun e=>?_,rfl⟩
        rw [e] at eF; exact absurd eF (by simp)
      | some x =>
        have hx:=hd x rfl;simp only [bK,xG] at hi hex;subst hi;have e:mw (x + 1000 * (m + 1))=mw x:=by
         unfold mw;rw [if_pos (by omega),if_pos (by omega)]
         omega
        rw [e]; exact hx
    · exact BP i (bG hm)
   refine ⟨fun i hi=>?_,fun k ha=>?_⟩
   · cases hs:mR (j6 d dG.length) ids i with
     | none=>simp only [hs]
     | some j=>exact (hi (jB i j hs)).elim
   · unfold yu
     dsimp only
     rw [if_neg zb];have hm:∀ i j,mR (j6 d dG.length) ids i=some j→qL γ k i j=qL γ h i j:=by
      intro i j hs;unfold qL;rw [ha i (jB i j hs)]
     have MG:∀ i o,j0 ext dG i=some o→(match mR (j6 d dG.length) ids (pX (d.getD 0) ids i) with | some j=>(j0 ext dG j).map (qL γ k (pX (d.getD 0) ids i) j) | none=>k (pX (d.getD 0) ids i)) =
      (match mR (j6 d dG.length) ids (pX (d.getD 0) ids i) with | some j=>(j0 ext dG j).map (qL γ h (pX (d.getD 0) ids i) j) | none=>h (pX (d.getD 0) ids i)):=by
      intro i o ho
      have:=XL (d:=d) hl hn lB kM ho
      rw [this];simp only [hm _ _ this]
     have hφ:na (j0 ext dG) (fun i=>match mR (j6 d dG.length) ids i with | some j=>(j0 ext dG j).map (qL γ k i j) | none=>k i) (pX (d.getD 0) ids) =
      na (j0 ext dG) (fun i=>match mR (j6 d dG.length) ids i with | some j=>(j0 ext dG j).map (qL γ h i j) | none=>h i) (pX (d.getD 0) ids):=by
      funext v;exact Re MG v
     refine congrArg some (Prod.ext (Re MG r) ?_);funext i;unfold glue;cases hs:mR (j6 d dG.length) ids i with
     | some j =>
       simp only [jB i j hs,if_true,hm i j hs,hs];exact congrArg (fun φ=>Option.map (fun o=>kF φ (fun a=>a) (qL γ h i j o)) (j0 ext dG j)) hφ
     | none =>
       simp only [hs];split
       · rename_i hi; exact ha i hi
       · rfl
theorem C9T {K:jl} {γ:Nat} {d:Option Nat} {s:gD} {v:MV} {h':cj} {md:Nat} {f:dI} {args:List dI} (hd:∀ x,d=some x→mw x ∈ X)
 (hr:∀ i ∈ jd h (jd h (mu ((fv (.call md f args)).map (cJ s)))),mw i ∈ X) (he:b7 K γ d s h (.call md f args)=some (v,h')):Loc X h h' (fun k=>b7 K γ d s k (.call md f args)) v:=by
 simp only [b7] at he ⊢;split at he
 · rename_i g al hcal;have dJ:∀ i ∈ mu al,i ∈ mu ((fv (.call md f args)).map (cJ s)):=by
    intro i hi;have BQ:∀ l m:List MV,mu (l++m)=mu l++mu m:=by
     intro l m
     induction l with
     | nil=>rfl
     | cons x r ih=>simp only [List.cons_append,mu,ih,List.append_assoc]
    have eY:∀ (f0:Nat) (cs:List MV),callee (cJ s f)=some (f0,cs)→∀ i ∈ mu cs,i ∈ jZ (cJ s f):=by
     intro f0 cs hcal i hi;unfold callee at hcal;split at hcal
     · cases hcal;exfalso
       have:∀ l:List PV,mu (l.map .p)=[]:=by
        intro l
        induction l with
        | nil=>rfl
        | cons x r ih=>simp only [aD,mu,jZ,ih,bD]
       rw [this] at hi; cases hi
     · cases hcal;rename_i heq;rw [heq];simpa only [jZ] using hi
     · cases hcal
    simp only [fv,aD,mu];unfold DK at hcal;split at hcal
    · rename_i f0 cs rG;split at hcal <;> (simp only [aa,ae] at hcal; obtain ⟨rfl,rfl⟩:=hcal)
      · rw [BQ] at hi;rcases ay.1 hi with hi | hi
        · exact ay.2 (.inr hi)
        · exact ay.2 (.inl (eY _ _ rG i hi))
      · rw [BQ] at hi;rcases ay.1 hi with hi | hi
        · exact ay.2 (.inl (eY _ _ rG i hi))
        · exact ay.2 (.inr hi)
    · cases hcal
   have CZ:∀ (l m:List Nat),(∀ i ∈ l,i ∈ m)→∀ i ∈ jd h l,i ∈ jd h m:=by
    intro l m X2 i hi;unfold jd at hi ⊢;rw [Q5] at hi ⊢;rcases ay.1 hi with hi | hi
    · exact ay.2 (.inl (X2 i hi))
    · obtain ⟨j,hj,gL⟩:=gT.1 hi;exact ay.2 (.inr (gT.2 ⟨j,X2 j hj,gL⟩))
   have h2:∀ i ∈ jd h (jd h (mu al)),mw i ∈ X:=fun i hi=>hr i (CZ _ _ (CZ _ _ dJ) i hi)
   have h1:∀ i ∈ jd h (mu al),mw i ∈ X:=fun i hi=>h2 i (EB hi)
   have h0:fL X al:=fun i hi=>h1 i (EB hi)
   split at he
   · unfold yr at he;split at he
     · rename_i vs fR;split at he
       · rename_i u fr qo;split at he
         · rename_i hc;simp only [aa,ae] at he;obtain ⟨rfl,rfl⟩:=he;refine Loc.read fun k ha=>?_
           try simp only
           unfold yr;rw [IY ha h0,fR];simp only [qo,if_pos hc]
         · cases he
       · cases he
     · cases he
   · unfold Bd at he
     dsimp only at he
     split at he
     · cases he
     · rename_i qa sx;split at he
       · cases he
       · rename_i r ext dG hk;obtain ⟨q1,q2⟩:=X1 hd (Q6 _) h2 he;refine ⟨q1,fun k ha=>?_⟩
         try simp only
         unfold Bd
         dsimp only
         have e1:jd k (mu al)=jd h (mu al):=MI ha h0;have e2:jd k (jd h (mu al))=jd h (jd h (mu al)):=MI ha h1;have DX:∀ i j,tF (jd h (jd h (mu al))) i=some j→k i=h i:=by
          intro i j gL;unfold tF at gL;cases hi:oX (jd h (jd h (mu al))) i with
          | none=>simp [hi] at gL
          | some m=>exact ha i (h2 i (bG (Eu hi)))
         have e3:jT k (tF (jd h (jd h (mu al)))) (fun _=>0)=jT h (tF (jd h (jd h (mu al)))) (fun _=>0):=by
          funext v; exact Rb DX v
         rw [e1,e2,C6j ha h2,sx];simp only [e3,I2 DX,hk];exact q2 k ha
   · unfold Ad at he;split at he
     · rename_i vs fR;split at he
       · rename_i r dG hk;split at he
         · rename_i hc;obtain ⟨q1,q2⟩:=X1 (X:=X) hd List.nodup_nil (by simp) he
           refine ⟨q1,fun k ha=>?_⟩
           try simp only
           unfold Ad;rw [IY ha h0,fR];simp only [hk,if_pos hc];exact q2 k ha
         · cases he
       · cases he
     · cases he
 · cases he
end
end Go.Mid
namespace Go.Mid
section
variable {K:jl} {g:Nat} {d:Option Nat} {s s2:gD} {h h':cj} {v:MV}
theorem X3 {op:si} (hs:∀ x ∈ fv op,cJ s2 x=cJ s x):b7 K g d s2 h op=b7 K g d s h op:=by
 have hl:∀ l:List dI,(∀ x ∈ l,cJ s2 x=cJ s x)→l.map (cJ s2)=l.map (cJ s):=fun l hl=>eK hl
 cases op with
 | build zs l=>simp only [b7,hl l (by simpa [fv] using hs)]
 | bsl mt z l=>simp only [b7,hl l (by simpa [fv] using hs)]
 | bslp z l=>simp only [b7,hl l (by simpa [fv] using hs)]
 | sH f l=>simp only [b7,hl l (by simpa [fv] using hs)]
 | mx l=>simp only [b7,hl l (by simpa [fv] using hs)]
 | mn l=>simp only [b7,hl l (by simpa [fv] using hs)]
 | call md f l=>simp only [b7,hs f (by simp [fv]),hl l (fun x hx=>hs x (by simp [fv,hx]))]
 | slice z x lo hi =>
   have h1:lo.map (cJ s2)=lo.map (cJ s):=by
    cases lo with
    | none=>rfl
    | some y=>simp only [ak,hs y (by simp [fv])]
   have h2:hi.map (cJ s2)=hi.map (cJ s):=by
    cases hi with
    | none=>rfl
    | some y=>simp only [ak,hs y (by simp [fv])]
   simp only [b7,hs x (by simp [fv]),h1,h2]
 | nj x lo hi =>
   have h1:lo.map (cJ s2)=lo.map (cJ s):=by
    cases lo with
    | none=>rfl
    | some y=>simp only [ak,hs y (by simp [fv])]
   have h2:hi.map (cJ s2)=hi.map (cJ s):=by
    cases hi with
    | none=>rfl
    | some y=>simp only [ak,hs y (by simp [fv])]
   simp only [b7,hs x (by simp [fv]),h1,h2]
 | nilv z=>rfl
 | tx=>rfl
 | bad=>rfl
 | pick c x y=>simp only [b7,hs c (by simp [fv]),hs x (by simp [fv]),hs y (by simp [fv])]
 | yl m k v=>rfl
 | sj z o m k=>rfl
 | ym m k=>rfl
 | store n x y=>simp only [b7,hs x (by simp [fv]),hs y (by simp [fv])]
 | bin b op x y=>simp only [b7,hs x (by simp [fv]),hs y (by simp [fv])]
 | eqs n t x y=>simp only [b7,hs x (by simp [fv]),hs y (by simp [fv])]
 | mksl z b zv x y=>simp only [b7,hs x (by simp [fv]),hs y (by simp [fv])]
 | iaddr z x y=>simp only [b7,hs x (by simp [fv]),hs y (by simp [fv])]
 | nk n z x y=>simp only [b7,hs x (by simp [fv]),hs y (by simp [fv])]
 | idx a z n x y=>simp only [b7,hs x (by simp [fv]),hs y (by simp [fv])]
 | sK x y=>simp only [b7,hs x (by simp [fv]),hs y (by simp [fv])]
 | app p z b x y=>simp only [b7,hs x (by simp [fv]),hs y (by simp [fv])]
 | cpy z x y=>simp only [b7,hs x (by simp [fv]),hs y (by simp [fv])]
 | move x=>simp only [b7,hs x (by simp [fv])]
 | box x=>simp only [b7,hs x (by simp [fv])]
 | load a n x=>simp only [b7,hs x (by simp [fv])]
 | nilc x=>simp only [b7,hs x (by simp [fv])]
 | isnil f n x=>simp only [b7,hs x (by simp [fv])]
 | not x=>simp only [b7,hs x (by simp [fv])]
 | neg x=>simp only [b7,hs x (by simp [fv])]
 | inv x=>simp only [b7,hs x (by simp [fv])]
 | convI k x=>simp only [b7,hs x (by simp [fv])]
 | convS x=>simp only [b7,hs x (by simp [fv])]
 | convR x=>simp only [b7,hs x (by simp [fv])]
 | cut0 z x=>simp only [b7,hs x (by simp [fv])]
 | clr z zv x=>simp only [b7,hs x (by simp [fv])]
 | faddr x i o=>simp only [b7,hs x (by simp [fv])]
 | fld a n o x i=>simp only [b7,hs x (by simp [fv])]
 | ext x i=>simp only [b7,hs x (by simp [fv])]
 | len x=>simp only [b7,hs x (by simp [fv])]
 | lenS x=>simp only [b7,hs x (by simp [fv])]
 | appn z b zv x n=>simp only [b7,hs x (by simp [fv]),hs n (by simp [fv])]
 | appk z x y=>simp only [b7,hs x (by simp [fv]),hs y (by simp [fv])]
 | Bb n z x=>simp only [b7,hs x (by simp [fv])]
 | sliceK z x lo hi=>simp only [b7,hs x (by simp [fv]),hs lo (by simp [fv]),hs hi (by simp [fv])]
 | slice3 x a b c=>simp only [b7,hs x (by simp [fv]),hs a (by simp [fv]),hs b (by simp [fv]),hs c (by simp [fv])]
 | capn x=>simp only [b7,hs x (by simp [fv])]
end
theorem Rf {x y:Ins} (h:F0 x y=true):(∀ d,x.dst=some d→d ∉ tL y)∧(∀ d,x.dst=some d→y.dst ≠ some d)∧(∀ d,y.dst=some d→d ∉ tL x):=by
 refine ⟨fun d hd=>?_,fun d hd=>?_,fun d hd=>?_⟩ <;> simp [F0,hd] at h
 · exact h.1.1
 · exact h.1.2
 · exact h.2
def gF (l:List Nat) (s t:gD):Prop:=∀ i ∈ l,t i=s i
theorem gF.eO {l:List Nat} {s:gD} {d:Option Nat} (h:∀ x,d=some x→x ∉ l) (v:MV):gF l s (eO s d v):=by
 intro i hi;cases d with
 | none=>rfl
 | some x =>
   have:i ≠ x:=fun e=>h x rfl (e ▸ hi)
   simp [Mid.eO,cz,this]
section
variable {K:jl} {g:Nat} {s t:gD} {h k:cj} {i:Ins}
theorem MJ (hs:gF (tL i) s t):tH t i.guard=tH s i.guard:=by
 cases hg:i.guard with
 | none=>rfl
 | some gb =>
   obtain ⟨x,b⟩:=gb
   have:=hs x (by simp [tL,hg])
   simp only [tH,this]
theorem I3 (hs:gF (tL i) s t):∀ x ∈ fv i.op,cJ t x=cJ s x:=by
 intro x hx;cases x with
 | t n=>exact hs n (ay.2 (.inl (gT.2 ⟨.t n,hx,by simp [VW]⟩)))
 | c v=>rfl
 | f n=>rfl
theorem MK (hs:gF (tL i) s t):lv t k i=lv s k i:=by
 unfold lv;rw [MJ hs,eK (I3 hs)]
theorem X4 (ha:cV (lv s h i) h k):lv s k i=lv s h i:=by
 unfold lv at ha ⊢;cases hw:tH s i.guard with
 | none=>rfl
 | some b =>
   cases b with
   | false=>rfl
   | true =>
     simp only [hw] at ha;have h2:∀ x ∈ jd h (jd h (mu ((fv i.op).map (cJ s)))),mw x ∈ (i.dst.toList++jd h (jd h (mu ((fv i.op).map (cJ s))))).map mw:=fun x hx=>bj.2 ⟨x,by simp [hx],rfl⟩
     have h1:∀ x ∈ jd h (mu ((fv i.op).map (cJ s))),mw x ∈ (i.dst.toList++jd h (jd h (mu ((fv i.op).map (cJ s))))).map mw:=fun x hx=>h2 x (EB hx)
     simp only [MI ha (fun x hx=>h1 x (EB hx)),MI ha h1]
theorem I4 {s1:gD} {h1:cj} (he:ow K g i s h=some (s1,h1)):∃ v,s1=eO s i.dst v∧ox (lv s h i) h h1 ∧
 (∀ t k,gF (tL i) s t→cV (lv s h i) h k→ow K g i t k=some (eO t i.dst v,glue (lv s h i) h1 k)) ∧
 (idle i.op=true→h1=h∧∀ t k,gF (tL i) s t→ow K g i t k=some (eO t i.dst v,k))∧(tK i.op=true→h1=h):=by
 unfold ow at he;split at he
 · rename_i hw;split at he
   · rename_i v h' hv;simp only [aa,ae] at he;obtain ⟨rfl,rfl⟩:=he;have hX:lv s h i=(i.dst.toList++jd h (jd h (mu ((fv i.op).map (cJ s))))).map mw:=by unfold lv; rw [hw]
     have hd:∀ x,i.dst=some x→mw x ∈ lv s h i:=fun x hx=>by rw [hX,hx]; exact bj.2 ⟨x,by simp,rfl⟩
     have hr:∀ x ∈ jd h (jd h (mu ((fv i.op).map (cJ s)))),mw x ∈ lv s h i:=fun x hx=>by rw [hX]; exact bj.2 ⟨x,by simp [hx],rfl⟩
     have jA:Loc (lv s h i) h h' (fun k=>b7 K g i.dst s k i.op) v:=by
      by_cases hc:∃ md f args,i.op=.call md f args
      · obtain ⟨md,f,args,eZ⟩:=hc;rw [eZ] at hv hr ⊢;exact C9T hd hr hv
      · refine C6i (fun md f args e=>hc ⟨md,f,args,e⟩) hd (fun x hx=>hr x (EB (EB hx))) hv
     refine ⟨v,rfl,jA.1,fun t k hs ha=>?_,fun hi=>?_,fun EC=>?_⟩
     · unfold ow;rw [MJ hs,hw];simp only [X3 (I3 hs),jA.2 k ha]
     · obtain ⟨f,hf⟩:=X0 K g i.dst s hi h;rw [hf] at hv;cases f with
       | none=>cases hv
       | some u =>
         simp only [ak,aa,ae] at hv;obtain ⟨rfl,rfl⟩:=hv;refine ⟨rfl,fun t k hs=>?_⟩
         unfold ow;rw [MJ hs,hw];simp only [X3 (I3 hs),hf,ak]
     · generalize i.op=op at hv EC;cases op <;> simp only [tK,aI] at EC
       · simp only [b7] at hv;split at hv <;> simp only [aa,ae,reduceCtorEq] at hv;exact hv.2.symm
       · simp only [b7] at hv;split at hv <;> simp only [aa,ae,reduceCtorEq] at hv;exact hv.2.symm
       · simp only [b7] at hv;split at hv <;> simp only [aa,ae,reduceCtorEq] at hv;exact hv.2.symm
       · rename_i md f args;have hmd:md=0:=by
          cases md with
          | zero=>rfl
          | succ n=>simp [tK] at EC
         subst hmd;simp only [b7,yr] at hv;split at hv
         · split at hv
           · split at hv
             · split at hv <;> simp only [aa,ae,reduceCtorEq] at hv;exact hv.2.symm
             · cases hv
           · cases hv
         · cases hv
       · simp only [b7] at hv
         (repeat' split at hv) <;> first | (simp only [aa,ae] at hv; exact hv.2.symm) | cases hv
       · simp only [b7,reduceCtorEq] at hv
   · cases he
 · rename_i hw;simp only [aa,ae] at he;obtain ⟨rfl,rfl⟩:=he;have hst:∀ t k,gF (tL i) s t→ow K g i t k=some (eO t i.dst (.eJ []),k):=by
    intro t k hs;unfold ow;rw [MJ hs,hw]
   have hX:lv s h i=[]:=by unfold lv; rw [hw]
   refine ⟨.eJ [],rfl,ox.refl _ _,fun t k hs ha=>?_,fun _=>⟨rfl,hst⟩,fun _=>rfl⟩
   rw [hst t k hs,tt ha]
 · cases he
theorem X5 {s:gD} {d e:Option Nat} {u v:MV} (h:∀ x,d=some x→e ≠ some x):eO (eO s d u) e v=eO (eO s e v) d u:=by
 cases d with
 | none=>cases e <;> rfl
 | some x =>
   cases e with
   | none=>rfl
   | some y =>
     have vq:x ≠ y:=fun e=>h x rfl (by rw [e])
     funext i;simp only [eO,cz];by_cases h1:i=y
     · subst h1;simp [dw vq]
     · simp [h1]
theorem C74 {gi gj:Nat} {i j:Ins} {s1 s2:gD} {h1 h2:cj} (hj:ow K gj j s h=some (s1,h1)) (hi:ow K gi i s1 h1=some (s2,h2)) (xR:F0 j i=true)
 (hc:idle j.op=true∨idle i.op=true∨(tK j.op=true∧tK i.op=true)∨∀ x ∈ lv s h j,x ∉ lv s1 h1 i) :
 ∃ s3 h3,ow K gi i s h=some (s3,h3)∧ow K gj j s3 h3=some (s2,h2)∧(idle i.op=true∨lv s h i=lv s1 h1 i)∧(idle j.op=true∨lv s3 h3 j=lv s h j):=by
 obtain ⟨a1,a2,a3⟩:=Rf xR;obtain ⟨vj,rfl,oj,lj,ij,rj⟩:=I4 hj;obtain ⟨vi,rfl,oi,li,ii,ri⟩:=I4 hi;have sI:gF (tL i) (eO s j.dst vj) s:=fun x hx=>(gF.eO (s:=s) a1 vj x hx).symm
 have sI':gF (tL i) s (eO s j.dst vj):=gF.eO a1 vj;have sJ:∀ v,gF (tL j) s (eO s i.dst v):=fun v=>gF.eO a3 v
 have wv:eO (eO s i.dst vi) j.dst vj=eO (eO s j.dst vj) i.dst vi:=(X5 a2).symm;have fI:∀ k,lv s k i=lv (eO s j.dst vj) k i:=fun k=>(MK sI').symm
 have fJ:∀ k v,lv (eO s i.dst v) k j=lv s k j:=fun k v=>MK (sJ v)
 by_cases Rg:idle j.op=true
 · obtain ⟨rfl,ij2⟩:=ij Rg;have hst:=li s h1 sI (cV.refl _ _);have hg:glue (lv (eO s j.dst vj) h1 i) h2 h1=h2:=by
    funext x; unfold glue; split
    · rfl
    · rename_i hx; exact (oi x hx).symm
   rw [hg] at hst;refine ⟨eO s i.dst vi,h2,hst,?_,.inr (fI h1),.inl Rg⟩;rw [ij2 _ h2 (sJ vi),wv]
 · by_cases Rh:idle i.op=true
   · obtain ⟨rfl,ii2⟩:=ii Rh;refine ⟨eO s i.dst vi,h,ii2 s h sI,?_,.inl Rh,.inr (fJ h vi)⟩;rw [lj _ h (sJ vi) (cV.refl _ _),wv];congr 2;funext x; unfold glue; split
     · rfl
     · rename_i hx; exact (oj x hx).symm
   · rcases hc with hc | hc | hc | hc
     · exact absurd hc Rg
     · exact absurd hc Rh
     · have e1:=rj hc.1;subst e1;have e2:=ri hc.2;subst e2;have h3:=li s h2 sI (cV.refl _ _);rw [tt (cV.refl _ _)] at h3;have h4:=lj (eO s i.dst vi) h2 (sJ vi) (cV.refl _ _);rw [tt (cV.refl _ _)] at h4;exact ⟨_,_,h3,by rw [h4,wv],.inr (fI h2),.inr (fJ h2 vi)⟩
     · -- I5
       have X6:cV (lv (eO s j.dst vj) h1 i) h1 h:=fun x hx=>(oj x (fun H6=>hc _ H6 hx)).symm
       have h3:=li s h sI X6;have fi:lv s h i=lv (eO s j.dst vj) h1 i:=by
        rw [fI h];exact X4 X6
       have X7:cV (lv s h j) h (glue (lv (eO s j.dst vj) h1 i) h2 h):=by
        intro x hx;unfold glue;rw [if_neg (hc _ hx)]
       have h4:=lj (eO s i.dst vi) _ (sJ vi) X7;refine ⟨_,_,h3,?_,.inr fi,.inr ?_⟩
       · rw [h4,wv];congr 2;funext x;unfold glue;by_cases hx:mw x ∈ lv s h j
         · rw [if_pos hx];exact (oi x (hc _ hx)).symm
         · rw [if_neg hx];split
           · rfl
           · rename_i hx2;rw [oi x hx2,oj x hx]
       · rw [fJ];exact X4 X7
end
theorem ML {s t:gD} {i:Ins} (hs:gF (tL i) s t):vY t i=vY s i:=by
 unfold vY;cases hg:i.guard with
 | some g=>rfl
 | none =>
   have he:∀ x ∈ fv i.op,cJ t x=cJ s x:=I3 hs;simp only;cases ho:i.op with
   | load a n x=>simp only [Cw,he x (by rw [ho]; simp [fv])]
   | app p z b x y =>
     cases p with
     | true=>rfl
     | false=>simp only [Cw,he x (by rw [ho]; simp [fv]),he y (by rw [ho]; simp [fv])]
   | _=>rfl
theorem Ri {h:cj} {l:List Nat} {q:Nat}:q ∈ jd h l↔q ∈ l∨∃ p,p ∈ l∧q ∈ yo (h p):=by
 unfold jd;rw [Q5,ay,gT]
theorem MM (x:Nat):∀ (m:List (T Nat)) (j:Nat) (u:T Nat),(x ∈ tg u→x ∈ oN m)→x ∈ oN (m.set j u)→x ∈ oN m
 | [],_,_,_,h=>by simpa using h
 | b::r,0,u,hu,h=>by
   simp only [List.set_cons_zero,oN,ay] at h ⊢;rcases h with h | h
   · have:=hu h
     simpa only [oN,ay] using this
   · exact .inr h
 | b::r,j + 1,u,hu,h=>by
   simp only [List.set_cons_succ,oN,ay] at h ⊢;rcases h with h | h
   · exact .inl h
   · by_cases hx:x ∈ tg u
     · have:=hu hx
       simpa only [oN,ay] using this
     · exact .inr (MM x r j u (fun q=>absurd q hx) h)
theorem C75 {a:Nat} {tr:T Nat} {i j:Nat} {o':Obj Nat} {g z n:Nat} {l:List (T Nat)} (hs:ef (some (.cell a tr)) [j]=some (.vec g z l n)) (hp:put (some (.cell a tr)) [j] (.hole 1)=some o') (gL:i ≠ j) :
 look (some o') none [i]=look (some (.cell a tr)) none [i]∧∀ x ∈ yo (some o'),x ∈ yo (some (.cell a tr)):=by
 rw [Bt] at hs;have ig:(c7 tr [j] (.hole 1)).map (Obj.cell a)=some o':=by
  simp only [put] at hp;cases hq:c7 tr [j] (.hole 1) with
  | none=>rw [hq] at hp; cases hp
  | some t'=>rw [hq] at hp; exact hp
 cases hq:c7 tr [j] (.hole 1) with
 | none=>rw [hq] at ig; cases ig
 | some t' =>
   rw [hq] at ig;simp only [ak,aa] at ig;subst ig;cases tr with
   | agg m =>
     simp only [cU] at hs;simp only [c7] at hq;cases hm:m[j]? with
     | none=>rw [hm] at hs; cases hs
     | some u =>
       rw [hm] at hs hq;simp only [aa] at hs hq;subst hs;subst hq;have ng:jY (m.set j (T.hole (α:=Nat) 1))=.agg (m.set j (.hole 1)):=by
        rcases Bp (m.set j (T.hole (α:=Nat) 1)) with e | ⟨vs,e1,e⟩
        · exact e
        · exfalso;have h2:(m.set j (T.hole (α:=Nat) 1))[j]?=some (.hole 1):=by
           rw [List.getElem?_set_self (aF.1 hm).1]
          rw [e1,aH] at h2;cases hv:vs[j]? with
          | none=>rw [hv] at h2; cases h2
          | some v=>rw [hv] at h2; cases h2
       rw [ng];constructor
       · simp only [look,lP];rw [List.getElem?_set_ne (dw gL)];have eY:T.da ((m.set j (T.hole (α:=Nat) 1)).take i)=T.da (m.take i):=Mc hm rfl;cases m[i]? with
         | none=>rfl
         | some q=>simp only [eY]
       · intro x hx;simp only [yo,tg] at hx ⊢;exact MM x m j (.hole 1) (fun q=>by simp [tg] at q) hx
   | vec a' z' m n' =>
     simp only [cU] at hs;simp only [c7] at hq;cases hm:m[j]? with
     | none=>rw [hm] at hs; cases hs
     | some u =>
       rw [hm] at hs hq;simp only [aa] at hs hq;subst hs;subst hq;refine ⟨rfl,fun x hx=>?_⟩
       simp only [yo,tg] at hx ⊢;exact MM x m j (.hole 1) (fun q=>by simp [tg] at q) hx
   | mp a' ks m =>
     simp only [cU] at hs;simp only [c7] at hq;cases hm:m[j]? with
     | none=>rw [hm] at hs; cases hs
     | some u =>
       rw [hm] at hs hq;simp only [aa] at hs hq;subst hs;subst hq;refine ⟨rfl,fun x hx=>?_⟩
       simp only [yo,tg] at hx ⊢;exact MM x m j (.hole 1) (fun q=>by simp [tg] at q) hx
   | p v =>
     cases v with
     | agg m =>
       simp only [cU] at hs;cases hm:m[j]? with
       | none=>rw [hm] at hs; cases hs
       | some u=>rw [hm] at hs; cases hs
     | _=>simp only [cU,reduceCtorEq] at hs
   | m v=>simp only [cU,reduceCtorEq] at hs
   | hole n'=>simp only [cU,reduceCtorEq] at hs
theorem D1N {K:jl} {ga gb:Nat} {x y:Ins} {s:gD} {h:cj} {s1 s2:gD} {h1 h2:cj} {F:List Nat} {pa pb:Option rC} (hx:ow K ga x s h=some (s1,h1)) (hy:ow K gb y s1 h1=some (s2,h2)) (xR:F0 x y=true)
 (qM:vY s x=pa) (uf:vY s1 y=pb) (I6:Cx F pa pb=true) (hF:∀ z ∈ lv s h x,z ∈ F) :
 ∃ s3 h3,ow K gb y s h=some (s3,h3)∧ow K ga x s3 h3=some (s2,h2)∧lv s h y=lv s1 h1 y∧(∀ z ∈ lv s3 h3 x,z ∈ lv s h x)∧vY s y=pb∧vY s3 x=pa:=by
 unfold Cx at I6;split at I6
 · rename_i id i k0 uH j d;simp only [aj,beq_iff_eq,bne_iff_ne,ec,List.contains_eq_mem,decide_eq_false_iff_not] at I6;obtain ⟨⟨rfl,gL⟩,hd⟩:=I6;obtain ⟨a1,a2,a3⟩:=Rf xR;obtain ⟨xa,xn,xo,g,o,Rj,BS,MN⟩:∃ (xa:Bool) (xn:Nat) (xo:dI) (g o:Nat),x.guard=none∧x.op=.load xa xn xo∧cJ s xo=.ptr id none [i] g o:=by
    unfold vY at qM;split at qM
    · rename_i hg;generalize eZ:x.op=op at qM;unfold Cw at qM;split at qM
      · rename_i xa xn xo;split at qM
        · rename_i id1 i1 g1 o1 he;simp only [aa,ae,true_and] at qM;obtain ⟨rfl,rfl,_⟩:=qM;exact ⟨xa,xn,xo,g1,o1,hg,rfl,he⟩
        · cases qM
      · split at qM
        · split at qM
          · simp at qM
          · cases qM
        · cases qM
      · cases qM
    · cases qM
   have ld:∀ (t:gD) (k:cj),ow K ga x t k=match tG k xa xn (cJ t xo) with | some v=>some (eO t x.dst v,k) | none=>none:=by
    intro t k;unfold ow;rw [Rj];simp only [tH];rw [BS];simp only [b7];cases tG k xa xn (cJ t xo) <;> rfl
   obtain ⟨v,hv,rfl,rfl⟩:∃ v,tG h xa xn (.ptr id none [i] g o)=some v∧s1=eO s x.dst v∧h1=h:=by
    rw [ld,MN] at hx;split at hx
    · rename_i v hv;simp only [aa,ae] at hx;exact ⟨v,hv,hx.1.symm,hx.2.symm⟩
    · cases hx
   obtain ⟨u,rfl,oy,ly,_,_⟩:=I4 hy;obtain ⟨yz,yb,yx,yy,off,len,g0,l,hyg,Rk,X8,hyy,hyd⟩:∃ (yz yb:Nat) (yx yy:dI) (off len g0:Nat) (l:List PV),y.guard=none∧y.op=.app false yz yb yx yy∧cJ (eO s x.dst v) yx=.own id [j] off len g0∧cJ (eO s x.dst v) yy=.p (.sl l)∧y.dst=some d:=by
    unfold vY at uf;split at uf
    · rename_i hg;generalize eZ:y.op=op at uf;unfold Cw at uf;split at uf
      · split at uf
        · simp at uf
        · cases uf
      · rename_i yz yb yx yy;split at uf
        · rename_i id1 j1 off len g0 he;split at uf
          · rename_i l d1 h1 h2;simp only [aa,ae,true_and] at uf;obtain ⟨rfl,rfl,rfl⟩:=uf;exact ⟨yz,yb,yx,yy,off,len,g0,l,hg,rfl,he,h1,h2⟩
          · cases uf
        · cases uf
      · cases uf
    · cases uf
   have sY:gF (tL y) (eO s x.dst v) s:=fun q hq=>(gF.eO (s:=s) a1 v q hq).symm
   have sX:gF (tL x) s (eO s y.dst u):=gF.eO a3 u;have h3:=ly s h1 sY (cV.refl _ _);have hg2:glue (lv (eO s x.dst v) h1 y) h2 h1=h2:=by
    funext q; unfold glue; split
    · rfl
    · rename_i hq; exact (oy q hq).symm
   rw [hg2] at h3;obtain ⟨ob,o',Rl,dJ,eR,ED⟩:∃ (ob:Obj Nat) (o':Obj Nat),h1 id=some ob∧(∃ g1 z1 l1 n1,ef (some ob) [j]=some (.vec g1 z1 l1 n1))∧put (some ob) [j] (.hole 1)=some o'∧∃ w,h2=cz (cz h1 id (some o')) d (some w):=by
    unfold ow at hy;rw [hyg] at hy;simp only [tH] at hy;rw [Rk] at hy;simp only [b7,X8,hyy] at hy;have BE:rP h1 (.p (.sl l))=some (l.map .p,h1):=by
     unfold rP elems
     have:(l.map (T.p (α:=Nat))).all tj=true:=by simp [tj]
     simp only [this,if_true]
    cases qg:rB gb y.dst h1 yz yb (.own id [j] off len g0) (.p (.sl l)) with
    | none=>rw [qg] at hy; cases hy
    | some r =>
      obtain ⟨r1,r2⟩:=r;have Gx:r2=h2:=by
       rw [qg] at hy
       try simp only at hy
       split at hy
       · rename_i vv hh heq;split at heq
         · simp only [aI,if_false,aa,ae] at heq hy;rename_i e3;simp only [aa,ae] at e3;rw [← e3.2] at heq;rw [← hy.2,← heq.2,e3.2]
         · cases heq
       · cases hy
      subst Gx;unfold rB at qg;rw [BE] at qg;simp only at qg;split at qg
      · cases qg
      · split at qg
        · rename_i lz;have p0:Ag gb y.dst h1 id [j] yz yb len g0 (l.map .p)=some (r1,r2):=by
           cases gq:h1 id with
           | none=>rw [gq] at qg; exact qg
           | some ob=>rw [gq] at qg; cases ob <;> exact qg
          unfold Ag at p0;split at p0
          · rename_i g1 z1 l1 n1 uM;split at p0
            · split at p0
              · rename_i o' eR;rw [hyd] at p0;simp only [mS] at p0;simp only [aa,ae] at p0;cases gq:h1 id with
                | none=>rw [gq] at uM; simp [ef] at uM
                | some ob =>
                  rw [gq] at uM eR;exact ⟨ob,o',rfl,⟨g1,z1,l1,n1,uM⟩,eR,_,p0.2.symm⟩
              · cases p0
            · cases p0
          · cases p0
        · cases qg
   obtain ⟨w,rfl⟩:=ED;have wy:lv s h1 x=(x.dst.toList++jd h1 (jd h1 [id])).map mw:=by
    unfold lv;rw [Rj];simp only [tH];rw [BS];simp only [fv,aD,cl,mu,MN,jZ,bD]
   have I7:∀ q ∈ jd h1 (jd h1 [id]),mw q ≠ mw d:=by
    intro q hq e;apply hd;rw [← e];apply hF;rw [wy];exact bj.2 ⟨q,by simp [hq],rfl⟩
   have EE:∀ {hh:cj} {ll:List Nat} {q:Nat},q ∈ ll→q ∈ jd hh ll:=fun hq=>EB hq
   have Rm:id ∈ jd h1 [id]:=EE (by simp)
   have I8:d ≠ id:=fun e=>I7 id (EE Rm) (by rw [e])
   have gQ:∃ ca ct,ob=.cell ca ct:=by
    simp only [tG,look,Rl] at hv;cases ob with
    | cell ca ct=>exact ⟨ca,ct,rfl⟩
    | _=>simp at hv
   obtain ⟨ca,ct,rfl⟩:=gQ;obtain ⟨g1,z1,l1,n1,dJ⟩:=dJ;obtain ⟨p1,p2⟩:=C75 dJ eR gL;have Rn:cz (cz h1 id (some o')) d (some w) id=some o':=by rw [nO _ _ (dw I8),nG]
   have zd:ow K ga x (eO s y.dst u) (cz (cz h1 id (some o')) d (some w))=some (eO (eO s y.dst u) x.dst v,cz (cz h1 id (some o')) d (some w)):=by
    have Ro:cJ (eO s y.dst u) xo=.ptr id none [i] g o:=by
     rw [← MN];exact I3 sX xo (by rw [BS]; simp [fv])
    have vk:tG (cz (cz h1 id (some o')) d (some w)) xa xn (.ptr id none [i] g o)=some v:=by
     rw [← hv];simp only [tG,Rl,Rn,p1]
    rw [ld,Ro,vk]
   refine ⟨eO s y.dst u,_,h3,?_,?_,?_,?_,?_⟩
   · rw [zd];rw [(X5 a2).symm]
   · exact (MK sY)
   · intro q hq;have Rp:lv (eO s y.dst u) (cz (cz h1 id (some o')) d (some w)) x=(x.dst.toList++jd (cz (cz h1 id (some o')) d (some w)) (jd (cz (cz h1 id (some o')) d (some w)) [id])).map mw:=by
      rw [MK sX];unfold lv;rw [Rj];simp only [tH];rw [BS];simp only [fv,aD,cl,mu,MN,jZ,bD]
     rw [Rp] at hq;rw [wy];obtain ⟨r,hr,rfl⟩:=bj.1 hq;refine bj.2 ⟨r,?_,rfl⟩;rcases ay.1 hr with hr | hr
     · exact ay.2 (.inl hr)
     · refine ay.2 (.inr ?_);have step:∀ (l1 l2:List Nat),(∀ q ∈ l1,q ∈ l2∧q ≠ d)→∀ q ∈ jd (cz (cz h1 id (some o')) d (some w)) l1,q ∈ jd h1 l2:=by
        intro l1 l2 hl q hq;rcases Ri.1 hq with hq | ⟨p,hp,hq⟩
        · exact Ri.2 (.inl (hl q hq).1)
        · refine Ri.2 (.inr ⟨p,(hl p hp).1,?_⟩);rw [nO _ _ (hl p hp).2] at hq;by_cases e:p=id
          · subst e;rw [nG] at hq;rw [Rl];exact p2 q hq
          · rw [nO _ _ e] at hq;exact hq
       have s1:=step [id] [id] (fun q hq=>by
        simp only [aX] at hq;subst hq;exact ⟨by simp,dw I8⟩)
       refine step _ _ (fun q hq=>⟨s1 q hq,fun e=>?_⟩) r hr
       exact I7 q (EE (s1 q hq)) (by rw [e])
   · rw [← uf]; exact (ML sY)
   · rw [← qM]; exact ML sX
 · cases I6
inductive oI (K:jl) (g0:Nat) (is:List Ins) (F:Nat→List Nat×Option rC):List Nat→gD→cj→gD→cj→Prop where
 | nil (s:gD) (h:cj):oI K g0 is F [] s h s h
 | cons {i:Nat} {ins:Ins} {r:List Nat} {s:gD} {h:cj} {s1:gD} {h1:cj} {s2:gD} {h2:cj} (hi:is[i]?=some ins) (hf:idle ins.op=true∨((∀ z ∈ lv s h ins,z ∈ (F i).1)∧vY s ins=(F i).2))
    (hst:ow K (g0 + i) ins s h=some (s1,h1)) (hr:oI K g0 is F r s1 h1 s2 h2):oI K g0 is F (i::r) s h s2 h2
def MO (is:List Ins) (F:Nat→List Nat×Option rC) (a b:Nat):Prop :=
 ∀ x y,is[a]?=some x→is[b]?=some y→F0 x y=true∧(idle x.op=true∨idle y.op=true∨(tK x.op=true∧tK y.op=true)∨(∀ z ∈ (F a).1,z ∉ (F b).1)∨Cx (F a).1 (F a).2 (F b).2=true)
theorem oI.swap {K:jl} {g0:Nat} {is:List Ins} {F:Nat→List Nat×Option rC} {a b:Nat} {r:List Nat} {s:gD} {h:cj} {s':gD} {h':cj} (hr:oI K g0 is F (a::b::r) s h s' h') (hi:MO is F a b):oI K g0 is F (b::a::r) s h s' h':=by
 cases hr with
 | cons hx wy I9 hr =>
   rename_i x s1 h1;cases hr with
   | cons hy C0 X9 hr =>
     rename_i y s2 h2;obtain ⟨xR,hc⟩:=hi x y hx hy;obtain ⟨a1,a2,a3⟩:=Rf xR;have main:(idle x.op=true∨idle y.op=true∨(tK x.op=true∧tK y.op=true)∨∀ z ∈ lv s h x,z ∉ lv s1 h1 y)→oI K g0 is F (b::a::r) s h s' h':=by
      intro w7;obtain ⟨s3,h3,k1,k2,k3,k4⟩:=C74 I9 X9 xR w7;obtain ⟨vx,e1,_⟩:=I4 I9;obtain ⟨vy,e3,_⟩:=I4 k1;refine .cons hy ?_ k1 (.cons hx ?_ k2 hr)
      · rcases k3 with k3 | k3
        · exact .inl k3
        · refine C0.imp id fun q=>⟨by rw [k3]; exact q.1,?_⟩
          rw [← q.2,e1];exact (ML (gF.eO a1 vx)).symm
      · rcases k4 with k4 | k4
        · exact .inl k4
        · refine wy.imp id fun q=>⟨by rw [k4]; exact q.1,?_⟩
          rw [← q.2,e3];exact ML (gF.eO a3 vy)
     rcases hc with hc | hc | hc | hc | hc
     · exact main (.inl hc)
     · exact main (.inr (.inl hc))
     · exact main (.inr (.inr (.inl hc)))
     · rcases wy with e | wy
       · exact main (.inl e)
       · rcases C0 with e | C0
         · exact main (.inr (.inl e))
         · exact main (.inr (.inr (.inr fun z hz CD=>hc z (wy.1 z hz) (C0.1 z CD))))
     · rcases wy with e | wy
       · exact main (.inl e)
       · rcases C0 with e | C0
         · exact main (.inr (.inl e))
         · obtain ⟨s3,h3,k1,k2,k3,k4,k5,k6⟩:=D1N I9 X9 xR wy.2 C0.2 hc wy.1;exact .cons hy (.inr ⟨by rw [k3]; exact C0.1,k5⟩) k1 (.cons hx (.inr ⟨fun z hz=>wy.1 z (k4 z hz),k6⟩) k2 hr)
theorem oI.front {K:jl} {g0:Nat} {is:List Ins} {F:Nat→List Nat×Option rC} {i:Nat} {post:List Nat}:∀ {pre:List Nat} {s:gD} {h:cj} {s':gD} {h':cj},oI K g0 is F (pre++i::post) s h s' h'→(∀ j ∈ pre,MO is F j i)→oI K g0 is F (i::pre++post) s h s' h'
 | [],s,h,s',h',hr,_=>hr
 | p::pre,s,h,s',h',hr,hp=>by
   cases hr with
   | cons hx wy I9 hr =>
     have h2:=oI.front hr (fun j hj=>hp j (by simp [hj]))
     exact oI.swap (.cons hx wy I9 h2) (hp p (by simp))
end Go.Mid
namespace Go.Mid
open Go.RowKit
section
variable {P:Program} {rS:rS} {nt:Nat}
theorem MP {ops:Array Oper}:∀ {l:List Oper} {is:List Ins},CB P rS nt ops l=some is→is.length=l.length∧∀ (i:Nat) (o:Oper),l[i]?=some o→∃ ins,is[i]?=some ins∧wX P rS nt ops o=some ins
 | [],is,h=>by simp only [CB,aa] at h; subst h; exact ⟨rfl,fun i o ho=>by simp at ho⟩
 | x::r,is,h=>by
   simp only [CB] at h;split at h
   · rename_i y ys h1 h2;cases h;obtain ⟨h3,h4⟩:=MP h2;refine ⟨by simp [h3],fun i o ho=>?_⟩
     cases i with
     | zero=>simp at ho; subst ho; exact ⟨y,rfl,h1⟩
     | succ i=>simpa using h4 i o (by simpa using ho)
   · cases h
variable {ops:Array Oper} {is:List Ins} {K:jl} {Q:Exit→Act→World→Prop}
theorem Ya {o:Oper} {ins:Ins} {i:Nat} {a:Act} {w:World} {A:Nat→Prop} {E:dL An} {S:di} {γ:Nat} {s s1:gD} {h h1:cj} (hK:AH P K) (ho:ops[i]?=some o) (nP:wX P rS nt ops o=some ins) (xV:nt ≤ a.tmps.size)
 (hs:pZ P w A E S s a) (hm:MR w A E h S) (hγ:¬ S γ) (he:ow K γ ins s h=some (s1,h1)) {next:Act→World→Prop}
 (hn:∀ a' w' A' E',pZ P w' A' E' (S.add γ) s1 a'→MR w' A' E' h1 (S.add γ)→gE w A E S w' A' E'→a'.defers=a.defers→a'.tmps.size=a.tmps.size→next a' w'):wpOp P ops Q i next a w:=by
 unfold wX at nP;split at nP
 · rename_i EF;have hd:∀ d,o.dst=some d→d < nt:=by
    intro d hd;unfold VY at EF;rw [hd] at EF;simpa using EF
   split at nP
   · rename_i g hg;simp only [aa] at nP;subst nP;have C1:∀ {w':World} {A':Nat→Prop} {E':dL An} {v:MV} {val:Value},MR w' A' E' h1 (S.add γ)→gE w A E S w' A' E'→bQ w' A' E' (S.add γ) v val→s1=eO s o.dst v→pZ P w' A' E' (S.add γ) s1 (a.put o.dst val):=by
      intro w' A' E' v val vt rE hv e;refine ⟨fun k=>?_,hs.gl.frame rE.sub (fun b hb=>rE.tN hm b hb)⟩
      subst e;have old:bQ w' A' E' (S.add γ) (s k) (a.tmps.getD k undef):=(hs.sl k).go hm rE (S.eH γ);cases hod:o.dst with
      | none=>exact old
      | some d =>
        simp only [eO,cz,Act.put];by_cases Rq:k=d
        · subst Rq;have eF:k < a.tmps.size:=Nat.lt_of_lt_of_le (hd k hod) xV;simp only [if_true]
          have:(a.tmps.setIfInBounds k val).getD k undef=val:=by simp [eF]
          rw [this]; exact hv
        · rw [if_neg Rq]
          have:(a.tmps.setIfInBounds d val).getD k undef=a.tmps.getD k undef:=by simp [dM (dw Rq)]
          rw [this]; exact old
     have pJ:∀ val,(a.put o.dst val).defers=a.defers∧(a.put o.dst val).tmps.size=a.tmps.size:=by
      intro val; cases o.dst <;> simp [Act.put]
     have hw:∀ b,tH s g=some b→Region.wanted o (yielded ops a.tmps)=b:=by
      intro b hb;unfold VX at hg;unfold Region.wanted;split at hg
      · rename_i Rr;cases hg;simp only [tH,aa] at hb;rw [Rr]; exact hb
      · rename_i j wb Rr;split at hg
        · rename_i t ht;cases hg;rw [Rr];simp only [tH] at hb;have Gc:(ops[j]?).bind (·.dst)=some t:=ht;have hst:=hs.sl t;split at hb
          · rename_i c hc;simp only [aa] at hb;rw [hc] at hst;have cE:=tO.1 hst
            have:a.tmps[t]?=some (.bool c):=by
             cases hq:a.tmps[t]? with
             | none=>simp [hq] at cE; exact absurd cE (by simp [undef])
             | some q=>simp [hq] at cE; rw [cE]
            simp only [yielded,Gc,ai,this];rw [← hb];cases c <;> cases wb <;> rfl
          · rename_i hc;simp only [aa] at hb;rw [hc] at hst;simp only [bQ] at hst;obtain ⟨vs,cE,fR⟩:=hst;simp only [c8] at fR;subst fR
            have:yielded ops a.tmps j=none:=by
             simp only [yielded,Gc,ai];cases hq:a.tmps[t]? with
             | none=>rfl
             | some q=>simp [hq] at cE; rw [cE]
            simp only [this];rw [← hb]; rfl
          · cases hb
        · cases hg
     unfold wpOp;simp only [ho];unfold ow at he;simp only at he;split at he
     · rename_i uQ;rw [hw true uQ];simp only [if_true];split at he
       · rename_i v h' hv;simp only [aa,ae] at he;obtain ⟨e1,rfl⟩:=he;refine .inl ?_;cases eZ:pA P (VZ rS o) (LM rS.mt o) (LM rS.pz o) o.type o.op with
         | none =>
           rw [eZ] at hv;simp [b7] at hv
         | some m' =>
           rw [eZ] at hv;simp only [bK] at hv;refine D27 hs hm hγ hK eZ hv next Q ?_
           intro val w' A' E' q1 q2 q3;exact hn _ w' A' E' (C1 q2 q3 q1 e1.symm) q2 q3 (pJ val).1 (pJ val).2
       · cases he
     · rename_i hwf;rw [hw false hwf];simp only [aI,if_false];simp only [aa,ae] at he;obtain ⟨e1,rfl⟩:=he;have hv:bQ w A E (S.add γ) (.eJ []) undef:=by simp only [bQ]; exact ⟨[],rfl,by simp only [c8]⟩
       have q2:=hm.mono (S.eH γ);exact hn _ w A E (C1 q2 (gE.refl w A E S) hv e1.symm) q2 (gE.refl w A E S) (pJ undef).1 (pJ undef).2
     · cases he
   · cases nP
 · cases nP
def oz (P:Program) (K:jl) (a:Act) (w:World) (A:Nat→Prop) (E:dL An) (S:di) (g0 n:Nat) (s':gD) (h':cj) (Q:Exit→Act→World→Prop):Prop :=
 ∀ a' w' A' E' S',S.le S'→(∀ g,S' g→S g∨∃ i,i < n∧g=g0 + i)→pZ P w' A' E' S' s' a'→MR w' A' E' h' S'→gE w A E S w' A' E'→a'.defers=a.defers→a'.tmps.size=a.tmps.size→Q .normal a' w'
theorem oz.step {a a1:Act} {w w1:World} {A A1:Nat→Prop} {E E1:dL An} {S:di} {g0 n i:Nat} {s':gD} {h':cj} (hp:oz P K a w A E S g0 n s' h' Q) (hi:i < n) (hg:gE w A E S w1 A1 E1) (hd:a1.defers=a.defers) (hsz:a1.tmps.size=a.tmps.size) :
 oz P K a1 w1 A1 E1 (S.add (g0 + i)) g0 n s' h' Q:=by
 intro a' w' A' E' S' h1 h2 h3 h4 h5 h6 h7;refine hp a' w' A' E' S' (di.le_trans (S.eH _) h1) (fun g rE=>?_) h3 h4 (hg.trans h5 (S.eH _)) (h6.trans hd) (h7.trans hsz)
 rcases h2 g rE with h | h
 · rcases h with h | rfl
   · exact .inl h
   · exact .inr ⟨i,hi,rfl⟩
 · exact .inr h
section
variable (hK:AH P K) (nP:CB P rS nt ops ops.toList=some is)
include hK nP
theorem Yb {g0:Nat} {F:Nat→List Nat×Option rC}:∀ {π:List Nat} {a:Act} {w:World} {A:Nat→Prop} {E:dL An} {S:di} {s s':gD} {h h':cj},oI K g0 is F π s h s' h'→π.Nodup→(∀ i ∈ π,i < ops.size∧¬ S (g0 + i))→nt ≤ a.tmps.size→pZ P w A E S s a→MR w A E h S →
 oz P K a w A E S g0 ops.size s' h' Q→wpOps P ops Q π a w
 | [],a,w,A,E,S,s,s',h,h',hr,_,_,_,hs,hm,hp=>by
   cases hr;exact hp a w A E S (S.le_refl) (fun g hg=>.inl hg) hs hm (gE.refl w A E S) rfl rfl
 | i::r,a,w,A,E,S,s,s',h,h',hr,hn,hS,xV,hs,hm,hp=>by
   cases hr with
   | cons hi hf hst hr =>
     rename_i ins s1 h1;obtain ⟨h2,h3⟩:=hS i (by simp)
     obtain ⟨o,ho⟩:∃ o,ops[i]?=some o:=⟨ops[i],by simp [h2]⟩
     obtain ⟨Rs,eN,hc⟩:=(MP nP).2 i o (by simpa using ho)
     rw [hi] at eN;cases eN;rw [wpOps_cons];refine Ya hK ho hc xV hs hm h3 hst ?_;intro a1 w1 A1 E1 q1 q2 q3 q4 q5;have rT:=bV.1 hn;refine Yb hr rT.2 (fun j hj=>⟨(hS j (by simp [hj])).1,fun hc=>?_⟩) (by omega) q1 q2 (hp.step h2 q3 q4 q5)
     rcases hc with hc | hc
     · exact (hS j (by simp [hj])).2 hc
     · have:j=i:=by omega
       exact rT.1 (this ▸ hj)
end
end
end Go.Mid
namespace Go.Mid
open Go.RowKit
section
variable {ops:Array Oper}
theorem D1O {acc:Array Nat} {k:Nat} (l:List Edge):∀ (s:Nat),(l.foldl (fun s e=>if eu .any e then s ||| 2 ^ e.on ||| acc.getD e.on 0 else s) s).testBit k=true →
 s.testBit k=true∨∃ e ∈ l,eu .any e=true∧(k=e.on∨(acc.getD e.on 0).testBit k=true):=by
 induction l with
 | nil=>intro s h; exact .inl h
 | cons e r ih =>
   intro s h;simp only [List.foldl_cons] at h;rcases ih _ h with h | ⟨e',he',hb,hk⟩
   · split at h
     · rename_i hb;simp only [Nat.testBit_or,cr,Nat.testBit_two_pow,decide_eq_true_eq] at h;rcases h with (h | h) | h
       · exact .inl h
       · exact .inr ⟨e,by simp,hb,.inl h.symm⟩
       · exact .inr ⟨e,by simp,hb,.inr h⟩
     · exact .inl h
   · exact .inr ⟨e',by simp [he'],hb,hk⟩
theorem C6k:∀ j k,((gG ops).getD j 0).testBit k=true→∃ o,ops[j]?=some o∧∃ e ∈ o.after,eu .any e=true∧(k=e.on∨(e.on < j∧((gG ops).getD e.on 0).testBit k=true)):=by
 have key:=Array.foldl_induction (as:=ops) (motive:=fun n (acc:Array Nat)=>acc.size=n∧∀ j k,(acc.getD j 0).testBit k=true→∃ o,ops[j]?=some o∧∃ e ∈ o.after,eu .any e=true∧(k=e.on∨(e.on < j∧(acc.getD e.on 0).testBit k=true))) (init:=#[])
  (f:=fun acc o=>acc.push (o.after.foldl (fun s e=>if eu .any e then s ||| 2 ^ e.on ||| acc.getD e.on 0 else s) 0)) ⟨rfl,fun j k h=>by simp at h⟩ (by
  intro i acc ⟨h1,h2⟩;refine ⟨by simp [h1],fun j k h=>?_⟩
  have old:∀ m,m < acc.size→∀ v,(acc.push v).getD m 0=acc.getD m 0:=by
   intro m hm v;simp [Array.getElem?_push,pU hm]
  by_cases hj:j < acc.size
  · rw [old j hj] at h;obtain ⟨o,ho,e,he,hb,hk⟩:=h2 j k h;refine ⟨o,ho,e,he,hb,hk.imp (fun h=>h) (fun hk=>⟨hk.1,?_⟩)⟩
    rw [old e.on (by omega)]; exact hk.2
  · by_cases Yc:j=acc.size
    · subst Yc;have e0:(acc.push (ops[i].after.foldl (fun s e=>if eu .any e then s ||| 2 ^ e.on ||| acc.getD e.on 0 else s) 0)).getD acc.size 0=ops[i].after.foldl (fun s e=>if eu .any e then s ||| 2 ^ e.on ||| acc.getD e.on 0 else s) 0:=by simp
      rw [e0,← Array.foldl_toList] at h;have rV:ops[acc.size]?=some ops[i]:=by rw [h1]; simp
      rcases D1O _ _ h with h | ⟨e,he,hb,hk⟩
      · simp at h
      · refine ⟨_,rV,e,by simpa using he,hb,hk.imp (fun h=>h) (fun hk=>?_)⟩
        have eF:e.on < acc.size:=by
         by_cases hh:e.on < acc.size
         · exact hh
         · simp [hZ (kO hh)] at hk
        exact ⟨eF,by rw [old e.on eF]; exact hk⟩
    · simp [Array.getElem?_push,Yc,hZ (kO hj)] at h)
 exact key.2
theorem C1B {listed:Array Bool} (hc:∀ (j:Nat) (o:Oper),listed.getD j false=true→ops[j]?=some o→∀ e ∈ o.after,eu .any e=true→listed.getD e.on false=true) :
 ∀ j,(∀ o,ops[j]?=some o→∀ e ∈ o.after,eu .any e=true→listed.getD e.on false=true)→∀ k,((gG ops).getD j 0).testBit k=true→listed.getD k false=true:=by
 intro j
 induction j using lF with
 | _ j ih =>
   intro hj k hk;obtain ⟨o,ho,e,he,hb,nS⟩:=C6k j k hk;have hl:=hj o ho e he hb;rcases nS with rfl | ⟨eF,hk⟩
   · exact hl
   · exact ih e.on eF (fun o' oH=>hc e.on o' hl oH) k hk
end
section
variable {P:Program} {rS:rS} {nt:Nat} {ops:Array Oper} {is:List Ins} {K:jl} {Q:Exit→Act→World→Prop}
def rb (n:Nat) (listed:Array Bool):List Nat:=(bA n).filter fun i=>!listed.getD i true
theorem EG {n i:Nat} {listed:Array Bool}:i ∈ rb n listed↔i < n∧listed.getD i true=false:=by
 simp only [rb,cf,cA,ec]
theorem Rt {n:Nat} {listed:Array Bool}:(rb n listed).Pairwise (· < ·):=List.Pairwise.filter _ List.pairwise_lt_range
theorem C6l {n i:Nat} {listed:Array Bool} (hsz:listed.size=n) (hi:i ∈ rb n listed):∃ pre post,rb n listed=pre++i::post∧rb n (listed.setIfInBounds i true)=pre++post∧∀ j ∈ pre,j < i:=by
 obtain ⟨pre,post,e⟩:=List.append_of_mem hi;have hp:=Rt (n:=n) (listed:=listed);rw [e] at hp;have ig:=List.pairwise_append.1 hp;have ze:=bN.1 ig.2.1;refine ⟨pre,post,e,?_,fun j hj=>ig.2.2 j hj i (by simp)⟩
 have e2:rb n (listed.setIfInBounds i true)=(rb n listed).filter (fun k=>decide (k ≠ i)):=by
  unfold rb;rw [List.filter_filter];refine List.filter_congr fun k hk=>?_
  by_cases Bw:k=i
  · subst Bw;have eF:k < listed.size:=by rw [hsz]; exact (EG.1 hi).1
    simp [eF]
  · simp [Bw,dM (dw Bw)]
 rw [e2,e,List.filter_append,List.filter_cons];have h1:pre.filter (fun k=>decide (k ≠ i))=pre:=jv.2 fun k hk=>by have:=ig.2.2 k hk i (by simp); simp; omega
 have h2:post.filter (fun k=>decide (k ≠ i))=post:=jv.2 fun k hk=>by have:=ze.1 k hk; simp; omega
 rw [h1,h2];simp
theorem D28 (hK:AH P K) (nP:CB P rS nt ops ops.toList=some is) {g0:Nat} {F:Nat→List Nat×Option rC}
 (zf:∀ (j:Nat) (o:Oper),ops[j]?=some o→∀ e ∈ o.after,eu .any e=true→e.on < j)
 (zg:∀ i j,i < j→j < ops.size→((gG ops).getD j 0).testBit i=false→MO is F i j) :
 ∀ (fuel:Nat) (listed:Array Bool) (a:Act) (w:World) (A:Nat→Prop) (E:dL An) (S:di) (s s':gD) (h h':cj),listed.size=ops.size→(rb ops.size listed).length=fuel →
  (∀ (j:Nat) (o:Oper),listed.getD j false=true→ops[j]?=some o→∀ e ∈ o.after,eu .any e=true→listed.getD e.on false=true) →
  oI K g0 is F (rb ops.size listed) s h s' h'→(∀ i ∈ rb ops.size listed,¬ S (g0 + i))→nt ≤ a.tmps.size→pZ P w A E S s a→MR w A E h S→oz P K a w A E S g0 ops.size s' h' Q →
  wpAny P .any ops Q fuel listed a w:=by
 intro fuel
 induction fuel with
 | zero =>
   intro listed a w A E S s s' h h' hsz hlen nI hr hS xV hs hm hp;have zh:rb ops.size listed=[]:=List.eq_nil_of_length_eq_zero hlen;rw [zh] at hr;cases hr;refine ⟨?_,hp a w A E S S.le_refl (fun g hg=>.inl hg) hs hm (gE.refl w A E S) rfl rfl⟩
   cases EC:pV .any ops listed with
   | nil=>rfl
   | cons i r =>
     exfalso;have hi:i ∈ pV .any ops listed:=by rw [EC]; simp
     obtain ⟨h0,o,ho,_⟩:=mem_ready.1 hi;have eF:i < ops.size:=(c6.1 ho).1
     have:i ∈ rb ops.size listed:=EG.2 ⟨eF,h0⟩
     rw [zh] at this; cases this
 | succ fuel ih =>
   intro listed a w A E S s s' h h' hsz hlen nI hr hS xV hs hm hp;refine ⟨fun EC=>?_,fun i hi=>?_⟩
   · exfalso;cases xg:rb ops.size listed with
     | nil=>rw [xg] at hlen; simp at hlen
     | cons j r =>
       have hj:j ∈ rb ops.size listed:=by rw [xg]; simp
       obtain ⟨eF,h0⟩:=EG.1 hj;have Yd:j ∈ pV .any ops listed:=by
        refine mem_ready.2 ⟨h0,ops[j],by simp [eF],fun e he hb=>?_⟩
        have Ja:=zf j ops[j] (by simp [eF]) e he hb
        have eA:e.on ∉ rb ops.size listed:=by
         intro wz;have ze:=Rt (n:=ops.size) (listed:=listed);rw [xg] at ze wz;rcases aE.1 wz with h3 | h3
         · omega
         · have:=(bN.1 ze).1 _ h3; omega
        have Ru:e.on < ops.size:=by omega
        have:¬ (listed.getD e.on true=false):=fun h=>eA (EG.2 ⟨Ru,h⟩)
        have Gg:e.on < listed.size:=by omega
        simp [Gg] at this ⊢;exact this
       rw [EC] at Yd; cases Yd
   · obtain ⟨h0,o,ho,kD⟩:=mem_ready.1 hi;have eF:i < ops.size:=(c6.1 ho).1;have Mt:i ∈ rb ops.size listed:=EG.2 ⟨eF,h0⟩;obtain ⟨pre,post,e1,e2,o8⟩:=C6l hsz Mt;rw [e1] at hr;have EH:=hr.front (fun j hj=>by
      refine zg j i (o8 j hj) eF ?_;cases hb:((gG ops).getD i 0).testBit j with
      | false=>rfl
      | true =>
        exfalso;have hl:=C1B nI i (fun o' oH=>by rw [ho] at oH; cases oH; exact kD) j hb
        have EI:j ∈ rb ops.size listed:=by rw [e1]; simp [hj]
        have:=(EG.1 EI).2
        have AD:j < listed.size:=by rw [hsz]; exact (EG.1 EI).1
        simp [AD] at hl this;rw [hl] at this; cases this)
     cases EH with
     | cons eN hf hst hr' =>
       rename_i ins s1 h1;obtain ⟨Rs,qH,hc⟩:=(MP nP).2 i o (by simpa using ho)
       rw [eN] at qH;cases qH;refine Ya hK ho hc xV hs hm (hS i Mt) hst ?_;intro a1 w1 A1 E1 q1 q2 q3 q4 q5;have gV:(rb ops.size listed).Nodup:=List.Pairwise.imp (fun h=>pU h) Rt
       have hni:i ∉ pre++post:=by
        rw [e1] at gV
        have:=List.nodup_append.1 gV
        intro wz;rcases ay.1 wz with wz | wz
        · exact this.2.2 i wz i (by simp) rfl
        · exact (bV.1 this.2.1).1 wz
       refine ih (listed.setIfInBounds i true) a1 w1 A1 E1 (S.add (g0 + i)) s1 s' h1 h' (by simp [hsz]) ?_ ?_ (by rw [e2]; exact hr') ?_ (by omega) q1 q2 (hp.step eF q3 q4 q5)
       · rw [e2];rw [e1] at hlen;simp only [List.length_append,ba] at hlen ⊢;omega
       · intro j oj hj Bv e he hb;by_cases Ye:j=i
         · subst Ye;rw [ho] at Bv; cases Bv;exact getD_set_true (kD e he hb)
         · rw [getD_set_ne false (dw Ye)] at hj;exact getD_set_true (nI j oj hj Bv e he hb)
       · rw [e2];intro j hj oP;have EI:j ∈ rb ops.size listed:=by
          rw [e1];rcases ay.1 hj with hj | hj <;> simp [hj]
         rcases oP with oP | oP
         · exact hS j EI oP
         · have:j=i:=by omega
           exact hni (this ▸ hj)
theorem Yf {g0:Nat} {F:Nat→List Nat×Option rC}:∀ (l:List Ins) (m:Nat) (s s':gD) (h h':cj),is.drop m=l→tJ K (g0 + m) l s h=some (s',h')→(∀ (k:Nat) (x:List Nat×Bool×Option rC),(tM K (g0 + m) l s h)[k]?=some x→F (m + k)=(x.1,x.2.2)) →
 oI K g0 is F (mD m l.length) s h s' h'
 | [],m,s,s',h,h',_,hst,_=>by
   simp only [tJ,aa,ae] at hst;obtain ⟨rfl,rfl⟩:=hst;exact .nil s h
 | ins::r,m,s,s',h,h',hd,hst,hF=>by
   simp only [tJ] at hst;split at hst
   · rename_i s1 h1 he;have Rv:is[m]?=some ins:=by
      have:=congrArg (·[0]?) hd
      simpa using this
     have L3:is.drop (m + 1)=r:=by
      rw [← List.drop_drop,hd]; rfl
     rw [ba,List.range'_succ];refine .cons Rv (.inr ?_) he (Yf r (m + 1) s1 s' h1 h' L3 hst ?_)
     · have:=hF 0 (lv s h ins,idle ins.op || tK ins.op,vY s ins) (by simp only [tM,bP])
       rw [dF] at this;rw [this];exact ⟨fun z hz=>hz,rfl⟩
     · intro k x hx
       have:=hF (k + 1) x (by simp only [tM,bJ,he]; exact hx)
       rw [← this]; congr 1; omega
   · cases hst
theorem Rw {g:Nat}:∀ (l:List Ins) (s:gD) (h:cj) (k:Nat) (x:List Nat×Bool×Option rC) (ins:Ins),(tM K g l s h)[k]?=some x→l[k]?=some ins→x.2.1=(idle ins.op || tK ins.op)
 | [],s,h,k,x,ins,hx,_=>by simp [tM] at hx
 | i::r,s,h,0,x,ins,hx,hi=>by
   simp only [tM,bP,aa] at hx hi;subst hx hi; rfl
 | i::r,s,h,k + 1,x,ins,hx,hi=>by
   simp only [tM,bJ] at hx hi;split at hx
   · exact Rw r _ _ k x ins hx hi
   · simp at hx
theorem D29 (hK:AH P K) (vu:P.follows .mixedOrders=true) (nP:CB P rS nt ops ops.toList=some is) {id:Nat} {draw:Bool} (kE:(!draw || LN ops is)=true) {σ σ':St} (hr:rR K (if draw then Bj ops is else []) is σ=some σ')
 {a:Act} {w:World} {A:Nat→Prop} {E:dL An} (xV:nt ≤ a.tmps.size) (hs:pZ P w A E (· < σ.nx) σ.s a) (hm:MR w A E σ.h (· < σ.nx))
 (hn:∀ a' w' A' E',pZ P w' A' E' (· < σ'.nx) σ'.s a'→MR w' A' E' σ'.h (· < σ'.nx)→gE w A E (· < σ.nx) w' A' E'→a'.defers=a.defers→a'.tmps.size=a.tmps.size→Q .normal a' w') (hnx:σ'.nx=σ.nx + ops.size→True):(Code.region id ops draw).wp P Q a w:=by
 generalize BD:(if draw then Bj ops is else [])=loose at hr
 unfold rR at hr;split at hr
 · rename_i s1 h1 hst;split at hr
   · rename_i zi;simp only [aa] at hr;subst hr;have hlen:is.length=ops.size:=by rw [(MP nP).1]; simp
     let F:Nat→List Nat×Option rC:=fun i=>match (tM K σ.nx is σ.s σ.h)[i]? with | some (x,_,p)=>(x,p) | none=>([],none)
     have zj:oI K σ.nx is F (mD 0 is.length) σ.s σ.h s1 h1:=by
      refine Yf is 0 σ.s s1 σ.h h1 rfl hst ?_;intro k x hx;rw [dF] at hx;simp only [F,bR,hx]
     rw [hlen,← List.range_eq_range'] at zj;have C2:oz P K a w A E (· < σ.nx) σ.nx ops.size s1 h1 Q:=by
      intro a' w' A' E' S' q1 q2 q3 q4 q5 q6 q7;have hle:di.le S' (· < σ.nx + is.length):=by
       intro g hg;rw [hlen];rcases q2 g hg with h | ⟨i,hi,rfl⟩
       · have:g < σ.nx:=h
         show g < σ.nx + ops.size;omega
       · show σ.nx + i < σ.nx + ops.size;omega
      exact hn a' w' A' E' ⟨fun k=>(q3.sl k).frame (Fr.same w' A' E' hle),q3.gl⟩ (q4.mono hle) q5 q6 q7
     cases draw with
     | false =>
       refine wp_region (Yb hK nP zj List.nodup_range (fun i hi=>⟨cA.1 hi,?_⟩) xV hs hm C2)
       show ¬ (σ.nx + i < σ.nx);omega
     | true =>
       have BT:LN ops is=true:=by simpa using kE
       simp only [if_true] at BD;subst BD;unfold LN at BT;simp only [bB,cA,aj] at BT;refine wp_region_any vu ?_;have zf:∀ (j:Nat) (o:Oper),ops[j]?=some o→∀ e ∈ o.after,eu .any e=true→e.on < j:=by
        intro j o ho e he hb;have hj:j < is.length:=by rw [hlen]; exact (c6.1 ho).1
        have:=(BT j hj).1
        rw [ho] at this;simp only [bB] at this
        have:=this e (by simpa using he)
        simpa [hb] using this
       have zg:∀ i j,i < j→j < ops.size→((gG ops).getD j 0).testBit i=false→MO is F i j:=by
        intro i j gL hj hb x y hx hy;have xR:=(BT j (by omega)).2 i (by simpa using gL)
        rw [hb,hx,hy] at xR;refine ⟨by simpa using xR,?_⟩
        by_cases oA:(idle x.op || idle y.op || (tK x.op && tK y.op))=true
        · simp only [cr,aj] at oA;rcases oA with (h | h) | h
          · exact .inl h
          · exact .inr (.inl h)
          · exact .inr (.inr (.inl h))
        · have nn:(i,j) ∈ Bj ops is:=by
           unfold Bj;refine gT.2 ⟨j,by simp; omega,List.mem_filterMap.2 ⟨i,by simpa using gL,?_⟩⟩
           simp only [hx,hy];rw [if_neg];simp only [fZ] at oA;rw [hb,oA];simp
          have vZ:F1 (tM K σ.nx is σ.s σ.h) (Bj ops is)=true:=by
           simp only [cr] at zi;rcases zi with h | h
           · have:Bj ops is=[]:=by simpa using h
             rw [this] at nn; cases nn
           · exact h
          have:=bB.1 vZ (i,j) nn
          simp only at this;split at this
          · rename_i xa rx px ya ry py Jb Rx;have m1:=Rw is σ.s σ.h i _ x Jb hx;have m2:=Rw is σ.s σ.h j _ y Rx hy;simp only at m1 m2;rw [m1,m2] at this;simp only [cr,aj] at this oA;rcases this with (⟨h3,h4⟩ | h3) | h3
            · exfalso;apply oA;rcases h3 with h3 | h3
              · exact .inl (.inl h3)
              · rcases h4 with h4 | h4
                · exact .inl (.inr h4)
                · exact .inr ⟨h3,h4⟩
            · refine .inr (.inr (.inr (.inl fun z hz Gu=>?_)))
              simp only [F,Jb,Rx] at hz Gu
              have:=bB.1 h3 z hz
              simp at this;exact this Gu
            · refine .inr (.inr (.inr (.inr ?_)));simp only [F,Jb,Rx];exact h3
          · cases this
       have xg:rb ops.size (iq ops.size false)=bA ops.size:=by
        unfold rb;refine jv.2 fun i hi=>?_
        have:i < ops.size:=cA.1 hi
        simp [this]
       have Ez:Fr w { w with drawn:=w.drawn + 1 } A A E E (· < σ.nx) (· < σ.nx):=⟨fun _ h=>h,fun _ _=>rfl,oO.refl _ _,di.le_refl _⟩
       have vt:MR { w with drawn:=w.drawn + 1 } A E σ.h (· < σ.nx):=⟨hm.er,fun i o ho=>OAt.frame Ez (fun _ _=>rfl) (hm.at_ i o ho),hm.lt,hm.nd,hm.dj,hm.im,hm.st⟩
       have BK:gE w A E (· < σ.nx) { w with drawn:=w.drawn + 1 } A E:=⟨rfl,rfl,rfl,ar _,fun _ _ _=>rfl,fun _ h=>h,fun _ _ h=>.inl h,fun _ _ h=>h,oO.refl _ _⟩
       refine D28 hK nP zf zg ops.size _ a _ A E (· < σ.nx) σ.s s1 σ.h h1 (by simp) (by rw [xg]; simp) ?_ (by rw [xg]; exact zj) ?_ xV ⟨fun k=>(hs.sl k).frame Ez,hs.gl.frame (fun _ h=>h) (fun _ _=>rfl)⟩ vt ?_
       · intro j o hj;exfalso;by_cases Gy:j < ops.size
         · simp [Gy] at hj
         · rw [fN,hZ (by simpa using Gy)] at hj
           cases hj
       · intro i _;show ¬ (σ.nx + i < σ.nx);omega
       · intro a' w' A' E' S' q1 q2 q3 q4 q5 q6 q7;exact C2 a' w' A' E' S' q1 q2 q3 q4 (BK.trans q5 (di.le_refl _)) q6 q7
   · cases hr
 · cases hr
end
end Go.Mid
namespace Go.Mid
open Go.RowKit
structure uR (P:Program) (w:World) (A:Nat→Prop) (E:dL An) (nt:Nat) (σ:St) (a:Act):Prop where
 sl:pZ P w A E (· < σ.nx) σ.s a
 mr:MR w A E σ.h (· < σ.nx)
 nx:1 ≤ σ.nx
 df:a.defers=[]
 sz:nt ≤ a.tmps.size
def Yg:Ex→Exit
 | .normal=>.normal
 | .exit id=>.exit id
 | .ret=>.ret
theorem C2I {P:Program} {c:Code} {Q:Exit→Act→World→Prop} (R:Nat→Act→World→Prop) (round:∀ n a w,R n a w→c.wp P (Exit.then (fun a' w'=>∃ m,m < n∧R m a' w') Q) a w) :
 ∀ n a w,R n a w→(Code.loop c).wp P Q a w:=by
 intro n a w h₀ b k cs;have key:∀ n a w,R n a w→∃ e a' w',Q e a' w'∧Arrives P (lone (b.at a (.code c::.inLoop c::k)) cs w) b k cs e a' w':=by
  intro n
  induction n using lF with
  | _ n ih =>
    intro a w hR;obtain ⟨e,a₁,w₁,hq,rZ⟩:=round n a w hR b (.inLoop c::k) cs;cases e with
    | normal =>
      obtain ⟨m,eF,hm⟩:=hq;obtain ⟨e₂,a₂,w₂,hq₂,Jc⟩:=ih m eF a₁ w₁ hm;exact ⟨e₂,a₂,w₂,hq₂,.of_steps (Steps.trans rZ (.one step_inLoop)) Jc⟩
    | exit id=>exact ⟨_,a₁,w₁,hq,.pass (x:=.inLoop c) rfl (fun _ _=>.inl (by simp)) rZ⟩
    | goto l=>exact ⟨_,a₁,w₁,hq,.pass (x:=.inLoop c) rfl (fun _ _=>.inl (by simp)) rZ⟩
    | ret=>exact ⟨_,a₁,w₁,hq,.pass (x:=.inLoop c) rfl (fun _ _=>.inl (by simp)) rZ⟩
    | panic ch=>exact ⟨_,a₁,w₁,hq,.pass (x:=.inLoop c) rfl (fun _ _=>.inl (by simp)) rZ⟩
    | outgrown=>exact ⟨_,a₁,w₁,hq,.pass (x:=.inLoop c) rfl (fun _ _=>.inl (by simp)) rZ⟩
 obtain ⟨e,a',w',hq,rZ⟩:=key n a w h₀;exact ⟨e,a',w',hq,.of_steps (.one step_loop) rZ⟩
section
variable {P:Program} {w:World} {A:Nat→Prop} {E:dL An} {nt:Nat} {σ:St} {a:Act}
theorem AJ {n:Nat} (h:1 ≤ n):S0.le (· < n):=by
 intro g hg
 have:g=0:=hg
 show g < n;omega
theorem BU (g:Nat):jx g < 2:=by unfold jx; split <;> omega
theorem Ry {g:Nat} (h:jx g=0):g=0:=by
 unfold jx at h;split at h
 · assumption
 · omega
theorem gE.weaken {w':World} {A':Nat→Prop} {E':dL An} {S S':di} (g:gE w A E S' w' A' E') (h:S.le S'):gE w A E S w' A' E' :=
 ⟨g.os,g.tape,g.output,g.size,g.bm,g.sub,g.Al,g.own,fun id np an z hn hg=>g.ns id np an z hn (h _ hg)⟩
theorem MQ (k:uR P w A E nt σ a) (ks ids:List Nat):∃ E',uR P w A E' nt (rA ks ids σ) a∧gE w A E S0 w A E':=by
 let bk:Nat→Option Nat:=fun j=>if vU ids j then some j else none
 have hρ:∀ i j,th ids i=some j→bk j=some i:=by
  intro i j h;unfold th at h;split at h
  · rename_i hk;cases h;simp only [bk,hk,if_true]
  · cases h
 have sS:∀ i j j',bk j=some i→bk j'=some i→j=j':=by
  intro i j j' h h';simp only [bk] at h h';split at h <;> split at h' <;> simp_all
 have hm:=k.mr.clean (nx':=(· < 2)) (ζ:=jx) (ζn:=fun _=>jx) hρ sS (fun g _=>BU g) (fun _ g _=>BU g)
 have hh:y6 σ.h (th ids) jx (fun _=>jx) bk=(rA ks ids σ).h:=by
  funext j;simp only [y6,rA,bk];split <;> rfl
 rw [hh] at hm;refine ⟨rX E σ.h (th ids) jx (fun _=>jx) bk,⟨⟨?_,k.sl.gl⟩,hm,by simp [rA],k.df,k.sz⟩,?_⟩
 · intro i;simp only [rA];split
   · exact bQ.clean (nx':=(· < 2)) k.mr hρ (fun g _=>BU g) (k.sl.sl i)
   · simp only [bQ]
 · refine ⟨rfl,rfl,rfl,ar _,fun _ _ _=>rfl,fun _ h=>h,fun _ _ h=>.inl h,fun b _ h=>MA h,?_⟩
   intro id np an z hn hg;have xQ:an.g=0:=hg;by_cases hb:vU ids id=true
   · have rH:bk id=some id:=by simp only [bk,hb,if_true]
     rw [IK rH] at hn;cases Az:fg (E id) np with
     | none=>simp [Az] at hn
     | some y =>
       simp only [Az,ak,aa,ae] at hn;obtain ⟨rfl,rfl⟩:=hn;have h0:=Ry xQ;obtain ⟨⟨g,bb,cc⟩,z⟩:=y;simp only at h0;subst h0;rfl
   · have:rX E σ.h (th ids) jx (fun _=>jx) bk id=none:=by
      simp only [rX,bk,hb,aI,if_false,m5]
     rw [this] at hn;cases np with
     | none=>cases hn
     | some p=>cases p <;> cases hn
theorem C6m {σ':St} {g:Gh} (k:uR P w A E nt σ a) (h:yB g σ=some σ'):∃ A' E',uR P w A' E' nt σ' a∧gE w A E S0 w A' E':=by
 cases g with
 | bm ks ids =>
   simp only [yB,aa] at h;subst h;obtain ⟨E',h1,h2⟩:=MQ k ks ids;exact ⟨A,E',h1,h2⟩
 | freeze t =>
   simp only [yB] at h;have hγ:¬ (fun g=>g < σ.nx) σ.nx:=Nat.lt_irrefl _
   have Ep:di.add (· < σ.nx) σ.nx=(· < σ.nx + 1):=by
    funext g;exact propext ⟨fun hg=>by rcases hg with hg | hg <;> omega,fun hg=>by
     rcases Nat.lt_or_eq_of_le (Nat.le_of_lt_succ hg) with e | e
     · exact .inl e
     · exact .inr e⟩
   have fin:∀ {E':dL An} {h':cj},MR w A E' h' (di.add (· < σ.nx) σ.nx)→gE w A E (· < σ.nx) w A E'→uR P w A E' nt ⟨σ.s,h',σ.nx + 1⟩ a:=by
    intro E' h' q1 q2;rw [Ep] at q1;exact ⟨⟨fun i=>(k.sl.sl i).go k.mr q2 (fun g hg=>Nat.lt_succ_of_lt hg),k.sl.gl.frame q2.sub (fun b hb=>q2.tN k.mr b hb)⟩,q1,by have:=k.nx; show 1 ≤ σ.nx + 1; omega,k.df,k.sz⟩
   split at h
   · split at h
     · rename_i h' ht;cases h;simp only [DO] at ht;split at ht
       · rename_i a' t' gq;cases ht;obtain ⟨E',q1,q2⟩:=k.mr.sw hγ gq;exact ⟨A,E',fin q1 q2,q2.weaken (AJ k.nx)⟩
       · cases ht
     · cases h
   split at h
   · split at h
     · rename_i z hst gq;cases h;obtain ⟨E',q1,q2,q3⟩:=k.mr.Ej (z:=z) hγ gq;have q:=fin q1 q2;have uS:=k.sl.sl (t % 1000);rw [hst] at uS;simp only [bQ] at uS;obtain ⟨ad,cE⟩:=uS;refine ⟨A,E',⟨⟨fun i=>?_,q.sl.gl⟩,q.mr,q.nx,q.df,q.sz⟩,q2.weaken (AJ k.nx)⟩
       show bQ w A E' _ (cz σ.s (t % 1000) _ i) _;by_cases e:i=t % 1000
       · subst e;rw [nG];simp only [bQ];refine ⟨Nat.lt_succ_self _,ad,0,cE,ar _,fun an z' hn hg=>?_⟩
         rw [q3] at hn;cases hn;exact ⟨rfl,rfl⟩
       · rw [nO _ _ e]; exact q.sl.sl i
     · cases h
     · cases h;exact ⟨A,E,fin (k.mr.mono (di.eH _ _)) (gE.refl w A E _),gE.refl w A E _⟩
   split at h
   · split at h
     · rename_i h' ht;cases h;unfold DO at ht;split at ht
       · rename_i id g o hst;split at ht
         · rename_i a' t' gq;cases ht;obtain ⟨E',q1,q2⟩:=k.mr.sw hγ gq;exact ⟨A,E',fin q1 q2,q2.weaken (AJ k.nx)⟩
         · cases ht
       · rename_i id i0 p off len g hst;split at ht
         · rename_i g1 z l n dJ;split at ht
           · rename_i o' eR;cases ht;obtain ⟨E',q1,q2⟩:=k.mr.BH hγ dJ eR;exact ⟨A,E',fin q1 q2,q2.weaken (AJ k.nx)⟩
           · cases ht
         · cases ht
       · cases ht
     · cases h
   have set:∀ {A':Nat→Prop} {E':dL An} {v:MV} {h':cj},gE w A E (· < σ.nx) w A' E'→MR w A' E' h' (· < σ.nx)→bQ w A' E' (· < σ.nx) v (a.tmps.getD t undef)→uR P w A' E' nt ⟨cz σ.s t v,h',σ.nx⟩ a:=by
    intro A' E' v h' hg hm hv;refine ⟨⟨fun i=>?_,k.sl.gl.frame hg.sub (fun b hb=>hg.tN k.mr b hb)⟩,hm,k.nx,k.df,k.sz⟩
    show bQ w A' E' _ (cz σ.s t v i) _;by_cases e:i=t
    · subst e; rw [nG]; exact hv
    · rw [nO _ _ e]; exact (k.sl.sl i).go k.mr hg (di.le_refl _)
   have uS:=k.sl.sl t;split at h
   · rename_i id len g0 hst;split at h
     · rename_i g1 z l gq;split at h
       · rename_i hc;obtain ⟨rfl,hlen⟩:=hc;split at h
         · rename_i vs fR;cases h;cases hE:E id with
           | none=>rw [k.mr.er id,hE] at gq; cases gq
           | some o =>
             obtain ⟨q1,q2⟩:=k.mr.wk hE;rw [hst] at uS;have hp:mq σ.h (.own id [] 0 len g0)=some (.sl (vs.take len)):=by
              simp only [mq,gq,jo,bR,hlen,true_and,if_true,fR,List.drop_zero]
             have hv:=CU (A':=fun b=>A b∨b ∈ o.blk) k.mr (fun b hb=>.inl hb) hp (fun i hi o1 nf b hb=>by
              simp only [jZ,aX] at hi;subst hi; rw [hE] at nf; cases nf; exact .inr hb) uS
             exact ⟨_,_,set q2 q1 (by simp only [bQ]; exact hv),q2.weaken (AJ k.nx)⟩
         · cases h
       · cases h
     · cases h
   · rename_i id i0 p off len g0 hst;split at h
     · rename_i g1 z l n dJ;split at h
       · rename_i vs fR;split at h
         · rename_i o' eR;cases h;obtain ⟨A',E',q1,q2⟩:=k.mr.Iz dJ fR eR;refine ⟨A',E',⟨⟨fun i=>(k.sl.sl i).go k.mr q2 (di.le_refl _),k.sl.gl.frame q2.sub (fun b hb=>q2.tN k.mr b hb)⟩,q1,k.nx,k.df,k.sz⟩,q2.weaken (AJ k.nx)⟩
         · cases h
       · cases h
     · cases h
   · rename_i id g0 hst;split at h
     · rename_i g1 u gq;split at h
       · rename_i hc;subst hc;split at h
         · rename_i v yO;cases h;cases hE:E id with
           | none=>rw [k.mr.er id,hE] at gq; cases gq
           | some o =>
             obtain ⟨q1,q2⟩:=k.mr.wk hE;rw [hst] at uS;have hp:mq σ.h (.ptr id none [] g0 0)=some (.ref v):=by
              simp only [mq,gq,look,lP,true_and,if_true,yO]
             have hv:=CU (A':=fun b=>A b∨b ∈ o.blk) k.mr (fun b hb=>.inl hb) hp (fun i hi o1 nf b hb=>by
              simp only [jZ,aX] at hi;subst hi; rw [hE] at nf; cases nf; exact .inr hb) uS
             exact ⟨_,_,set q2 q1 (by simp only [bQ]; exact hv),q2.weaken (AJ k.nx)⟩
         · cases h
       · cases h
     · cases h
   · rename_i v hst;cases h;refine ⟨A,E,set (gE.refl w A E _) k.mr (by rw [← hst]; exact uS),gE.refl w A E _⟩
   · rename_i z hst;cases h;rw [hst] at uS;simp only [bQ] at uS;obtain ⟨ad,cE⟩:=uS;refine ⟨A,E,set (gE.refl w A E _) k.mr ?_,gE.refl w A E _⟩;rw [cE];exact vg.2 ⟨ad,0,rfl,ar _,.inl rfl⟩
   · cases h
end
section
variable {P:Program} {Φ:ml}
def MS (P:Program) (Φ:ml) (n:Nat):Prop :=
 ∀ (B:rS) (nt:Nat) (c:Code) (k:Nat) (mc:MC) (k':Nat),sq P B nt c k=some (mc,k')→∀ (σ σ':St) (e:Ex),run Φ n mc σ=some (e,σ') →
  ∀ (Q:Exit→Act→World→Prop) (a:Act) (w:World) (A:Nat→Prop) (E:dL An),uR P w A E nt σ a →
   (∀ a' w' A' E',uR P w' A' E' nt σ' a'→gE w A E S0 w' A' E'→Q (Yg e) a' w')→c.wp P Q a w
theorem Yh {r:MC} {nt:Nat}:∀ (l:List Nat) (n:Nat) (σ σ':St) (e:Ex),run Φ n (LO l r) σ=some (e,σ')→∀ (a:Act) (w:World) (A:Nat→Prop) (E:dL An),uR P w A E nt σ a →
 ∃ m σ1 A1 E1,m ≤ n∧run Φ m r σ1=some (e,σ')∧uR P w A1 E1 nt σ1 a∧gE w A E S0 w A1 E1
 | [],n,σ,σ',e,hr,a,w,A,E,k=>⟨n,σ,A,E,ar n,hr,k,gE.refl w A E _⟩
 | t::l,n,σ,σ',e,hr,a,w,A,E,k=>by
   cases n with
   | zero=>simp [run] at hr
   | succ n =>
     have e0:LO (t::l) r=.seq (.gh (.freeze t)) (LO l r):=rfl;rw [e0] at hr;simp only [run] at hr;cases n with
     | zero=>simp [run] at hr
     | succ n =>
       cases hg:yB (.freeze t) σ with
       | none=>simp [run,hg] at hr
       | some σ1 =>
         have h1:run Φ (n + 1) (.gh (.freeze t)) σ=some (.normal,σ1):=by simp only [run,hg]
         rw [h1] at hr;simp only at hr;obtain ⟨A1,E1,k1,g1⟩:=C6m k hg;obtain ⟨m,σ2,A2,E2,q1,q2,q3,q4⟩:=Yh l (n + 1) σ1 σ' e hr a w A1 E1 k1;exact ⟨m,σ2,A2,E2,by omega,q2,q3,g1.trans q4 (di.le_refl _)⟩
theorem C6n (vu:P.follows .mixedOrders=true) (n:Nat) (ih:∀ m,m < n→MS P Φ m) (y9:∀ m,m < n→AH P (nV Φ (run Φ m))):MS P Φ n:=by
 intro B nt c k mc k' hc σ σ' e hr Q a w A E hk hQ;cases n with
 | zero=>simp [run] at hr
 | succ n =>
   cases c with
   | skip =>
     simp only [sq,aa,ae] at hc;obtain ⟨rfl,_⟩:=hc;simp only [run,aa,ae] at hr;obtain ⟨rfl,rfl⟩:=hr;exact wp_skip (hQ a w A E hk (gE.refl w A E _))
   | ret =>
     simp only [sq,aa,ae] at hc;obtain ⟨rfl,_⟩:=hc;cases n with
     | zero=>simp [run] at hr
     | succ n =>
       simp only [run,yB,aa,ae] at hr;obtain ⟨rfl,rfl⟩:=hr;obtain ⟨E',h1,h2⟩:=MQ hk _ _;exact wp_ret (hQ a w A E' h1 h2)
   | exit id =>
     simp only [sq,aa,ae] at hc;obtain ⟨rfl,_⟩:=hc;cases n with
     | zero=>simp [run] at hr
     | succ n =>
       simp only [run,yB,aa,ae] at hr;obtain ⟨rfl,rfl⟩:=hr;obtain ⟨E',h1,h2⟩:=MQ hk _ _;exact wp_exit (hQ a w A E' h1 h2)
   | region id ops draw =>
     simp only [sq] at hc;split at hc
     · rename_i is his;split at hc
       · rename_i kE;simp only [aa,ae] at hc;obtain ⟨rfl,_⟩:=hc;obtain ⟨m,σ1,A1,E1,q1,q2,q3,q4⟩:=Yh _ _ σ σ' e hr a w A E hk;cases m with
         | zero=>simp [run] at q2
         | succ m =>
           cases AK:rR (nV Φ (run Φ m)) (if draw then Bj ops is else []) is σ1 with
           | none=>simp [run,AK] at q2
           | some σ2 =>
             simp only [run,AK,aa,ae] at q2;have hnx:σ2.nx=σ1.nx + is.length:=by
              clear q2 hQ hr;generalize (if draw then Bj ops is else [])=loose at AK
              unfold rR at AK;split at AK
              · split at AK
                · cases AK; rfl
                · cases AK
              · cases AK
             obtain ⟨rfl,rfl⟩:=q2;refine D29 (y9 m (by omega)) vu his kE AK q3.sz q3.sl q3.mr ?_ (fun _=>trivial)
             intro a' w' A' E' r1 r2 r3 r4 r5;refine hQ a' w' A' E' ⟨r1,r2,by have:=q3.nx; omega,r4.trans q3.df,by rw [r5]; exact q3.sz⟩ ?_
             exact q4.trans (r3.weaken (AJ q3.nx)) (di.le_refl _)
       · simp only [aa,ae] at hc;obtain ⟨rfl,_⟩:=hc;simp [run] at hr
     · cases hc
   | seq x y =>
     simp only [sq] at hc;split at hc
     · rename_i mx n1 hx;split at hc
       · rename_i my n2 hy;simp only [aa,ae] at hc;obtain ⟨rfl,_⟩:=hc;simp only [run] at hr;refine wp_seq ?_;split at hr
         · rename_i σ1 xW;refine ih n (by omega) B nt x k mx n1 hx σ σ1 .normal xW _ a w A E hk ?_
           intro a1 w1 A1 E1 k1 g1;refine ih n (by omega) B nt y n1 my n2 hy σ1 σ' e hr Q a1 w1 A1 E1 k1 ?_
           intro a2 w2 A2 E2 k2 g2;exact hQ a2 w2 A2 E2 k2 (g1.trans g2 (di.le_refl _))
         · rename_i ng;refine ih n (by omega) B nt x k mx n1 hx σ σ' e hr _ a w A E hk ?_
           intro a1 w1 A1 E1 k1 g1
           have:=hQ a1 w1 A1 E1 k1 g1
           cases e with
           | normal=>exact (ng _ hr).elim
           | exit id=>exact this
           | ret=>exact this
       · cases hc
     · cases hc
   | cond o x y =>
     simp only [sq] at hc;split at hc
     · rename_i co mx n1 ho hx;split at hc
       · rename_i my n2 hy;simp only [aa,ae] at hc;obtain ⟨rfl,_⟩:=hc;simp only [run] at hr;have hv:=jM hk.sl ho;split at hr
         · rename_i hb;rw [hb] at hv;refine wp_cond_true (tO.1 hv) (ih n (by omega) B nt x k mx n1 hx σ σ' e hr Q a w A E hk hQ)
         · rename_i hb;rw [hb] at hv;refine wp_cond_false (tO.1 hv) (ih n (by omega) B nt y n1 my n2 hy σ σ' e hr Q a w A E hk hQ)
         · cases hr
       · cases hc
     · cases hc
   | block id x =>
     simp only [sq] at hc;split at hc
     · rename_i mx n1 hx;simp only [aa,ae] at hc;obtain ⟨rfl,_⟩:=hc;simp only [run] at hr;refine wp_block ?_;split at hr
       · rename_i j σ1 xW;refine ih n (by omega) B nt x k mx n1 hx σ σ1 (.exit j) xW _ a w A E hk ?_
         intro a1 w1 A1 E1 k1 g1;simp only [Yg,Exit.inBlock];split at hr
         · rename_i hj;simp only [aa,ae] at hr;obtain ⟨rfl,rfl⟩:=hr;rw [if_pos hj];exact hQ a1 w1 A1 E1 k1 g1
         · rename_i hj;simp only [aa,ae] at hr;obtain ⟨rfl,rfl⟩:=hr;rw [if_neg hj];exact hQ a1 w1 A1 E1 k1 g1
       · rename_i ng;refine ih n (by omega) B nt x k mx n1 hx σ σ' e hr _ a w A E hk ?_
         intro a1 w1 A1 E1 k1 g1
         have:=hQ a1 w1 A1 E1 k1 g1
         cases e with
         | normal=>exact this
         | exit j=>exact (ng _ _ hr).elim
         | ret=>exact this
     · cases hc
   | loop x =>
     simp only [sq] at hc;split at hc
     · rename_i mx n1 hx;simp only [aa,ae] at hc;obtain ⟨rfl,_⟩:=hc;generalize hks:(B.bm.getD k ([],[])).1=ks at hr;generalize BP:(B.bm.getD k ([],[])).2=ids at hr
       let R:Nat→Act→World→Prop:=fun m a1 w1=>m ≤ n + 1∧∃ σ1 A1 E1,run Φ m (.loop ks ids mx) σ1=some (e,σ')∧uR P w1 A1 E1 nt σ1 a1∧gE w A E S0 w1 A1 E1
       refine C2I R ?_ (n + 1) a w ⟨ar _,σ,A,E,hr,hk,gE.refl w A E _⟩;rintro m a1 w1 ⟨hm,σ1,A1,E1,xW,k1,g1⟩;cases m with
       | zero=>simp [run] at xW
       | succ m =>
         simp only [run] at xW;obtain ⟨E2,k2,g2⟩:=MQ k1 ks ids;split at xW
         · rename_i σ2 Gx;refine ih m (by omega) B nt x (k + 1) mx n1 hx _ σ2 .normal Gx _ a1 w1 A1 E2 k2 ?_
           intro a3 w3 A3 E3 k3 g3;exact ⟨m,by omega,by omega,σ2,A3,E3,xW,k3,(g1.trans g2 (di.le_refl _)).trans g3 (di.le_refl _)⟩
         · rename_i ng;refine ih m (by omega) B nt x (k + 1) mx n1 hx _ σ' e xW _ a1 w1 A1 E2 k2 ?_
           intro a3 w3 A3 E3 k3 g3
           have:=hQ a3 w3 A3 E3 k3 ((g1.trans g2 (di.le_refl _)).trans g3 (di.le_refl _))
           cases e with
           | normal=>exact (ng _ xW).elim
           | exit j=>exact this
           | ret=>exact this
     · cases hc
   | _ =>
     simp only [sq,aa,ae] at hc;obtain ⟨rfl,_⟩:=hc;simp [run] at hr
end
end Go.Mid
namespace Go.Mid
open Go.RowKit
section
variable {P:Program} {w:World} {A A':Nat→Prop} {E:dL An} {nx:di} {h:cj}
theorem C6o (hm:MR w A E h nx) {t:TypeId} (hU:qD P t=true) {x u:MV} {val:Value} (dH:bQ w A E nx x val) (hu:tG h (mO P t) (P.cellsOf t) x=some u) :
 ∃ ad v,val=.pointer (some ad)∧(loadVar t ad).run P w=.ok v w∧bQ w A E nx u v:=by
 unfold tG at hu;split at hu
 · rename_i pv;split at hu
   · rename_i hc;cases hu;obtain ⟨b,o',cE,hA,cv,h1,h2⟩:=Ao.1 dH;refine ⟨_,_,cE,L2 w hU (by rw [h1.len,hc.1]) h2 (fun hg=>by rw [← hc.2] at hg; obtain ⟨_,rfl,_⟩:=h1.one hg; rfl),?_⟩
     simp only [bQ,oZ]; exact ⟨cv,h1,by rw [hc.2]⟩
   · cases hu
 · rename_i id np rp g o';split at hu
   · rename_i t' s' oo hl;simp only at hu;split at hu
     · rename_i hc;obtain ⟨rfl,rfl,eY⟩:=hc;split at hu
       · rename_i hagg;obtain ⟨hagg,qW⟩:=hagg;cases hu;obtain ⟨an,tA,nW,hg,rfl⟩:=hm.look hl;obtain ⟨b,hb,kS⟩:=hm.sM nW;simp only [bQ] at dH;obtain ⟨_,ad,cE,qX⟩:=dH;obtain ⟨z,hn⟩:=F5 nW;obtain ⟨b',jr,rfl⟩:=qX an z hn hg;rw [hb] at jr; cases jr;obtain ⟨cs,hrow,H9,hlen⟩:=PR hm tA (ru np rp) b oo (LY nW) kS;rw [T.j9] at eY;refine ⟨_,_,cE,L2 w hU (by rw [hlen,eY]) hrow ?_,?_⟩
         · intro rE;rw [← hagg] at rE;rcases H9.2 with ⟨n,hn⟩ | ⟨_,h2⟩
           · rw [hn] at qW; cases qW
           · obtain ⟨x,rfl,_⟩:=h2 rE; rfl
         · rw [← hagg]; exact H9.val
       · cases hu
     · cases hu
   · cases hu
 · cases hu
def Gz (tmps:Array Value):ResultVar→Sem Value
 | .tmp t=>pure (tmps.getD t undef)
 | .cell b t=>do loadVar t (← asAddr (tmps.getD b undef))
theorem C6p (fn:Func) (tmps:Array Value):results fn tmps=(do let vs ← fn.results.mapM (Gz tmps); pure (if h:vs.size=1 then vs[0] else .tuple vs)):=by
 have:(fun | .tmp t=>pure (tmps.getD t undef) | .cell a t=>do loadVar t (← asAddr (tmps.getD a undef)):ResultVar→Sem Value)=Gz tmps:=by
  funext x; cases x <;> rfl
 unfold results;rw [← this];rfl
theorem Yi {s:gD} {a:Act} (hs:pZ P w A E nx s a) (hm:MR w A E h nx) {nt:Nat}:∀ {rs:List ResultVar} {vs:List RV} {l:List MV},CC P nt rs=some vs→xI s h vs=some l →
 ∃ us:List Value,(rs.mapM (Gz a.tmps)).run P w=.ok us w∧c8 w A E nx l us
 | [],vs,l,hc,hr=>by
   simp only [CC,aa] at hc;subst hc;simp only [xI,aa] at hr;subst hr;exact ⟨[],by simp,by simp only [c8]⟩
 | x::rs,vs,l,hc,hr=>by
   simp only [CC] at hc;split at hc
   · rename_i v xP h1 h2;simp only [aa] at hc;subst hc;simp only [xI] at hr;split at hr
     · rename_i u us h3 h4;simp only [aa] at hr;subst hr;obtain ⟨ws,h5,h6⟩:=Yi hs hm h2 h4;cases x with
       | tmp t =>
         simp only [PD] at h1;split at h1
         · simp only [aa] at h1;subst h1;simp only [Cy,aa] at h3;subst h3;refine ⟨a.tmps.getD t undef::ws,?_,by simp only [c8]; exact ⟨_,ws,rfl,hs.sl t,h6⟩⟩
           rw [l7];simp only [Gz,bn,bL,aV,h5]
         · cases h1
       | cell b t =>
         simp only [PD] at h1;split at h1
         · rename_i dS;simp only [aa] at h1;subst h1;simp only [Cy] at h3;obtain ⟨ad,v,cE,zd,hv⟩:=C6o hm dS.2 (hs.sl b) h3;refine ⟨v::ws,?_,by simp only [c8]; exact ⟨_,ws,rfl,hv,h6⟩⟩
           rw [l7];have e:(Gz a.tmps (.cell b t)).run P w=.ok v w:=by simp only [Gz,bn,cE,asAddr,bL,aV,zd]
           simp only [bn,bL,aV,h5,e]
         · cases h1
     · cases hr
   · cases hc
theorem C4y {s:gD} {a:Act} (hs:pZ P w A E nx s a) (hm:MR w A E h nx) {nt:Nat} {fn:Func} {vs:List RV} {l:List MV} (hc:CC P nt fn.results.toList=some vs) (hr:xI s h vs=some l) :
 ∃ v,(results fn a.tmps).run P w=.ok v w∧bQ w A E nx (Cz l) v:=by
 obtain ⟨us,h1,h2⟩:=Yi hs hm hc hr;have h3:(results fn a.tmps).run P w=.ok (if h:us.toArray.size=1 then us.toArray[0] else .tuple us.toArray) w:=by
  rw [C6p,Array.mapM_eq_mapM_toList];simp only [bn,Sem.run_map,h1,aV,bL]
 refine ⟨_,h3,?_⟩;cases l with
 | nil =>
   simp only [c8] at h2;subst h2;simp only [Cz,bQ];exact ⟨[],rfl,by simp only [c8]⟩
 | cons x r =>
   cases r with
   | nil =>
     simp only [c8] at h2;obtain ⟨u,d,rfl,h4,rfl⟩:=h2;exact h4
   | cons y q =>
     have hl:us.length ≠ 1:=by
      simp only [c8] at h2;obtain ⟨u,d,rfl,_,u',d',rfl,_,_⟩:=h2;simp
     rw [dif_neg (by simpa using hl)]
     show bQ w A E nx (.eJ (x::y::q)) _;simp only [bQ];exact ⟨us,rfl,h2⟩
theorem bQ.xh {x:MV} {v:Value} {r:List MV} {d:List Value} {nx:di} (hv:bQ w A E nx x v) (hl:rQ x=true) (hr:dV w A E nx r d):dV w A E nx (x::r) (v.cells.toList++d):=(hv.tZ hl).cons hr
mutual
theorem Rz (m:MR w A E h nx) {E0:dL An} (f:Fr w w A A' E E0 nx nx) (jA:∀ i,mT i=true→∀ o,E i=some o→∀ b ∈ o.blk,A' b):∀ {v u:MV} {val:Value},rD h v=some u→bQ w A E nx v val→bQ w A' E0 nx u val∧(rQ v=true→rQ u=true)∧(rQ v=false→∃ l,u=.eJ l)
 | .p v,u,val,hp,hv=>by
   simp only [rD,aa] at hp;subst hp;exact ⟨hv.frame f,fun h=>h,fun h=>by simp [rQ] at h⟩
 | .agg l,u,val,hp,hv=>by
   simp only [rD] at hp;split at hp
   · rename_i vs fR;simp only [aa] at hp;subst hp;simp only [bQ] at hv;obtain ⟨cs,rfl,hv⟩:=hv;refine ⟨L1 (Yj m f jA fR hv),fun _=>?_,fun h=>by simp [rQ] at h⟩
     unfold uB;split <;> rfl
   · cases hp
 | .eJ l,u,val,hp,hv=>by
   simp only [rD] at hp;split at hp
   · rename_i vs fR;simp only [aa] at hp;subst hp;simp only [bQ] at hv ⊢;obtain ⟨ws,rfl,hv⟩:=hv;exact ⟨⟨ws,rfl,Yk m f jA fR hv⟩,fun h=>by simp [rQ] at h,fun _=>⟨vs,rfl⟩⟩
   · cases hp
 | .own id path off len g,u,val,hp,hv=>MT m f jA (by simp only [rD] at hp; exact hp) hv rfl
 | .ptr id np rp g o,u,val,hp,hv=>MT m f jA (by simp only [rD] at hp; exact hp) hv rfl
 | .fy id path g,u,val,hp,hv=>by simp only [bQ] at hv
 | .nil z,u,val,hp,hv=>MT m f jA (by simp only [rD] at hp; exact hp) hv rfl
 | .fn i l,u,val,hp,hv=>MT m f jA (by simp only [rD] at hp; exact hp) hv rfl
 | .dead n,u,val,hp,hv=>by simp [rD,jZ,mq] at hp
theorem MT (m:MR w A E h nx) {E0:dL An} (f:Fr w w A A' E E0 nx nx) (jA:∀ i,mT i=true→∀ o,E i=some o→∀ b ∈ o.blk,A' b) {v u:MV} {val:Value}
 (hp:(if ((jZ v).all (fun i=>!mT i) && !(jZ v).isEmpty)=true then some v else match mq h v with | some w=>if (jZ v).all mT=true then some (.p w) else none | none=>none)=some u) (hv:bQ w A E nx v val) (hl:rQ v=true):bQ w A' E0 nx u val∧(rQ v=true→rQ u=true)∧(rQ v=false→∃ l,u=.eJ l):=by
 refine ⟨?_,fun _=>?_,fun h=>by rw [hl] at h; cases h⟩
 · split at hp
   · simp only [aa] at hp;subst hp;exact hv.frame f
   · split at hp
     · rename_i w' hw;split at hp
       · rename_i kD;simp only [aa] at hp;subst hp;simp only [bQ];refine CU m f.hA hw (fun i hi o ho b hb=>jA i (bB.1 kD i hi) o ho b hb) hv
       · cases hp
     · cases hp
 · split at hp
   · simp only [aa] at hp;subst hp; exact hl
   · split at hp
     · split at hp
       · simp only [aa] at hp;subst hp; rfl
       · cases hp
     · cases hp
theorem Yj (m:MR w A E h nx) {E0:dL An} (f:Fr w w A A' E E0 nx nx) (jA:∀ i,mT i=true→∀ o,E i=some o→∀ b ∈ o.blk,A' b):∀ {l us:List MV} {cs:List Value},yC h l=some us→dV w A E nx l cs→dV w A' E0 nx us cs
 | [],us,cs,hp,hv=>by
   simp only [yC,aa] at hp;subst hp;simpa only [dV] using hv
 | x::r,us,cs,hp,hv=>by
   simp only [yC] at hp;split at hp
   · rename_i v vs h1 h2;simp only [aa] at hp;subst hp;simp only [dV] at hv;obtain ⟨val,d,rfl,h3,h4,h5,h6⟩:=hv;obtain ⟨q1,q2,q3⟩:=Rz m f jA h1 h5;have hr:=Yj m f jA h2 h6;cases hx:rQ x with
     | true=>exact q1.xh (q2 hx) hr
     | false =>
       exfalso;obtain ⟨l',rfl⟩:=q3 hx;cases x <;> simp only [rQ,reduceCtorEq] at hx
       · simp only [bQ] at h5;obtain ⟨ws,rfl,_⟩:=h5;simp [MV.cs,Value.cells] at h3
       · simp [rD,jZ,mq] at h1
   · cases hp
theorem Yk (m:MR w A E h nx) {E0:dL An} (f:Fr w w A A' E E0 nx nx) (jA:∀ i,mT i=true→∀ o,E i=some o→∀ b ∈ o.blk,A' b):∀ {l us:List MV} {vs:List Value},yC h l=some us→c8 w A E nx l vs→c8 w A' E0 nx us vs
 | [],us,vs,hp,hv=>by
   simp only [yC,aa] at hp;subst hp;simpa only [c8] using hv
 | x::r,us,vs,hp,hv=>by
   simp only [yC] at hp;split at hp
   · rename_i v xP h1 h2;simp only [aa] at hp;subst hp;simp only [c8] at hv ⊢;obtain ⟨val,d,rfl,h5,h6⟩:=hv;exact ⟨val,d,rfl,(Rz m f jA h1 h5).1,Yk m f jA h2 h6⟩
   · cases hp
end
end
end Go.Mid
namespace Go.Mid
open Go.RowKit
section
variable {P:Program} {w:World} {A:Nat→Prop} {E:dL An} {nt:Nat} {σ:St} {a:Act}
theorem Yl (n k:Nat):((bA n).map (ep + ·))[k]?=if k < n then some (ep + k) else none:=by
 rw [aH];split
 · rename_i h; rw [List.getElem?_range h]; rfl
 · rename_i h; rw [bI (by simpa using h)]; rfl
theorem Ym {h:cj} {ρ:Nat→Option Nat} {ζ:Nat→Nat} {ζn:Nat→Nat→Nat} {bk:Nat→Option Nat} (hz:∀ i j,bk j=some i→∀ g,ζn i g=0→g=0∧i=j):oO S0 E (rX E h ρ ζ ζn bk):=by
 intro id np an z hn hg;have xQ:an.g=0:=hg;cases hb:bk id with
 | none =>
   have:rX E h ρ ζ ζn bk id=none:=by simp only [rX,hb,m5]
   rw [this] at hn;cases np with
   | none=>cases hn
   | some p=>cases p <;> cases hn
 | some i =>
   rw [IK hb] at hn;cases Az:fg (E i) np with
   | none=>simp [Az] at hn
   | some y =>
     simp only [Az,ak,aa,ae] at hn;obtain ⟨rfl,rfl⟩:=hn;obtain ⟨h0,rfl⟩:=hz i id hb _ xQ;rw [Az];obtain ⟨⟨g,bb,cc⟩,z⟩:=y;simp only at h0;subst h0
     have:ζn i 0=0:=xQ
     simp only [zA,this]
theorem Yn (k:uR P w A E nt σ a) {fn:Func} {F:p9} {n:Nat} {r:MV} {ext dG:List (Obj Nat)} (nN:CC P fn.ntmps fn.results.toList=some F.res) (hf:xJ F n σ=some (r,ext,dG)) :
 ∃ v,(results fn a.tmps).run P w=.ok v w∧∃ A' E' nx',MR w A' E' (j0 ext dG) nx'∧gE w A E S0 w A' E'∧bQ w A' E' nx' r v:=by
 unfold xJ at hf;split at hf
 · cases hf
 · rename_i hn;split at hf
   · cases hf
   · rename_i vs fR;obtain ⟨v,gr,hv⟩:=C4y k.sl k.mr nN fR;refine ⟨v,gr,?_⟩
     dsimp only at hf
     split at hf
     · -- frozen
       split at hf
       · rename_i u ex hu hex;simp only [aa,ae] at hf;obtain ⟨rfl,rfl,rfl⟩:=hf
         let A':Nat→Prop:=fun b=>A b∨∃ i o,mT i=true∧E i=some o∧b ∈ o.blk
         let E0:dL An:=fun i=>if mT i then none else E i
         let h0:cj:=fun i=>if mT i then none else σ.h i
         have vw:∀ {i o},E0 i=some o→mT i=false∧E i=some o:=by
          intro i o ho;simp only [E0] at ho;split at ho
          · cases ho
          · rename_i hl; exact ⟨by simpa using hl,ho⟩
         have C3:∀ i np y,fg (E0 i) np=some y→fg (E i) np=some y:=by
          intro i np y hy;simp only [E0] at hy;split at hy
          · cases np with
            | none=>cases hy
            | some p=>cases p <;> cases hy
          · exact hy
         have f:Fr w w A A' E E0 (· < σ.nx) (· < σ.nx):=⟨fun b hb=>.inl hb,fun _ _=>rfl,fun id np an z h _=>C3 id np _ h,di.le_refl _⟩
         have m0:MR w A' E0 h0 (· < σ.nx):=by
          constructor
          · intro i;simp only [E0,h0];split
            · rfl
            · exact k.mr.er i
          · intro i o ho;exact OAt.frame f (fun _ _=>rfl) (k.mr.at_ i o (vw ho).2)
          · rintro b ⟨i,o,ho,hb⟩;obtain ⟨hl,ho⟩:=vw ho
            have:=k.mr.j3 ho hb
            refine ⟨this.1,fun hA=>?_⟩
            rcases hA with hA | ⟨j,o',hj,oH,jr⟩
            · exact this.2 hA
            · have eA:i ≠ j:=fun e=>by subst e; rw [hl] at hj; cases hj
              exact k.mr.dj i j o o' eA ho oH b hb jr
          · intro i o ho; exact k.mr.nd i o (vw ho).2
          · intro i j o o' eA ho oH; exact k.mr.dj i j o o' eA (vw ho).2 (vw oH).2
          · rintro b (hA | ⟨j,o',_,oH,jr⟩)
            · exact k.mr.im b hA
            · exact (k.mr.j3 oH jr).1
          · intro i o ho; exact k.mr.st i o (vw ho).2
         have hu0:=(Rz k.mr f (fun i hi o ho b hb=>.inr ⟨i,o,hi,ho,hb⟩) hu hv).1
         let bk:Nat→Option Nat:=fun j=>if ep ≤ j∧j < ep + n then some j else none
         have hρ:∀ i j,pY n [] i=some j→bk j=some i:=by
          intro i j gL;unfold pY at gL;split at gL
          · split at gL
            · rename_i h1 h2;simp only [aa] at gL;subst gL;simp only [bk]; rw [if_pos ⟨h1,h2⟩]
            · cases gL
          · simp [oX] at gL
         have rH:∀ i j,bk j=some i→i=j∧ep ≤ j∧j < ep + n:=by
          intro i j h;simp only [bk] at h;split at h
          · rename_i hc; cases h; exact ⟨rfl,hc⟩
          · cases h
         have sS:∀ i j j',bk j=some i→bk j'=some i→j=j':=fun i j j' h h'=>by rw [← (rH i j h).1,← (rH i j' h').1]
         have hm:=m0.clean (nx':=(· < 2)) (ζ:=jx) (ζn:=fun _=>jx) hρ sS (fun g _=>BU g) (fun _ g _=>BU g)
         have Gj:=bQ.clean (nx':=(· < 2)) (ζ:=jx) (ζn:=fun _=>jx) m0 hρ (fun g _=>BU g) hu0
         have jA:∀ i j,pY n [] i=some j→h0 i=σ.h i:=by
          intro i j gL
          have:=hρ i j gL
          obtain ⟨rfl,h1,_⟩:=rH i j this;simp only [h0];rw [if_neg];simp only [mT,decide_eq_true_eq]; omega
         have nI:jT h0 (pY n []) jx=jT σ.h (pY n []) jx:=funext fun v=>Rb jA v
         have zk:y6 h0 (pY n []) jx (fun _=>jx) bk=j0 (ex.map (kF (jT σ.h (pY n []) jx) jx)) []:=by
          funext j;simp only [y6,j0,bk,nI];by_cases h1:kG ≤ j
          · rw [if_pos h1,if_neg (by simp only [kG,ep] at *; omega)]
            simp
          · rw [if_neg h1];by_cases h2:ep ≤ j
            · rw [if_pos h2,aH,IU hex,Yl];by_cases h3:j < ep + n
              · rw [if_pos ⟨h2,h3⟩,if_pos (by omega),show ep + (j - ep)=j by omega]
                simp only [ai,h0];rw [if_neg];simp only [mT,decide_eq_true_eq]; omega
              · rw [if_neg (fun h=>h3 h.2),if_neg (by omega)]
                rfl
            · rw [if_neg h2,if_neg (fun h=>h2 h.1)]
              rfl
         rw [zk] at hm;rw [nI] at Gj;refine ⟨A',_,_,hm,?_,Gj⟩;refine ⟨rfl,rfl,rfl,ar _,fun _ _ _=>rfl,fun b hb=>.inl hb,fun b _ hb=>hb.imp (fun h=>h) (fun ⟨i,o,_,ho,lV⟩=>⟨i,o,ho,lV⟩),fun b _ hb=>?_,?_⟩
         · obtain ⟨i,o,ho,lV⟩:=MA hb;exact ⟨i,o,(vw ho).2,lV⟩
         · have h1:oO S0 E0 (rX E0 h0 (pY n []) jx (fun _=>jx) bk):=Ym fun i j hb g hg=>⟨Ry hg,(rH i j hb).1⟩
           exact fun id np an z hh hg=>C3 id np _ (h1 id np an z hh hg)
       · cases hf
     · -- roots go out
       generalize BR:(jd σ.h (jd σ.h (jZ (Cz vs)++(bA n).map (ep + ·)))).filter mT=es at hf;have gV:es.Nodup:=by
        rw [← BR];exact List.Pairwise.filter _ (Q6 _)
       have zm:∀ i ∈ es,mT i=true:=by
        intro i hi;rw [← BR] at hi;exact (cf.1 hi).2
       split at hf
       · rename_i ex eo hex heo;simp only [aa,ae] at hf;obtain ⟨rfl,rfl,rfl⟩:=hf
         let bk:Nat→Option Nat:=fun j=>if kG ≤ j then es[j - kG]? else if ep ≤ j∧j < ep + n then some j else none
         let ζn:Nat→Nat→Nat:=fun i=>if mT i then fun _=>1 else jx
         have rH:∀ i j,bk j=some i→(kG ≤ j∧es[j - kG]?=some i∧mT i=true)∨(i=j∧ep ≤ j∧j < ep + n∧¬ kG ≤ j):=by
          intro i j h;simp only [bk] at h;split at h
          · rename_i h1; exact .inl ⟨h1,h,zm i (bG h)⟩
          · rename_i h1;split at h
            · rename_i hc; cases h; exact .inr ⟨rfl,hc.1,hc.2,h1⟩
            · cases h
         have hρ:∀ i j,pY n es i=some j→bk j=some i:=by
          intro i j gL;unfold pY at gL;split at gL
          · split at gL
            · rename_i h1 h2;simp only [aa] at gL;subst gL;simp only [bk];rw [if_neg (by simp only [kG,ep] at *; omega),if_pos ⟨h1,h2⟩]
            · cases gL
          · cases hi:oX es i with
            | none=>simp [hi] at gL
            | some m =>
              simp only [hi,ak,aa] at gL;subst gL;simp only [bk];rw [if_pos (Nat.le_add_right _ _),Nat.add_sub_cancel_left];exact Eu hi
         have sS:∀ i j j',bk j=some i→bk j'=some i→j=j':=by
          intro i j j' h h';rcases rH i j h with ⟨h1,h2,h3⟩ | ⟨rfl,h2,h3,_⟩ <;> rcases rH i j' h' with ⟨h4,h5,h6⟩ | ⟨e,h5,h6,_⟩
          · have e1:=Gq gV h2;have e2:=Gq gV h5;rw [e1] at e2
            have:=b9 e2
            omega
          · subst e; simp only [mT,decide_eq_true_eq] at h3; omega
          · simp only [mT,decide_eq_true_eq] at h6; omega
          · exact e
         have hm:=k.mr.clean (nx':=(· < 2)) (ζ:=jx) (ζn:=ζn) hρ sS (fun g _=>BU g) (fun i g _=>by
          simp only [ζn]; split
          · show 1 < 2; omega
          · exact BU g)
         have Gj:=bQ.clean (nx':=(· < 2)) (ζ:=jx) (ζn:=ζn) k.mr hρ (fun g _=>BU g) hv
         have zk:y6 σ.h (pY n es) jx ζn bk=j0 (ex.map (kF (jT σ.h (pY n es) jx) jx)) (eo.map (kF (jT σ.h (pY n es) jx) (fun _=>1))):=by
          funext j;simp only [y6,j0,bk];by_cases h1:kG ≤ j
          · rw [if_pos h1,if_pos h1,aH,IU heo];cases he:es[j - kG]? with
            | none=>rfl
            | some i =>
              have:=zm i (bG he)
              simp only [ai,ζn,this,if_true]
          · rw [if_neg h1,if_neg h1];by_cases h2:ep ≤ j
            · rw [if_pos h2,aH,IU hex,Yl];by_cases h3:j < ep + n
              · rw [if_pos ⟨h2,h3⟩,if_pos (by omega),show ep + (j - ep)=j by omega]
                have hl:mT j=false:=by simp only [mT,decide_eq_false_iff_not]; omega
                simp only [ai,ζn,hl,aI,if_false]
              · rw [if_neg (fun h=>h3 h.2),if_neg (by omega)]
                rfl
            · rw [if_neg h2,if_neg (fun h=>h2 h.1)]
              rfl
         rw [zk] at hm;refine ⟨A,_,_,hm,?_,Gj⟩;refine ⟨rfl,rfl,rfl,ar _,fun _ _ _=>rfl,fun _ h=>h,fun _ _ h=>.inl h,fun b _ hb=>MA hb,Ym fun i j hb g hg=>?_⟩
         rcases rH i j hb with ⟨_,_,h3⟩ | ⟨e,h2,_,_⟩
         · simp only [ζn,h3,if_true] at hg;omega
         · have hl:mT i=false:=by simp only [mT,decide_eq_false_iff_not]; omega
           simp only [ζn,hl,aI,if_false] at hg;exact ⟨Ry hg,e⟩
       · cases hf
end
def GA (P:Program) (f:Nat) (p:Prim):Prop:=∀ args ext r ext' dG,u7 p args ext=some (r,ext',dG)→Ew P f ∧
 ∀ (w:World) (A:Nat→Prop) (E:dL An) (gP:List Value),GL P w A→c8 w A E S0 args gP→MR w A E (nc ext) S0 →
  Calls P f gP.toArray w fun e w'=>∃ v,e=.returned v∧∃ A' E' nx',MR w' A' E' (j0 ext' dG) nx'∧gE w A E S0 w' A' E'∧bQ w' A' E' nx' r v
structure oR (P:Program) (Φ:ml):Prop where
 mix:P.follows .mixedOrders=true
 code:∀ f F,Φ f=some (.code F)→∃ fn B,P.funcs[f]?=some fn∧(fn.name == "runtime.NumGoroutine")=false∧PE P B fn=some F
 qc:∀ f p,Φ f=some (.qc p)→GA P f p
section
variable {P:Program} {Φ:ml}
theorem Yo {w:World} {A:Nat→Prop} {E:dL An} {S:di}:∀ {l:List MV} {vs:List Value},c8 w A E S l vs→∀ i,bQ w A E S (l.getD i (.dead 0)) (vs.getD i undef)
 | [],vs,h,i=>by simp only [c8] at h; subst h; simp [bQ]
 | x::r,vs,h,i=>by
   simp only [c8] at h;obtain ⟨v,d,rfl,h1,h2⟩:=h;cases i with
   | zero=>exact h1
   | succ i=>simpa using Yo h2 i
theorem Yp (hT:oR P Φ) (n:Nat) (hc:MS P Φ n):AH P (nV Φ (run Φ n)):=by
 intro f args ext r ext' dG hk;unfold nV at hk;split at hk
 · cases hk
 · rename_i p hp;exact hT.qc f p hp args ext r ext' dG hk
 · rename_i F hF;obtain ⟨fn,B,xi,tQ,vz⟩:=hT.code f F hF;unfold PE at vz;split at vz
   · rename_i c ug;split at vz
     · rename_i mc k' rs Jd nN;simp only [aa] at vz;subst vz;refine ⟨⟨fn,xi,tQ,by rw [ug]; rfl⟩,?_⟩
       intro w A E gP rY hv hm;have EJ:uR P w A E fn.ntmps ⟨uI args,nc ext,1⟩ { tmps:=gP.toArray++iq (fn.ntmps - gP.toArray.size) undef,defers:=[] }:=by
        have hle:S0.le (· < 1):=AJ (ar 1);refine ⟨⟨fun i=>?_,rY⟩,hm.mono hle,ar 1,rfl,?_⟩
        · have h1:=(Yo hv i).frame (Fr.same w A E hle);have h2:(gP.toArray++iq (fn.ntmps - gP.toArray.size) undef).getD i undef=gP.getD i undef:=by
           by_cases hi:i < gP.length
           · simp only [fN];rw [Array.getElem?_append_left (by simpa using hi)]
             simp [hi,m6]
           · simp only [fN];rw [Array.getElem?_append_right (by simpa using hi)]
             have:gP.getD i undef=undef:=by simp [m6,bI (kO hi)]
             rw [this,Array.getElem?_replicate];split <;> rfl
          rw [h2];exact h1
        · simp only [Array.size_append,List.size_toArray,Array.size_replicate]; omega
       refine calls_of_wp xi ug ?_;have main:∀ (e:Ex) (σ:St),(e=.normal∨e=.ret)→run Φ n mc ⟨uI args,nc ext,1⟩=some (e,σ)→xJ ⟨mc,rs,B.DH⟩ ext.length σ=some (r,ext',dG) →
        c.wp P (bodyPost P fn fun e w'=>∃ v,e=.returned v∧∃ A' E' nx',MR w' A' E' (j0 ext' dG) nx'∧gE w A E S0 w' A' E'∧bQ w' A' E' nx' r v) { tmps:=gP.toArray++iq (fn.ntmps - gP.toArray.size) undef,defers:=[] } w:=by
        intro e σ he hr hf;refine hc B fn.ntmps c 0 mc k' Jd _ σ e hr _ _ w A E EJ ?_;intro a' w' A' E' k1 g1;obtain ⟨v,As,A2,E2,MU,q1,q2,q3⟩:=Yn k1 (F:=⟨mc,rs,B.DH⟩) nN hf
        have:k1.df=k1.df:=rfl
        rcases he with rfl | rfl
        · exact ⟨k1.df,v,As,v,rfl,A2,E2,MU,q1,g1.trans q2 (di.le_refl _),q3⟩
        · exact ⟨k1.df,v,As,v,rfl,A2,E2,MU,q1,g1.trans q2 (di.le_refl _),q3⟩
       split at hk
       · rename_i σ hr; exact main _ σ (.inl rfl) hr hk
       · rename_i σ hr; exact main _ σ (.inr rfl) hr hk
       · cases hk
     · cases vz
   · cases vz
theorem MW (hT:oR P Φ):∀ n,MS P Φ n:=by
 intro n
 induction n using lF with
 | _ n ih=>exact C6n hT.mix n ih (fun m hm=>Yp hT m (ih m hm))
theorem Yq (hT:oR P Φ) (n:Nat):AH P (nV Φ (run Φ n)):=Yp hT n (MW hT n)
end
end Go.Mid
