/- What an operation touches: it depends on these roots alone, and leaves the others as they are. -/
import Derived.Test.YtfjdpcegbfenbaaGreatDoorM4
set_option linter.unusedSimpArgs false
set_option linter.unusedVariables false
open Array renaming getElem?_setIfInBounds_ne → dQ, getElem?_push → o9, getElem?_eq_none → ik, getElem?_eq_some_iff → c7, replicate → iA, getD_eq_getD_getElem? → fK
open Bool renaming false_eq_true → aI, not_eq_true → fW, and_eq_true → aj, not_eq_true' → ed, or_eq_true → cn
open Go.Region renaming wanted → tZ, binds → eu, before → gE, ready → qE
open Go.Result renaming andThen_ok → aU
open Go.Sem renaming run_bind → bn, run_pure → bL
open List renaming mem_append → az, mem_cons → aG, mem_singleton → aX, getElem?_eq_some_iff → aJ, mem_of_getElem? → bH, map_cons → aF, append_nil → bD, mem_flatMap → gY, map_congr_left → eJ, mem_map → bp, getElem?_map → aL, map_nil → cr, nodup_cons → bZ, range → bA, mem_filter → cZ, mem_range → cu, pairwise_cons → bN, filter_eq_self → jx, length_cons → bf, range' → mJ, getElem?_cons_zero → bQ, getElem?_cons_succ → bK, all_eq_true → bB, mapM_cons → me, getElem?_eq_none → bJ, getD → nh
open Nat renaming ne_of_lt → qD, le_of_not_lt → kQ, strongRecOn → lI, add_zero → dG, zero_add → bS, le_refl → ay
open Ne renaming symm → dv
open Option renaming map_some → ak, getD_some → bI, bind_some → ai, bind_none → ng
open Option.some renaming injEq → aa, inj → s8
open Prod.mk renaming injEq → ae
namespace Go.Mid
def cU (X:List Nat)(h k:cj):Prop:=∀ i,mG i∈X->k i=h i
def glue (X:List Nat)(h k:cj):cj:=λi=>if mG i∈X then h i else k i
theorem cU.refl (X:List Nat)(h:cj):cU X h h:=λ_ _=>rfl
theorem vt {X:List Nat}{h k:cj}(ha:cU X h k):glue X h k=k:=by
 funext i;unfold glue;split
 . rename_i hi;exact (ha i hi).symm
 . rfl
theorem Bk {X:List Nat}{h k:cj}{i:Nat}{o:Option (Obj Nat)}(hi:mG i∈X):glue X (cq h i o) k=cq (glue X h k) i o:=by
 funext j;by_cases e:j=i
 . subst e;simp [glue,cq,hi]
 . simp [glue,cq,e]
theorem cU.cq {X:List Nat}{h k:cj}(ha:cU X h k)(i:Nat)(o:Option (Obj Nat)):cU X (Mid.cq h i o) (Mid.cq k i o):=by
 intro j hj;by_cases e:j=i
 . subst e;simp [Mid.cq]
 . simp [Mid.cq,e,ha j hj]
theorem cU.glue {X:List Nat}(h k:cj):cU X h (glue X h k):=λi hi=>by simp [Mid.glue,hi]
def oQ (X:List Nat)(h h':cj):Prop:=∀ i,mG i∉X->h' i=h i
theorem oQ.refl (X:List Nat)(h:cj):oQ X h h:=λ_ _=>rfl
theorem oQ.trans {X:List Nat}{h h' JT:cj}(a:oQ X h h')(b:oQ X h' JT):oQ X h JT:=λi hi=>(b i hi).trans (a i hi)
theorem oQ.cq {X:List Nat}{h h':cj}(a:oQ X h h'){i:Nat}(hi:mG i∈X)(o:Option (Obj Nat)):oQ X h (Mid.cq h' i o):=by
 intro j hj
 have:j≠i:=λe=>hj (e ▸ hi)
 simp [Mid.cq,this,a j hj]
def qO (X:List Nat)(v:MV):Prop:=∀ i∈j3 v,mG i∈X
def fG (X:List Nat)(l:List MV):Prop:=∀ i∈mF l,mG i∈X
theorem fG.cons {X:List Nat}{x:MV}{r:List MV}:fG X (x::r)↔qO X x∧fG X r:=by
 simp only [fG,qO,mF,az];exact ⟨λh=>⟨λi hi=>h i (.inl hi),λi hi=>h i (.inr hi)⟩,λh i hi=>hi.elim (h.1 i) (h.2 i)⟩
theorem fG.mem {X:List Nat}{l:List MV}(h:fG X l){v:MV}(hv:v∈l):qO X v:=by
 induction l with
 | nil=>cases hv
 | cons x r ih =>
   rcases aG.1 hv with rfl | hv
   . exact (fG.cons.1 h).1
   . exact ih (fG.cons.1 h).2 hv
section
variable {X:List Nat}{h k:cj}
mutual
theorem Tl (ha:cU X h k):∀ {v:MV},qO X v->mE k v=mE h v
 | .p _,_=>rfl
 | .nil _,_=>rfl
 | .own id path off len g,hr=>by simp only [mE,ha id (hr id (by simp [j3]))]
 | .ptr id np rp g o,hr=>by simp only [mE,ha id (hr id (by simp [j3]))]
 | .auG ..,_=>rfl
 | .agg l,hr=>by simp only [mE,KL ha (v:=l) (by simpa only [qO,fG,j3] using hr)]
 | .fn f l,hr=>by simp only [mE,KL ha (v:=l) (by simpa only [qO,fG,j3] using hr)]
 | .eI _,_=>rfl
 | .dead _,_=>rfl
theorem KL (ha:cU X h k):∀ {v:List MV},fG X v->A2C k v=A2C h v
 | [],_=>rfl
 | x::r,hr=>by
   have:=fG.cons.1 hr
   simp only [A2C,Tl ha this.1,KL ha this.2]
end
end
mutual
theorem KM {X:List Nat}{γ:Nat}:∀ {v:MV} {h k h':cj} {t:T Nat},cU X h k->qO X v->pA γ h v=some (t,h')->pA γ k v=some (t,glue X h' k)∧oQ X h h'
 | .p _,h,k,h',t,ha,hr,he=>by
   simp only [pA,aa,ae] at he ⊢;obtain ⟨rfl,rfl⟩:=he;exact ⟨⟨rfl,(vt ha).symm⟩,oQ.refl _ _⟩
 | .nil _,h,k,h',t,ha,hr,he=>by
   simp only [pA,aa,ae] at he ⊢;obtain ⟨rfl,rfl⟩:=he;exact ⟨⟨rfl,(vt ha).symm⟩,oQ.refl _ _⟩
 | .own id path off len g,h,k,h',t,ha,hr,he=>by
   have gk:mG id∈X:=hr id (by simp [j3])
   simp only [pA] at he ⊢;rw [ha id gk];have fin:∀ {o},h'=cq h id o->cq k id o=glue X h' k∧oQ X h h':=by
    rintro o rfl;exact ⟨by rw [Bk gk,vt ha],(oQ.refl X h).cq gk o⟩
   split at he
   . rename_i wW z l hh;split at he
     . rename_i hc;rw [if_pos hc];simp only [aa,ae] at he ⊢;obtain ⟨rfl,rfl⟩:=he;exact ⟨⟨rfl,(fin rfl).1⟩,(fin rfl).2⟩
     . cases he
   . rename_i nu;split at he
     . rename_i wW z l n hs;split at he
       . rename_i hc;split at he
         . rename_i o' eN;simp only [aa,ae] at he;obtain ⟨rfl,rfl⟩:=he;refine ⟨?_,(fin rfl).2⟩;rw [if_pos hc,(fin rfl).1]
         . cases he
       . cases he
     . cases he
 | .auG ..,h,k,h',t,ha,hr,he=>by
   simp only [pA,aa,ae] at he ⊢;obtain ⟨rfl,rfl⟩:=he;exact ⟨⟨rfl,(vt ha).symm⟩,oQ.refl _ _⟩
 | .agg l,h,k,h',t,ha,hr,he=>by
   simp only [pA] at he ⊢;split at he
   . rename_i ts h1 hi;simp only [aa,ae] at he;obtain ⟨rfl,rfl⟩:=he;obtain ⟨h2,h3⟩:=Iu ha (by simpa only [qO,fG,j3] using hr) hi
     rw [h2];exact ⟨rfl,h3⟩
   . cases he
 | .ptr ..,h,k,h',t,ha,hr,he=>by
   simp only [pA,aa,ae] at he ⊢;obtain ⟨rfl,rfl⟩:=he;exact ⟨⟨rfl,(vt ha).symm⟩,oQ.refl _ _⟩
 | .fn ..,h,k,h',t,ha,hr,he=>by
   simp only [pA,aa,ae] at he ⊢;obtain ⟨rfl,rfl⟩:=he;exact ⟨⟨rfl,(vt ha).symm⟩,oQ.refl _ _⟩
 | .eI _,h,k,h',t,ha,hr,he=>by simp only [pA,reduceCtorEq] at he
 | .dead _,h,k,h',t,ha,hr,he=>by simp only [pA,reduceCtorEq] at he
theorem Iu {X:List Nat}{γ:Nat}:∀ {v:List MV} {h k h':cj} {t:List (T Nat)},cU X h k->fG X v->vB γ h v=some (t,h')->vB γ k v=some (t,glue X h' k)∧oQ X h h'
 | [],h,k,h',t,ha,hr,he=>by
   simp only [vB,aa,ae] at he ⊢;obtain ⟨rfl,rfl⟩:=he;exact ⟨⟨rfl,(vt ha).symm⟩,oQ.refl _ _⟩
 | x::r,h,k,h',t,ha,hr,he=>by
   have hr:=fG.cons.1 hr;simp only [vB] at he ⊢;split at he
   . rename_i t1 h1 h2;split at he
     . rename_i ts h3 h4;simp only [aa,ae] at he;obtain ⟨rfl,rfl⟩:=he;obtain ⟨q1,q2⟩:=KM ha hr.1 h2;obtain ⟨q3,q4⟩:=Iu (k:=glue X h1 k) (cU.glue h1 k) hr.2 h4;rw [q1];simp only [q3];refine ⟨?_,q2.trans q4⟩;congr 2;funext i;unfold glue;split
       . rfl
       . rename_i hi;simp [hi]
     . cases he
   . cases he
end
def Loc (X:List Nat)(h h':cj)(f:cj->Option (MV×cj))(v:MV):Prop:=oQ X h h'∧∀ k,cU X h k->f k=some (v,glue X h' k)
theorem Loc.read {X:List Nat}{h:cj}{f:cj->Option (MV×cj)}{v:MV}(hf:∀ k,cU X h k->f k=some (v,k)):Loc X h h f v :=
 ⟨oQ.refl _ _,λk ha=>by rw [hf k ha,vt ha]⟩
theorem xg {X:List Nat}{h k h':cj}{d:Option Nat}{o:Obj Nat}(hd:∀ x,d=some x->mG x∈X)(he:A0O d h o=some h'):A0O d (glue X h k) o=some (glue X h' k)∧oQ X h h':=by
 cases d with
 | none=>simp [A0O] at he
 | some d =>
   simp only [A0O,aa] at he ⊢;subst he;exact ⟨(Bk (hd d rfl)).symm,(oQ.refl X h).cq (hd d rfl) _⟩
end Go.Mid
namespace Go.Mid
theorem GC {h:cj}{l:List Nat}{i:Nat}(hi:i∈l):i∈jd h l:=Ti.2 (az.2 (.inl hi))
section
variable {K:jm}{γ:Nat}{d:Option Nat}{s:gB}{X:List Nat}{h h':cj}{v:MV}
theorem C49 (K:jm)(γ:Nat)(d:Option Nat)(s:gB){op:ui}(hi:idle op=true)(h:cj):∃ f:Option MV,∀ (γ':Nat) (k:cj),b6 K γ' d s k op=f.map λv=>(v,k):=by
 refine ⟨(b6 K γ d s h op).map (·.1),fun γ' k=>?_⟩
 cases op<;>simp only [idle,aI] at hi<;>simp only [b6]<;>(repeat' split)<;>(try rfl)<;>simp_all
theorem Tm {id g z off:Nat}{path:List Nat}{vs:List PV}{h1:cj}(gk:mG id∈X)(he:qT h id path g z off vs=some h1):oQ X h h1∧∀ k,cU X h k->qT k id path g z off vs=some (glue X h1 k):=by
 have hex:∃ o,h1=cq h id o∧∀ k,k id=h id->qT k id path g z off vs=some (cq k id o):=by
  unfold qT at he;split at he
  . rename_i hv;split at he
    . rename_i a z' l hh;split at he
      . rename_i hc;simp only [aa] at he;refine ⟨_,he.symm,λk hk=>?_⟩
        unfold qT;rw [if_pos hv,hk,hh];simp only [if_pos hc]
      . cases he
    . rename_i nu;split at he
      . rename_i a z' l n hs;split at he
        . rename_i hc;split at he
          . rename_i o' hp;simp only [aa] at he;refine ⟨_,he.symm,λk hk=>?_⟩
            unfold qT;rw [if_pos hv,hk];split
            . rename_i hh;exact (nu _ _ _ hh rfl).elim
            . simp only [hs,if_pos hc,hp]
          . cases he
        . cases he
      . cases he
  . cases he
 obtain ⟨o,rfl,hk⟩:=hex;exact ⟨(oQ.refl X h).cq gk o,λk ha=>by rw [hk k (ha id gk),Bk gk,vt ha]⟩
theorem KN {y:MV}{k:cj}(ha:cU X h k)(hr:qO X y):elems k y=elems h y:=by
 cases y<;>try rfl
 . rename_i v;cases v<;>rfl
 . rename_i id path off len g;simp only [elems,ha id (hr id (by simp [j3]))]
theorem C1N {y:MV}{ts:List (T Nat)}{h1:cj}(hr:qO X y)(he:tu h y=some (ts,h1)):oQ X h h1∧∀ k,cU X h k->tu k y=some (ts,glue X h1 k):=by
 unfold tu at he;split at he
 . cases he
 . rename_i Sh ia;split at he
   . rename_i hp;simp only [aa,ae] at he;obtain ⟨rfl,rfl⟩:=he;refine ⟨oQ.refl _ _,λk ha=>?_⟩
     unfold tu;rw [KN ha hr,ia];simp only [if_pos hp,vt ha]
   . rename_i hp;split at he
     . rename_i id len g;have gk:mG id∈X:=hr id (by simp [j3])
       split at he
       . rename_i g1 z1 l hh;split at he
         . rename_i hc;simp only [aa,ae] at he;obtain ⟨rfl,rfl⟩:=he;refine ⟨(oQ.refl X h).cq gk _,λk ha=>?_⟩
           unfold tu;rw [KN ha hr,ia];simp only [if_neg hp,ha id gk,hh,if_pos hc,Bk gk,vt ha]
         . cases he
       . cases he
     . cases he
theorem D8U {m:MV}{td:TD}{k:cj}(ha:cU X h k)(hr:qO X m):D8E k td m=D8E h td m:=by
 cases m with
 | auG id path g =>
   cases path with
   | nil=>simp only [D8E,ha id (hr id (by simp [j3]))]
   | cons i r=>rfl
 | _=>rfl
theorem E0n {m:MV}{td:TD}{id g:Nat}{ks ws:List PV}(hm:D8E h td m=some (id,g,ks,ws)):id∈j3 m:=by
 unfold D8E at hm;split at hm
 . split at hm
   . split at hm
     . split at hm
       . simp only [aa,ae] at hm;rw [← hm.1];simp [j3]
       . cases hm
     . cases hm
   . cases hm
 . cases hm
theorem D9O {m x y:MV}{td:TD}{h1:cj}(hr:qO X m)(he:D8F h td m x y=some h1):oQ X h h1∧∀ k,cU X h k->D8F k td m x y=some (glue X h1 k):=by
 unfold D8F at he;split at he
 . rename_i kv xv;split at he
   . rename_i hf;split at he
     . rename_i id g ks ws hmo;have gk:mG id∈X:=hr id (E0n hmo);split at he
       . rename_i i hi;cases he;exact ⟨(oQ.refl X h).cq gk _,λk ha=>by simp only [D8F,hf,if_true,D8U ha hr,hmo,hi,Bk gk,vt ha]⟩
       . rename_i hi;cases he;exact ⟨(oQ.refl X h).cq gk _,λk ha=>by simp only [D8F,hf,if_true,D8U ha hr,hmo,hi,Bk gk,vt ha]⟩
     . cases he
   . cases he
 . cases he
theorem C6q {op:ui}(eW:∀ md f args,op≠.call md f args)(hd:∀ x,d=some x->mG x∈X)(hr:fG X ((ft op).map (cJ s)))(he:b6 K γ d s h op=some (v,h')):Loc X h h' (λk=>b6 K γ d s k op) v:=by
 by_cases hi:idle op=true
 . obtain ⟨f,hf⟩:=C49 K γ d s hi h;rw [hf] at he;cases f with
   | none=>cases he
   | some u =>
     simp only [ak,aa,ae] at he;obtain ⟨rfl,rfl⟩:=he;exact Loc.read λk _=>by rw [hf];rfl
 . cases op<;>simp only [idle,Bool.true_eq_false,not_true_eq_false,not_false_eq_true] at hi
   case nilv z =>
    simp only [b6] at he ⊢;split at he
    . rename_i h1 ho;simp only [aa,ae] at he;obtain ⟨rfl,rfl⟩:=he;refine ⟨(xg (k:=h) hd ho).2,λk ha=>?_⟩
      have:=(xg (k:=k) hd ho).1
      rw [vt ha] at this;simp only [this]
    . cases he
   case mkmap tk tv =>
    simp only [b6] at he ⊢;split at he
    . rename_i h1 ho;simp only [aa,ae] at he;obtain ⟨rfl,rfl⟩:=he;refine ⟨(xg (k:=h) hd ho).2,λk ha=>?_⟩
      have:=(xg (k:=k) hd ho).1
      rw [vt ha] at this;simp only [this]
    . cases he
   case mlook td z ok x y =>
    have qX:qO X (cJ s x):=hr.mem (by simp [ft])
    simp only [b6] at he ⊢;split at he
    . rename_i u hu;simp only [aa,ae] at he;obtain ⟨rfl,rfl⟩:=he;refine Loc.read λk ha=>?_
      have:D8G k td z ok (cJ s x) (cJ s y)=D8G h td z ok (cJ s x) (cJ s y):=by
       simp only [D8G,D8U ha qX]
      rw [this,hu]
    . cases he
   case mset td x y z =>
    have qX:qO X (cJ s x):=hr.mem (by simp [ft])
    simp only [b6] at he ⊢;split at he
    . rename_i h1 hu;simp only [aa,ae] at he;obtain ⟨rfl,rfl⟩:=he;obtain ⟨q1,q2⟩:=D9O qX hu;exact ⟨q1,λk ha=>by simp only [q2 k ha]⟩
    . cases he
   case box x =>
    have qX:qO X (cJ s x):=hr.mem (by simp [ft])
    simp only [b6] at he ⊢;split at he
    . rename_i t h1 hi;split at he
      . rename_i h2 ho;simp only [aa,ae] at he;obtain ⟨rfl,rfl⟩:=he;refine ⟨(KM (cU.refl X h) qX hi).2.trans (xg (k:=h) hd ho).2,λk ha=>?_⟩
        simp only [(KM ha qX hi).1,(xg (k:=k) hd ho).1]
      . cases he
    . cases he
   case bsl mt z parts =>
    have qX:fG X (parts.map (cJ s)):=by simpa [ft] using hr
    simp only [b6] at he ⊢;split at he
    . rename_i kN;split at he
      . rename_i vs fN;simp only [aa,ae] at he;obtain ⟨rfl,rfl⟩:=he;exact Loc.read λk _=>by rw [if_pos kN]
      . rename_i fN;split at he
        . rename_i ts h1 hi;split at he
          . rename_i eV;split at he
            . rename_i h2 ho;simp only [aa,ae] at he;obtain ⟨rfl,rfl⟩:=he;refine ⟨(Iu (cU.refl X h) qX hi).2.trans (xg (k:=h) hd ho).2,λk ha=>?_⟩
              simp only [if_pos kN,(Iu ha qX hi).1,if_pos eV,(xg (k:=k) hd ho).1]
            . cases he
          . cases he
        . cases he
    . cases he
   case bslp z parts =>
    have qX:fG X (parts.map (cJ s)):=by simpa [ft] using hr
    simp only [b6] at he ⊢;split at he
    . rename_i kN;split at he
      . rename_i ts h1 hi;split at he
        . rename_i eV;split at he
          . rename_i h2 ho;split at he
            . rename_i u hu;simp only [aa,ae] at he;obtain ⟨rfl,rfl⟩:=he;have gk:mG (d.getD 0)∈X:=by
               cases d with
               | none=>simp [A0O] at ho
               | some x=>exact hd x rfl
              have q2:qO X (.own (d.getD 0) [] 0 ts.length γ):=λi hi=>by
               simp only [j3,aX] at hi;subst hi;exact gk
              have lD:oQ X h h2:=(Iu (cU.refl X h) qX hi).2.trans (xg (k:=h) hd ho).2;refine ⟨lD.cq gk _,λk ha=>?_⟩
              have nT:mE (glue X h2 k) (.own (d.getD 0) [] 0 ts.length γ)=some u:=by rw [Tl (cU.glue h2 k) q2,hu]
              simp only [if_pos kN,(Iu ha qX hi).1,if_pos eV,(xg (k:=k) hd ho).1,nT,Bk gk]
            . cases he
          . cases he
        . cases he
      . cases he
    . cases he
   case load agg n x =>
    have qX:qO X (cJ s x):=hr.mem (by simp [ft])
    simp only [b6] at he ⊢;split at he
    . rename_i u hu;simp only [aa,ae] at he;obtain ⟨rfl,rfl⟩:=he;refine Loc.read λk ha=>?_
      have:vF k agg n (cJ s x)=vF h agg n (cJ s x):=by
       cases hx:cJ s x with
       | ptr id np rp g o=>simp only [vF,ha id (qX id (by rw [hx];simp [j3]))]
       | p v=>cases v<;>rfl
       | _=>rfl
      rw [this,hu]
    . cases he
   case store n a x =>
    have hra:qO X (cJ s a):=hr.mem (by simp [ft])
    have qX:qO X (cJ s x):=hr.mem (by simp [ft])
    simp only [b6,HW] at he ⊢;split at he
    . rename_i id np rp g0 o0 hp;have gk:mG id∈X:=hra id (by rw [hp];simp [j3])
      have ql:∀ {u:MV} {h2:cj},AL γ h n id (sZ np rp) (cJ s x)=some (u,h2)->oQ X h h2∧∀ k,cU X h k->AL γ k n id (sZ np rp) (cJ s x)=some (u,glue X h2 k):=by
       intro u h2 hn;unfold AL at hn;split at hn
       . rename_i t h1 hi;split at hn
         . rename_i eV;split at hn
           . rename_i o' eN;simp only [aa,ae] at hn;obtain ⟨rfl,rfl⟩:=hn;refine ⟨(KM (cU.refl X h) qX hi).2.cq gk _,λk ha=>?_⟩
             unfold AL;have e:glue X h1 k id=h1 id:=by simp [glue,gk]
             simp only [(KM ha qX hi).1,if_pos eV,e,eN,Bk gk]
           . cases hn
         . cases hn
       . cases hn
      split at he
      . rename_i old s' o1 hl;split at he
        . rename_i hc;split at he
          . rename_i w5 sr off len g' a' z l n' hx;split at he
            . rename_i pg;split at he
              . rename_i o' eN;simp only [aa,ae] at he;obtain ⟨rfl,rfl⟩:=he;refine ⟨(oQ.refl X h).cq gk _,λk ha=>?_⟩
                simp only [hp,hx,ha id gk,hl,if_pos hc,if_pos pg,eN,Bk gk,vt ha]
              . cases he
            . rename_i pg;obtain ⟨q1,q2⟩:=ql he;refine ⟨q1,λk ha=>?_⟩
              simp only [hp,ha id gk,hl,if_pos hc,if_neg pg,q2 k ha];rw [hx];simp only [if_neg pg]
          . rename_i nu;obtain ⟨q1,q2⟩:=ql he;refine ⟨q1,λk ha=>?_⟩
            simp only [hp,ha id gk,hl,if_pos hc];exact q2 k ha
        . cases he
      . cases he
    . cases he
   case mksl z bytes zero l c =>
    simp only [b6] at he ⊢;split at he
    . split at he
      . split at he
        . rename_i hc;split at he
          . rename_i h1 ho;simp only [aa,ae] at he;obtain ⟨rfl,rfl⟩:=he;refine ⟨(xg (k:=h) hd ho).2,λk ha=>?_⟩
            have:=(xg (k:=k) hd ho).1
            rw [vt ha] at this;simp only [if_pos hc,this]
          . cases he
        . cases he
      . cases he
    . cases he
   case slice z x lo hj =>
    have qX:qO X (cJ s x):=hr.mem (by simp [ft])
    simp only [b6] at he ⊢;split at he
    . rename_i u hu;simp only [aa,ae] at he;obtain ⟨rfl,rfl⟩:=he;refine Loc.read λk ha=>?_
      have:Ch k z (cJ s x) (lo.map (cJ s)) (hj.map (cJ s))=Ch h z (cJ s x) (lo.map (cJ s)) (hj.map (cJ s)):=by
       cases hx:cJ s x with
       | own id path off len g=>simp only [Ch,ha id (qX id (by rw [hx];simp [j3]))]
       | p v=>cases v<;>rfl
       | _=>rfl
      rw [this,hu]
    . cases he
   case clr z zero x =>
    have qX:qO X (cJ s x):=hr.mem (by simp [ft])
    simp only [b6] at he ⊢;split at he
    . rename_i hx;simp only [aa,ae] at he;obtain ⟨rfl,rfl⟩:=he;exact Loc.read λk _=>rfl
    . rename_i hx;simp only [aa,ae] at he;obtain ⟨rfl,rfl⟩:=he;exact Loc.read λk _=>rfl
    . rename_i id path off len g0 hx;split at he
      . rename_i h1 ho;split at he
        . rename_i hc;simp only [aa,ae] at he;obtain ⟨rfl,rfl⟩:=he;obtain ⟨q1,q2⟩:=Tm (X:=X) (qX id (by rw [hx];simp [j3])) ho
          refine ⟨q1,λk ha=>?_⟩
          simp only [q2 k ha,if_pos hc]
        . cases he
      . cases he
    . cases he
   case iaddr z x i =>
    have qX:qO X (cJ s x):=hr.mem (by simp [ft])
    simp only [b6] at he ⊢;split at he
    . rename_i u hu;simp only [aa,ae] at he;obtain ⟨rfl,rfl⟩:=he;refine Loc.read λk ha=>?_
      have:Ci k z (cJ s x) (cJ s i)=Ci h z (cJ s x) (cJ s i):=by
       cases hx:cJ s x with
       | own id path off len g=>simp only [Ci,ha id (qX id (by rw [hx];simp [j3]))]
       | p v=>cases v<;>rfl
       | _=>rfl
      rw [this,hu]
    . cases he
   case call md f args=>exact absurd rfl (eW md f args)
   case app pz z bytes x y =>
    have qX:qO X (cJ s x):=hr.mem (by simp [ft])
    have Iv:qO X (cJ s y):=hr.mem (by simp [ft])
    have awQ:∀ {u:MV} {h2:cj},s6 γ d h z bytes (cJ s x) (cJ s y)=some (u,h2)->(oQ X h h2∧qO X u)∧∀ k,cU X h k->s6 γ d k z bytes (cJ s x) (cJ s y)=some (u,glue X h2 k):=by
     intro u h2 ho;unfold s6 at ho;split at ho
     . cases ho
     . rename_i ts h1 Dw;obtain ⟨q1,q2⟩:=C1N Iv Dw;split at ho
       . cases ho
       . rename_i eV;split at ho
         . rename_i zz hx;split at ho
           . rename_i fO;split at ho
             . rename_i h3 uM;simp only [aa,ae] at ho;obtain ⟨rfl,rfl⟩:=ho;have Tn:qO X (.own (d.getD 0) [] 0 ts.length γ):=by
                intro i hi;simp only [j3,aX] at hi;subst hi;cases d with
                | none=>simp [A0O] at uM
                | some x=>exact hd x rfl
               refine ⟨⟨q1.trans (xg (k:=h1) hd uM).2,Tn⟩,λk ha=>?_⟩
               unfold s6;simp only [q2 k ha,eV,aI,if_false,hx,if_pos fO,(xg (k:=k) hd uM).1]
             . cases ho
           . cases ho
         . rename_i id path off len g0 hx;have gk:mG id∈X:=qX id (by rw [hx];simp [j3])
           have zX:∀ k,glue X h1 k id=h1 id:=λk=>by simp [glue,gk]
           split at ho
           . rename_i lD;split at ho
             . rename_i g1 z1 l hh;unfold FR at ho;split at ho
               . rename_i hc;simp only [aa,ae] at ho;obtain ⟨rfl,rfl⟩:=ho;refine ⟨⟨q1.cq gk _,λi hi=>by simp only [j3,aX] at hi;subst hi;exact gk⟩,λk ha=>?_⟩
                 unfold s6;simp only [q2 k ha,eV,aI,if_false,hx,if_pos lD,zX k,hh,FR,if_pos hc,Bk gk]
               . cases ho
             . rename_i nu;unfold Cg at ho;split at ho
               . rename_i g1 z1 l n hs;split at ho
                 . rename_i hc;split at ho
                   . rename_i o' eN;split at ho
                     . rename_i h3 uM;simp only [aa,ae] at ho;obtain ⟨rfl,rfl⟩:=ho;have Tn:qO X (.own (d.getD 0) [] 0 (len+ts.length) γ):=by
                        intro i hi;simp only [j3,aX] at hi;subst hi;cases d with
                        | none=>simp [A0O] at uM
                        | some x=>exact hd x rfl
                       refine ⟨⟨(q1.cq gk _).trans (xg (k:=h1) hd uM).2,Tn⟩,λk ha=>?_⟩
                       have KO:=(xg (k:=k) hd uM).1;rw [Bk gk] at KO;unfold s6;simp only [q2 k ha,eV,aI,if_false,hx,if_pos lD,zX k];unfold Cg;simp only [zX k,hs,if_pos hc,eN,KO]
                     . cases ho
                   . cases ho
                 . cases ho
               . cases ho
           . cases ho
         . cases ho
    simp only [b6] at he ⊢;split at he
    . rename_i id Ks len g1 h1 ho;obtain ⟨⟨q1,q2⟩,q3⟩:=awQ ho;have gk:mG id∈X:=q2 id (by simp [j3])
      split at he
      . rename_i Kx;split at he
        . rename_i u hu;simp only [aa,ae] at he;obtain ⟨rfl,rfl⟩:=he;refine ⟨q1.cq gk _,λk ha=>?_⟩
          have nT:mE (glue X h1 k) (.own id [] Ks len g1)=some u:=by rw [Tl (cU.glue h1 k) q2,hu]
          simp only [q3 k ha,if_pos Kx,nT,Bk gk]
        . cases he
      . rename_i Kx;simp only [aa,ae] at he;obtain ⟨rfl,rfl⟩:=he;refine ⟨q1,λk ha=>?_⟩
        simp only [q3 k ha,if_neg Kx]
    . cases he
   case cpy z x y =>
    have qX:qO X (cJ s x):=hr.mem (by simp [ft])
    have Iv:qO X (cJ s y):=hr.mem (by simp [ft])
    simp only [b6,HV] at he ⊢;split at he
    . cases he
    . rename_i ts ia;split at he
      . cases he
      . rename_i vs fN;split at he
        . rename_i eV;split at he
          . rename_i zz hx;simp only [aa,ae] at he;obtain ⟨rfl,rfl⟩:=he;refine Loc.read λk ha=>?_
            simp only [KN ha Iv,ia,fN,if_pos eV]
          . rename_i id path off len g hx;split at he
            . rename_i h1 ho;simp only [aa,ae] at he;obtain ⟨rfl,rfl⟩:=he;obtain ⟨q1,q2⟩:=Tm (X:=X) (qX id (by rw [hx];simp [j3])) ho
              refine ⟨q1,λk ha=>?_⟩
              simp only [KN ha Iv,ia,fN,if_pos eV,q2 k ha]
            . cases he
          . cases he
        . cases he
   case appn z bytes zero x n =>
    simp only [b6] at he ⊢;split at he
    . split at he
      . split at he
        . rename_i hc;split at he
          . rename_i h1 ho;simp only [aa,ae] at he;obtain ⟨rfl,rfl⟩:=he;refine ⟨(xg (k:=h) hd ho).2,λk ha=>?_⟩
            have:=(xg (k:=k) hd ho).1
            rw [vt ha] at this;simp only [if_pos hc,this]
          . cases he
        . cases he
      . cases he
    . cases he
   case appk z x y =>
    have qX:qO X (cJ s x):=hr.mem (by simp [ft])
    have Iv:qO X (cJ s y):=hr.mem (by simp [ft])
    simp only [b6] at he ⊢;split at he
    . cases he
    . rename_i ts ia;split at he
      . cases he
      . rename_i vs fN;split at he
        . rename_i eV;split at he
          . rename_i id path off len g hx;split at he
            . rename_i h1 ho;simp only [aa,ae] at he;obtain ⟨rfl,rfl⟩:=he;obtain ⟨q1,q2⟩:=Tm (X:=X) (qX id (by rw [hx];simp [j3])) ho
              refine ⟨q1,λk ha=>?_⟩
              simp only [KN ha Iv,ia,fN,if_pos eV,q2 k ha]
            . cases he
          . cases he
        . cases he
   case sliceK z x lo hj =>
    have qX:qO X (cJ s x):=hr.mem (by simp [ft])
    simp only [b6] at he ⊢;split at he
    . rename_i id path off len g hx;split at he
      . rename_i g' z' l' hv;split at he
        . rename_i hc;split at he
          . rename_i b hb;split at he
            . rename_i c vo;simp only [aa,ae] at he;obtain ⟨rfl,rfl⟩:=he;refine Loc.read λk ha=>?_
              simp only [ha id (qX id (by rw [hx];simp [j3])),hv,if_pos hc,hb,vo]
            . cases he
          . cases he
        . cases he
      . cases he
    . cases he
   all_goals simp only [b6,reduceCtorEq] at he
end
end Go.Mid
namespace Go.Mid
section
variable {h k:cj}{ρ:Nat->Option Nat}{ζ:Nat->Nat}
mutual
theorem To (ha:∀ i j,ρ i=some j->k i=h i):∀ (v:MV),jW k ρ ζ v=jW h ρ ζ v
 | .p _=>rfl
 | .nil _=>rfl
 | .own id path off len g=>by
   simp only [jW];cases hr:ρ id with
   | none=>rfl
   | some j =>
     have:wV k id path g=wV h id path g:=by unfold wV;rw [ha id j hr]
     simp only [this]
 | .ptr id np rp g o=>by
   simp only [jW];cases hr:ρ id with
   | none=>rfl
   | some j =>
     have:zU k id np rp g o=zU h id np rp g o:=by unfold zU;rw [ha id j hr]
     simp only [this]
 | .auG id path g=>by
   simp only [jW];cases hr:ρ id with
   | none=>rfl
   | some j =>
     have:FN k id path g=FN h id path g:=by unfold FN;rw [ha id j hr]
     simp only [this]
 | .agg l=>by simp only [jW,KP ha l]
 | .fn _ l=>by simp only [jW,KP ha l]
 | .eI l=>by simp only [jW,KP ha l]
 | .dead _=>rfl
theorem KP (ha:∀ i j,ρ i=some j->k i=h i):∀ (l:List MV),uk k ρ ζ l=uk h ρ ζ l
 | []=>rfl
 | x::r=>by simp only [uk,To ha x,KP ha r]
end
end
section
variable {hr h k:cj}{ρ:Nat->Nat}
mutual
theorem Tp (ha:∀ i o,hr i=some o->k (ρ i)=h (ρ i)):∀ (v:MV),nm hr k ρ v=nm hr h ρ v
 | .p _=>rfl
 | .nil _=>rfl
 | .own id path off len g=>by
   cases ho:hr id with
   | none =>
     have:wV hr id path g=false:=by
      unfold wV;rw [ho];have e:jq (none:Option (Obj Nat)) path=none:=by cases path<;>rfl
      rw [e]
     simp only [nm,this,aI,if_false]
   | some o=>simp only [nm,ha id o ho]
 | .ptr id np rp g o=>by
   cases ho:hr id with
   | none =>
     have:zU hr id np rp g o=false:=by
      unfold zU;rw [ho];have e:look (none:Option (Obj Nat)) np rp=none:=by
       cases np with
       | none=>rfl
       | some p=>simp only [look];cases p<;>rfl
      rw [e]
     simp only [nm,this,aI,if_false]
   | some o=>simp only [nm,ha id o ho]
 | .auG id path g=>by
   cases ho:hr id with
   | none =>
     have:FN hr id path g=false:=by
      unfold FN;rw [ho];have e:avR (none:Option (Obj Nat)) path=none:=by cases path<;>rfl
      rw [e]
     simp only [nm,this,aI,if_false]
   | some o=>simp only [nm,ha id o ho]
 | .agg l=>by simp only [nm,OQ ha l]
 | .fn _ l=>by simp only [nm,OQ ha l]
 | .eI l=>by simp only [nm,OQ ha l]
 | .dead _=>rfl
theorem OQ (ha:∀ i o,hr i=some o->k (ρ i)=h (ρ i)):∀ (l:List MV),vC hr k ρ l=vC hr h ρ l
 | []=>rfl
 | x::r=>by simp only [vC,Tp ha x,OQ ha r]
end
end
section
variable {X:List Nat}{h k:cj}
theorem OR {l:List Nat}(ha:cU X h k)(hl:∀ i∈l,mG i∈X):jd k l=jd h l:=by
 unfold jd;congr 2
 induction l with
 | nil=>rfl
 | cons x r ih=>simp only [List.flatMap_cons,ha x (hl x (by simp)),ih (λi hi=>hl i (by simp [hi]))]
theorem C6r {l:List Nat}(ha:cU X h k)(hl:∀ i∈l,mG i∈X):um k l=um h l:=by
 induction l with
 | nil=>rfl
 | cons x r ih=>simp only [um,ha x (hl x (by simp)),ih (λi hi=>hl i (by simp [hi]))]
theorem B44 {γ:Nat}{d:Option Nat}{ids:List Nat}{r v:MV}{ext dH:List (Obj Nat)}{h':cj}(hd:∀ x,d=some x->mG x∈X)(hn:ids.Nodup)(DH:∀ i∈ids,mG i∈X)(ht:AK γ d h ids r ext dH=some (v,h')) :
 Loc X h h' (λk=>AK γ d k ids r ext dH) v:=by
 unfold AK at ht
 dsimp only at ht
 split at ht
 . cases ht
 . rename_i Bl;have dV:=Bl;simp only [not_or,ne_eq,Decidable.not_not,fW,Nat.not_lt] at dV;obtain ⟨hl,DJ,lE,kO,hex⟩:=dV;simp only [aa,ae] at ht;obtain ⟨rfl,rfl⟩:=ht;have jD:∀ i j,mZ (j8 d dH.length) ids i=some j->mG i∈X:=by
    intro i j hs;rcases OM hs with ⟨m,hm,_⟩ | ⟨_,m,hm,_⟩
    . have eC:=(aJ.1 hm).1;simp only [j8,List.length_map,List.length_range] at eC;rw [ZP d _ m eC] at hm;have hi:=s8 hm;cases d with
      | none =>
        exfalso;refine DJ ⟨λe=>?_,rfl⟩
        rw [e] at eC;exact absurd eC (by simp)
      | some x =>
        have hx:=hd x rfl;simp only [bI,zX] at hi hex;subst hi;have e:mG (x+1000*(m+1))=mG x:=by
         unfold mG;rw [if_pos (by omega),if_pos (by omega)]
         omega
        rw [e];exact hx
    . exact DH i (bH hm)
   refine ⟨λi hi=>?_,λk ha=>?_⟩
   . cases hs:mZ (j8 d dH.length) ids i with
     | none=>simp only [hs]
     | some j=>exact (hi (jD i j hs)).elim
   . unfold AK
     dsimp only
     rw [if_neg Bl];have hm:∀ i j,mZ (j8 d dH.length) ids i=some j->sf γ k i j=sf γ h i j:=by
      intro i j hs;unfold sf;rw [ha i (jD i j hs)]
     have OP:∀ i o,j4 ext dH i=some o->(match mZ (j8 d dH.length) ids (qK (d.getD 0) ids i) with | some j=>(j4 ext dH j).map (sf γ k (qK (d.getD 0) ids i) j) | none=>k (qK (d.getD 0) ids i)) =
      (match mZ (j8 d dH.length) ids (qK (d.getD 0) ids i) with | some j=>(j4 ext dH j).map (sf γ h (qK (d.getD 0) ids i) j) | none=>h (qK (d.getD 0) ids i)):=by
      intro i o ho
      have:=ZX (d:=d) hl hn lE kO ho
      rw [this];simp only [hm _ _ this]
     have hφ:nm (j4 ext dH) (λi=>match mZ (j8 d dH.length) ids i with | some j=>(j4 ext dH j).map (sf γ k i j) | none=>k i) (qK (d.getD 0) ids) =
      nm (j4 ext dH) (λi=>match mZ (j8 d dH.length) ids i with | some j=>(j4 ext dH j).map (sf γ h i j) | none=>h i) (qK (d.getD 0) ids):=by
      funext v;exact Tp OP v
     refine congrArg some (Prod.ext (Tp OP r) ?_);funext i;unfold glue;cases hs:mZ (j8 d dH.length) ids i with
     | some j =>
       simp only [jD i j hs,if_true,hm i j hs,hs];exact congrArg (fun φ=>Option.map (λo=>kH φ (λa=>a) (sf γ h i j o)) (j4 ext dH j)) hφ
     | none =>
       simp only [hs];split
       . rename_i hi;exact ha i hi
       . rfl
theorem C92 {K:jm}{γ:Nat}{d:Option Nat}{s:gB}{v:MV}{h':cj}{md:Nat}{f:dJ}{args:List dJ}(hd:∀ x,d=some x->mG x∈X)
 (hr:∀ i∈jd h (jd h (mF ((ft (.call md f args)).map (cJ s)))),mG i∈X) (he:b6 K γ d s h (.call md f args)=some (v,h')):Loc X h h' (λk=>b6 K γ d s k (.call md f args)) v:=by
 simp only [b6] at he ⊢;split at he
 . rename_i g al hcal;have dK:∀ i∈mF al,i∈mF ((ft (.call md f args)).map (cJ s)):=by
    intro i hi;have awQ:∀ l m:List MV,mF (l++m)=mF l++mF m:=by
     intro l m
     induction l with
     | nil=>rfl
     | cons x r ih=>simp only [List.cons_append,mF,ih,List.append_assoc]
    have eV:∀ (f0:Nat) (cs:List MV),callee (cJ s f)=some (f0,cs)->∀ i∈mF cs,i∈j3 (cJ s f):=by
     intro f0 cs hcal i hi;unfold callee at hcal;split at hcal
     . cases hcal;exfalso
       have:∀ l:List PV,mF (l.map .p)=[]:=by
        intro l
        induction l with
        | nil=>rfl
        | cons x r ih=>simp only [aF,mF,j3,ih,bD]
       rw [this] at hi;cases hi
     . cases hcal;rename_i heq;rw [heq];simpa only [j3] using hi
     . cases hcal
    simp only [ft,aF,mF];unfold FP at hcal;split at hcal
    . rename_i f0 cs tf;split at hcal<;>(simp only [aa,ae] at hcal;obtain ⟨rfl,rfl⟩:=hcal)
      . rw [awQ] at hi;rcases az.1 hi with hi | hi
        . exact az.2 (.inr hi)
        . exact az.2 (.inl (eV _ _ tf i hi))
      . rw [awQ] at hi;rcases az.1 hi with hi | hi
        . exact az.2 (.inl (eV _ _ tf i hi))
        . exact az.2 (.inr hi)
    . cases hcal
   have EZ:∀ (l m:List Nat),(∀ i∈l,i∈m)->∀ i∈jd h l,i∈jd h m:=by
    intro l m hlm i hi;unfold jd at hi ⊢;rw [Ti] at hi ⊢;rcases az.1 hi with hi | hi
    . exact az.2 (.inl (hlm i hi))
    . obtain ⟨j,hj,gM⟩:=gY.1 hi;exact az.2 (.inr (gY.2 ⟨j,hlm j hj,gM⟩))
   have h2:∀ i∈jd h (jd h (mF al)),mG i∈X:=λi hi=>hr i (EZ _ _ (EZ _ _ dK) i hi)
   have h1:∀ i∈jd h (mF al),mG i∈X:=λi hi=>h2 i (GC hi)
   have h0:fG X al:=λi hi=>h1 i (GC hi)
   split at he
   . unfold AJ at he;split at he
     . rename_i vs fN;split at he
       . rename_i u fr rD;split at he
         . rename_i hc;simp only [aa,ae] at he;obtain ⟨rfl,rfl⟩:=he;refine Loc.read λk ha=>?_
           try simp only
           unfold AJ;rw [KL ha h0,fN];simp only [rD,if_pos hc]
         . cases he
       . cases he
     . cases he
   . unfold C4 at he
     dsimp only at he
     split at he
     . cases he
     . rename_i qS uw;split at he
       . cases he
       . rename_i r ext dH hk;obtain ⟨q1,q2⟩:=B44 hd (Tj _) h2 he;refine ⟨q1,λk ha=>?_⟩
         try simp only
         unfold C4
         dsimp only
         have e1:jd k (mF al)=jd h (mF al):=OR ha h0;have e2:jd k (jd h (mF al))=jd h (jd h (mF al)):=OR ha h1;have F2:∀ i j,vE (jd h (jd h (mF al))) i=some j->k i=h i:=by
          intro i j gM;unfold vE at gM;cases hi:pB (jd h (jd h (mF al))) i with
          | none=>simp [hi] at gM
          | some m=>exact ha i (h2 i (bH (Gw hi)))
         have e3:jW k (vE (jd h (jd h (mF al)))) (λ_=>0)=jW h (vE (jd h (jd h (mF al)))) (λ_=>0):=by
          funext v;exact To F2 v
         rw [e1,e2,C6r ha h2,uw];simp only [e3,KP F2,hk];exact q2 k ha
   . unfold Cd at he;split at he
     . rename_i vs fN;split at he
       . rename_i r dH hk;split at he
         . rename_i hc;obtain ⟨q1,q2⟩:=B44 (X:=X) hd List.nodup_nil (by simp) he
           refine ⟨q1,λk ha=>?_⟩
           try simp only
           unfold Cd;rw [KL ha h0,fN];simp only [hk,if_pos hc];exact q2 k ha
         . cases he
       . cases he
     . cases he
 . cases he
end
end Go.Mid
namespace Go.Mid
section
variable {K:jm}{g:Nat}{d:Option Nat}{s s2:gB}{h h':cj}{v:MV}
theorem B45 {op:ui}(hs:∀ x∈ft op,cJ s2 x=cJ s x):b6 K g d s2 h op=b6 K g d s h op:=by
 have hl:∀ l:List dJ,(∀ x∈l,cJ s2 x=cJ s x)->l.map (cJ s2)=l.map (cJ s):=λl hl=>eJ hl
 cases op with
 | build zs l=>simp only [b6,hl l (by simpa [ft] using hs)]
 | bsl mt z l=>simp only [b6,hl l (by simpa [ft] using hs)]
 | bslp z l=>simp only [b6,hl l (by simpa [ft] using hs)]
 | uE f l=>simp only [b6,hl l (by simpa [ft] using hs)]
 | mx l=>simp only [b6,hl l (by simpa [ft] using hs)]
 | mn l=>simp only [b6,hl l (by simpa [ft] using hs)]
 | call md f l=>simp only [b6,hs f (by simp [ft]),hl l (λx hx=>hs x (by simp [ft,hx]))]
 | slice z x lo hi =>
   have h1:lo.map (cJ s2)=lo.map (cJ s):=by
    cases lo with
    | none=>rfl
    | some y=>simp only [ak,hs y (by simp [ft])]
   have h2:hi.map (cJ s2)=hi.map (cJ s):=by
    cases hi with
    | none=>rfl
    | some y=>simp only [ak,hs y (by simp [ft])]
   simp only [b6,hs x (by simp [ft]),h1,h2]
 | nz x lo hi =>
   have h1:lo.map (cJ s2)=lo.map (cJ s):=by
    cases lo with
    | none=>rfl
    | some y=>simp only [ak,hs y (by simp [ft])]
   have h2:hi.map (cJ s2)=hi.map (cJ s):=by
    cases hi with
    | none=>rfl
    | some y=>simp only [ak,hs y (by simp [ft])]
   simp only [b6,hs x (by simp [ft]),h1,h2]
 | nilv z=>rfl
 | mkmap tk tv=>rfl
 | bad=>rfl
 | pick c x y=>simp only [b6,hs c (by simp [ft]),hs x (by simp [ft]),hs y (by simp [ft])]
 | mset t m k v=>simp only [b6,hs m (by simp [ft]),hs k (by simp [ft]),hs v (by simp [ft])]
 | mlook t z o m k=>simp only [b6,hs m (by simp [ft]),hs k (by simp [ft])]
 | AD m k=>rfl
 | store n x y=>simp only [b6,hs x (by simp [ft]),hs y (by simp [ft])]
 | bin b op x y=>simp only [b6,hs x (by simp [ft]),hs y (by simp [ft])]
 | eqs n t x y=>simp only [b6,hs x (by simp [ft]),hs y (by simp [ft])]
 | mksl z b zv x y=>simp only [b6,hs x (by simp [ft]),hs y (by simp [ft])]
 | iaddr z x y=>simp only [b6,hs x (by simp [ft]),hs y (by simp [ft])]
 | nA n z x y=>simp only [b6,hs x (by simp [ft]),hs y (by simp [ft])]
 | idx a z n x y=>simp only [b6,hs x (by simp [ft]),hs y (by simp [ft])]
 | uF x y=>simp only [b6,hs x (by simp [ft]),hs y (by simp [ft])]
 | app p z b x y=>simp only [b6,hs x (by simp [ft]),hs y (by simp [ft])]
 | cpy z x y=>simp only [b6,hs x (by simp [ft]),hs y (by simp [ft])]
 | move x=>simp only [b6,hs x (by simp [ft])]
 | box x=>simp only [b6,hs x (by simp [ft])]
 | load a n x=>simp only [b6,hs x (by simp [ft])]
 | nilc x=>simp only [b6,hs x (by simp [ft])]
 | isnil f n x=>simp only [b6,hs x (by simp [ft])]
 | not x=>simp only [b6,hs x (by simp [ft])]
 | neg x=>simp only [b6,hs x (by simp [ft])]
 | inv x=>simp only [b6,hs x (by simp [ft])]
 | convI k x=>simp only [b6,hs x (by simp [ft])]
 | convS x=>simp only [b6,hs x (by simp [ft])]
 | convR x=>simp only [b6,hs x (by simp [ft])]
 | cut0 z x=>simp only [b6,hs x (by simp [ft])]
 | clr z zv x=>simp only [b6,hs x (by simp [ft])]
 | faddr x i o=>simp only [b6,hs x (by simp [ft])]
 | fld a n o x i=>simp only [b6,hs x (by simp [ft])]
 | ext x i=>simp only [b6,hs x (by simp [ft])]
 | len x=>simp only [b6,hs x (by simp [ft])]
 | lenS x=>simp only [b6,hs x (by simp [ft])]
 | appn z b zv x n=>simp only [b6,hs x (by simp [ft]),hs n (by simp [ft])]
 | appk z x y=>simp only [b6,hs x (by simp [ft]),hs y (by simp [ft])]
 | C2 n z x=>simp only [b6,hs x (by simp [ft])]
 | sliceK z x lo hi=>simp only [b6,hs x (by simp [ft]),hs lo (by simp [ft]),hs hi (by simp [ft])]
 | slice3 x a b c=>simp only [b6,hs x (by simp [ft]),hs a (by simp [ft]),hs b (by simp [ft]),hs c (by simp [ft])]
 | capn x=>simp only [b6,hs x (by simp [ft])]
end
theorem Tq {x y:Ins}(h:HX x y=true):(∀ d,x.dst=some d->d∉vJ y)∧(∀ d,x.dst=some d->y.dst≠some d)∧(∀ d,y.dst=some d->d∉vJ x):=by
 refine ⟨λd hd=>?_,λd hd=>?_,λd hd=>?_⟩<;>simp [HX,hd] at h
 . exact h.1.1
 . exact h.1.2
 . exact h.2
def gD (l:List Nat)(s t:gB):Prop:=∀ i∈l,t i=s i
theorem gD.eK {l:List Nat}{s:gB}{d:Option Nat}(h:∀ x,d=some x->x∉l)(v:MV):gD l s (eK s d v):=by
 intro i hi;cases d with
 | none=>rfl
 | some x =>
   have:i≠x:=λe=>h x rfl (e ▸ hi)
   simp [Mid.eK,cq,this]
section
variable {K:jm}{g:Nat}{s t:gB}{h k:cj}{i:Ins}
theorem OS (hs:gD (vJ i) s t):vG t i.guard=vG s i.guard:=by
 cases hg:i.guard with
 | none=>rfl
 | some gb =>
   obtain ⟨x,b⟩:=gb
   have:=hs x (by simp [vJ,hg])
   simp only [vG,this]
theorem KQ (hs:gD (vJ i) s t):∀ x∈ft i.op,cJ t x=cJ s x:=by
 intro x hx;cases x with
 | t n=>exact hs n (az.2 (.inl (gY.2 ⟨.t n,hx,by simp [Yc]⟩)))
 | c v=>rfl
 | f n=>rfl
theorem OT (hs:gD (vJ i) s t):lC t k i=lC s k i:=by
 unfold lC;rw [OS hs,eJ (KQ hs)]
theorem C2R (ha:cU (lC s h i) h k):lC s k i=lC s h i:=by
 unfold lC at ha ⊢;cases hw:vG s i.guard with
 | none=>rfl
 | some b =>
   cases b with
   | false=>rfl
   | true =>
     simp only [hw] at ha;have h2:∀ x∈jd h (jd h (mF ((ft i.op).map (cJ s)))),mG x∈(i.dst.toList++jd h (jd h (mF ((ft i.op).map (cJ s))))).map mG:=λx hx=>bp.2 ⟨x,by simp [hx],rfl⟩
     have h1:∀ x∈jd h (mF ((ft i.op).map (cJ s))),mG x∈(i.dst.toList++jd h (jd h (mF ((ft i.op).map (cJ s))))).map mG:=λx hx=>h2 x (GC hx)
     simp only [OR ha (λx hx=>h1 x (GC hx)),OR ha h1]
theorem KR {s1:gB}{h1:cj}(he:oP K g i s h=some (s1,h1)):∃ v,s1=eK s i.dst v∧oQ (lC s h i) h h1 ∧
 (∀ t k,gD (vJ i) s t->cU (lC s h i) h k->oP K g i t k=some (eK t i.dst v,glue (lC s h i) h1 k)) ∧
 (idle i.op=true->h1=h∧∀ t k,gD (vJ i) s t->oP K g i t k=some (eK t i.dst v,k))∧(vI i.op=true->h1=h):=by
 unfold oP at he;split at he
 . rename_i hw;split at he
   . rename_i v h' hv;simp only [aa,ae] at he;obtain ⟨rfl,rfl⟩:=he;have hX:lC s h i=(i.dst.toList++jd h (jd h (mF ((ft i.op).map (cJ s))))).map mG:=by unfold lC;rw [hw]
     have hd:∀ x,i.dst=some x->mG x∈lC s h i:=λx hx=>by rw [hX,hx];exact bp.2 ⟨x,by simp,rfl⟩
     have hr:∀ x∈jd h (jd h (mF ((ft i.op).map (cJ s)))),mG x∈lC s h i:=λx hx=>by rw [hX];exact bp.2 ⟨x,by simp [hx],rfl⟩
     have jC:Loc (lC s h i) h h' (λk=>b6 K g i.dst s k i.op) v:=by
      by_cases hc:∃ md f args,i.op=.call md f args
      . obtain ⟨md,f,args,eW⟩:=hc;rw [eW] at hv hr ⊢;exact C92 hd hr hv
      . refine C6q (λmd f args e=>hc ⟨md,f,args,e⟩) hd (λx hx=>hr x (GC (GC hx))) hv
     refine ⟨v,rfl,jC.1,λt k hs ha=>?_,λhi=>?_,λGD=>?_⟩
     . unfold oP;rw [OS hs,hw];simp only [B45 (KQ hs),jC.2 k ha]
     . obtain ⟨f,hf⟩:=C49 K g i.dst s hi h;rw [hf] at hv;cases f with
       | none=>cases hv
       | some u =>
         simp only [ak,aa,ae] at hv;obtain ⟨rfl,rfl⟩:=hv;refine ⟨rfl,λt k hs=>?_⟩
         unfold oP;rw [OS hs,hw];simp only [B45 (KQ hs),hf,ak]
     . generalize i.op=op at hv GD;cases op<;>simp only [vI,aI] at GD
       . simp only [b6] at hv;split at hv<;>simp only [aa,ae,reduceCtorEq] at hv;exact hv.2.symm
       . simp only [b6] at hv;split at hv<;>simp only [aa,ae,reduceCtorEq] at hv;exact hv.2.symm
       . simp only [b6] at hv;split at hv<;>simp only [aa,ae,reduceCtorEq] at hv;exact hv.2.symm
       . rename_i md f args;have hmd:md=0:=by
          cases md with
          | zero=>rfl
          | succ n=>simp [vI] at GD
         subst hmd;simp only [b6,AJ] at hv;split at hv
         . split at hv
           . split at hv
             . split at hv<;>simp only [aa,ae,reduceCtorEq] at hv;exact hv.2.symm
             . cases hv
           . cases hv
         . cases hv
       . simp only [b6] at hv
         (repeat' split at hv)<;>first | (simp only [aa,ae] at hv;exact hv.2.symm) | cases hv
       . simp only [b6] at hv;split at hv<;>simp only [aa,ae,reduceCtorEq] at hv;exact hv.2.symm
   . cases he
 . rename_i hw;simp only [aa,ae] at he;obtain ⟨rfl,rfl⟩:=he;have hst:∀ t k,gD (vJ i) s t->oP K g i t k=some (eK t i.dst (.eI []),k):=by
    intro t k hs;unfold oP;rw [OS hs,hw]
   have hX:lC s h i=[]:=by unfold lC;rw [hw]
   refine ⟨.eI [],rfl,oQ.refl _ _,λt k hs ha=>?_,λ_=>⟨rfl,hst⟩,λ_=>rfl⟩
   rw [hst t k hs,vt ha]
 . cases he
theorem C0Y {s:gB}{d e:Option Nat}{u v:MV}(h:∀ x,d=some x->e≠some x):eK (eK s d u) e v=eK (eK s e v) d u:=by
 cases d with
 | none=>cases e<;>rfl
 | some x =>
   cases e with
   | none=>rfl
   | some y =>
     have xL:x≠y:=λe=>h x rfl (by rw [e])
     funext i;simp only [eK,cq];by_cases h1:i=y
     . subst h1;simp [dv xL]
     . simp [h1]
theorem C8d {gi gj:Nat}{i j:Ins}{s1 s2:gB}{h1 h2:cj}(hj:oP K gj j s h=some (s1,h1))(hi:oP K gi i s1 h1=some (s2,h2))(Af:HX j i=true)
 (hc:idle j.op=true∨idle i.op=true∨(vI j.op=true∧vI i.op=true)∨∀ x∈lC s h j,x∉lC s1 h1 i) :
 ∃ s3 h3,oP K gi i s h=some (s3,h3)∧oP K gj j s3 h3=some (s2,h2)∧(idle i.op=true∨lC s h i=lC s1 h1 i)∧(idle j.op=true∨lC s3 h3 j=lC s h j):=by
 obtain ⟨a1,a2,a3⟩:=Tq Af;obtain ⟨vj,rfl,oj,lj,ij,rj⟩:=KR hj;obtain ⟨vi,rfl,oi,li,ii,ri⟩:=KR hi;have sI:gD (vJ i) (eK s j.dst vj) s:=λx hx=>(gD.eK (s:=s) a1 vj x hx).symm
 have sI':gD (vJ i) s (eK s j.dst vj):=gD.eK a1 vj;have sJ:∀ v,gD (vJ j) s (eK s i.dst v):=λv=>gD.eK a3 v
 have yN:eK (eK s i.dst vi) j.dst vj=eK (eK s j.dst vj) i.dst vi:=(C0Y a2).symm;have fI:∀ k,lC s k i=lC (eK s j.dst vj) k i:=λk=>(OT sI').symm
 have fJ:∀ k v,lC (eK s i.dst v) k j=lC s k j:=λk v=>OT (sJ v)
 by_cases Tr:idle j.op=true
 . obtain ⟨rfl,ij2⟩:=ij Tr;have hst:=li s h1 sI (cU.refl _ _);have hg:glue (lC (eK s j.dst vj) h1 i) h2 h1=h2:=by
    funext x;unfold glue;split
    . rfl
    . rename_i hx;exact (oi x hx).symm
   rw [hg] at hst;refine ⟨eK s i.dst vi,h2,hst,?_,.inr (fI h1),.inl Tr⟩;rw [ij2 _ h2 (sJ vi),yN]
 . by_cases Tt:idle i.op=true
   . obtain ⟨rfl,ii2⟩:=ii Tt;refine ⟨eK s i.dst vi,h,ii2 s h sI,?_,.inl Tt,.inr (fJ h vi)⟩;rw [lj _ h (sJ vi) (cU.refl _ _),yN];congr 2;funext x;unfold glue;split
     . rfl
     . rename_i hx;exact (oj x hx).symm
   . rcases hc with hc | hc | hc | hc
     . exact absurd hc Tr
     . exact absurd hc Tt
     . have e1:=rj hc.1;subst e1;have e2:=ri hc.2;subst e2;have h3:=li s h2 sI (cU.refl _ _);rw [vt (cU.refl _ _)] at h3;have h4:=lj (eK s i.dst vi) h2 (sJ vi) (cU.refl _ _);rw [vt (cU.refl _ _)] at h4;exact ⟨_,_,h3,by rw [h4,yN],.inr (fI h2),.inr (fJ h2 vi)⟩
     . -- KS
       have ag1:cU (lC (eK s j.dst vj) h1 i) h1 h:=λx hx=>(oj x (λJ1=>hc _ J1 hx)).symm
       have h3:=li s h sI ag1;have fi:lC s h i=lC (eK s j.dst vj) h1 i:=by
        rw [fI h];exact C2R ag1
       have ag2:cU (lC s h j) h (glue (lC (eK s j.dst vj) h1 i) h2 h):=by
        intro x hx;unfold glue;rw [if_neg (hc _ hx)]
       have h4:=lj (eK s i.dst vi) _ (sJ vi) ag2;refine ⟨_,_,h3,?_,.inr fi,.inr ?_⟩
       . rw [h4,yN];congr 2;funext x;unfold glue;by_cases hx:mG x∈lC s h j
         . rw [if_pos hx];exact (oi x (hc _ hx)).symm
         . rw [if_neg hx];split
           . rfl
           . rename_i hx2;rw [oi x hx2,oj x hx]
       . rw [fJ];exact C2R ag2
end
theorem OU {s t:gB}{i:Ins}(hs:gD (vJ i) s t):yw t i=yw s i:=by
 unfold yw;cases hg:i.guard with
 | some g=>rfl
 | none =>
   have he:∀ x∈ft i.op,cJ t x=cJ s x:=KQ hs;simp only;cases ho:i.op with
   | load a n x=>simp only [Ew,he x (by rw [ho];simp [ft])]
   | app p z b x y =>
     cases p with
     | true=>rfl
     | false=>simp only [Ew,he x (by rw [ho];simp [ft]),he y (by rw [ho];simp [ft])]
   | _=>rfl
theorem Tu {h:cj}{l:List Nat}{q:Nat}:q∈jd h l↔q∈l∨∃ p,p∈l∧q∈AF (h p):=by
 unfold jd;rw [Ti,az,gY]
theorem OV (x:Nat):∀ (m:List (T Nat)) (j:Nat) (u:T Nat),(x∈vk u->x∈pe m)->x∈pe (m.set j u)->x∈pe m
 | [],_,_,_,h=>by simpa using h
 | b::r,0,u,hu,h=>by
   simp only [List.set_cons_zero,pe,az] at h ⊢;rcases h with h | h
   . have:=hu h
     simpa only [pe,az] using this
   . exact .inr h
 | b::r,j+1,u,hu,h=>by
   simp only [List.set_cons_succ,pe,az] at h ⊢;rcases h with h | h
   . exact .inl h
   . by_cases hx:x∈vk u
     . have:=hu hx
       simpa only [pe,az] using this
     . exact .inr (OV x r j u (λq=>absurd q hx) h)
theorem C8e {a:Nat}{tr:T Nat}{i j:Nat}{o':Obj Nat}{g z n:Nat}{l:List (T Nat)}(hs:ef (some (.cell a tr)) [j]=some (.vec g z l n))(hp:put (some (.cell a tr)) [j] (.hole 1)=some o')(gM:i≠j) :
 look (some o') none [i]=look (some (.cell a tr)) none [i]∧∀ x∈AF (some o'),x∈AF (some (.cell a tr)):=by
 rw [Dl] at hs;have iw:(c8 tr [j] (.hole 1)).map (Obj.cell a)=some o':=by
  simp only [put] at hp;cases hq:c8 tr [j] (.hole 1) with
  | none=>rw [hq] at hp;cases hp
  | some t'=>rw [hq] at hp;exact hp
 cases hq:c8 tr [j] (.hole 1) with
 | none=>rw [hq] at iw;cases iw
 | some t' =>
   rw [hq] at iw;simp only [ak,aa] at iw;subst iw;cases tr with
   | agg m =>
     simp only [cR] at hs;simp only [c8] at hq;cases hm:m[j]? with
     | none=>rw [hm] at hs;cases hs
     | some u =>
       rw [hm] at hs hq;simp only [aa] at hs hq;subst hs;subst hq;have nu:j2 (m.set j (T.hole (α:=Nat) 1))=.agg (m.set j (.hole 1)):=by
        rcases Dh (m.set j (T.hole (α:=Nat) 1)) with e | ⟨vs,e1,e⟩
        . exact e
        . exfalso;have h2:(m.set j (T.hole (α:=Nat) 1))[j]?=some (.hole 1):=by
           rw [List.getElem?_set_self (aJ.1 hm).1]
          rw [e1,aL] at h2;cases hv:vs[j]? with
          | none=>rw [hv] at h2;cases h2
          | some v=>rw [hv] at h2;cases h2
       rw [nu];constructor
       . simp only [look,lT];rw [List.getElem?_set_ne (dv gM)];have eV:T.db ((m.set j (T.hole (α:=Nat) 1)).take i)=T.db (m.take i):=Oi hm rfl;cases m[i]? with
         | none=>rfl
         | some q=>simp only [eV]
       . intro x hx;simp only [AF,vk] at hx ⊢;exact OV x m j (.hole 1) (λq=>by simp [vk] at q) hx
   | vec a' z' m n' =>
     simp only [cR] at hs;simp only [c8] at hq;cases hm:m[j]? with
     | none=>rw [hm] at hs;cases hs
     | some u =>
       rw [hm] at hs hq;simp only [aa] at hs hq;subst hs;subst hq;refine ⟨rfl,λx hx=>?_⟩
       simp only [AF,vk] at hx ⊢;exact OV x m j (.hole 1) (λq=>by simp [vk] at q) hx
   | mp a' ks m=>simp [cR] at hs
   | p v =>
     cases v with
     | agg m =>
       simp only [cR] at hs;cases hm:m[j]? with
       | none=>rw [hm] at hs;cases hs
       | some u=>rw [hm] at hs;cases hs
     | _=>simp only [cR,reduceCtorEq] at hs
   | m v=>simp only [cR,reduceCtorEq] at hs
   | hole n'=>simp only [cR,reduceCtorEq] at hs
theorem D1W {K:jm}{ga gb:Nat}{x y:Ins}{s:gB}{h:cj}{s1 s2:gB}{h1 h2:cj}{F:List Nat}{pa pb:Option s7}(hx:oP K ga x s h=some (s1,h1))(hy:oP K gb y s1 h1=some (s2,h2))(Af:HX x y=true)
 (sg:yw s x=pa) (v8:yw s1 y=pb) (KT:Ey F pa pb=true) (hF:∀ z∈lC s h x,z∈F) :
 ∃ s3 h3,oP K gb y s h=some (s3,h3)∧oP K ga x s3 h3=some (s2,h2)∧lC s h y=lC s1 h1 y∧(∀ z∈lC s3 h3 x,z∈lC s h x)∧yw s y=pb∧yw s3 x=pa:=by
 unfold Ey at KT;split at KT
 . rename_i id i k0 w5 j d;simp only [aj,beq_iff_eq,bne_iff_ne,ed,List.contains_eq_mem,decide_eq_false_iff_not] at KT;obtain ⟨⟨rfl,gM⟩,hd⟩:=KT;obtain ⟨a1,a2,a3⟩:=Tq Af;obtain ⟨xa,xn,xo,g,o,Tv,DK,OW⟩:∃ (xa:Bool) (xn:Nat) (xo:dJ) (g o:Nat),x.guard=none∧x.op=.load xa xn xo∧cJ s xo=.ptr id none [i] g o:=by
    unfold yw at sg;split at sg
    . rename_i hg;generalize eW:x.op=op at sg;unfold Ew at sg;split at sg
      . rename_i xa xn xo;split at sg
        . rename_i id1 i1 g1 o1 he;simp only [aa,ae,true_and] at sg;obtain ⟨rfl,rfl,_⟩:=sg;exact ⟨xa,xn,xo,g1,o1,hg,rfl,he⟩
        . cases sg
      . split at sg
        . split at sg
          . simp at sg
          . cases sg
        . cases sg
      . cases sg
    . cases sg
   have ld:∀ (t:gB) (k:cj),oP K ga x t k=match vF k xa xn (cJ t xo) with | some v=>some (eK t x.dst v,k) | none=>none:=by
    intro t k;unfold oP;rw [Tv];simp only [vG];rw [DK];simp only [b6];cases vF k xa xn (cJ t xo)<;>rfl
   obtain ⟨v,hv,rfl,rfl⟩:∃ v,vF h xa xn (.ptr id none [i] g o)=some v∧s1=eK s x.dst v∧h1=h:=by
    rw [ld,OW] at hx;split at hx
    . rename_i v hv;simp only [aa,ae] at hx;exact ⟨v,hv,hx.1.symm,hx.2.symm⟩
    . cases hx
   obtain ⟨u,rfl,oy,ly,_,_⟩:=KR hy;obtain ⟨yz,yb,yx,yy,off,len,g0,l,hyg,Tw,hyx,hyy,hyd⟩:∃ (yz yb:Nat) (yx yy:dJ) (off len g0:Nat) (l:List PV),y.guard=none∧y.op=.app false yz yb yx yy∧cJ (eK s x.dst v) yx=.own id [j] off len g0∧cJ (eK s x.dst v) yy=.p (.sl l)∧y.dst=some d:=by
    unfold yw at v8;split at v8
    . rename_i hg;generalize eW:y.op=op at v8;unfold Ew at v8;split at v8
      . split at v8
        . simp at v8
        . cases v8
      . rename_i yz yb yx yy;split at v8
        . rename_i id1 j1 off len g0 he;split at v8
          . rename_i l d1 h1 h2;simp only [aa,ae,true_and] at v8;obtain ⟨rfl,rfl,rfl⟩:=v8;exact ⟨yz,yb,yx,yy,off,len,g0,l,hg,rfl,he,h1,h2⟩
          . cases v8
        . cases v8
      . cases v8
    . cases v8
   have sY:gD (vJ y) (eK s x.dst v) s:=λq hq=>(gD.eK (s:=s) a1 v q hq).symm
   have sX:gD (vJ x) s (eK s y.dst u):=gD.eK a3 u;have h3:=ly s h1 sY (cU.refl _ _);have hg2:glue (lC (eK s x.dst v) h1 y) h2 h1=h2:=by
    funext q;unfold glue;split
    . rfl
    . rename_i hq;exact (oy q hq).symm
   rw [hg2] at h3;obtain ⟨ob,o',Tx,dK,eN,GF⟩:∃ (ob:Obj Nat) (o':Obj Nat),h1 id=some ob∧(∃ g1 z1 l1 n1,ef (some ob) [j]=some (.vec g1 z1 l1 n1))∧put (some ob) [j] (.hole 1)=some o'∧∃ w,h2=cq (cq h1 id (some o')) d (some w):=by
    unfold oP at hy;rw [hyg] at hy;simp only [vG] at hy;rw [Tw] at hy;simp only [b6,hyx,hyy] at hy;have Dw:tu h1 (.p (.sl l))=some (l.map .p,h1):=by
     unfold tu elems
     have:(l.map (T.p (α:=Nat))).all vm=true:=by simp [vm]
     simp only [this,if_true]
    cases qY:s6 gb y.dst h1 yz yb (.own id [j] off len g0) (.p (.sl l)) with
    | none=>rw [qY] at hy;cases hy
    | some r =>
      obtain ⟨r1,r2⟩:=r;have Iw:r2=h2:=by
       rw [qY] at hy
       try simp only at hy
       split at hy
       . rename_i vv hh heq;split at heq
         . simp only [aI,if_false,aa,ae] at heq hy;rename_i e3;simp only [aa,ae] at e3;rw [← e3.2] at heq;rw [← hy.2,← heq.2,e3.2]
         . cases heq
       . cases hy
      subst Iw;unfold s6 at qY;rw [Dw] at qY;simp only at qY;split at qY
      . cases qY
      . split at qY
        . rename_i lD;have qN:Cg gb y.dst h1 id [j] yz yb len g0 (l.map .p)=some (r1,r2):=by
           cases gk:h1 id with
           | none=>rw [gk] at qY;exact qY
           | some ob=>rw [gk] at qY;cases ob<;>exact qY
          unfold Cg at qN;split at qN
          . rename_i g1 z1 l1 n1 xd;split at qN
            . split at qN
              . rename_i o' eN;rw [hyd] at qN;simp only [A0O] at qN;simp only [aa,ae] at qN;cases gk:h1 id with
                | none=>rw [gk] at xd;simp [ef] at xd
                | some ob =>
                  rw [gk] at xd eN;exact ⟨ob,o',rfl,⟨g1,z1,l1,n1,xd⟩,eN,_,qN.2.symm⟩
              . cases qN
            . cases qN
          . cases qN
        . cases qY
   obtain ⟨w,rfl⟩:=GF;have yO:lC s h1 x=(x.dst.toList++jd h1 (jd h1 [id])).map mG:=by
    unfold lC;rw [Tv];simp only [vG];rw [DK];simp only [ft,aF,cr,mF,OW,j3,bD]
   have KU:∀ q∈jd h1 (jd h1 [id]),mG q≠mG d:=by
    intro q hq e;apply hd;rw [← e];apply hF;rw [yO];exact bp.2 ⟨q,by simp [hq],rfl⟩
   have D9n:∀ {hh:cj} {ll:List Nat} {q:Nat},q∈ll->q∈jd hh ll:=λhq=>GC hq
   have Tz:id∈jd h1 [id]:=D9n (by simp)
   have KV:d≠id:=λe=>KU id (D9n Tz) (by rw [e])
   have gS:∃ ca ct,ob=.cell ca ct:=by
    simp only [vF,look,Tx] at hv;cases ob with
    | cell ca ct=>exact ⟨ca,ct,rfl⟩
    | _=>simp at hv
   obtain ⟨ca,ct,rfl⟩:=gS;obtain ⟨g1,z1,l1,n1,dK⟩:=dK;obtain ⟨p1,p2⟩:=C8e dK eN gM;have TA:cq (cq h1 id (some o')) d (some w) id=some o':=by rw [A0C _ _ (dv KV),nV]
   have Bm:oP K ga x (eK s y.dst u) (cq (cq h1 id (some o')) d (some w))=some (eK (eK s y.dst u) x.dst v,cq (cq h1 id (some o')) d (some w)):=by
    have TE:cJ (eK s y.dst u) xo=.ptr id none [i] g o:=by
     rw [← OW];exact KQ sX xo (by rw [DK];simp [ft])
    have xF:vF (cq (cq h1 id (some o')) d (some w)) xa xn (.ptr id none [i] g o)=some v:=by
     rw [← hv];simp only [vF,Tx,TA,p1]
    rw [ld,TE,xF]
   refine ⟨eK s y.dst u,_,h3,?_,?_,?_,?_,?_⟩
   . rw [Bm];rw [(C0Y a2).symm]
   . exact (OT sY)
   . intro q hq;have TF:lC (eK s y.dst u) (cq (cq h1 id (some o')) d (some w)) x=(x.dst.toList++jd (cq (cq h1 id (some o')) d (some w)) (jd (cq (cq h1 id (some o')) d (some w)) [id])).map mG:=by
      rw [OT sX];unfold lC;rw [Tv];simp only [vG];rw [DK];simp only [ft,aF,cr,mF,OW,j3,bD]
     rw [TF] at hq;rw [yO];obtain ⟨r,hr,rfl⟩:=bp.1 hq;refine bp.2 ⟨r,?_,rfl⟩;rcases az.1 hr with hr | hr
     . exact az.2 (.inl hr)
     . refine az.2 (.inr ?_);have step:∀ (l1 l2:List Nat),(∀ q∈l1,q∈l2∧q≠d)->∀ q∈jd (cq (cq h1 id (some o')) d (some w)) l1,q∈jd h1 l2:=by
        intro l1 l2 hl q hq;rcases Tu.1 hq with hq | ⟨p,hp,hq⟩
        . exact Tu.2 (.inl (hl q hq).1)
        . refine Tu.2 (.inr ⟨p,(hl p hp).1,?_⟩);rw [A0C _ _ (hl p hp).2] at hq;by_cases e:p=id
          . subst e;rw [nV] at hq;rw [Tx];exact p2 q hq
          . rw [A0C _ _ e] at hq;exact hq
       have s1:=step [id] [id] (λq hq=>by
        simp only [aX] at hq;subst hq;exact ⟨by simp,dv KV⟩)
       refine step _ _ (λq hq=>⟨s1 q hq,λe=>?_⟩) r hr
       exact KU q (D9n (s1 q hq)) (by rw [e])
   . rw [← v8];exact (OU sY)
   . rw [← sg];exact OU sX
 . cases KT
inductive avD (K:jm) (g0:Nat) (is:List Ins) (F:Nat->List Nat×Option s7):List Nat->gB->cj->gB->cj->Prop where
 | nil (s:gB) (h:cj):avD K g0 is F [] s h s h
 | cons {i:Nat} {ins:Ins} {r:List Nat} {s:gB} {h:cj} {s1:gB} {h1:cj} {s2:gB} {h2:cj} (hi:is[i]?=some ins) (hf:idle ins.op=true∨((∀ z∈lC s h ins,z∈(F i).1)∧yw s ins=(F i).2))
    (hst:oP K (g0+i) ins s h=some (s1,h1)) (hr:avD K g0 is F r s1 h1 s2 h2):avD K g0 is F (i::r) s h s2 h2
def OX (is:List Ins)(F:Nat->List Nat×Option s7)(a b:Nat):Prop :=
 ∀ x y,is[a]?=some x->is[b]?=some y->HX x y=true∧(idle x.op=true∨idle y.op=true∨(vI x.op=true∧vI y.op=true)∨(∀ z∈(F a).1,z∉(F b).1)∨Ey (F a).1 (F a).2 (F b).2=true)
theorem avD.swap {K:jm}{g0:Nat}{is:List Ins}{F:Nat->List Nat×Option s7}{a b:Nat}{r:List Nat}{s:gB}{h:cj}{s':gB}{h':cj}(hr:avD K g0 is F (a::b::r) s h s' h')(hi:OX is F a b):avD K g0 is F (b::a::r) s h s' h':=by
 cases hr with
 | cons hx yO KW hr =>
   rename_i x s1 h1;cases hr with
   | cons hy E4 hsy hr =>
     rename_i y s2 h2;obtain ⟨Af,hc⟩:=hi x y hx hy;obtain ⟨a1,a2,a3⟩:=Tq Af;have main:(idle x.op=true∨idle y.op=true∨(vI x.op=true∧vI y.op=true)∨∀ z∈lC s h x,z∉lC s1 h1 y)->avD K g0 is F (b::a::r) s h s' h':=by
      intro zm;obtain ⟨s3,h3,k1,k2,k3,k4⟩:=C8d KW hsy Af zm;obtain ⟨vx,e1,_⟩:=KR KW;obtain ⟨vy,e3,_⟩:=KR k1;refine .cons hy ?_ k1 (.cons hx ?_ k2 hr)
      . rcases k3 with k3 | k3
        . exact .inl k3
        . refine E4.imp id λq=>⟨by rw [k3];exact q.1,?_⟩
          rw [← q.2,e1];exact (OU (gD.eK a1 vx)).symm
      . rcases k4 with k4 | k4
        . exact .inl k4
        . refine yO.imp id λq=>⟨by rw [k4];exact q.1,?_⟩
          rw [← q.2,e3];exact OU (gD.eK a3 vy)
     rcases hc with hc | hc | hc | hc | hc
     . exact main (.inl hc)
     . exact main (.inr (.inl hc))
     . exact main (.inr (.inr (.inl hc)))
     . rcases yO with e | yO
       . exact main (.inl e)
       . rcases E4 with e | E4
         . exact main (.inr (.inl e))
         . exact main (.inr (.inr (.inr λz hz Co=>hc z (yO.1 z hz) (E4.1 z Co))))
     . rcases yO with e | yO
       . exact main (.inl e)
       . rcases E4 with e | E4
         . exact main (.inr (.inl e))
         . obtain ⟨s3,h3,k1,k2,k3,k4,k5,k6⟩:=D1W KW hsy Af yO.2 E4.2 hc yO.1;exact .cons hy (.inr ⟨by rw [k3];exact E4.1,k5⟩) k1 (.cons hx (.inr ⟨λz hz=>yO.1 z (k4 z hz),k6⟩) k2 hr)
theorem avD.front {K:jm}{g0:Nat}{is:List Ins}{F:Nat->List Nat×Option s7}{i:Nat}{post:List Nat}:∀ {pre:List Nat} {s:gB} {h:cj} {s':gB} {h':cj},avD K g0 is F (pre++i::post) s h s' h'->(∀ j∈pre,OX is F j i)->avD K g0 is F (i::pre++post) s h s' h'
 | [],s,h,s',h',hr,_=>hr
 | p::pre,s,h,s',h',hr,hp=>by
   cases hr with
   | cons hx yO KW hr =>
     have h2:=avD.front hr (λj hj=>hp j (by simp [hj]))
     exact avD.swap (.cons hx yO KW h2) (hp p (by simp))
end Go.Mid
namespace Go.Mid
open Go.RowKit
section
variable {P:Program}{tC:tC}{nt:Nat}
theorem OY {ops:Array Oper}:∀ {l:List Oper} {is:List Ins},EC P tC nt ops l=some is->is.length=l.length∧∀ (i:Nat) (o:Oper),l[i]?=some o->∃ ins,is[i]?=some ins∧zg P tC nt ops o=some ins
 | [],is,h=>by simp only [EC,aa] at h;subst h;exact ⟨rfl,λi o ho=>by simp at ho⟩
 | x::r,is,h=>by
   simp only [EC] at h;split at h
   . rename_i y ys h1 h2;cases h;obtain ⟨h3,h4⟩:=OY h2;refine ⟨by simp [h3],λi o ho=>?_⟩
     cases i with
     | zero=>simp at ho;subst ho;exact ⟨y,rfl,h1⟩
     | succ i=>simpa using h4 i o (by simpa using ho)
   . cases h
variable {ops:Array Oper}{is:List Ins}{K:jm}{Q:Exit->Act->World->Prop}
theorem C5a {o:Oper}{ins:Ins}{i:Nat}{a:Act}{w:World}{A:Nat->Prop}{E:dP An}{S:di}{γ:Nat}{s s1:gB}{h h1:cj}(hK:CE P K)(ho:ops[i]?=some o)(avE:zg P tC nt ops o=some ins)(Aj:nt<=a.tmps.size)
 (hs:qM P w A E S s a) (hm:MR w A E h S) (hγ:¬ S γ) (he:oP K γ ins s h=some (s1,h1)) {next:Act->World->Prop}
 (hn:∀ a' w' A' E',qM P w' A' E' (S.add γ) s1 a'->MR w' A' E' h1 (S.add γ)->gC w A E S w' A' E'->a'.defers=a.defers->a'.tmps.size=a.tmps.size->next a' w'):wpOp P ops Q i next a w:=by
 unfold zg at avE;split at avE
 . rename_i GH;have hd:∀ d,o.dst=some d->d<nt:=by
    intro d hd;unfold Ye at GH;rw [hd] at GH;simpa using GH
   split at avE
   . rename_i g hg;simp only [aa] at avE;subst avE;have E5:∀ {w':World} {A':Nat->Prop} {E':dP An} {v:MV} {val:Value},MR w' A' E' h1 (S.add γ)->gC w A E S w' A' E'->bR w' A' E' (S.add γ) v val->s1=eK s o.dst v->qM P w' A' E' (S.add γ) s1 (a.put o.dst val):=by
      intro w' A' E' v val xM ta hv e;refine ⟨λk=>?_,hs.gl.frame ta.sub (λb hb=>ta.vL hm b hb)⟩
      subst e;have old:bR w' A' E' (S.add γ) (s k) (a.tmps.getD k undef):=(hs.sl k).go hm ta (S.eF γ);cases hod:o.dst with
      | none=>exact old
      | some d =>
        simp only [eK,cq,Act.put];by_cases TG:k=d
        . subst TG;have eC:k<a.tmps.size:=Nat.lt_of_lt_of_le (hd k hod) Aj;simp only [if_true]
          have:(a.tmps.setIfInBounds k val).getD k undef=val:=by simp [eC]
          rw [this];exact hv
        . rw [if_neg TG]
          have:(a.tmps.setIfInBounds d val).getD k undef=a.tmps.getD k undef:=by simp [dQ (dv TG)]
          rw [this];exact old
     have qo:∀ val,(a.put o.dst val).defers=a.defers∧(a.put o.dst val).tmps.size=a.tmps.size:=by
      intro val;cases o.dst<;>simp [Act.put]
     have hw:∀ b,vG s g=some b->tZ o (yielded ops a.tmps)=b:=by
      intro b hb;unfold Yd at hg;unfold tZ;split at hg
      . rename_i TH;cases hg;simp only [vG,aa] at hb;rw [TH];exact hb
      . rename_i j wb TH;split at hg
        . rename_i t ht;cases hg;rw [TH];simp only [vG] at hb;have Ib:(ops[j]?).bind (·.dst)=some t:=ht;have hst:=hs.sl t;split at hb
          . rename_i c hc;simp only [aa] at hb;rw [hc] at hst;have cE:=vM.1 hst
            have:a.tmps[t]?=some (.bool c):=by
             cases hq:a.tmps[t]? with
             | none=>simp [hq] at cE;exact absurd cE (by simp [undef])
             | some q=>simp [hq] at cE;rw [cE]
            simp only [yielded,Ib,ai,this];rw [← hb];cases c<;>cases wb<;>rfl
          . rename_i hc;simp only [aa] at hb;rw [hc] at hst;simp only [bR] at hst;obtain ⟨vs,cE,fN⟩:=hst;simp only [c9] at fN;subst fN
            have:yielded ops a.tmps j=none:=by
             simp only [yielded,Ib,ai];cases hq:a.tmps[t]? with
             | none=>rfl
             | some q=>simp [hq] at cE;rw [cE]
            simp only [this];rw [← hb];rfl
          . cases hb
        . cases hg
     unfold wpOp;simp only [ho];unfold oP at he;simp only at he;split at he
     . rename_i xh;rw [hw true xh];simp only [if_true];split at he
       . rename_i v h' hv;simp only [aa,ae] at he;obtain ⟨e1,rfl⟩:=he;refine .inl ?_;cases eW:qf P (Yf tC o) (NU tC.mt o) (NU tC.pz o) o.type o.op with
         | none =>
           rw [eW] at hv;simp [b6] at hv
         | some m' =>
           rw [eW] at hv;simp only [bI] at hv;refine D3h hs hm hγ hK eW hv next Q ?_
           intro val w' A' E' q1 q2 q3;exact hn _ w' A' E' (E5 q2 q3 q1 e1.symm) q2 q3 (qo val).1 (qo val).2
       . cases he
     . rename_i hwf;rw [hw false hwf];simp only [aI,if_false];simp only [aa,ae] at he;obtain ⟨e1,rfl⟩:=he;have hv:bR w A E (S.add γ) (.eI []) undef:=by simp only [bR];exact ⟨[],rfl,by simp only [c9]⟩
       have q2:=hm.mono (S.eF γ);exact hn _ w A E (E5 q2 (gC.refl w A E S) hv e1.symm) q2 (gC.refl w A E S) (qo undef).1 (qo undef).2
     . cases he
   . cases avE
 . cases avE
def oR (P:Program)(K:jm)(a:Act)(w:World)(A:Nat->Prop)(E:dP An)(S:di)(g0 n:Nat)(s':gB)(h':cj)(Q:Exit->Act->World->Prop):Prop :=
 ∀ a' w' A' E' S',S.le S'->(∀ g,S' g->S g∨∃ i,i<n∧g=g0+i)->qM P w' A' E' S' s' a'->MR w' A' E' h' S'->gC w A E S w' A' E'->a'.defers=a.defers->a'.tmps.size=a.tmps.size->Q .normal a' w'
theorem oR.step {a a1:Act}{w w1:World}{A A1:Nat->Prop}{E E1:dP An}{S:di}{g0 n i:Nat}{s':gB}{h':cj}(hp:oR P K a w A E S g0 n s' h' Q)(hi:i<n)(hg:gC w A E S w1 A1 E1)(hd:a1.defers=a.defers)(hsz:a1.tmps.size=a.tmps.size) :
 oR P K a1 w1 A1 E1 (S.add (g0+i)) g0 n s' h' Q:=by
 intro a' w' A' E' S' h1 h2 h3 h4 h5 h6 h7;refine hp a' w' A' E' S' (di.le_trans (S.eF _) h1) (λg ta=>?_) h3 h4 (hg.trans h5 (S.eF _)) (h6.trans hd) (h7.trans hsz)
 rcases h2 g ta with h | h
 . rcases h with h | rfl
   . exact .inl h
   . exact .inr ⟨i,hi,rfl⟩
 . exact .inr h
section
variable (hK:CE P K)(avE:EC P tC nt ops ops.toList=some is)
include hK avE
theorem C5b {g0:Nat}{F:Nat->List Nat×Option s7}:∀ {π:List Nat} {a:Act} {w:World} {A:Nat->Prop} {E:dP An} {S:di} {s s':gB} {h h':cj},avD K g0 is F π s h s' h'->π.Nodup->(∀ i∈π,i<ops.size∧¬ S (g0+i))->nt<=a.tmps.size->qM P w A E S s a->MR w A E h S->
 oR P K a w A E S g0 ops.size s' h' Q->wpOps P ops Q π a w
 | [],a,w,A,E,S,s,s',h,h',hr,_,_,_,hs,hm,hp=>by
   cases hr;exact hp a w A E S (S.le_refl) (λg hg=>.inl hg) hs hm (gC.refl w A E S) rfl rfl
 | i::r,a,w,A,E,S,s,s',h,h',hr,hn,hS,Aj,hs,hm,hp=>by
   cases hr with
   | cons hi hf hst hr =>
     rename_i ins s1 h1;obtain ⟨h2,h3⟩:=hS i (by simp)
     obtain ⟨o,ho⟩:∃ o,ops[i]?=some o:=⟨ops[i],by simp [h2]⟩
     obtain ⟨TI,hi',hc⟩:=(OY avE).2 i o (by simpa using ho)
     rw [hi] at hi';cases hi';rw [wpOps_cons];refine C5a hK ho hc Aj hs hm h3 hst ?_;intro a1 w1 A1 E1 q1 q2 q3 q4 q5;have rV:=bZ.1 hn;refine C5b hr rV.2 (λj hj=>⟨(hS j (by simp [hj])).1,λhc=>?_⟩) (by omega) q1 q2 (hp.step h2 q3 q4 q5)
     rcases hc with hc | hc
     . exact (hS j (by simp [hj])).2 hc
     . have:j=i:=by omega
       exact rV.1 (this ▸ hj)
end
end
end Go.Mid
namespace Go.Mid
open Go.RowKit
section
variable {ops:Array Oper}
theorem D1X {acc:Array Nat}{k:Nat}(l:List Edge):∀ (s:Nat),(l.foldl (λs e=>if eu .any e then s ||| 2 ^ e.on ||| acc.getD e.on 0 else s) s).testBit k=true->
 s.testBit k=true∨∃ e∈l,eu .any e=true∧(k=e.on∨(acc.getD e.on 0).testBit k=true):=by
 induction l with
 | nil=>intro s h;exact .inl h
 | cons e r ih =>
   intro s h;simp only [List.foldl_cons] at h;rcases ih _ h with h | ⟨e',he',hb,hk⟩
   . split at h
     . rename_i hb;simp only [Nat.testBit_or,cn,Nat.testBit_two_pow,decide_eq_true_eq] at h;rcases h with (h | h) | h
       . exact .inl h
       . exact .inr ⟨e,by simp,hb,.inl h.symm⟩
       . exact .inr ⟨e,by simp,hb,.inr h⟩
     . exact .inl h
   . exact .inr ⟨e',by simp [he'],hb,hk⟩
theorem C6s:∀ j k,((gE ops).getD j 0).testBit k=true->∃ o,ops[j]?=some o∧∃ e∈o.after,eu .any e=true∧(k=e.on∨(e.on<j∧((gE ops).getD e.on 0).testBit k=true)):=by
 have key:=Array.foldl_induction (as:=ops) (motive:=λn (acc:Array Nat)=>acc.size=n∧∀ j k,(acc.getD j 0).testBit k=true->∃ o,ops[j]?=some o∧∃ e∈o.after,eu .any e=true∧(k=e.on∨(e.on<j∧(acc.getD e.on 0).testBit k=true))) (init:=#[])
  (f:=λacc o=>acc.push (o.after.foldl (λs e=>if eu .any e then s ||| 2 ^ e.on ||| acc.getD e.on 0 else s) 0)) ⟨rfl,λj k h=>by simp at h⟩ (by
  intro i acc ⟨h1,h2⟩;refine ⟨by simp [h1],λj k h=>?_⟩
  have old:∀ m,m<acc.size->∀ v,(acc.push v).getD m 0=acc.getD m 0:=by
   intro m hm v;simp [o9,qD hm]
  by_cases hj:j<acc.size
  . rw [old j hj] at h;obtain ⟨o,ho,e,he,hb,hk⟩:=h2 j k h;refine ⟨o,ho,e,he,hb,hk.imp (λh=>h) (λhk=>⟨hk.1,?_⟩)⟩
    rw [old e.on (by omega)];exact hk.2
  . by_cases hje:j=acc.size
    . subst hje;have e0:(acc.push (ops[i].after.foldl (λs e=>if eu .any e then s ||| 2 ^ e.on ||| acc.getD e.on 0 else s) 0)).getD acc.size 0=ops[i].after.foldl (λs e=>if eu .any e then s ||| 2 ^ e.on ||| acc.getD e.on 0 else s) 0:=by simp
      rw [e0,← Array.foldl_toList] at h;have tE:ops[acc.size]?=some ops[i]:=by rw [h1];simp
      rcases D1X _ _ h with h | ⟨e,he,hb,hk⟩
      . simp at h
      . refine ⟨_,tE,e,by simpa using he,hb,hk.imp (λh=>h) (λhk=>?_)⟩
        have eC:e.on<acc.size:=by
         by_cases hh:e.on<acc.size
         . exact hh
         . simp [ik (kQ hh)] at hk
        exact ⟨eC,by rw [old e.on eC];exact hk⟩
    . simp [o9,hje,ik (kQ hj)] at h)
 exact key.2
theorem C1O {listed:Array Bool}(hc:∀ (j:Nat) (o:Oper),listed.getD j false=true->ops[j]?=some o->∀ e∈o.after,eu .any e=true->listed.getD e.on false=true) :
 ∀ j,(∀ o,ops[j]?=some o->∀ e∈o.after,eu .any e=true->listed.getD e.on false=true)->∀ k,((gE ops).getD j 0).testBit k=true->listed.getD k false=true:=by
 intro j
 induction j using lI with
 | _ j ih =>
   intro hj k hk;obtain ⟨o,ho,e,he,hb,oc⟩:=C6s j k hk;have hl:=hj o ho e he hb;rcases oc with rfl | ⟨eC,hk⟩
   . exact hl
   . exact ih e.on eC (λo' oZ=>hc e.on o' hl oZ) k hk
end
section
variable {P:Program}{tC:tC}{nt:Nat}{ops:Array Oper}{is:List Ins}{K:jm}{Q:Exit->Act->World->Prop}
def sF (n:Nat)(listed:Array Bool):List Nat:=(bA n).filter λi=>!listed.getD i true
theorem GJ {n i:Nat}{listed:Array Bool}:i∈sF n listed↔i<n∧listed.getD i true=false:=by
 simp only [sF,cZ,cu,ed]
theorem TJ {n:Nat}{listed:Array Bool}:(sF n listed).Pairwise (· < ·):=List.Pairwise.filter _ List.pairwise_lt_range
theorem C6t {n i:Nat}{listed:Array Bool}(hsz:listed.size=n)(hi:i∈sF n listed):∃ pre post,sF n listed=pre++i::post∧sF n (listed.setIfInBounds i true)=pre++post∧∀ j∈pre,j<i:=by
 obtain ⟨pre,post,e⟩:=List.append_of_mem hi;have hp:=TJ (n:=n) (listed:=listed);rw [e] at hp;have iw:=List.pairwise_append.1 hp;have Bn:=bN.1 iw.2.1;refine ⟨pre,post,e,?_,λj hj=>iw.2.2 j hj i (by simp)⟩
 have e2:sF n (listed.setIfInBounds i true)=(sF n listed).filter (λk=>decide (k≠i)):=by
  unfold sF;rw [List.filter_filter];refine List.filter_congr λk hk=>?_
  by_cases Dp:k=i
  . subst Dp;have eC:k<listed.size:=by rw [hsz];exact (GJ.1 hi).1
    simp [eC]
  . simp [Dp,dQ (dv Dp)]
 rw [e2,e,List.filter_append,List.filter_cons];have h1:pre.filter (λk=>decide (k≠i))=pre:=jx.2 λk hk=>by have:=iw.2.2 k hk i (by simp);simp;omega
 have h2:post.filter (λk=>decide (k≠i))=post:=jx.2 λk hk=>by have:=Bn.1 k hk;simp;omega
 rw [h1,h2];simp
theorem D3i (hK:CE P K)(avE:EC P tC nt ops ops.toList=some is){g0:Nat}{F:Nat->List Nat×Option s7}
 (Bo:∀ (j:Nat) (o:Oper),ops[j]?=some o->∀ e∈o.after,eu .any e=true->e.on<j)
 (Bp:∀ i j,i<j->j<ops.size->((gE ops).getD j 0).testBit i=false->OX is F i j) :
 ∀ (fuel:Nat) (listed:Array Bool) (a:Act) (w:World) (A:Nat->Prop) (E:dP An) (S:di) (s s':gB) (h h':cj),listed.size=ops.size->(sF ops.size listed).length=fuel->
  (∀ (j:Nat) (o:Oper),listed.getD j false=true->ops[j]?=some o->∀ e∈o.after,eu .any e=true->listed.getD e.on false=true)->
  avD K g0 is F (sF ops.size listed) s h s' h'->(∀ i∈sF ops.size listed,¬ S (g0+i))->nt<=a.tmps.size->qM P w A E S s a->MR w A E h S->oR P K a w A E S g0 ops.size s' h' Q->
  wpAny P .any ops Q fuel listed a w:=by
 intro fuel
 induction fuel with
 | zero =>
   intro listed a w A E S s s' h h' hsz hlen nX hr hS Aj hs hm hp;have Bq:sF ops.size listed=[]:=List.eq_nil_of_length_eq_zero hlen;rw [Bq] at hr;cases hr;refine ⟨?_,hp a w A E S S.le_refl (λg hg=>.inl hg) hs hm (gC.refl w A E S) rfl rfl⟩
   cases GD:qE .any ops listed with
   | nil=>rfl
   | cons i r =>
     exfalso;have hi:i∈qE .any ops listed:=by rw [GD];simp
     obtain ⟨h0,o,ho,_⟩:=mem_ready.1 hi;have eC:i<ops.size:=(c7.1 ho).1
     have:i∈sF ops.size listed:=GJ.2 ⟨eC,h0⟩
     rw [Bq] at this;cases this
 | succ fuel ih =>
   intro listed a w A E S s s' h h' hsz hlen nX hr hS Aj hs hm hp;refine ⟨λGD=>?_,λi hi=>?_⟩
   . exfalso;cases zu:sF ops.size listed with
     | nil=>rw [zu] at hlen;simp at hlen
     | cons j r =>
       have hj:j∈sF ops.size listed:=by rw [zu];simp
       obtain ⟨eC,h0⟩:=GJ.1 hj;have hjr:j∈qE .any ops listed:=by
        refine mem_ready.2 ⟨h0,ops[j],by simp [eC],λe he hb=>?_⟩
        have KX:=Bo j ops[j] (by simp [eC]) e he hb
        have hne:e.on∉sF ops.size listed:=by
         intro yP;have Bn:=TJ (n:=ops.size) (listed:=listed);rw [zu] at Bn yP;rcases aG.1 yP with h3 | h3
         . omega
         . have:=(bN.1 Bn).1 _ h3;omega
        have TK:e.on<ops.size:=by omega
        have:¬ (listed.getD e.on true=false):=λh=>hne (GJ.2 ⟨TK,h⟩)
        have Ih:e.on<listed.size:=by omega
        simp [Ih] at this ⊢;exact this
       rw [GD] at hjr;cases hjr
   . obtain ⟨h0,o,ho,hall⟩:=mem_ready.1 hi;have eC:i<ops.size:=(c7.1 ho).1;have OD:i∈sF ops.size listed:=GJ.2 ⟨eC,h0⟩;obtain ⟨pre,post,e1,e2,pJ⟩:=C6t hsz OD;rw [e1] at hr;have GK:=hr.front (λj hj=>by
      refine Bp j i (pJ j hj) eC ?_;cases hb:((gE ops).getD i 0).testBit j with
      | false=>rfl
      | true =>
        exfalso;have hl:=C1O nX i (λo' oZ=>by rw [ho] at oZ;cases oZ;exact hall) j hb
        have GM:j∈sF ops.size listed:=by rw [e1];simp [hj]
        have:=(GJ.1 GM).2
        have CA:j<listed.size:=by rw [hsz];exact (GJ.1 GM).1
        simp [CA] at hl this;rw [hl] at this;cases this)
     cases GK with
     | cons hi' hf hst hr' =>
       rename_i ins s1 h1;obtain ⟨TI,rX,hc⟩:=(OY avE).2 i o (by simpa using ho)
       rw [hi'] at rX;cases rX;refine C5a hK ho hc Aj hs hm (hS i OD) hst ?_;intro a1 w1 A1 E1 q1 q2 q3 q4 q5;have hnd:(sF ops.size listed).Nodup:=List.Pairwise.imp (λh=>qD h) TJ
       have hni:i∉pre++post:=by
        rw [e1] at hnd
        have:=List.nodup_append.1 hnd
        intro yP;rcases az.1 yP with yP | yP
        . exact this.2.2 i yP i (by simp) rfl
        . exact (bZ.1 this.2.1).1 yP
       refine ih (listed.setIfInBounds i true) a1 w1 A1 E1 (S.add (g0+i)) s1 s' h1 h' (by simp [hsz]) ?_ ?_ (by rw [e2];exact hr') ?_ (by omega) q1 q2 (hp.step eC q3 q4 q5)
       . rw [e2];rw [e1] at hlen;simp only [List.length_append,bf] at hlen ⊢;omega
       . intro j oj hj Dn e he hb;by_cases hji:j=i
         . subst hji;rw [ho] at Dn;cases Dn;exact getD_set_true (hall e he hb)
         . rw [getD_set_ne false (dv hji)] at hj;exact getD_set_true (nX j oj hj Dn e he hb)
       . rw [e2];intro j hj pg;have GM:j∈sF ops.size listed:=by
          rw [e1];rcases az.1 hj with hj | hj<;>simp [hj]
         rcases pg with pg | pg
         . exact hS j GM pg
         . have:j=i:=by omega
           exact hni (this ▸ hj)
theorem B46 {g0:Nat}{F:Nat->List Nat×Option s7}:∀ (l:List Ins) (m:Nat) (s s':gB) (h h':cj),is.drop m=l->vH K (g0+m) l s h=some (s',h')->(∀ (k:Nat) (x:List Nat×Bool×Option s7),(vK K (g0+m) l s h)[k]?=some x->F (m+k)=(x.1,x.2.2))->
 avD K g0 is F (mJ m l.length) s h s' h'
 | [],m,s,s',h,h',_,hst,_=>by
   simp only [vH,aa,ae] at hst;obtain ⟨rfl,rfl⟩:=hst;exact .nil s h
 | ins::r,m,s,s',h,h',hd,hst,hF=>by
   simp only [vH] at hst;split at hst
   . rename_i s1 h1 he;have TL:is[m]?=some ins:=by
      have:=congrArg (·[0]?) hd
      simpa using this
     have N9:is.drop (m+1)=r:=by
      rw [← List.drop_drop,hd];rfl
     rw [bf,List.range'_succ];refine .cons TL (.inr ?_) he (B46 r (m+1) s1 s' h1 h' N9 hst ?_)
     . have:=hF 0 (lC s h ins,idle ins.op || vI ins.op,yw s ins) (by simp only [vK,bQ])
       rw [dG] at this;rw [this];exact ⟨λz hz=>hz,rfl⟩
     . intro k x hx
       have:=hF (k+1) x (by simp only [vK,bK,he];exact hx)
       rw [← this];congr 1;omega
   . cases hst
theorem TM {g:Nat}:∀ (l:List Ins) (s:gB) (h:cj) (k:Nat) (x:List Nat×Bool×Option s7) (ins:Ins),(vK K g l s h)[k]?=some x->l[k]?=some ins->x.2.1=(idle ins.op || vI ins.op)
 | [],s,h,k,x,ins,hx,_=>by simp [vK] at hx
 | i::r,s,h,0,x,ins,hx,hi=>by
   simp only [vK,bQ,aa] at hx hi;subst hx hi;rfl
 | i::r,s,h,k+1,x,ins,hx,hi=>by
   simp only [vK,bK] at hx hi;split at hx
   . exact TM r _ _ k x ins hx hi
   . simp at hx
theorem D3j (hK:CE P K)(xN:P.follows .mixedOrders=true)(avE:EC P tC nt ops ops.toList=some is){id:Nat}{draw:Bool}(kG:(!draw || NV ops is)=true){σ σ':St}(hr:tx K (if draw then Da ops is else []) is σ=some σ')
 {a:Act} {w:World} {A:Nat->Prop} {E:dP An} (Aj:nt<=a.tmps.size) (hs:qM P w A E (· < σ.nx) σ.s a) (hm:MR w A E σ.h (· < σ.nx))
 (hn:∀ a' w' A' E',qM P w' A' E' (· < σ'.nx) σ'.s a'->MR w' A' E' σ'.h (· < σ'.nx)->gC w A E (· < σ.nx) w' A' E'->a'.defers=a.defers->a'.tmps.size=a.tmps.size->Q .normal a' w') (hnx:σ'.nx=σ.nx+ops.size->True):(Code.region id ops draw).wp P Q a w:=by
 generalize Dv:(if draw then Da ops is else [])=loose at hr
 unfold tx at hr;split at hr
 . rename_i s1 h1 hst;split at hr
   . rename_i Br;simp only [aa] at hr;subst hr;have hlen:is.length=ops.size:=by rw [(OY avE).1];simp
     let F:Nat->List Nat×Option s7:=λi=>match (vK K σ.nx is σ.s σ.h)[i]? with | some (x,_,p)=>(x,p) | none=>([],none)
     have Bs:avD K σ.nx is F (mJ 0 is.length) σ.s σ.h s1 h1:=by
      refine B46 is 0 σ.s s1 σ.h h1 rfl hst ?_;intro k x hx;rw [dG] at hx;simp only [F,bS,hx]
     rw [hlen,← List.range_eq_range'] at Bs;have E6:oR P K a w A E (· < σ.nx) σ.nx ops.size s1 h1 Q:=by
      intro a' w' A' E' S' q1 q2 q3 q4 q5 q6 q7;have hle:di.le S' (· < σ.nx+is.length):=by
       intro g hg;rw [hlen];rcases q2 g hg with h | ⟨i,hi,rfl⟩
       . have:g<σ.nx:=h
         show g<σ.nx+ops.size;omega
       . show σ.nx+i<σ.nx+ops.size;omega
      exact hn a' w' A' E' ⟨λk=>(q3.sl k).frame (Fr.same w' A' E' hle),q3.gl⟩ (q4.mono hle) q5 q6 q7
     cases draw with
     | false =>
       refine wp_region (C5b hK avE Bs List.nodup_range (λi hi=>⟨cu.1 hi,?_⟩) Aj hs hm E6)
       show ¬ (σ.nx+i<σ.nx);omega
     | true =>
       have DL:NV ops is=true:=by simpa using kG
       simp only [if_true] at Dv;subst Dv;unfold NV at DL;simp only [bB,cu,aj] at DL;refine wp_region_any xN ?_;have Bo:∀ (j:Nat) (o:Oper),ops[j]?=some o->∀ e∈o.after,eu .any e=true->e.on<j:=by
        intro j o ho e he hb;have hj:j<is.length:=by rw [hlen];exact (c7.1 ho).1
        have:=(DL j hj).1
        rw [ho] at this;simp only [bB] at this
        have:=this e (by simpa using he)
        simpa [hb] using this
       have Bp:∀ i j,i<j->j<ops.size->((gE ops).getD j 0).testBit i=false->OX is F i j:=by
        intro i j gM hj hb x y hx hy;have Af:=(DL j (by omega)).2 i (by simpa using gM)
        rw [hb,hx,hy] at Af;refine ⟨by simpa using Af,?_⟩
        by_cases oS:(idle x.op || idle y.op || (vI x.op&&vI y.op))=true
        . simp only [cn,aj] at oS;rcases oS with (h | h) | h
          . exact .inl h
          . exact .inr (.inl h)
          . exact .inr (.inr (.inl h))
        . have pE:(i,j)∈Da ops is:=by
           unfold Da;refine gY.2 ⟨j,by simp;omega,List.mem_filterMap.2 ⟨i,by simpa using gM,?_⟩⟩
           simp only [hx,hy];rw [if_neg];simp only [fW] at oS;rw [hb,oS];simp
          have yA:HY (vK K σ.nx is σ.s σ.h) (Da ops is)=true:=by
           simp only [cn] at Br;rcases Br with h | h
           . have:Da ops is=[]:=by simpa using h
             rw [this] at pE;cases pE
           . exact h
          have:=bB.1 yA (i,j) pE
          simp only at this;split at this
          . rename_i xa rx px ya ry py KY TN;have m1:=TM is σ.s σ.h i _ x KY hx;have m2:=TM is σ.s σ.h j _ y TN hy;simp only at m1 m2;rw [m1,m2] at this;simp only [cn,aj] at this oS;rcases this with (⟨h3,h4⟩ | h3) | h3
            . exfalso;apply oS;rcases h3 with h3 | h3
              . exact .inl (.inl h3)
              . rcases h4 with h4 | h4
                . exact .inl (.inr h4)
                . exact .inr ⟨h3,h4⟩
            . refine .inr (.inr (.inr (.inl λz hz It=>?_)))
              simp only [F,KY,TN] at hz It
              have:=bB.1 h3 z hz
              simp at this;exact this It
            . refine .inr (.inr (.inr (.inr ?_)));simp only [F,KY,TN];exact h3
          . cases this
       have zu:sF ops.size (iA ops.size false)=bA ops.size:=by
        unfold sF;refine jx.2 λi hi=>?_
        have:i<ops.size:=cu.1 hi
        simp [this]
       have GA:Fr w { w with drawn:=w.drawn+1 } A A E E (· < σ.nx) (· < σ.nx):=⟨λ_ h=>h,λ_ _=>rfl,pf.refl _ _,di.le_refl _⟩
       have xM:MR { w with drawn:=w.drawn+1 } A E σ.h (· < σ.nx):=⟨hm.er,λi o ho=>OAt.frame GA (λ_ _=>rfl) (hm.at_ i o ho),hm.lt,hm.nd,hm.dj,hm.im,hm.st⟩
       have DC:gC w A E (· < σ.nx) { w with drawn:=w.drawn+1 } A E:=⟨rfl,rfl,⟨rfl,Nat.le_succ _⟩,ay _,λ_ _ _=>rfl,λ_ h=>h,λ_ _ h=>.inl h,λ_ _ h=>h,pf.refl _ _⟩
       refine D3i hK avE Bo Bp ops.size _ a _ A E (· < σ.nx) σ.s s1 σ.h h1 (by simp) (by rw [zu];simp) ?_ (by rw [zu];exact Bs) ?_ Aj ⟨λk=>(hs.sl k).frame GA,hs.gl.frame (λ_ h=>h) (λ_ _=>rfl)⟩ xM ?_
       . intro j o hj;exfalso;by_cases Ix:j<ops.size
         . simp [Ix] at hj
         . rw [fK,ik (by simpa using Ix)] at hj
           cases hj
       . intro i _;show ¬ (σ.nx+i<σ.nx);omega
       . intro a' w' A' E' S' q1 q2 q3 q4 q5 q6 q7;exact E6 a' w' A' E' S' q1 q2 q3 q4 (DC.trans q5 (di.le_refl _)) q6 q7
   . cases hr
 . cases hr
end
end Go.Mid
namespace Go.Mid
open Go.RowKit
structure xi (P:Program)(w:World)(A:Nat->Prop)(E:dP An)(nt:Nat)(σ:St)(a:Act):Prop where
 sl:qM P w A E (· < σ.nx) σ.s a
 mr:MR w A E σ.h (· < σ.nx)
 nx:1<=σ.nx
 df:a.defers=[]
 sz:nt<=a.tmps.size
def exM:Ex->Exit
 | .normal=>.normal
 | .exit id=>.exit id
 | .ret=>.ret
theorem C2S {P:Program}{c:Code}{Q:Exit->Act->World->Prop}(R:Nat->Act->World->Prop)(round:∀ n a w,R n a w->c.wp P (Exit.then (λa' w'=>∃ m,m<n∧R m a' w') Q) a w) :
 ∀ n a w,R n a w->(Code.loop c).wp P Q a w:=by
 intro n a w h₀ b k cs;have key:∀ n a w,R n a w->∃ e a' w',Q e a' w'∧Arrives P (lone (b.at a (.code c::.inLoop c::k)) cs w) b k cs e a' w':=by
  intro n
  induction n using lI with
  | _ n ih =>
    intro a w hR;obtain ⟨e,a₁,w₁,hq,tJ⟩:=round n a w hR b (.inLoop c::k) cs;cases e with
    | normal =>
      obtain ⟨m,eC,hm⟩:=hq;obtain ⟨e₂,a₂,w₂,hq₂,KZ⟩:=ih m eC a₁ w₁ hm;exact ⟨e₂,a₂,w₂,hq₂,.of_steps (Steps.trans tJ (.one step_inLoop)) KZ⟩
    | exit id=>exact ⟨_,a₁,w₁,hq,.pass (x:=.inLoop c) rfl (λ_ _=>.inl (by simp)) tJ⟩
    | goto l=>exact ⟨_,a₁,w₁,hq,.pass (x:=.inLoop c) rfl (λ_ _=>.inl (by simp)) tJ⟩
    | ret=>exact ⟨_,a₁,w₁,hq,.pass (x:=.inLoop c) rfl (λ_ _=>.inl (by simp)) tJ⟩
    | panic ch=>exact ⟨_,a₁,w₁,hq,.pass (x:=.inLoop c) rfl (λ_ _=>.inl (by simp)) tJ⟩
    | outgrown=>exact ⟨_,a₁,w₁,hq,.pass (x:=.inLoop c) rfl (λ_ _=>.inl (by simp)) tJ⟩
 obtain ⟨e,a',w',hq,tJ⟩:=key n a w h₀;exact ⟨e,a',w',hq,.of_steps (.one step_loop) tJ⟩
section
variable {P:Program}{w:World}{A:Nat->Prop}{E:dP An}{nt:Nat}{σ:St}{a:Act}
theorem CF {n:Nat}(h:1<=n):S0.le (· < n):=by
 intro g hg
 have:g=0:=hg
 show g<n;omega
theorem DM (g:Nat):jz g<2:=by unfold jz;split<;>omega
theorem TO {g:Nat}(h:jz g=0):g=0:=by
 unfold jz at h;split at h
 . assumption
 . omega
theorem gC.weaken {w':World}{A':Nat->Prop}{E':dP An}{S S':di}(g:gC w A E S' w' A' E')(h:S.le S'):gC w A E S w' A' E' :=
 ⟨g.os,g.tape,g.output,g.size,g.bm,g.sub,g.Cl,g.own,λid np an z hn hg=>g.ns id np an z hn (h _ hg)⟩
theorem OZ (k:xi P w A E nt σ a)(ks ids:List Nat):∃ E',xi P w A E' nt (s5 ks ids σ) a∧gC w A E S0 w A E':=by
 let bk:Nat->Option Nat:=λj=>if yp ids j then some j else none
 have hρ:∀ i j,vl ids i=some j->bk j=some i:=by
  intro i j h;unfold vl at h;split at h
  . rename_i hk;cases h;simp only [bk,hk,if_true]
  . cases h
 have uN:∀ i j j',bk j=some i->bk j'=some i->j=j':=by
  intro i j j' h h';simp only [bk] at h h';split at h<;>split at h'<;>simp_all
 have hm:=k.mr.clean (nx':=(· < 2)) (ζ:=jz) (ζn:=λ_=>jz) hρ uN (λg _=>DM g) (λ_ g _=>DM g)
 have hh:Bg σ.h (vl ids) jz (λ_=>jz) bk=(s5 ks ids σ).h:=by
  funext j;simp only [Bg,s5,bk];split<;>rfl
 rw [hh] at hm;refine ⟨tG E σ.h (vl ids) jz (λ_=>jz) bk,⟨⟨?_,k.sl.gl⟩,hm,by simp [s5],k.df,k.sz⟩,?_⟩
 . intro i;simp only [s5];split
   . exact bR.clean (nx':=(· < 2)) k.mr hρ (λg _=>DM g) (k.sl.sl i)
   . simp only [bR]
 . refine ⟨rfl,rfl,⟨rfl,ay _⟩,ay _,λ_ _ _=>rfl,λ_ h=>h,λ_ _ h=>.inl h,λb _ h=>A8R h,?_⟩
   intro id np an z hn hg;have Ae:an.g=0:=hg;by_cases hb:yp ids id=true
   . have tg:bk id=some id:=by simp only [bk,hb,if_true]
     rw [KB tg] at hn;cases Cy:fc (E id) np with
     | none=>simp [Cy] at hn
     | some y =>
       simp only [Cy,ak,aa,ae] at hn;obtain ⟨rfl,rfl⟩:=hn;have h0:=TO Ae;obtain ⟨⟨g,bb,cc⟩,z⟩:=y;simp only at h0;subst h0;rfl
   . have:tG E σ.h (vl ids) jz (λ_=>jz) bk id=none:=by
      simp only [tG,bk,hb,aI,if_false,ng]
     rw [this] at hn;cases np with
     | none=>cases hn
     | some p=>cases p<;>cases hn
theorem C6u {σ':St}{g:Gh}(k:xi P w A E nt σ a)(h:AN g σ=some σ'):∃ A' E',xi P w A' E' nt σ' a∧gC w A E S0 w A' E':=by
 cases g with
 | bm ks ids =>
   simp only [AN,aa] at h;subst h;obtain ⟨E',h1,h2⟩:=OZ k ks ids;exact ⟨A,E',h1,h2⟩
 | freeze t =>
   simp only [AN] at h;have hγ:¬ (λg=>g<σ.nx) σ.nx:=Nat.lt_irrefl _
   have Gs:di.add (· < σ.nx) σ.nx=(· < σ.nx+1):=by
    funext g;exact propext ⟨λhg=>by rcases hg with hg | hg<;>omega,λhg=>by
     rcases Nat.lt_or_eq_of_le (Nat.le_of_lt_succ hg) with e | e
     . exact .inl e
     . exact .inr e⟩
   have fin:∀ {E':dP An} {h':cj},MR w A E' h' (di.add (· < σ.nx) σ.nx)->gC w A E (· < σ.nx) w A E'->xi P w A E' nt ⟨σ.s,h',σ.nx+1⟩ a:=by
    intro E' h' q1 q2;rw [Gs] at q1;exact ⟨⟨λi=>(k.sl.sl i).go k.mr q2 (λg hg=>Nat.lt_succ_of_lt hg),k.sl.gl.frame q2.sub (λb hb=>q2.vL k.mr b hb)⟩,q1,by have:=k.nx;show 1<=σ.nx+1;omega,k.df,k.sz⟩
   split at h
   . split at h
     . rename_i h' ht;cases h;simp only [FU] at ht;split at ht
       . rename_i a' t' gk;cases ht;obtain ⟨E',q1,q2⟩:=k.mr.uv hγ gk;exact ⟨A,E',fin q1 q2,q2.weaken (CF k.nx)⟩
       . cases ht
     . cases h
   split at h
   . split at h
     . rename_i z hst gk;cases h;obtain ⟨E',q1,q2,q3⟩:=k.mr.Gl (z:=z) hγ gk;have q:=fin q1 q2;have xj:=k.sl.sl (t%1000);rw [hst] at xj;simp only [bR] at xj;obtain ⟨ad,cE⟩:=xj;refine ⟨A,E',⟨⟨λi=>?_,q.sl.gl⟩,q.mr,q.nx,q.df,q.sz⟩,q2.weaken (CF k.nx)⟩
       show bR w A E' _ (cq σ.s (t%1000) _ i) _;by_cases e:i=t%1000
       . subst e;rw [nV];simp only [bR];refine ⟨Nat.lt_succ_self _,ad,0,cE,ay _,λan z' hn hg=>?_⟩
         rw [q3] at hn;cases hn;exact ⟨rfl,rfl⟩
       . rw [A0C _ _ e];exact q.sl.sl i
     . cases h
     . cases h;exact ⟨A,E,fin (k.mr.mono (di.eF _ _)) (gC.refl w A E _),gC.refl w A E _⟩
   split at h
   . split at h
     . rename_i h' ht;cases h;unfold FU at ht;split at ht
       . rename_i id g o hst;split at ht
         . rename_i a' t' gk;cases ht;obtain ⟨E',q1,q2⟩:=k.mr.uv hγ gk;exact ⟨A,E',fin q1 q2,q2.weaken (CF k.nx)⟩
         . cases ht
       . rename_i id i0 p off len g hst;split at ht
         . rename_i g1 z l n dK;split at ht
           . rename_i o' eN;cases ht;obtain ⟨E',q1,q2⟩:=k.mr.Dz hγ dK eN;exact ⟨A,E',fin q1 q2,q2.weaken (CF k.nx)⟩
           . cases ht
         . cases ht
       . cases ht
     . cases h
   have set:∀ {A':Nat->Prop} {E':dP An} {v:MV} {h':cj},gC w A E (· < σ.nx) w A' E'->MR w A' E' h' (· < σ.nx)->bR w A' E' (· < σ.nx) v (a.tmps.getD t undef)->xi P w A' E' nt ⟨cq σ.s t v,h',σ.nx⟩ a:=by
    intro A' E' v h' hg hm hv;refine ⟨⟨λi=>?_,k.sl.gl.frame hg.sub (λb hb=>hg.vL k.mr b hb)⟩,hm,k.nx,k.df,k.sz⟩
    show bR w A' E' _ (cq σ.s t v i) _;by_cases e:i=t
    . subst e;rw [nV];exact hv
    . rw [A0C _ _ e];exact (k.sl.sl i).go k.mr hg (di.le_refl _)
   have xj:=k.sl.sl t;split at h
   . rename_i id len g0 hst;split at h
     . rename_i g1 z l gk;split at h
       . rename_i hc;obtain ⟨rfl,hlen⟩:=hc;split at h
         . rename_i vs fN;cases h;cases hE:E id with
           | none=>rw [k.mr.er id,hE] at gk;cases gk
           | some o =>
             obtain ⟨q1,q2⟩:=k.mr.yJ hE;rw [hst] at xj;have hp:mE σ.h (.own id [] 0 len g0)=some (.sl (vs.take len)):=by
              simp only [mE,gk,jq,bS,hlen,true_and,if_true,fN,List.drop_zero]
             have hv:=EU (A':=λb=>A b∨b∈o.blk) k.mr (λb hb=>.inl hb) hp (λi hi o1 nr b hb=>by
              simp only [j3,aX] at hi;subst hi;rw [hE] at nr;cases nr;exact .inr hb) xj
             exact ⟨_,_,set q2 q1 (by simp only [bR];exact hv),q2.weaken (CF k.nx)⟩
         . cases h
       . cases h
     . cases h
   . rename_i id i0 p off len g0 hst;split at h
     . rename_i g1 z l n dK;split at h
       . rename_i vs fN;split at h
         . rename_i o' eN;cases h;obtain ⟨A',E',q1,q2⟩:=k.mr.Kr dK fN eN;refine ⟨A',E',⟨⟨λi=>(k.sl.sl i).go k.mr q2 (di.le_refl _),k.sl.gl.frame q2.sub (λb hb=>q2.vL k.mr b hb)⟩,q1,k.nx,k.df,k.sz⟩,q2.weaken (CF k.nx)⟩
         . cases h
       . cases h
     . cases h
   . rename_i id g0 hst;split at h
     . rename_i g1 u gk;split at h
       . rename_i hc;subst hc;split at h
         . rename_i v A0;cases h;cases hE:E id with
           | none=>rw [k.mr.er id,hE] at gk;cases gk
           | some o =>
             obtain ⟨q1,q2⟩:=k.mr.yJ hE;rw [hst] at xj;have hp:mE σ.h (.ptr id none [] g0 0)=some (.ref v):=by
              simp only [mE,gk,look,lT,true_and,if_true,A0]
             have hv:=EU (A':=λb=>A b∨b∈o.blk) k.mr (λb hb=>.inl hb) hp (λi hi o1 nr b hb=>by
              simp only [j3,aX] at hi;subst hi;rw [hE] at nr;cases nr;exact .inr hb) xj
             exact ⟨_,_,set q2 q1 (by simp only [bR];exact hv),q2.weaken (CF k.nx)⟩
         . cases h
       . cases h
     . cases h
   . rename_i v hst;cases h;refine ⟨A,E,set (gC.refl w A E _) k.mr (by rw [← hst];exact xj),gC.refl w A E _⟩
   . rename_i z hst;cases h;rw [hst] at xj;simp only [bR] at xj;obtain ⟨ad,cE⟩:=xj;refine ⟨A,E,set (gC.refl w A E _) k.mr ?_,gC.refl w A E _⟩;rw [cE];exact xD.2 ⟨ad,0,rfl,ay _,.inl rfl⟩
   . cases h
end
section
variable {P:Program}{Φ:lW}
def O0 (P:Program)(Φ:lW)(n:Nat):Prop :=
 ∀ (B:tC) (nt:Nat) (c:Code) (k:Nat) (mc:MC) (k':Nat),uq P B nt c k=some (mc,k')->∀ (σ σ':St) (e:Ex),run Φ n mc σ=some (e,σ')->
  ∀ (Q:Exit->Act->World->Prop) (a:Act) (w:World) (A:Nat->Prop) (E:dP An),xi P w A E nt σ a->
   (∀ a' w' A' E',xi P w' A' E' nt σ' a'->gC w A E S0 w' A' E'->Q (exM e) a' w')->c.wp P Q a w
theorem C0Z {r:MC}{nt:Nat}:∀ (l:List Nat) (n:Nat) (σ σ':St) (e:Ex),run Φ n (NW l r) σ=some (e,σ')->∀ (a:Act) (w:World) (A:Nat->Prop) (E:dP An),xi P w A E nt σ a->
 ∃ m σ1 A1 E1,m<=n∧run Φ m r σ1=some (e,σ')∧xi P w A1 E1 nt σ1 a∧gC w A E S0 w A1 E1
 | [],n,σ,σ',e,hr,a,w,A,E,k=>⟨n,σ,A,E,ay n,hr,k,gC.refl w A E _⟩
 | t::l,n,σ,σ',e,hr,a,w,A,E,k=>by
   cases n with
   | zero=>simp [run] at hr
   | succ n =>
     have e0:NW (t::l) r=.seq (.gh (.freeze t)) (NW l r):=rfl;rw [e0] at hr;simp only [run] at hr;cases n with
     | zero=>simp [run] at hr
     | succ n =>
       cases hg:AN (.freeze t) σ with
       | none=>simp [run,hg] at hr
       | some σ1 =>
         have h1:run Φ (n+1) (.gh (.freeze t)) σ=some (.normal,σ1):=by simp only [run,hg]
         rw [h1] at hr;simp only at hr;obtain ⟨A1,E1,k1,g1⟩:=C6u k hg;obtain ⟨m,σ2,A2,E2,q1,q2,q3,q4⟩:=C0Z l (n+1) σ1 σ' e hr a w A1 E1 k1;exact ⟨m,σ2,A2,E2,by omega,q2,q3,g1.trans q4 (di.le_refl _)⟩
theorem C6v (xN:P.follows .mixedOrders=true)(n:Nat)(ih:∀ m,m<n->O0 P Φ m)(Bj:∀ m,m<n->CE P (og Φ (run Φ m))):O0 P Φ n:=by
 intro B nt c k mc k' hc σ σ' e hr Q a w A E hk hQ;cases n with
 | zero=>simp [run] at hr
 | succ n =>
   cases c with
   | skip =>
     simp only [uq,aa,ae] at hc;obtain ⟨rfl,_⟩:=hc;simp only [run,aa,ae] at hr;obtain ⟨rfl,rfl⟩:=hr;exact wp_skip (hQ a w A E hk (gC.refl w A E _))
   | ret =>
     simp only [uq,aa,ae] at hc;obtain ⟨rfl,_⟩:=hc;cases n with
     | zero=>simp [run] at hr
     | succ n =>
       simp only [run,AN,aa,ae] at hr;obtain ⟨rfl,rfl⟩:=hr;obtain ⟨E',h1,h2⟩:=OZ hk _ _;exact wp_ret (hQ a w A E' h1 h2)
   | exit id =>
     simp only [uq,aa,ae] at hc;obtain ⟨rfl,_⟩:=hc;cases n with
     | zero=>simp [run] at hr
     | succ n =>
       simp only [run,AN,aa,ae] at hr;obtain ⟨rfl,rfl⟩:=hr;obtain ⟨E',h1,h2⟩:=OZ hk _ _;exact wp_exit (hQ a w A E' h1 h2)
   | region id ops draw =>
     simp only [uq] at hc;split at hc
     . rename_i is his;split at hc
       . rename_i kG;simp only [aa,ae] at hc;obtain ⟨rfl,_⟩:=hc;obtain ⟨m,σ1,A1,E1,q1,q2,q3,q4⟩:=C0Z _ _ σ σ' e hr a w A E hk;cases m with
         | zero=>simp [run] at q2
         | succ m =>
           cases CG:tx (og Φ (run Φ m)) (if draw then Da ops is else []) is σ1 with
           | none=>simp [run,CG] at q2
           | some σ2 =>
             simp only [run,CG,aa,ae] at q2;have hnx:σ2.nx=σ1.nx+is.length:=by
              clear q2 hQ hr;generalize (if draw then Da ops is else [])=loose at CG
              unfold tx at CG;split at CG
              . split at CG
                . cases CG;rfl
                . cases CG
              . cases CG
             obtain ⟨rfl,rfl⟩:=q2;refine D3j (Bj m (by omega)) xN his kG CG q3.sz q3.sl q3.mr ?_ (λ_=>trivial)
             intro a' w' A' E' r1 r2 r3 r4 r5;refine hQ a' w' A' E' ⟨r1,r2,by have:=q3.nx;omega,r4.trans q3.df,by rw [r5];exact q3.sz⟩ ?_
             exact q4.trans (r3.weaken (CF q3.nx)) (di.le_refl _)
       . simp only [aa,ae] at hc;obtain ⟨rfl,_⟩:=hc;simp [run] at hr
     . cases hc
   | seq x y =>
     simp only [uq] at hc;split at hc
     . rename_i mx n1 hx;split at hc
       . rename_i my n2 hy;simp only [aa,ae] at hc;obtain ⟨rfl,_⟩:=hc;simp only [run] at hr;refine wp_seq ?_;split at hr
         . rename_i σ1 Ak;refine ih n (by omega) B nt x k mx n1 hx σ σ1 .normal Ak _ a w A E hk ?_
           intro a1 w1 A1 E1 k1 g1;refine ih n (by omega) B nt y n1 my n2 hy σ1 σ' e hr Q a1 w1 A1 E1 k1 ?_
           intro a2 w2 A2 E2 k2 g2;exact hQ a2 w2 A2 E2 k2 (g1.trans g2 (di.le_refl _))
         . rename_i nu;refine ih n (by omega) B nt x k mx n1 hx σ σ' e hr _ a w A E hk ?_
           intro a1 w1 A1 E1 k1 g1
           have:=hQ a1 w1 A1 E1 k1 g1
           cases e with
           | normal=>exact (nu _ hr).elim
           | exit id=>exact this
           | ret=>exact this
       . cases hc
     . cases hc
   | cond o x y =>
     simp only [uq] at hc;split at hc
     . rename_i co mx n1 ho hx;split at hc
       . rename_i my n2 hy;simp only [aa,ae] at hc;obtain ⟨rfl,_⟩:=hc;simp only [run] at hr;have hv:=jP hk.sl ho;split at hr
         . rename_i hb;rw [hb] at hv;refine wp_cond_true (vM.1 hv) (ih n (by omega) B nt x k mx n1 hx σ σ' e hr Q a w A E hk hQ)
         . rename_i hb;rw [hb] at hv;refine wp_cond_false (vM.1 hv) (ih n (by omega) B nt y n1 my n2 hy σ σ' e hr Q a w A E hk hQ)
         . cases hr
       . cases hc
     . cases hc
   | block id x =>
     simp only [uq] at hc;split at hc
     . rename_i mx n1 hx;simp only [aa,ae] at hc;obtain ⟨rfl,_⟩:=hc;simp only [run] at hr;refine wp_block ?_;split at hr
       . rename_i j σ1 Ak;refine ih n (by omega) B nt x k mx n1 hx σ σ1 (.exit j) Ak _ a w A E hk ?_
         intro a1 w1 A1 E1 k1 g1;simp only [exM,Exit.inBlock];split at hr
         . rename_i hj;simp only [aa,ae] at hr;obtain ⟨rfl,rfl⟩:=hr;rw [if_pos hj];exact hQ a1 w1 A1 E1 k1 g1
         . rename_i hj;simp only [aa,ae] at hr;obtain ⟨rfl,rfl⟩:=hr;rw [if_neg hj];exact hQ a1 w1 A1 E1 k1 g1
       . rename_i nu;refine ih n (by omega) B nt x k mx n1 hx σ σ' e hr _ a w A E hk ?_
         intro a1 w1 A1 E1 k1 g1
         have:=hQ a1 w1 A1 E1 k1 g1
         cases e with
         | normal=>exact this
         | exit j=>exact (nu _ _ hr).elim
         | ret=>exact this
     . cases hc
   | loop x =>
     simp only [uq] at hc;split at hc
     . rename_i mx n1 hx;simp only [aa,ae] at hc;obtain ⟨rfl,_⟩:=hc;generalize hks:(B.bm.getD k ([],[])).1=ks at hr;generalize DH:(B.bm.getD k ([],[])).2=ids at hr
       let R:Nat->Act->World->Prop:=λm a1 w1=>m<=n+1∧∃ σ1 A1 E1,run Φ m (.loop ks ids mx) σ1=some (e,σ')∧xi P w1 A1 E1 nt σ1 a1∧gC w A E S0 w1 A1 E1
       refine C2S R ?_ (n+1) a w ⟨ay _,σ,A,E,hr,hk,gC.refl w A E _⟩;rintro m a1 w1 ⟨hm,σ1,A1,E1,Ak,k1,g1⟩;cases m with
       | zero=>simp [run] at Ak
       | succ m =>
         simp only [run] at Ak;obtain ⟨E2,k2,g2⟩:=OZ k1 ks ids;split at Ak
         . rename_i σ2 Iw;refine ih m (by omega) B nt x (k+1) mx n1 hx _ σ2 .normal Iw _ a1 w1 A1 E2 k2 ?_
           intro a3 w3 A3 E3 k3 g3;exact ⟨m,by omega,by omega,σ2,A3,E3,Ak,k3,(g1.trans g2 (di.le_refl _)).trans g3 (di.le_refl _)⟩
         . rename_i nu;refine ih m (by omega) B nt x (k+1) mx n1 hx _ σ' e Ak _ a1 w1 A1 E2 k2 ?_
           intro a3 w3 A3 E3 k3 g3
           have:=hQ a3 w3 A3 E3 k3 ((g1.trans g2 (di.le_refl _)).trans g3 (di.le_refl _))
           cases e with
           | normal=>exact (nu _ Ak).elim
           | exit j=>exact this
           | ret=>exact this
     . cases hc
   | _ =>
     simp only [uq,aa,ae] at hc;obtain ⟨rfl,_⟩:=hc;simp [run] at hr
end
end Go.Mid
namespace Go.Mid
open Go.RowKit
section
variable {P:Program}{w:World}{A A':Nat->Prop}{E:dP An}{nx:di}{h:cj}
theorem C6w (hm:MR w A E h nx){t:TypeId}(hU:rS P t=true){x u:MV}{val:Value}(dI:bR w A E nx x val)(hu:vF h (mW P t) (P.cellsOf t) x=some u) :
 ∃ ad v,val=.pointer (some ad)∧(loadVar t ad).run P w=.ok v w∧bR w A E nx u v:=by
 unfold vF at hu;split at hu
 . rename_i pv;split at hu
   . rename_i hc;cases hu;obtain ⟨b,o',cE,hA,cv,h1,h2⟩:=Cn.1 dI;refine ⟨_,_,cE,N8 w hU (by rw [h1.len,hc.1]) h2 (λhg=>by rw [← hc.2] at hg;obtain ⟨_,rfl,_⟩:=h1.one hg;rfl),?_⟩
     simp only [bR,pD];exact ⟨cv,h1,by rw [hc.2]⟩
   . cases hu
 . rename_i id np rp g o';split at hu
   . rename_i t' s' oo hl;simp only at hu;split at hu
     . rename_i hc;obtain ⟨rfl,rfl,eV⟩:=hc;split at hu
       . rename_i hagg;obtain ⟨hagg,sw⟩:=hagg;cases hu;obtain ⟨an,tA,om,hg,rfl⟩:=hm.look hl;obtain ⟨b,hb,kV⟩:=hm.uH om;simp only [bR] at dI;obtain ⟨_,ad,cE,sx⟩:=dI;obtain ⟨z,hn⟩:=H4 om;obtain ⟨b',js,rfl⟩:=sx an z hn hg;rw [hb] at js;cases js;obtain ⟨cs,hrow,J4,hlen⟩:=RW hm tA (sZ np rp) b oo (N4 om) kV;rw [T.kb] at eV;refine ⟨_,_,cE,N8 w hU (by rw [hlen,eV]) hrow ?_,?_⟩
         . intro ta;rw [← hagg] at ta;rcases J4.2 with ⟨n,hn⟩ | ⟨_,h2⟩
           . rw [hn] at sw;cases sw
           . obtain ⟨x,rfl,_⟩:=h2 ta;rfl
         . rw [← hagg];exact J4.val
       . cases hu
     . cases hu
   . cases hu
 . cases hu
def Iy (tmps:Array Value):ResultVar->Sem Value
 | .tmp t=>pure (tmps.getD t undef)
 | .cell b t=>do loadVar t (← asAddr (tmps.getD b undef))
theorem C6x (fn:Func)(tmps:Array Value):results fn tmps=(do let vs ← fn.results.mapM (Iy tmps);pure (if h:vs.size=1 then vs[0] else .tuple vs)):=by
 have:(λ| .tmp t=>pure (tmps.getD t undef) | .cell a t=>do loadVar t (← asAddr (tmps.getD a undef)):ResultVar->Sem Value)=Iy tmps:=by
  funext x;cases x<;>rfl
 unfold results;rw [← this];rfl
theorem B6J {s:gB}{a:Act}(hs:qM P w A E nx s a)(hm:MR w A E h nx){nt:Nat}:∀ {rs:List ResultVar} {vs:List RV} {l:List MV},ED P nt rs=some vs->zZ s h vs=some l->
 ∃ us:List Value,(rs.mapM (Iy a.tmps)).run P w=.ok us w∧c9 w A E nx l us
 | [],vs,l,hc,hr=>by
   simp only [ED,aa] at hc;subst hc;simp only [zZ,aa] at hr;subst hr;exact ⟨[],by simp,by simp only [c9]⟩
 | x::rs,vs,l,hc,hr=>by
   simp only [ED] at hc;split at hc
   . rename_i v Ad h1 h2;simp only [aa] at hc;subst hc;simp only [zZ] at hr;split at hr
     . rename_i u us h3 h4;simp only [aa] at hr;subst hr;obtain ⟨ws,h5,h6⟩:=B6J hs hm h2 h4;cases x with
       | tmp t =>
         simp only [RI] at h1;split at h1
         . simp only [aa] at h1;subst h1;simp only [Ez,aa] at h3;subst h3;refine ⟨a.tmps.getD t undef::ws,?_,by simp only [c9];exact ⟨_,ws,rfl,hs.sl t,h6⟩⟩
           rw [me];simp only [Iy,bn,bL,aU,h5]
         . cases h1
       | cell b t =>
         simp only [RI] at h1;split at h1
         . rename_i dV;simp only [aa] at h1;subst h1;simp only [Ez] at h3;obtain ⟨ad,v,cE,Bm,hv⟩:=C6w hm dV.2 (hs.sl b) h3;refine ⟨v::ws,?_,by simp only [c9];exact ⟨_,ws,rfl,hv,h6⟩⟩
           rw [me];have e:(Iy a.tmps (.cell b t)).run P w=.ok v w:=by simp only [Iy,bn,cE,asAddr,bL,aU,Bm]
           simp only [bn,bL,aU,h5,e]
         . cases h1
     . cases hr
   . cases hc
theorem C4J {s:gB}{a:Act}(hs:qM P w A E nx s a)(hm:MR w A E h nx){nt:Nat}{fn:Func}{vs:List RV}{l:List MV}(hc:ED P nt fn.results.toList=some vs)(hr:zZ s h vs=some l) :
 ∃ v,(results fn a.tmps).run P w=.ok v w∧bR w A E nx (EA l) v:=by
 obtain ⟨us,h1,h2⟩:=B6J hs hm hc hr;have h3:(results fn a.tmps).run P w=.ok (if h:us.toArray.size=1 then us.toArray[0] else .tuple us.toArray) w:=by
  rw [C6x,Array.mapM_eq_mapM_toList];simp only [bn,Sem.run_map,h1,aU,bL]
 refine ⟨_,h3,?_⟩;cases l with
 | nil =>
   simp only [c9] at h2;subst h2;simp only [EA,bR];exact ⟨[],rfl,by simp only [c9]⟩
 | cons x r =>
   cases r with
   | nil =>
     simp only [c9] at h2;obtain ⟨u,d,rfl,h4,rfl⟩:=h2;exact h4
   | cons y q =>
     have hl:us.length≠1:=by
      simp only [c9] at h2;obtain ⟨u,d,rfl,_,u',d',rfl,_,_⟩:=h2;simp
     rw [dif_neg (by simpa using hl)]
     show bR w A E nx (.eI (x::y::q)) _;simp only [bR];exact ⟨us,rfl,h2⟩
theorem bR.zw {x:MV}{v:Value}{r:List MV}{d:List Value}{nx:di}(hv:bR w A E nx x v)(hl:tw x=true)(hr:dW w A E nx r d):dW w A E nx (x::r) (v.cells.toList++d):=(hv.vV hl).cons hr
mutual
theorem TP (m:MR w A E h nx){E0:dP An}(f:Fr w w A A' E E0 nx nx)(jC:∀ i,A0P i=true->∀ o,E i=some o->∀ b∈o.blk,A' b):∀ {v u:MV} {val:Value},s9 h v=some u->bR w A E nx v val->bR w A' E0 nx u val∧(tw v=true->tw u=true)∧(tw v=false->∃ l,u=.eI l)
 | .p v,u,val,hp,hv=>by
   simp only [s9,aa] at hp;subst hp;exact ⟨hv.frame f,λh=>h,λh=>by simp [tw] at h⟩
 | .agg l,u,val,hp,hv=>by
   simp only [s9] at hp;split at hp
   . rename_i vs fN;simp only [aa] at hp;subst hp;simp only [bR] at hv;obtain ⟨cs,rfl,hv⟩:=hv;refine ⟨N7 (C5c m f jC fN hv),λ_=>?_,λh=>by simp [tw] at h⟩
     unfold wU;split<;>rfl
   . cases hp
 | .eI l,u,val,hp,hv=>by
   simp only [s9] at hp;split at hp
   . rename_i vs fN;simp only [aa] at hp;subst hp;simp only [bR] at hv ⊢;obtain ⟨ws,rfl,hv⟩:=hv;exact ⟨⟨ws,rfl,C5d m f jC fN hv⟩,λh=>by simp [tw] at h,λ_=>⟨vs,rfl⟩⟩
   . cases hp
 | .own id path off len g,u,val,hp,hv=>O1 m f jC (by simp only [s9] at hp;exact hp) hv rfl
 | .ptr id np rp g o,u,val,hp,hv=>O1 m f jC (by simp only [s9] at hp;exact hp) hv rfl
 | .auG id path g,u,val,hp,hv=>O1 m f jC (by simp only [s9] at hp;exact hp) hv rfl
 | .nil z,u,val,hp,hv=>O1 m f jC (by simp only [s9] at hp;exact hp) hv rfl
 | .fn i l,u,val,hp,hv=>O1 m f jC (by simp only [s9] at hp;exact hp) hv rfl
 | .dead n,u,val,hp,hv=>by simp [s9,j3,mE] at hp
theorem O1 (m:MR w A E h nx){E0:dP An}(f:Fr w w A A' E E0 nx nx)(jC:∀ i,A0P i=true->∀ o,E i=some o->∀ b∈o.blk,A' b){v u:MV}{val:Value}
 (hp:(if ((j3 v).all (λi=>!A0P i) && !(j3 v).isEmpty)=true then some v else match mE h v with | some w=>if (j3 v).all A0P=true then some (.p w) else none | none=>none)=some u) (hv:bR w A E nx v val) (hl:tw v=true):bR w A' E0 nx u val∧(tw v=true->tw u=true)∧(tw v=false->∃ l,u=.eI l):=by
 refine ⟨?_,λ_=>?_,λh=>by rw [hl] at h;cases h⟩
 . split at hp
   . simp only [aa] at hp;subst hp;exact hv.frame f
   . split at hp
     . rename_i w' hw;split at hp
       . rename_i hall;simp only [aa] at hp;subst hp;simp only [bR];refine EU m f.hA hw (λi hi o ho b hb=>jC i (bB.1 hall i hi) o ho b hb) hv
       . cases hp
     . cases hp
 . split at hp
   . simp only [aa] at hp;subst hp;exact hl
   . split at hp
     . split at hp
       . simp only [aa] at hp;subst hp;rfl
       . cases hp
     . cases hp
theorem C5c (m:MR w A E h nx){E0:dP An}(f:Fr w w A A' E E0 nx nx)(jC:∀ i,A0P i=true->∀ o,E i=some o->∀ b∈o.blk,A' b):∀ {l us:List MV} {cs:List Value},AO h l=some us->dW w A E nx l cs->dW w A' E0 nx us cs
 | [],us,cs,hp,hv=>by
   simp only [AO,aa] at hp;subst hp;simpa only [dW] using hv
 | x::r,us,cs,hp,hv=>by
   simp only [AO] at hp;split at hp
   . rename_i v vs h1 h2;simp only [aa] at hp;subst hp;simp only [dW] at hv;obtain ⟨val,d,rfl,h3,h4,h5,h6⟩:=hv;obtain ⟨q1,q2,q3⟩:=TP m f jC h1 h5;have hr:=C5c m f jC h2 h6;cases hx:tw x with
     | true=>exact q1.zw (q2 hx) hr
     | false =>
       exfalso;obtain ⟨l',rfl⟩:=q3 hx;cases x<;>simp only [tw,reduceCtorEq] at hx
       . simp only [bR] at h5;obtain ⟨ws,rfl,_⟩:=h5;simp [MV.cs,Value.cells] at h3
       . simp [s9,j3,mE] at h1
   . cases hp
theorem C5d (m:MR w A E h nx){E0:dP An}(f:Fr w w A A' E E0 nx nx)(jC:∀ i,A0P i=true->∀ o,E i=some o->∀ b∈o.blk,A' b):∀ {l us:List MV} {vs:List Value},AO h l=some us->c9 w A E nx l vs->c9 w A' E0 nx us vs
 | [],us,vs,hp,hv=>by
   simp only [AO,aa] at hp;subst hp;simpa only [c9] using hv
 | x::r,us,vs,hp,hv=>by
   simp only [AO] at hp;split at hp
   . rename_i v Ad h1 h2;simp only [aa] at hp;subst hp;simp only [c9] at hv ⊢;obtain ⟨val,d,rfl,h5,h6⟩:=hv;exact ⟨val,d,rfl,(TP m f jC h1 h5).1,C5d m f jC h2 h6⟩
   . cases hp
end
end
end Go.Mid
namespace Go.Mid
open Go.RowKit
section
variable {P:Program}{w:World}{A:Nat->Prop}{E:dP An}{nt:Nat}{σ:St}{a:Act}
theorem B8m (n k:Nat):((bA n).map (ep + ·))[k]?=if k<n then some (ep+k) else none:=by
 rw [aL];split
 . rename_i h;rw [List.getElem?_range h];rfl
 . rename_i h;rw [bJ (by simpa using h)];rfl
theorem C00 {h:cj}{ρ:Nat->Option Nat}{ζ:Nat->Nat}{ζn:Nat->Nat->Nat}{bk:Nat->Option Nat}(hz:∀ i j,bk j=some i->∀ g,ζn i g=0->g=0∧i=j):pf S0 E (tG E h ρ ζ ζn bk):=by
 intro id np an z hn hg;have Ae:an.g=0:=hg;cases hb:bk id with
 | none =>
   have:tG E h ρ ζ ζn bk id=none:=by simp only [tG,hb,ng]
   rw [this] at hn;cases np with
   | none=>cases hn
   | some p=>cases p<;>cases hn
 | some i =>
   rw [KB hb] at hn;cases Cy:fc (E i) np with
   | none=>simp [Cy] at hn
   | some y =>
     simp only [Cy,ak,aa,ae] at hn;obtain ⟨rfl,rfl⟩:=hn;obtain ⟨h0,rfl⟩:=hz i id hb _ Ae;rw [Cy];obtain ⟨⟨g,bb,cc⟩,z⟩:=y;simp only at h0;subst h0
     have:ζn i 0=0:=Ae
     simp only [zA,this]
theorem B8n (k:xi P w A E nt σ a){fn:Func}{F:qR}{n:Nat}{r:MV}{ext dH:List (Obj Nat)}(n5:ED P fn.ntmps fn.results.toList=some F.res)(hf:z6 F n σ=some (r,ext,dH)) :
 ∃ v,(results fn a.tmps).run P w=.ok v w∧∃ A' E' nx',MR w A' E' (j4 ext dH) nx'∧gC w A E S0 w A' E'∧bR w A' E' nx' r v:=by
 unfold z6 at hf;split at hf
 . cases hf
 . rename_i hn;split at hf
   . cases hf
   . rename_i vs fN;obtain ⟨v,auU,hv⟩:=C4J k.sl k.mr n5 fN;refine ⟨v,auU,?_⟩
     dsimp only at hf
     split at hf
     . -- frozen
       split at hf
       . rename_i u ex hu hex;simp only [aa,ae] at hf;obtain ⟨rfl,rfl,rfl⟩:=hf
         let A':Nat->Prop:=λb=>A b∨∃ i o,A0P i=true∧E i=some o∧b∈o.blk
         let E0:dP An:=λi=>if A0P i then none else E i
         let h0:cj:=λi=>if A0P i then none else σ.h i
         have xO:∀ {i o},E0 i=some o->A0P i=false∧E i=some o:=by
          intro i o ho;simp only [E0] at ho;split at ho
          . cases ho
          . rename_i hl;exact ⟨by simpa using hl,ho⟩
         have E7:∀ i np y,fc (E0 i) np=some y->fc (E i) np=some y:=by
          intro i np y hy;simp only [E0] at hy;split at hy
          . cases np with
            | none=>cases hy
            | some p=>cases p<;>cases hy
          . exact hy
         have f:Fr w w A A' E E0 (· < σ.nx) (· < σ.nx):=⟨λb hb=>.inl hb,λ_ _=>rfl,λid np an z h _=>E7 id np _ h,di.le_refl _⟩
         have m0:MR w A' E0 h0 (· < σ.nx):=by
          constructor
          . intro i;simp only [E0,h0];split
            . rfl
            . exact k.mr.er i
          . intro i o ho;exact OAt.frame f (λ_ _=>rfl) (k.mr.at_ i o (xO ho).2)
          . rintro b ⟨i,o,ho,hb⟩;obtain ⟨hl,ho⟩:=xO ho
            have:=k.mr.j6 ho hb
            refine ⟨this.1,λhA=>?_⟩
            rcases hA with hA | ⟨j,o',hj,oZ,js⟩
            . exact this.2 hA
            . have hne:i≠j:=λe=>by subst e;rw [hl] at hj;cases hj
              exact k.mr.dj i j o o' hne ho oZ b hb js
          . intro i o ho;exact k.mr.nd i o (xO ho).2
          . intro i j o o' hne ho oZ;exact k.mr.dj i j o o' hne (xO ho).2 (xO oZ).2
          . rintro b (hA | ⟨j,o',_,oZ,js⟩)
            . exact k.mr.im b hA
            . exact (k.mr.j6 oZ js).1
          . intro i o ho;exact k.mr.st i o (xO ho).2
         have hu0:=(TP k.mr f (λi hi o ho b hb=>.inr ⟨i,o,hi,ho,hb⟩) hu hv).1
         let bk:Nat->Option Nat:=λj=>if ep<=j∧j<ep+n then some j else none
         have hρ:∀ i j,qL n [] i=some j->bk j=some i:=by
          intro i j gM;unfold qL at gM;split at gM
          . split at gM
            . rename_i h1 h2;simp only [aa] at gM;subst gM;simp only [bk];rw [if_pos ⟨h1,h2⟩]
            . cases gM
          . simp [pB] at gM
         have tg:∀ i j,bk j=some i->i=j∧ep<=j∧j<ep+n:=by
          intro i j h;simp only [bk] at h;split at h
          . rename_i hc;cases h;exact ⟨rfl,hc⟩
          . cases h
         have uN:∀ i j j',bk j=some i->bk j'=some i->j=j':=λi j j' h h'=>by rw [← (tg i j h).1,← (tg i j' h').1]
         have hm:=m0.clean (nx':=(· < 2)) (ζ:=jz) (ζn:=λ_=>jz) hρ uN (λg _=>DM g) (λ_ g _=>DM g)
         have Ij:=bR.clean (nx':=(· < 2)) (ζ:=jz) (ζn:=λ_=>jz) m0 hρ (λg _=>DM g) hu0
         have jC:∀ i j,qL n [] i=some j->h0 i=σ.h i:=by
          intro i j gM
          have:=hρ i j gM
          obtain ⟨rfl,h1,_⟩:=tg i j this;simp only [h0];rw [if_neg];simp only [A0P,decide_eq_true_eq];omega
         have nX:jW h0 (qL n []) jz=jW σ.h (qL n []) jz:=funext λv=>To jC v
         have Bt:Bg h0 (qL n []) jz (λ_=>jz) bk=j4 (ex.map (kH (jW σ.h (qL n []) jz) jz)) []:=by
          funext j;simp only [Bg,j4,bk,nX];by_cases h1:kI<=j
          . rw [if_pos h1,if_neg (by simp only [kI,ep] at *;omega)]
            simp
          . rw [if_neg h1];by_cases h2:ep<=j
            . rw [if_pos h2,aL,KG hex,B8m];by_cases h3:j<ep+n
              . rw [if_pos ⟨h2,h3⟩,if_pos (by omega),show ep+(j-ep)=j by omega]
                simp only [ai,h0];rw [if_neg];simp only [A0P,decide_eq_true_eq];omega
              . rw [if_neg (λh=>h3 h.2),if_neg (by omega)]
                rfl
            . rw [if_neg h2,if_neg (λh=>h2 h.1)]
              rfl
         rw [Bt] at hm;rw [nX] at Ij;refine ⟨A',_,_,hm,?_,Ij⟩;refine ⟨rfl,rfl,⟨rfl,ay _⟩,ay _,λ_ _ _=>rfl,λb hb=>.inl hb,λb _ hb=>hb.imp (λh=>h) (λ⟨i,o,_,ho,lZ⟩=>⟨i,o,ho,lZ⟩),λb _ hb=>?_,?_⟩
         . obtain ⟨i,o,ho,lZ⟩:=A8R hb;exact ⟨i,o,(xO ho).2,lZ⟩
         . have h1:pf S0 E0 (tG E0 h0 (qL n []) jz (λ_=>jz) bk):=C00 λi j hb g hg=>⟨TO hg,(tg i j hb).1⟩
           exact λid np an z hh hg=>E7 id np _ (h1 id np an z hh hg)
       . cases hf
     . -- roots go out
       generalize DJ:(jd σ.h (jd σ.h (j3 (EA vs)++(bA n).map (ep + ·)))).filter A0P=es at hf;have hnd:es.Nodup:=by
        rw [← DJ];exact List.Pairwise.filter _ (Tj _)
       have Bu:∀ i∈es,A0P i=true:=by
        intro i hi;rw [← DJ] at hi;exact (cZ.1 hi).2
       split at hf
       . rename_i ex eo hex heo;simp only [aa,ae] at hf;obtain ⟨rfl,rfl,rfl⟩:=hf
         let bk:Nat->Option Nat:=λj=>if kI<=j then es[j-kI]? else if ep<=j∧j<ep+n then some j else none
         let ζn:Nat->Nat->Nat:=λi=>if A0P i then λ_=>1 else jz
         have tg:∀ i j,bk j=some i->(kI<=j∧es[j-kI]?=some i∧A0P i=true)∨(i=j∧ep<=j∧j<ep+n∧¬ kI<=j):=by
          intro i j h;simp only [bk] at h;split at h
          . rename_i h1;exact .inl ⟨h1,h,Bu i (bH h)⟩
          . rename_i h1;split at h
            . rename_i hc;cases h;exact .inr ⟨rfl,hc.1,hc.2,h1⟩
            . cases h
         have hρ:∀ i j,qL n es i=some j->bk j=some i:=by
          intro i j gM;unfold qL at gM;split at gM
          . split at gM
            . rename_i h1 h2;simp only [aa] at gM;subst gM;simp only [bk];rw [if_neg (by simp only [kI,ep] at *;omega),if_pos ⟨h1,h2⟩]
            . cases gM
          . cases hi:pB es i with
            | none=>simp [hi] at gM
            | some m =>
              simp only [hi,ak,aa] at gM;subst gM;simp only [bk];rw [if_pos (Nat.le_add_right _ _),Nat.add_sub_cancel_left];exact Gw hi
         have uN:∀ i j j',bk j=some i->bk j'=some i->j=j':=by
          intro i j j' h h';rcases tg i j h with ⟨h1,h2,h3⟩ | ⟨rfl,h2,h3,_⟩<;>rcases tg i j' h' with ⟨h4,h5,h6⟩ | ⟨e,h5,h6,_⟩
          . have e1:=Iq hnd h2;have e2:=Iq hnd h5;rw [e1] at e2
            have:=s8 e2
            omega
          . subst e;simp only [A0P,decide_eq_true_eq] at h3;omega
          . simp only [A0P,decide_eq_true_eq] at h6;omega
          . exact e
         have hm:=k.mr.clean (nx':=(· < 2)) (ζ:=jz) (ζn:=ζn) hρ uN (λg _=>DM g) (λi g _=>by
          simp only [ζn];split
          . show 1<2;omega
          . exact DM g)
         have Ij:=bR.clean (nx':=(· < 2)) (ζ:=jz) (ζn:=ζn) k.mr hρ (λg _=>DM g) hv
         have Bt:Bg σ.h (qL n es) jz ζn bk=j4 (ex.map (kH (jW σ.h (qL n es) jz) jz)) (eo.map (kH (jW σ.h (qL n es) jz) (λ_=>1))):=by
          funext j;simp only [Bg,j4,bk];by_cases h1:kI<=j
          . rw [if_pos h1,if_pos h1,aL,KG heo];cases he:es[j-kI]? with
            | none=>rfl
            | some i =>
              have:=Bu i (bH he)
              simp only [ai,ζn,this,if_true]
          . rw [if_neg h1,if_neg h1];by_cases h2:ep<=j
            . rw [if_pos h2,aL,KG hex,B8m];by_cases h3:j<ep+n
              . rw [if_pos ⟨h2,h3⟩,if_pos (by omega),show ep+(j-ep)=j by omega]
                have hl:A0P j=false:=by simp only [A0P,decide_eq_false_iff_not];omega
                simp only [ai,ζn,hl,aI,if_false]
              . rw [if_neg (λh=>h3 h.2),if_neg (by omega)]
                rfl
            . rw [if_neg h2,if_neg (λh=>h2 h.1)]
              rfl
         rw [Bt] at hm;refine ⟨A,_,_,hm,?_,Ij⟩;refine ⟨rfl,rfl,⟨rfl,ay _⟩,ay _,λ_ _ _=>rfl,λ_ h=>h,λ_ _ h=>.inl h,λb _ hb=>A8R hb,C00 λi j hb g hg=>?_⟩
         rcases tg i j hb with ⟨_,_,h3⟩ | ⟨e,h2,_,_⟩
         . simp only [ζn,h3,if_true] at hg;omega
         . have hl:A0P i=false:=by simp only [A0P,decide_eq_false_iff_not];omega
           simp only [ζn,hl,aI,if_false] at hg;exact ⟨TO hg,e⟩
       . cases hf
end
def Iz (P:Program)(f:Nat)(p:Prim):Prop:=∀ args ext r ext' dH,xy p args ext=some (r,ext',dH)->Gy P f ∧
 ∀ (w:World) (A:Nat->Prop) (E:dP An) (gR:List Value),GL P w A->c9 w A E S0 args gR->MR w A E (nn ext) S0->
  Calls P f gR.toArray w λe w'=>∃ v,e=.returned v∧∃ A' E' nx',MR w' A' E' (j4 ext' dH) nx'∧gC w A E S0 w' A' E'∧bR w' A' E' nx' r v
structure pj (P:Program)(Φ:lW):Prop where
 mix:P.follows .mixedOrders=true
 code:∀ f F,Φ f=some (.code F)->∃ fn B,P.funcs[f]?=some fn∧(fn.name == "runtime.NumGoroutine")=false∧RJ P B fn=some F
 qU:∀ f p,Φ f=some (.qU p)->Iz P f p
section
variable {P:Program}{Φ:lW}
theorem C2T {w:World}{A:Nat->Prop}{E:dP An}{S:di}:∀ {l:List MV} {vs:List Value},c9 w A E S l vs->∀ i,bR w A E S (l.getD i (.dead 0)) (vs.getD i undef)
 | [],vs,h,i=>by simp only [c9] at h;subst h;simp [bR]
 | x::r,vs,h,i=>by
   simp only [c9] at h;obtain ⟨v,d,rfl,h1,h2⟩:=h;cases i with
   | zero=>exact h1
   | succ i=>simpa using C2T h2 i
theorem C2U (hT:pj P Φ)(n:Nat)(hc:O0 P Φ n):CE P (og Φ (run Φ n)):=by
 intro f args ext r ext' dH hk;unfold og at hk;split at hk
 . cases hk
 . rename_i p hp;exact hT.qU f p hp args ext r ext' dH hk
 . rename_i F hF;obtain ⟨fn,B,zx,vN,xP⟩:=hT.code f F hF;unfold RJ at xP;split at xP
   . rename_i c wa;split at xP
     . rename_i mc k' rs K0 n5;simp only [aa] at xP;subst xP;refine ⟨⟨fn,zx,vN,by rw [wa];rfl⟩,?_⟩
       intro w A E gR tH hv hm;have GN:xi P w A E fn.ntmps ⟨w6 args,nn ext,1⟩ { tmps:=gR.toArray++iA (fn.ntmps-gR.toArray.size) undef,defers:=[] }:=by
        have hle:S0.le (· < 1):=CF (ay 1);refine ⟨⟨λi=>?_,tH⟩,hm.mono hle,ay 1,rfl,?_⟩
        . have h1:=(C2T hv i).frame (Fr.same w A E hle);have h2:(gR.toArray++iA (fn.ntmps-gR.toArray.size) undef).getD i undef=gR.getD i undef:=by
           by_cases hi:i<gR.length
           . simp only [fK];rw [Array.getElem?_append_left (by simpa using hi)]
             simp [hi,nh]
           . simp only [fK];rw [Array.getElem?_append_right (by simpa using hi)]
             have:gR.getD i undef=undef:=by simp [nh,bJ (kQ hi)]
             rw [this,Array.getElem?_replicate];split<;>rfl
          rw [h2];exact h1
        . simp only [Array.size_append,List.size_toArray,Array.size_replicate];omega
       refine calls_of_wp zx wa ?_;have main:∀ (e:Ex) (σ:St),(e=.normal∨e=.ret)->run Φ n mc ⟨w6 args,nn ext,1⟩=some (e,σ)->z6 ⟨mc,rs,B.FM⟩ ext.length σ=some (r,ext',dH)->
        c.wp P (bodyPost P fn λe w'=>∃ v,e=.returned v∧∃ A' E' nx',MR w' A' E' (j4 ext' dH) nx'∧gC w A E S0 w' A' E'∧bR w' A' E' nx' r v) { tmps:=gR.toArray++iA (fn.ntmps-gR.toArray.size) undef,defers:=[] } w:=by
        intro e σ he hr hf;refine hc B fn.ntmps c 0 mc k' K0 _ σ e hr _ _ w A E GN ?_;intro a' w' A' E' k1 g1;obtain ⟨v,Cs,A2,E2,O3,q1,q2,q3⟩:=B8n k1 (F:=⟨mc,rs,B.FM⟩) n5 hf
        have:k1.df=k1.df:=rfl
        rcases he with rfl | rfl
        . exact ⟨k1.df,v,Cs,v,rfl,A2,E2,O3,q1,g1.trans q2 (di.le_refl _),q3⟩
        . exact ⟨k1.df,v,Cs,v,rfl,A2,E2,O3,q1,g1.trans q2 (di.le_refl _),q3⟩
       split at hk
       . rename_i σ hr;exact main _ σ (.inl rfl) hr hk
       . rename_i σ hr;exact main _ σ (.inr rfl) hr hk
       . cases hk
     . cases xP
   . cases xP
theorem O4 (hT:pj P Φ):∀ n,O0 P Φ n:=by
 intro n
 induction n using lI with
 | _ n ih=>exact C6v hT.mix n ih (λm hm=>C2U hT m (ih m hm))
theorem C5e (hT:pj P Φ)(n:Nat):CE P (og Φ (run Φ n)):=C2U hT n (O4 hT n)
end
end Go.Mid
