/- The run without a number of rounds: its equations. -/
import Derived.Test.YtfjdpcegbfenbaaGreatDoorM6
import Derived.IntWalk
set_option linter.unusedSimpArgs false
set_option linter.unusedVariables false
open BitVec renaming ofInt → b8
open List renaming map_cons → aD
open Nat renaming le_max_left → ir, le_max_right → gU, mod_eq_of_lt → eU, and_le_left → eM, and_one_is_mod → jS
namespace Go.Mid
def xj (K K':jl):Prop:=∀ f args ext r,K f args ext=some r→K' f args ext=some r
theorem xj.refl (K:jl):xj K K:=fun _ _ _ _ h=>h
theorem xj.trans {K K' YB:jl} (h:xj K K') (k:xj K' YB):xj K YB:=fun f a e r hr=>k f a e r (h f a e r hr)
theorem C4A {K K':jl} (hk:xj K K') {g:Nat} {d:Option Nat} {s:gD} {h:cj} {op:si} {x:MV×cj} (he:b7 K g d s h op=some x):b7 K' g d s h op=some x:=by
 cases op with
 | call md f args =>
   simp only [b7] at he ⊢;split at he
   · rename_i f0 cs hc;split at he
     · unfold yr at he ⊢;split at he
       · rename_i vs fR;cases hK:K f0 (vs.map .p) [] with
         | none=>rw [hK] at he; simp [xF] at he
         | some r =>
           rw [hK] at he;rw [hk _ _ _ _ hK];exact he
       · cases he
     · unfold Bd at he ⊢
       dsimp only at he ⊢
       split at he
       · cases he
       · split at he
         · cases he
         · rename_i r ext dG hK;rw [hk _ _ _ _ hK];exact he
     · unfold Ad at he ⊢;split at he
       · rename_i vs fR;split at he
         · rename_i r dG hK;rw [hk _ _ _ _ hK];exact he
         · cases he
       · cases he
   · cases he
 | _=>exact he
theorem YC {K K':jl} (hk:xj K K') {g:Nat} {i:Ins} {s:gD} {h:cj} {x:gD×cj} (he:ow K g i s h=some x):ow K' g i s h=some x:=by
 unfold ow at he ⊢;split at he
 · split at he
   · rename_i v h' hv;rw [C4A hk hv];exact he
   · cases he
 · exact he
 · cases he
theorem MX {K K':jl} (hk:xj K K'):∀ {l:List Ins} {g:Nat} {s:gD} {h:cj} {x:gD×cj},tJ K g l s h=some x→tJ K' g l s h=some x∧tM K' g l s h=tM K g l s h
 | [],g,s,h,x,he=>⟨he,rfl⟩
 | i::r,g,s,h,x,he=>by
   simp only [tJ] at he ⊢;split at he
   · rename_i s1 h1 hi;obtain ⟨q1,q2⟩:=MX hk he;simp only [tM,hi,YC hk hi,q1,q2,and_self]
   · cases he
theorem YD {K K':jl} (hk:xj K K') {loose:List (Nat×Nat)} {ops:List Ins} {σ σ':St} (he:rR K loose ops σ=some σ'):rR K' loose ops σ=some σ':=by
 unfold rR at he ⊢;split at he
 · rename_i s h hst;obtain ⟨q1,q2⟩:=MX hk hst;rw [q1,q2];exact he
 · cases he
theorem RG {Φ:ml} {R R':MC→St→Option (Ex×St)} (h:∀ c σ r,R c σ=some r→R' c σ=some r):xj (nV Φ R) (nV Φ R'):=by
 intro f args ext r hr;unfold nV at hr ⊢;split at hr
 · cases hr
 · exact hr
 · rename_i F hF;cases hR:R F.body ⟨uI args,nc ext,1⟩ with
   | none=>rw [hR] at hr; cases hr
   | some x =>
     rw [hR] at hr;simp only [h _ _ _ hR];exact hr
theorem C9U {Φ:ml}:∀ {n:Nat} {c:MC} {σ:St} {r:Ex×St},run Φ n c σ=some r→run Φ (n + 1) c σ=some r:=by
 intro n
 induction n with
 | zero=>intro c σ r h; simp [run] at h
 | succ n ih =>
   intro c σ r h;cases c with
   | yn loose ops =>
     rw [run] at h ⊢;cases hr:rR (nV Φ (run Φ n)) loose ops σ with
     | none=>rw [hr] at h; cases h
     | some σ' =>
       rw [hr] at h;rw [YD (RG fun c σ r=>ih) hr]
       exact h
   | seq a b =>
     rw [run] at h ⊢;cases ha:run Φ n a σ with
     | none=>rw [ha] at h; cases h
     | some x =>
       rw [ha] at h;rw [ih ha];obtain ⟨e,σ1⟩:=x;cases e with
       | normal=>exact ih h
       | exit id=>exact h
       | ret=>exact h
   | cond c a b =>
     rw [run] at h ⊢;split at h
     · exact ih h
     · exact ih h
     · cases h
   | block id c =>
     rw [run] at h ⊢;cases ha:run Φ n c σ with
     | none=>rw [ha] at h; cases h
     | some x=>rw [ha] at h; rw [ih ha]; exact h
   | loop ks ids c =>
     rw [run] at h ⊢;cases ha:run Φ n c (rA ks ids σ) with
     | none=>rw [ha] at h; cases h
     | some x =>
       rw [ha] at h;rw [ih ha];obtain ⟨e,σ1⟩:=x;cases e with
       | normal=>exact ih h
       | exit id=>exact h
       | ret=>exact h
   | _=>rw [run] at h ⊢; exact h
theorem EM {Φ:ml} {n m:Nat} (RH:n ≤ m) {c:MC} {σ:St} {r:Ex×St} (h:run Φ n c σ=some r):run Φ m c σ=some r:=by
 induction RH with
 | refl=>exact h
 | step _ ih=>exact C9U ih
theorem YE {Φ:ml} {n m:Nat} (RH:n ≤ m):xj (nV Φ (run Φ n)) (nV Φ (run Φ m)):=RG fun _ _ _ h=>EM RH h
open Classical in
noncomputable def o9 (Φ:ml) (c:MC) (σ:St):Option (Ex×St):=if h:∃ n r,run Φ n c σ=some r then some h.choose_spec.choose else none
noncomputable def KI (Φ:ml):jl:=nV Φ (o9 Φ)
section
variable {Φ:ml}
theorem qq {c:MC} {σ:St} {r:Ex×St}:o9 Φ c σ=some r↔∃ n,run Φ n c σ=some r:=by
 unfold o9;constructor
 · intro h;split at h
   · rename_i hex;simp only [Option.some.injEq] at h;exact ⟨hex.choose,by rw [← h]; exact hex.choose_spec.choose_spec⟩
   · cases h
 · rintro ⟨n,hn⟩;have hex:∃ n r,run Φ n c σ=some r:=⟨n,r,hn⟩;rw [dif_pos hex];have h1:=hex.choose_spec.choose_spec;have h2:=EM (ir hex.choose n) h1;have h3:=EM (gU hex.choose n) hn;rw [h2] at h3;exact h3
theorem EN {α:Type} {x y:Option α} (h:∀ r,x=some r↔y=some r):x=y:=by
 cases x with
 | none =>
   cases y with
   | none=>rfl
   | some r=>exact absurd ((h r).2 rfl) (by simp)
 | some r=>exact ((h r).1 rfl).symm
theorem RI (n:Nat):xj (nV Φ (run Φ n)) (KI Φ):=RG fun c σ r h=>qq.2 ⟨n,h⟩
theorem MY {f:Nat} {args:List MV} {ext:List (Obj Nat)} {r:Cs} (h:KI Φ f args ext=some r):∃ n,nV Φ (run Φ n) f args ext=some r:=by
 unfold KI nV at h;split at h
 · cases h
 · rename_i p hp;exact ⟨0,by unfold nV; rw [hp]; exact h⟩
 · rename_i F hF;cases hR:o9 Φ F.body ⟨uI args,nc ext,1⟩ with
   | none=>rw [hR] at h; cases h
   | some x =>
     rw [hR] at h;obtain ⟨n,hn⟩:=qq.1 hR;refine ⟨n,?_⟩;unfold nV;rw [hF];simp only [hn];exact h
theorem C6r {g:Nat} {d:Option Nat} {s:gD} {h:cj} {op:si} {x:MV×cj} (he:b7 (KI Φ) g d s h op=some x):∃ n,b7 (nV Φ (run Φ n)) g d s h op=some x:=by
 cases op with
 | call md f args =>
   simp only [b7] at he ⊢;split at he
   · rename_i f0 cs hc;split at he
     · unfold yr at he;split at he
       · rename_i vs fR;cases hK:KI Φ f0 (vs.map .p) [] with
         | none=>rw [hK] at he; simp [xF] at he
         | some r =>
           obtain ⟨n,hn⟩:=MY hK;refine ⟨n,?_⟩;unfold yr;rw [hK] at he;simp only [fR,hn];exact he
       · cases he
     · unfold Bd at he
       dsimp only at he
       split at he
       · cases he
       · rename_i qa sx;split at he
         · cases he
         · rename_i r ext dG hK;obtain ⟨n,hn⟩:=MY hK;refine ⟨n,?_⟩;unfold Bd;simp only [sx,hn];exact he
     · unfold Ad at he;split at he
       · rename_i vs fR;split at he
         · rename_i r dG hK;obtain ⟨n,hn⟩:=MY hK;refine ⟨n,?_⟩;unfold Ad;simp only [fR,hn];exact he
         · cases he
       · cases he
   · cases he
 | _=>exact ⟨0,he⟩
theorem YF:∀ {l:List Ins} {g:Nat} {s:gD} {h:cj} {x:gD×cj},tJ (KI Φ) g l s h=some x→∃ n,tJ (nV Φ (run Φ n)) g l s h=some x
 | [],g,s,h,x,he=>⟨0,he⟩
 | i::r,g,s,h,x,he=>by
   simp only [tJ] at he;split at he
   · rename_i s1 h1 hi;obtain ⟨m,hm⟩:=YF he;have qs:∃ n,ow (nV Φ (run Φ n)) g i s h=some (s1,h1):=by
      unfold ow at hi ⊢;split at hi
      · split at hi
        · rename_i v h' hv;obtain ⟨n,hn⟩:=C6r hv;exact ⟨n,by rw [hn]; exact hi⟩
        · cases hi
      · exact ⟨0,hi⟩
      · cases hi
     obtain ⟨n,hn⟩:=qs;refine ⟨max n m,?_⟩;simp only [tJ,YC (YE (ir n m)) hn];exact (MX (YE (gU n m)) hm).1
   · cases he
theorem C6s {loose:List (Nat×Nat)} {ops:List Ins} {σ σ':St} (he:rR (KI Φ) loose ops σ=some σ'):∃ n,rR (nV Φ (run Φ n)) loose ops σ=some σ':=by
 unfold rR at he;split at he
 · rename_i s h hst;obtain ⟨n,hn⟩:=YF hst;refine ⟨n,?_⟩;obtain ⟨q1,q2⟩:=MX (RI n) hn;unfold rR;rw [hn,← q2];exact he
 · cases he
theorem YG (σ:St):o9 Φ .skip σ=some (.normal,σ):=qq.2 ⟨1,rfl⟩
theorem YH (σ:St):o9 Φ .ret σ=some (.ret,σ):=qq.2 ⟨1,rfl⟩
theorem YI (id:Nat) (σ:St):o9 Φ (.exit id) σ=some (.exit id,σ):=qq.2 ⟨1,rfl⟩
theorem RJ (g:Gh) (σ:St):o9 Φ (.gh g) σ=match yB g σ with | some σ'=>some (.normal,σ') | none=>none:=by
 refine EN fun r=>?_
 rw [qq];constructor
 · rintro ⟨n,hn⟩;cases n with
   | zero=>simp [run] at hn
   | succ n=>exact hn
 · intro h; exact ⟨1,h⟩
theorem C9V (loose:List (Nat×Nat)) (ops:List Ins) (σ:St):o9 Φ (.yn loose ops) σ=match rR (KI Φ) loose ops σ with | some σ'=>some (.normal,σ') | none=>none:=by
 refine EN fun r=>?_
 rw [qq];constructor
 · rintro ⟨n,hn⟩;cases n with
   | zero=>simp [run] at hn
   | succ n =>
     simp only [run] at hn;cases hr:rR (nV Φ (run Φ n)) loose ops σ with
     | none=>rw [hr] at hn; cases hn
     | some σ' =>
       rw [hr] at hn;rw [YD (RI n) hr];exact hn
 · intro h;cases hr:rR (KI Φ) loose ops σ with
   | none=>rw [hr] at h; cases h
   | some σ' =>
     rw [hr] at h;obtain ⟨n,hn⟩:=C6s hr;exact ⟨n + 1,by rw [run,hn]; exact h⟩
theorem C9W (a b:MC) (σ:St):o9 Φ (.seq a b) σ=match o9 Φ a σ with | some (.normal,σ')=>o9 Φ b σ' | r=>r:=by
 refine EN fun r=>?_
 rw [qq];constructor
 · rintro ⟨n,hn⟩;cases n with
   | zero=>simp [run] at hn
   | succ n =>
     rw [run] at hn;cases ha:run Φ n a σ with
     | none=>rw [ha] at hn; cases hn
     | some x =>
       rw [qq.2 ⟨n,ha⟩];rw [ha] at hn;obtain ⟨e,σ1⟩:=x;cases e with
       | normal=>exact qq.2 ⟨n,hn⟩
       | exit id=>exact hn
       | ret=>exact hn
 · intro h;cases ha:o9 Φ a σ with
   | none=>rw [ha] at h; cases h
   | some x =>
     rw [ha] at h;obtain ⟨n,hn⟩:=qq.1 ha;obtain ⟨e,σ1⟩:=x;cases e with
     | normal =>
       obtain ⟨m,hm⟩:=qq.1 h;refine ⟨max n m + 1,?_⟩;rw [run,EM (ir n m) hn];exact EM (gU n m) hm
     | exit id=>exact ⟨n + 1,by rw [run,hn]; exact h⟩
     | ret=>exact ⟨n + 1,by rw [run,hn]; exact h⟩
theorem C77 (c:dI) (a b:MC) (σ:St):o9 Φ (.cond c a b) σ=match cJ σ.s c with | .p (.bool true)=>o9 Φ a σ | .p (.bool false)=>o9 Φ b σ | _=>none:=by
 refine EN fun r=>?_
 rw [qq];constructor
 · rintro ⟨n,hn⟩;cases n with
   | zero=>simp [run] at hn
   | succ n =>
     rw [run] at hn;split at hn
     · rename_i hc; rw [hc]; exact qq.2 ⟨n,hn⟩
     · rename_i hc; rw [hc]; exact qq.2 ⟨n,hn⟩
     · cases hn
 · intro h;split at h
   · rename_i hc;obtain ⟨n,hn⟩:=qq.1 h;exact ⟨n + 1,by rw [run,hc]; exact hn⟩
   · rename_i hc;obtain ⟨n,hn⟩:=qq.1 h;exact ⟨n + 1,by rw [run,hc]; exact hn⟩
   · cases h
theorem C6t (id:Nat) (c:MC) (σ:St):o9 Φ (.block id c) σ=match o9 Φ c σ with | some (.exit j,σ')=>if j=id then some (.normal,σ') else some (.exit j,σ') | r=>r:=by
 refine EN fun r=>?_
 rw [qq];constructor
 · rintro ⟨n,hn⟩;cases n with
   | zero=>simp [run] at hn
   | succ n =>
     rw [run] at hn;cases ha:run Φ n c σ with
     | none=>rw [ha] at hn; cases hn
     | some x=>rw [qq.2 ⟨n,ha⟩]; rw [ha] at hn; exact hn
 · intro h;cases ha:o9 Φ c σ with
   | none=>rw [ha] at h; cases h
   | some x =>
     obtain ⟨n,hn⟩:=qq.1 ha;rw [ha] at h;exact ⟨n + 1,by rw [run,hn]; exact h⟩
theorem C78 (ks ids:List Nat) (c:MC) (σ:St):o9 Φ (.loop ks ids c) σ=match o9 Φ c (rA ks ids σ) with | some (.normal,σ')=>o9 Φ (.loop ks ids c) σ' | r=>r:=by
 refine EN fun r=>?_
 constructor
 · intro h0;obtain ⟨n,hn⟩:=qq.1 h0;cases n with
   | zero=>simp [run] at hn
   | succ n =>
     rw [run] at hn;cases ha:run Φ n c (rA ks ids σ) with
     | none=>rw [ha] at hn; cases hn
     | some x =>
       rw [qq.2 ⟨n,ha⟩];rw [ha] at hn;obtain ⟨e,σ1⟩:=x;cases e with
       | normal=>exact qq.2 ⟨n,hn⟩
       | exit id=>exact hn
       | ret=>exact hn
 · intro h;refine qq.2 ?_;cases ha:o9 Φ c (rA ks ids σ) with
   | none=>rw [ha] at h; cases h
   | some x =>
     rw [ha] at h;obtain ⟨n,hn⟩:=qq.1 ha;obtain ⟨e,σ1⟩:=x;cases e with
     | normal =>
       obtain ⟨m,hm⟩:=qq.1 h;refine ⟨max n m + 1,?_⟩;rw [run,EM (ir n m) hn];exact EM (gU n m) hm
     | exit id=>exact ⟨n + 1,by rw [run,hn]; exact h⟩
     | ret=>exact ⟨n + 1,by rw [run,hn]; exact h⟩
theorem D1Q {f:Nat} {F:p9} (h:Φ f=some (.code F)) (args:List MV) (ext:List (Obj Nat)):KI Φ f args ext=match o9 Φ F.body ⟨uI args,nc ext,1⟩ with
 | some (.normal,σ)=>xJ F ext.length σ
 | some (.ret,σ)=>xJ F ext.length σ
 | _=>none:=by
 unfold KI nV;rw [h];rfl
theorem RK {f:Nat} {p:Prim} (h:Φ f=some (.qc p)) (args:List MV) (ext:List (Obj Nat)):KI Φ f args ext=u7 p args ext:=by
 unfold KI nV;rw [h]
end
def qJ:List (Nat×MV)→gD
 | [],_=>.dead 0
 | (j,v)::r,k=>if k=j then v else qJ r k
def mi:List (Nat×Obj Nat)→cj
 | [],_=>none
 | (j,o)::r,k=>if k=j then some o else mi r k
def wC {α:Type}:List (Nat×α)→Nat→α→List (Nat×α)
 | [],k,v=>[(k,v)]
 | (j,u)::r,k,v=>if k=j then (k,v)::r else (j,u)::wC r k v
theorem D1R (l:List (Nat×MV)) (k:Nat) (v:MV):cz (qJ l) k v=qJ (wC l k v):=by
 funext i
 induction l with
 | nil=>simp only [cz,qJ,wC]
 | cons x r ih =>
   obtain ⟨j,u⟩:=x;simp only [cz,wC] at ih ⊢;by_cases EO:k=j
   · subst EO;by_cases AL:i=k <;> simp [qJ,AL]
   · rw [if_neg EO];simp only [qJ];by_cases gL:i=j
     · subst gL;simp [Ne.symm EO]
     · rw [if_neg gL,if_neg gL]; exact ih
theorem YJ (l:List (Nat×Obj Nat)) (k:Nat) (o:Obj Nat):cz (mi l) k (some o)=mi (wC l k o):=by
 funext i
 induction l with
 | nil=>simp only [cz,mi,wC]
 | cons x r ih =>
   obtain ⟨j,u⟩:=x;simp only [cz,wC] at ih ⊢;by_cases EO:k=j
   · subst EO;by_cases AL:i=k <;> simp [mi,AL]
   · rw [if_neg EO];simp only [mi];by_cases gL:i=j
     · subst gL;simp [Ne.symm EO]
     · rw [if_neg gL,if_neg gL]; exact ih
def AM (args:List MV):Nat→List (Nat×MV)
 | i=>match args with
   | []=>[]
   | v::r=>(i,v)::AM r (i + 1)
theorem C4B (args:List MV):uI args=qJ (AM args 0):=by
 have key:∀ (args:List MV) (i k:Nat),qJ (AM args i) k=if i ≤ k then args.getD (k - i) (.dead 0) else .dead 0:=by
  intro args
  induction args with
  | nil=>intro i k; simp [AM,qJ]
  | cons v r ih =>
    intro i k;simp only [AM,qJ];by_cases h:k=i
    · subst h; simp
    · rw [if_neg h,ih];by_cases h2:i ≤ k
      · rw [if_pos (by omega),if_pos h2,show k - i=(k - (i + 1)) + 1 by omega]
        simp
      · rw [if_neg (by omega),if_neg h2]
 funext k;rw [key];simp [uI]
def BV (ext:List (Obj Nat)):Nat→List (Nat×Obj Nat)
 | i=>match ext with
   | []=>[]
   | o::r=>(i,o)::BV r (i + 1)
theorem C6u (ext:List (Obj Nat)):nc ext=mi (BV ext ep):=by
 have key:∀ (ext:List (Obj Nat)) (i k:Nat),mi (BV ext i) k=if i ≤ k then ext[k - i]? else none:=by
  intro ext
  induction ext with
  | nil=>intro i k; simp [BV,mi]
  | cons v r ih =>
    intro i k;simp only [BV,mi];by_cases h:k=i
    · subst h; simp
    · rw [if_neg h,ih];by_cases h2:i ≤ k
      · rw [if_pos (by omega),if_pos h2,show k - i=(k - (i + 1)) + 1 by omega]
        simp
      · rw [if_neg (by omega),if_neg h2]
 funext k;rw [key];rfl
def BW (h:cj) (ids:List Nat) (s:gD) (ks:List Nat):List (Nat×MV):=ks.map fun k=>(k,jT h (th ids) jx (s k))
def zp (h:cj) (ids:List Nat):List (Nat×Obj Nat)→List (Nat×Obj Nat)
 | []=>[]
 | (i,o)::r=>if vU ids i then (i,kF (jT h (th ids) jx) jx o)::zp h ids r else zp h ids r
theorem YK (ks ids:List Nat) (l:List (Nat×MV)) (m:List (Nat×Obj Nat)) (n:Nat):rA ks ids ⟨qJ l,mi m,n⟩=⟨qJ (BW (mi m) ids (qJ l) ks),mi (zp (mi m) ids m),2⟩:=by
 unfold rA;congr 1
 · funext k;simp only [BW]
   induction ks with
   | nil=>rfl
   | cons j r ih =>
     simp only [aD,qJ];by_cases h:k=j
     · subst h; simp
     · rw [if_neg h,← ih];simp [h]
 · funext i
   have:∀ q:List (Nat×Obj Nat),mi (zp (mi m) ids q) i=if vU ids i=true then (mi q i).map (kF (jT (mi m) (th ids) jx) jx) else none:=by
    intro q
    induction q with
    | nil=>simp [zp,mi]
    | cons x r ih =>
      obtain ⟨j,o⟩:=x;simp only [zp];by_cases gL:i=j
      · subst gL;by_cases hk:vU ids i=true
        · rw [if_pos hk,if_pos hk]; simp [mi]
        · rw [if_neg hk,if_neg hk,ih,if_neg hk]
      · by_cases hk:vU ids j=true
        · rw [if_pos hk]; simp only [mi,if_neg gL]; exact ih
        · rw [if_neg hk]; simp only [mi,if_neg gL]; exact ih
   exact (this m).symm
end Go.Mid
namespace Go.Mid
def uT (s:List (Nat×MV)) (h:List (Nat×Obj Nat)) (n:Nat):St:=⟨qJ s,mi h,n⟩
section
variable {Φ:ml}
@[simp] theorem D6o (k:Nat):qJ [] k=.dead 0:=rfl
@[simp] theorem C9X (j:Nat) (v:MV) (r:List (Nat×MV)) (k:Nat):qJ ((j,v)::r) k=if k=j then v else qJ r k:=rfl
@[simp] theorem D6p (k:Nat):mi [] k=none:=rfl
@[simp] theorem zq (j:Nat) (v:Obj Nat) (r:List (Nat×Obj Nat)) (k:Nat):mi ((j,v)::r) k=if k=j then some v else mi r k:=rfl
@[simp] theorem D5V {α:Type} (k:Nat) (v:α):wC [] k v=[(k,v)]:=rfl
@[simp] theorem D5I {α:Type} (j:Nat) (u:α) (r:List (Nat×α)) (k:Nat) (v:α):wC ((j,u)::r) k v=if k=j then (k,v)::r else (j,u)::wC r k v:=rfl
attribute [simp] YJ
@[simp] theorem D6q (s:List (Nat×MV)) (h:List (Nat×Obj Nat)) (n:Nat):(⟨qJ s,mi h,n⟩:St)=uT s h n:=rfl
@[simp] theorem D6z (s:List (Nat×MV)) (h:List (Nat×Obj Nat)) (n:Nat):(uT s h n).s=qJ s:=rfl
@[simp] theorem D6A (s:List (Nat×MV)) (h:List (Nat×Obj Nat)) (n:Nat):(uT s h n).h=mi h:=rfl
@[simp] theorem D6w (s:List (Nat×MV)) (h:List (Nat×Obj Nat)) (n:Nat):(uT s h n).nx=n:=rfl
attribute [simp] YG YH YI
@[simp] theorem D4S (K:jl) (g:Nat) (s:gD) (h:cj):tJ K g [] s h=some (s,h):=rfl
@[simp] theorem D6r (ks ids:List Nat) (s:List (Nat×MV)) (h:List (Nat×Obj Nat)) (n:Nat) :
   o9 Φ (.gh (.bm ks ids)) (uT s h n)=some (.normal,uT (BW (mi h) ids (qJ s) ks) (zp (mi h) ids h) 2):=by
  rw [RJ];simp only [yB,uT,YK]
@[simp] theorem C6v (ks ids:List Nat) (s:List (Nat×MV)) (h:List (Nat×Obj Nat)) (n:Nat) :
   rA ks ids (uT s h n)=uT (BW (mi h) ids (qJ s) ks) (zp (mi h) ids h) 2:=YK ks ids s h n
@[simp] theorem D5W (c:Prop) [Decidable c] (a b:Bool):(if c then MV.p (.bool a) else MV.p (.bool b))=.p (.bool (if c then a else b)):=by split <;> rfl
end
@[simp] theorem D4Z (h:cj) (ids:List Nat) (s:gD):BW h ids s []=[]:=rfl
@[simp] theorem D4T (h:cj) (ids:List Nat) (s:gD) (k:Nat) (r:List Nat):BW h ids s (k::r)=(k,jT h (th ids) jx (s k))::BW h ids s r:=rfl
attribute [simp] cJ zp b7 vU th yA vW Ae DN PV.cs PV.da vX tG Ai AM BV xJ xI Cy Cz rD jT sm sn jZ mu jd yp pY mT kF iS jw yr xF mq rz pq uG Bc u6 DJ D4X callee DK tE DL oW tC look lP ru u0 wT mS FZ yw cU ef put c7 T.cs T.da MV.cs MV.da okB rQ jo zT zT.Cv jx uC xD Cz LG
section
variable (k:IntKind) (n:Int) (b:Bool) (s:ByteArray) (l m:List PV) (v:PV) (f:Nat) (w:MV) (i o q g:Nat) (r:List Nat) (np:Option (List Nat)) (ms:List MV)
@[simp] theorem D5J:(PV.int k n).isAgg=false:=rfl
@[simp] theorem D40:(PV.bool b).isAgg=false:=rfl
@[simp] theorem D5K:(PV.str s).isAgg=false:=rfl
@[simp] theorem D5L:(PV.agg l).isAgg=true:=rfl
@[simp] theorem D5X:(PV.sl l).isAgg=false:=rfl
@[simp] theorem D5M:(PV.ref v).isAgg=false:=rfl
@[simp] theorem D5Y:(PV.fn f l).isAgg=false:=rfl
@[simp] theorem D5Z:(PV.mp l m).isAgg=false:=rfl
@[simp] theorem D41:PV.eQ.isAgg=false:=rfl
@[simp] theorem D42:PV.ff.isAgg=false:=rfl
@[simp] theorem D50:(MV.p v).isAgg=v.isAgg:=rfl
@[simp] theorem D43:(MV.agg ms).isAgg=true:=rfl
@[simp] theorem D44:(MV.own i r o q g).isAgg=false:=rfl
@[simp] theorem D45:(MV.ptr i np r o q).isAgg=false:=rfl
@[simp] theorem D4U:(MV.fy i r g).isAgg=false:=rfl
@[simp] theorem D46:(MV.nil i).isAgg=false:=rfl
@[simp] theorem D5N:(MV.fn i ms).isAgg=false:=rfl
@[simp] theorem D47:(MV.eJ ms).isAgg=false:=rfl
@[simp] theorem D4V:(MV.dead i).isAgg=false:=rfl
end
@[simp] theorem D4W (i:Nat):oX [] i=none:=rfl
@[simp] theorem RL (x:Nat) (r:List Nat) (i:Nat):oX (x::r) i=if x=i then some 0 else (oX r i).map (· + 1):=by
  unfold oX;rw [List.findIdx?_cons];by_cases h:x=i
  · simp [h]
  · simp [h]
@[simp 1100] theorem D6s (n:Nat) (k:IntKind) (i:Int) (h0:0 ≤ i) (h1:i < n):xH n (.p (.int k i))=some i.toNat:=by simp [xH,vX,h0,h1]
@[simp 1100] theorem D6t (n:Nat) (k:IntKind) (i:Int) (h0:0 ≤ i) (h1:i ≤ n):wV n (.p (.int k i))=some i.toNat:=by simp [wV,vX,h0,h1]
section
variable (k:IntKind) (a b:Int)
@[simp 1100] theorem D6B (h:a < b):jz .lss (.int k a) (.int k b)=some (.bool true):=by simp [jz,h]
@[simp 1100] theorem D6C (h:b ≤ a):jz .lss (.int k a) (.int k b)=some (.bool false):=by simp [jz]; omega
@[simp 900] theorem D6D:jz .lss (.int k a) (.int k b)=some (.bool (decide (a < b))):=by simp [jz]
@[simp 1100] theorem D6E (h:a ≤ b):jz .leq (.int k a) (.int k b)=some (.bool true):=by simp [jz,h]
@[simp 1100] theorem D6F (h:b < a):jz .leq (.int k a) (.int k b)=some (.bool false):=by simp [jz]; omega
@[simp 900] theorem D6G:jz .leq (.int k a) (.int k b)=some (.bool (decide (a ≤ b))):=by simp [jz]
@[simp 1100] theorem D6H (h:b < a):jz .gtr (.int k a) (.int k b)=some (.bool true):=by simp [jz,h]
@[simp 1100] theorem D6I (h:a ≤ b):jz .gtr (.int k a) (.int k b)=some (.bool false):=by simp [jz]; omega
@[simp 900] theorem D6J:jz .gtr (.int k a) (.int k b)=some (.bool (decide (b < a))):=by simp [jz]
@[simp 1100] theorem D6K (h:b ≤ a):jz .geq (.int k a) (.int k b)=some (.bool true):=by simp [jz,h]
@[simp 1100] theorem D6L (h:a < b):jz .geq (.int k a) (.int k b)=some (.bool false):=by simp [jz]; omega
@[simp 900] theorem D6M:jz .geq (.int k a) (.int k b)=some (.bool (decide (b ≤ a))):=by simp [jz]
@[simp 1100] theorem D6N (h:a=b):jz .eql (.int k a) (.int k b)=some (.bool true):=by simp [jz,h]
@[simp 1100] theorem D6O (h:a ≠ b):jz .eql (.int k a) (.int k b)=some (.bool false):=by simp [jz,h]
@[simp 900] theorem D6P:jz .eql (.int k a) (.int k b)=some (.bool (decide (a=b))):=by simp [jz]; rfl
@[simp 1100] theorem D6Q (h:a ≠ b):jz .neq (.int k a) (.int k b)=some (.bool true):=by simp [jz,h]
@[simp 1100] theorem D6R (h:a=b):jz .neq (.int k a) (.int k b)=some (.bool false):=by simp [jz,h]
@[simp 900] theorem D6S:jz .neq (.int k a) (.int k b)=some (.bool (decide (a ≠ b))):=by simp [jz,bne]; rfl
@[simp] theorem D6T:jz .add (.int k a) (.int k b)=some (.int k (k.wrap (a + b))):=by simp [jz]
@[simp] theorem D6U:jz .sub (.int k a) (.int k b)=some (.int k (k.wrap (a - b))):=by simp [jz]
@[simp] theorem D6V:jz .mul (.int k a) (.int k b)=some (.int k (k.wrap (a * b))):=by simp [jz]
end
@[simp 1100] theorem D6W (k k':IntKind) (a i:Nat) (h:i ≤ k.bits):jz .shr (.int k (a:Int)) (.int k' (i:Int))=some (.int k ((a >>> i:Nat):Int)):=by
  have h0:¬ ((i:Int) < 0):=by omega
  have e:min (i:Int).toNat k.bits=i:=by rw [Int.toNat_natCast]; exact Nat.min_eq_left h
  have h2:(a:Int).fdiv (2 ^ i)=((a >>> i:Nat):Int):=by
   rw [Nat.shiftRight_eq_div_pow,show ((2:Int) ^ i)=((2 ^ i:Nat):Int) by simp,Int.fdiv_eq_ediv_of_nonneg _ (Int.natCast_nonneg _)]
   exact (Int.natCast_ediv _ _).symm
  simp only [jz,h0,if_false,e,h2]
theorem YL (n a b:Nat) (ha:a < 2 ^ n) (hb:b < 2 ^ n):(b8 n (a:Int) &&& b8 n (b:Int)).toNat=a &&& b:=by
 simp [eU ha,eU hb]
theorem D1S (a b:Nat) (ha:a < 18446744073709551616) (hb:b < 18446744073709551616):jz .and (.int .u64 (a:Int)) (.int .u64 (b:Int))=some (.int .u64 ((a &&& b:Nat):Int)):=by
 have h:a &&& b ≤ a:=eM;have e:jz .and (.int .u64 (a:Int)) (.int .u64 (b:Int))=some (.int .u64 (IntKind.u64.wrap (b8 64 (a:Int) &&& b8 64 (b:Int)).toNat)):=rfl;rw [e,YL 64 a b ha hb,IntWalk.u64_in _ ⟨by omega,by omega⟩]
theorem D1T (a b:Nat) (ha:a < 4294967296) (hb:b < 4294967296):jz .and (.int .u32 (a:Int)) (.int .u32 (b:Int))=some (.int .u32 ((a &&& b:Nat):Int)):=by
 have h:a &&& b ≤ a:=eM;have e:jz .and (.int .u32 (a:Int)) (.int .u32 (b:Int))=some (.int .u32 (IntKind.u32.wrap (b8 32 (a:Int) &&& b8 32 (b:Int)).toNat)):=rfl;rw [e,YL 32 a b ha hb,IntWalk.u32_in _ ⟨by omega,by omega⟩]
@[simp 1100] theorem D51 (a:Nat) (ha:a < 18446744073709551616):jz .and (.int .u64 (a:Int)) (.int .u64 1)=some (.int .u64 ((a % 2:Nat):Int)):=by
  have:=D1S a 1 ha (by omega)
  rw [jS] at this;exact this
@[simp 1100] theorem D52 (a:Nat) (ha:a < 4294967296):jz .and (.int .u32 (a:Int)) (.int .u32 1)=some (.int .u32 ((a % 2:Nat):Int)):=by
  have:=D1T a 1 ha (by omega)
  rw [jS] at this;exact this
attribute [simp] List.getElem?_cons_zero
attribute [simp 1100] List.take_of_length_le
attribute [simp] IntWalk.i64_in IntWalk.u64_in IntWalk.u8_in IntWalk.u32_in
def tv (l:List PV):List (T Nat):=l.map T.p
section
variable (l m:List PV) (g z:Nat)
@[simp] theorem RM:(tv l).length=l.length:=by simp [tv]
@[simp] theorem D5O:tv l++tv m=tv (l++m):=by simp [tv]
@[simp] theorem D5P (v:PV):tv l++[T.p v]=tv (l++[v]):=by simp [tv]
@[simp] theorem D6u (n:Nat):(tv l).take n=tv (l.take n):=by simp [tv]
@[simp] theorem D6v (n:Nat):(tv l).drop n=tv (l.drop n):=by simp [tv]
@[simp] theorem D6x:tv []=[]:=rfl
@[simp] theorem D6y (i:Nat):(tv l)[i]?=l[i]?.map T.p:=by simp [tv]
@[simp] theorem RN:mh (tv l)=some l:=by
  induction l with
  | nil=>rfl
  | cons x r ih=>simp only [tv,aD,mh] at ih ⊢; rw [ih]
@[simp] theorem D5Q:kZ (tv l)=some l:=by
  induction l with
  | nil=>rfl
  | cons x r ih=>simp only [tv,aD,kZ,sG] at ih ⊢; rw [ih]
@[simp] theorem C9Y (φ:MV→MV) (ζ:Nat→Nat):jw φ ζ (tv l)=tv l:=by
  induction l with
  | nil=>rfl
  | cons x r ih=>simp only [tv,aD,jw,iS] at ih ⊢; rw [ih]
@[simp] theorem YM:nM g (tv l)=tv l:=C9Y l _ _
@[simp] theorem D48:nM g []=[]:=rfl
@[simp] theorem D21 (v:PV):nM g [T.p v]=[T.p v]:=rfl
@[simp] theorem RO:(tv l).all tj=true:=by simp [tv,tj]
@[simp] theorem C9Z:pw z (tv l)=l.all fun v=>v.cs == z:=by simp [tv,pw,T.cs]; rfl
@[simp] theorem D5R:pw z []=true:=rfl
@[simp] theorem YN (t:T Nat) (r:List (T Nat)):pw z (t::r)=(t.cs == z && pw z r):=rfl
@[simp] theorem D5S:oN (tv l)=[]:=by
  induction l with
  | nil=>rfl
  | cons x r ih=>simp only [tv,aD,oN,tg,List.nil_append] at ih ⊢; rw [ih]
@[simp] theorem D5T:uF (tv l)=l.all u6:=by
  induction l with
  | nil=>rfl
  | cons x r ih=>simp only [tv,aD,uF,yq,List.all_cons] at ih ⊢; rw [ih]
end
@[simp] theorem D53 (h:cj) (l:List PV):elems h (.p (.sl l))=some (tv l):=rfl
@[simp] theorem D5U (h:cj) (z:Nat):elems h (.nil z)=some (tv []):=rfl
attribute [simp] yo ep kG
@[simp] theorem D54 (K:jl) (g:Nat) (s:gD) (h:cj):tM K g [] s h=[]:=rfl
section
variable {α β:Type}
end
end Go.Mid
