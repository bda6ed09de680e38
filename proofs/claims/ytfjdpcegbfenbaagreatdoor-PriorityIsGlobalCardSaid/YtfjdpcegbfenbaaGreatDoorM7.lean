/- The run without a number of rounds: its equations. -/
import Derived.Test.YtfjdpcegbfenbaaGreatDoorM6
import Derived.IntWalk
set_option linter.unusedSimpArgs false
set_option linter.unusedVariables false
open BitVec renaming ofInt → cl
open List renaming map_cons → aG
open Nat renaming le_max_left → iS, le_max_right → ig, mod_eq_of_lt → fe, and_le_left → iT, and_one_is_mod → iD
namespace Go.Mid
def xz (K K':jE):Prop:=∀ f args ext r,K f args ext=some r→K' f args ext=some r
theorem xz.refl (K:jE):xz K K:=fun _ _ _ _ h=>h
theorem xz.trans {K K' K'':jE} (h:xz K K') (k:xz K' K''):xz K K'':=fun f a e r hr=>k f a e r (h f a e r hr)
theorem C5k {K K':jE} (hk:xz K K') {g:Nat} {d:Option Nat} {s:gI} {h:cq} {op:su} {x:MV×cq} (he:cf K g d s h op=some x):cf K' g d s h op=some x:=by
 cases op with
 | call md f args =>
   simp only [cf] at he ⊢;split at he
   · rename_i f0 cs hc;split at he
     · unfold yI at he ⊢;split at he
       · rename_i vs fY;cases hK:K f0 (vs.map .p) [] with
         | none=>rw [hK] at he;simp [xS] at he
         | some r =>
           rw [hK] at he;rw [hk _ _ _ _ hK];exact he
       · cases he
     · unfold Br at he ⊢
       dsimp only at he ⊢
       split at he
       · cases he
       · split at he
         · cases he
         · rename_i r ext dL hK;rw [hk _ _ _ _ hK];exact he
     · unfold As at he ⊢;split at he
       · rename_i vs fY;split at he
         · rename_i r dL hK;rw [hk _ _ _ _ hK];exact he
         · cases he
       · cases he
   · cases he
 | _=>exact he
theorem B5t {K K':jE} (hk:xz K K') {g:Nat} {i:Ins} {s:gI} {h:cq} {x:gI×cq} (he:oE K g i s h=some x):oE K' g i s h=some x:=by
 unfold oE at he ⊢;split at he
 · split at he
   · rename_i v h' hv;rw [C5k hk hv];exact he
   · cases he
 · exact he
 · cases he
theorem NN {K K':jE} (hk:xz K K'):∀ {l:List Ins} {g:Nat} {s:gI} {h:cq} {x:gI×cq},tX K g l s h=some x→tX K' g l s h=some x∧ua K' g l s h=ua K g l s h
 | [],g,s,h,x,he=>⟨he,rfl⟩
 | i::r,g,s,h,x,he=>by
   simp only [tX] at he ⊢;split at he
   · rename_i s1 h1 hi;obtain ⟨q1,q2⟩:=NN hk he;simp only [ua,hi,B5t hk hi,q1,q2,and_self]
   · cases he
theorem B68 {K K':jE} (hk:xz K K') {loose:List (Nat×Nat)} {ops:List Ins} {σ σ':St} (he:r0 K loose ops σ=some σ'):r0 K' loose ops σ=some σ':=by
 unfold r0 at he ⊢;split at he
 · rename_i s h hst;obtain ⟨q1,q2⟩:=NN hk hst;rw [q1,q2];exact he
 · cases he
theorem SW {Φ:mA} {R R':MC→St→Option (Ex×St)} (h:∀ c σ r,R c σ=some r→R' c σ=some r):xz (n5 Φ R) (n5 Φ R'):=by
 intro f args ext r hr;unfold n5 at hr ⊢;split at hr
 · cases hr
 · exact hr
 · rename_i F hF;cases hR:R F.body ⟨uW args,nq ext,1⟩ with
   | none=>rw [hR] at hr;cases hr
   | some x =>
     rw [hR] at hr;simp only [h _ _ _ hR];exact hr
theorem D0S {Φ:mA}:∀ {n:Nat} {c:MC} {σ:St} {r:Ex×St},run Φ n c σ=some r→run Φ (n+1) c σ=some r:=by
 intro n
 induction n with
 | zero=>intro c σ r h;simp [run] at h
 | succ n ih =>
   intro c σ r h;cases c with
   | yE loose ops =>
     rw [run] at h ⊢;cases hr:r0 (n5 Φ (run Φ n)) loose ops σ with
     | none=>rw [hr] at h;cases h
     | some σ' =>
       rw [hr] at h;rw [B68 (SW fun c σ r=>ih) hr]
       exact h
   | seq a b =>
     rw [run] at h ⊢;cases ha:run Φ n a σ with
     | none=>rw [ha] at h;cases h
     | some x =>
       rw [ha] at h;rw [ih ha];obtain ⟨e,σ1⟩:=x;cases e with
       | normal=>exact ih h
       | exit id=>exact h
       | ret=>exact h
   | cond c a b =>
     rw [run] at h ⊢;split at h
     · exact ih h
     · exact ih h
     · cases h
   | block id c =>
     rw [run] at h ⊢;cases ha:run Φ n c σ with
     | none=>rw [ha] at h;cases h
     | some x=>rw [ha] at h;rw [ih ha];exact h
   | loop ks ids c =>
     rw [run] at h ⊢;cases ha:run Φ n c (rJ ks ids σ) with
     | none=>rw [ha] at h;cases h
     | some x =>
       rw [ha] at h;rw [ih ha];obtain ⟨e,σ1⟩:=x;cases e with
       | normal=>exact ih h
       | exit id=>exact h
       | ret=>exact h
   | _=>rw [run] at h ⊢;exact h
theorem E5 {Φ:mA} {n m:Nat} (SX:n≤m) {c:MC} {σ:St} {r:Ex×St} (h:run Φ n c σ=some r):run Φ m c σ=some r:=by
 induction SX with
 | refl=>exact h
 | step _ ih=>exact D0S ih
theorem C1v {Φ:mA} {n m:Nat} (SX:n≤m):xz (n5 Φ (run Φ n)) (n5 Φ (run Φ m)):=SW fun _ _ _ h=>E5 SX h
open Classical in
noncomputable def pq (Φ:mA) (c:MC) (σ:St):Option (Ex×St):=if h:∃ n r,run Φ n c σ=some r then some h.choose_spec.choose else none
noncomputable def KI (Φ:mA):jE:=n5 Φ (pq Φ)
section
variable {Φ:mA}
theorem qC {c:MC} {σ:St} {r:Ex×St}:pq Φ c σ=some r↔∃ n,run Φ n c σ=some r:=by
 unfold pq;constructor
 · intro h;split at h
   · rename_i hex;simp only [Option.some.injEq] at h;exact ⟨hex.choose,by rw [← h];exact hex.choose_spec.choose_spec⟩
   · cases h
 · rintro ⟨n,hn⟩;have hex:∃ n r,run Φ n c σ=some r:=⟨n,r,hn⟩;rw [dif_pos hex];have h1:=hex.choose_spec.choose_spec;have h2:=E5 (iS hex.choose n) h1;have h3:=E5 (ig hex.choose n) hn;rw [h2] at h3;exact h3
theorem E6 {α:Type} {x y:Option α} (h:∀ r,x=some r↔y=some r):x=y:=by
 cases x with
 | none =>
   cases y with
   | none=>rfl
   | some r=>exact absurd ((h r).2 rfl) (by simp)
 | some r=>exact ((h r).1 rfl).symm
theorem SY (n:Nat):xz (n5 Φ (run Φ n)) (KI Φ):=SW fun c σ r h=>qC.2 ⟨n,h⟩
theorem NO {f:Nat} {args:List MV} {ext:List (Obj Nat)} {r:CH} (h:KI Φ f args ext=some r):∃ n,n5 Φ (run Φ n) f args ext=some r:=by
 unfold KI n5 at h;split at h
 · cases h
 · rename_i p hp;exact ⟨0,by unfold n5;rw [hp];exact h⟩
 · rename_i F hF;cases hR:pq Φ F.body ⟨uW args,nq ext,1⟩ with
   | none=>rw [hR] at h;cases h
   | some x =>
     rw [hR] at h;obtain ⟨n,hn⟩:=qC.1 hR;refine ⟨n,?_⟩;unfold n5;rw [hF];simp only [hn];exact h
theorem C7i {g:Nat} {d:Option Nat} {s:gI} {h:cq} {op:su} {x:MV×cq} (he:cf (KI Φ) g d s h op=some x):∃ n,cf (n5 Φ (run Φ n)) g d s h op=some x:=by
 cases op with
 | call md f args =>
   simp only [cf] at he ⊢;split at he
   · rename_i f0 cs hc;split at he
     · unfold yI at he;split at he
       · rename_i vs fY;cases hK:KI Φ f0 (vs.map .p) [] with
         | none=>rw [hK] at he;simp [xS] at he
         | some r =>
           obtain ⟨n,hn⟩:=NO hK;refine ⟨n,?_⟩;unfold yI;rw [hK] at he;simp only [fY,hn];exact he
       · cases he
     · unfold Br at he
       dsimp only at he
       split at he
       · cases he
       · rename_i ql sF;split at he
         · cases he
         · rename_i r ext dL hK;obtain ⟨n,hn⟩:=NO hK;refine ⟨n,?_⟩;unfold Br;simp only [sF,hn];exact he
     · unfold As at he;split at he
       · rename_i vs fY;split at he
         · rename_i r dL hK;obtain ⟨n,hn⟩:=NO hK;refine ⟨n,?_⟩;unfold As;simp only [fY,hn];exact he
         · cases he
       · cases he
   · cases he
 | _=>exact ⟨0,he⟩
theorem B69:∀ {l:List Ins} {g:Nat} {s:gI} {h:cq} {x:gI×cq},tX (KI Φ) g l s h=some x→∃ n,tX (n5 Φ (run Φ n)) g l s h=some x
 | [],g,s,h,x,he=>⟨0,he⟩
 | i::r,g,s,h,x,he=>by
   simp only [tX] at he;split at he
   · rename_i s1 h1 hi;obtain ⟨m,hm⟩:=B69 he;have qD:∃ n,oE (n5 Φ (run Φ n)) g i s h=some (s1,h1):=by
      unfold oE at hi ⊢;split at hi
      · split at hi
        · rename_i v h' hv;obtain ⟨n,hn⟩:=C7i hv;exact ⟨n,by rw [hn];exact hi⟩
        · cases hi
      · exact ⟨0,hi⟩
      · cases hi
     obtain ⟨n,hn⟩:=qD;refine ⟨max n m,?_⟩;simp only [tX,B5t (C1v (iS n m)) hn];exact (NN (C1v (ig n m)) hm).1
   · cases he
theorem C7j {loose:List (Nat×Nat)} {ops:List Ins} {σ σ':St} (he:r0 (KI Φ) loose ops σ=some σ'):∃ n,r0 (n5 Φ (run Φ n)) loose ops σ=some σ':=by
 unfold r0 at he;split at he
 · rename_i s h hst;obtain ⟨n,hn⟩:=B69 hst;refine ⟨n,?_⟩;obtain ⟨q1,q2⟩:=NN (SY n) hn;unfold r0;rw [hn,← q2];exact he
 · cases he
theorem C1w (σ:St):pq Φ .skip σ=some (.normal,σ):=qC.2 ⟨1,rfl⟩
theorem C3o (σ:St):pq Φ .ret σ=some (.ret,σ):=qC.2 ⟨1,rfl⟩
theorem C1x (id:Nat) (σ:St):pq Φ (.exit id) σ=some (.exit id,σ):=qC.2 ⟨1,rfl⟩
theorem SZ (g:Gh) (σ:St):pq Φ (.gh g) σ=match yM g σ with | some σ'=>some (.normal,σ') | none=>none:=by
 refine E6 fun r=>?_
 rw [qC];constructor
 · rintro ⟨n,hn⟩;cases n with
   | zero=>simp [run] at hn
   | succ n=>exact hn
 · intro h;exact ⟨1,h⟩
theorem D0T (loose:List (Nat×Nat)) (ops:List Ins) (σ:St):pq Φ (.yE loose ops) σ=match r0 (KI Φ) loose ops σ with | some σ'=>some (.normal,σ') | none=>none:=by
 refine E6 fun r=>?_
 rw [qC];constructor
 · rintro ⟨n,hn⟩;cases n with
   | zero=>simp [run] at hn
   | succ n =>
     simp only [run] at hn;cases hr:r0 (n5 Φ (run Φ n)) loose ops σ with
     | none=>rw [hr] at hn;cases hn
     | some σ' =>
       rw [hr] at hn;rw [B68 (SY n) hr];exact hn
 · intro h;cases hr:r0 (KI Φ) loose ops σ with
   | none=>rw [hr] at h;cases h
   | some σ' =>
     rw [hr] at h;obtain ⟨n,hn⟩:=C7j hr;exact ⟨n+1,by rw [run,hn];exact h⟩
theorem D0U (a b:MC) (σ:St):pq Φ (.seq a b) σ=match pq Φ a σ with | some (.normal,σ')=>pq Φ b σ' | r=>r:=by
 refine E6 fun r=>?_
 rw [qC];constructor
 · rintro ⟨n,hn⟩;cases n with
   | zero=>simp [run] at hn
   | succ n =>
     rw [run] at hn;cases ha:run Φ n a σ with
     | none=>rw [ha] at hn;cases hn
     | some x =>
       rw [qC.2 ⟨n,ha⟩];rw [ha] at hn;obtain ⟨e,σ1⟩:=x;cases e with
       | normal=>exact qC.2 ⟨n,hn⟩
       | exit id=>exact hn
       | ret=>exact hn
 · intro h;cases ha:pq Φ a σ with
   | none=>rw [ha] at h;cases h
   | some x =>
     rw [ha] at h;obtain ⟨n,hn⟩:=qC.1 ha;obtain ⟨e,σ1⟩:=x;cases e with
     | normal =>
       obtain ⟨m,hm⟩:=qC.1 h;refine ⟨max n m+1,?_⟩;rw [run,E5 (iS n m) hn];exact E5 (ig n m) hm
     | exit id=>exact ⟨n+1,by rw [run,hn];exact h⟩
     | ret=>exact ⟨n+1,by rw [run,hn];exact h⟩
theorem C82 (c:dQ) (a b:MC) (σ:St):pq Φ (.cond c a b) σ=match cQ σ.s c with | .p (.bool true)=>pq Φ a σ | .p (.bool false)=>pq Φ b σ | _=>none:=by
 refine E6 fun r=>?_
 rw [qC];constructor
 · rintro ⟨n,hn⟩;cases n with
   | zero=>simp [run] at hn
   | succ n =>
     rw [run] at hn;split at hn
     · rename_i hc;rw [hc];exact qC.2 ⟨n,hn⟩
     · rename_i hc;rw [hc];exact qC.2 ⟨n,hn⟩
     · cases hn
 · intro h;split at h
   · rename_i hc;obtain ⟨n,hn⟩:=qC.1 h;exact ⟨n+1,by rw [run,hc];exact hn⟩
   · rename_i hc;obtain ⟨n,hn⟩:=qC.1 h;exact ⟨n+1,by rw [run,hc];exact hn⟩
   · cases h
theorem C7k (id:Nat) (c:MC) (σ:St):pq Φ (.block id c) σ=match pq Φ c σ with | some (.exit j,σ')=>if j=id then some (.normal,σ') else some (.exit j,σ') | r=>r:=by
 refine E6 fun r=>?_
 rw [qC];constructor
 · rintro ⟨n,hn⟩;cases n with
   | zero=>simp [run] at hn
   | succ n =>
     rw [run] at hn;cases ha:run Φ n c σ with
     | none=>rw [ha] at hn;cases hn
     | some x=>rw [qC.2 ⟨n,ha⟩];rw [ha] at hn;exact hn
 · intro h;cases ha:pq Φ c σ with
   | none=>rw [ha] at h;cases h
   | some x =>
     obtain ⟨n,hn⟩:=qC.1 ha;rw [ha] at h;exact ⟨n+1,by rw [run,hn];exact h⟩
theorem C83 (ks ids:List Nat) (c:MC) (σ:St):pq Φ (.loop ks ids c) σ=match pq Φ c (rJ ks ids σ) with | some (.normal,σ')=>pq Φ (.loop ks ids c) σ' | r=>r:=by
 refine E6 fun r=>?_
 constructor
 · intro h0;obtain ⟨n,hn⟩:=qC.1 h0;cases n with
   | zero=>simp [run] at hn
   | succ n =>
     rw [run] at hn;cases ha:run Φ n c (rJ ks ids σ) with
     | none=>rw [ha] at hn;cases hn
     | some x =>
       rw [qC.2 ⟨n,ha⟩];rw [ha] at hn;obtain ⟨e,σ1⟩:=x;cases e with
       | normal=>exact qC.2 ⟨n,hn⟩
       | exit id=>exact hn
       | ret=>exact hn
 · intro h;refine qC.2 ?_;cases ha:pq Φ c (rJ ks ids σ) with
   | none=>rw [ha] at h;cases h
   | some x =>
     rw [ha] at h;obtain ⟨n,hn⟩:=qC.1 ha;obtain ⟨e,σ1⟩:=x;cases e with
     | normal =>
       obtain ⟨m,hm⟩:=qC.1 h;refine ⟨max n m+1,?_⟩;rw [run,E5 (iS n m) hn];exact E5 (ig n m) hm
     | exit id=>exact ⟨n+1,by rw [run,hn];exact h⟩
     | ret=>exact ⟨n+1,by rw [run,hn];exact h⟩
theorem D2S {f:Nat} {F:qk} (h:Φ f=some (.code F)) (args:List MV) (ext:List (Obj Nat)):KI Φ f args ext=match pq Φ F.body ⟨uW args,nq ext,1⟩ with
 | some (.normal,σ)=>xW F ext.length σ
 | some (.ret,σ)=>xW F ext.length σ
 | _=>none:=by
 unfold KI n5;rw [h];rfl
theorem S1 {f:Nat} {p:Prim} (h:Φ f=some (.qn p)) (args:List MV) (ext:List (Obj Nat)):KI Φ f args ext=vo p args ext:=by
 unfold KI n5;rw [h]
end
def qV:List (Nat×MV)→gI
 | [],_=>.dead 0
 | (j,v)::r,k=>if k=j then v else qV r k
def mz:List (Nat×Obj Nat)→cq
 | [],_=>none
 | (j,o)::r,k=>if k=j then some o else mz r k
def wP {α:Type}:List (Nat×α)→Nat→α→List (Nat×α)
 | [],k,v=>[(k,v)]
 | (j,u)::r,k,v=>if k=j then (k,v)::r else (j,u)::wP r k v
theorem D2T (l:List (Nat×MV)) (k:Nat) (v:MV):cD (qV l) k v=qV (wP l k v):=by
 funext i
 induction l with
 | nil=>simp only [cD,qV,wP]
 | cons x r ih =>
   obtain ⟨j,u⟩:=x;simp only [cD,wP] at ih ⊢;by_cases E7:k=j
   · subst E7;by_cases A6:i=k<;>simp [qV,A6]
   · rw [if_neg E7];simp only [qV];by_cases gU:i=j
     · subst gU;simp [Ne.symm E7]
     · rw [if_neg gU,if_neg gU];exact ih
theorem C5Z (l:List (Nat×Obj Nat)) (k:Nat) (o:Obj Nat):cD (mz l) k (some o)=mz (wP l k o):=by
 funext i
 induction l with
 | nil=>simp only [cD,mz,wP]
 | cons x r ih =>
   obtain ⟨j,u⟩:=x;simp only [cD,wP] at ih ⊢;by_cases E7:k=j
   · subst E7;by_cases A6:i=k<;>simp [mz,A6]
   · rw [if_neg E7];simp only [mz];by_cases gU:i=j
     · subst gU;simp [Ne.symm E7]
     · rw [if_neg gU,if_neg gU];exact ih
def A7 (args:List MV):Nat→List (Nat×MV)
 | i=>match args with
   | []=>[]
   | v::r=>(i,v)::A7 r (i+1)
theorem C5l (args:List MV):uW args=qV (A7 args 0):=by
 have key:∀ (args:List MV) (i k:Nat),qV (A7 args i) k=if i≤k then args.getD (k-i) (.dead 0) else .dead 0:=by
  intro args
  induction args with
  | nil=>intro i k;simp [A7,qV]
  | cons v r ih =>
    intro i k;simp only [A7,qV];by_cases h:k=i
    · subst h;simp
    · rw [if_neg h,ih];by_cases h2:i≤k
      · rw [if_pos (by omega),if_pos h2,show k-i=(k-(i+1))+1 by omega]
        simp
      · rw [if_neg (by omega),if_neg h2]
 funext k;rw [key];simp [uW]
def B9 (ext:List (Obj Nat)):Nat→List (Nat×Obj Nat)
 | i=>match ext with
   | []=>[]
   | o::r=>(i,o)::B9 r (i+1)
theorem C7l (ext:List (Obj Nat)):nq ext=mz (B9 ext eD):=by
 have key:∀ (ext:List (Obj Nat)) (i k:Nat),mz (B9 ext i) k=if i≤k then ext[k-i]? else none:=by
  intro ext
  induction ext with
  | nil=>intro i k;simp [B9,mz]
  | cons v r ih =>
    intro i k;simp only [B9,mz];by_cases h:k=i
    · subst h;simp
    · rw [if_neg h,ih];by_cases h2:i≤k
      · rw [if_pos (by omega),if_pos h2,show k-i=(k-(i+1))+1 by omega]
        simp
      · rw [if_neg (by omega),if_neg h2]
 funext k;rw [key];rfl
def Ca (h:cq) (ids:List Nat) (s:gI) (ks:List Nat):List (Nat×MV):=ks.map fun k=>(k,j7 h (tx ids) jR (s k))
def zH (h:cq) (ids:List Nat):List (Nat×Obj Nat)→List (Nat×Obj Nat)
 | []=>[]
 | (i,o)::r=>if wg ids i then (i,kO (j7 h (tx ids) jR) jR o)::zH h ids r else zH h ids r
theorem C1y (ks ids:List Nat) (l:List (Nat×MV)) (m:List (Nat×Obj Nat)) (n:Nat):rJ ks ids ⟨qV l,mz m,n⟩=⟨qV (Ca (mz m) ids (qV l) ks),mz (zH (mz m) ids m),2⟩:=by
 unfold rJ;congr 1
 · funext k;simp only [Ca]
   induction ks with
   | nil=>rfl
   | cons j r ih =>
     simp only [aG,qV];by_cases h:k=j
     · subst h;simp
     · rw [if_neg h,← ih];simp [h]
 · funext i
   have:∀ q:List (Nat×Obj Nat),mz (zH (mz m) ids q) i=if wg ids i=true then (mz q i).map (kO (j7 (mz m) (tx ids) jR) jR) else none:=by
    intro q
    induction q with
    | nil=>simp [zH,mz]
    | cons x r ih =>
      obtain ⟨j,o⟩:=x;simp only [zH];by_cases gU:i=j
      · subst gU;by_cases hk:wg ids i=true
        · rw [if_pos hk,if_pos hk];simp [mz]
        · rw [if_neg hk,if_neg hk,ih,if_neg hk]
      · by_cases hk:wg ids j=true
        · rw [if_pos hk];simp only [mz,if_neg gU];exact ih
        · rw [if_neg hk];simp only [mz,if_neg gU];exact ih
   exact (this m).symm
end Go.Mid
namespace Go.Mid
def vd (s:List (Nat×MV)) (h:List (Nat×Obj Nat)) (n:Nat):St:=⟨qV s,mz h,n⟩
section
variable {Φ:mA}
@[simp] theorem D7K (k:Nat):qV [] k=.dead 0:=rfl
@[simp] theorem D0V (j:Nat) (v:MV) (r:List (Nat×MV)) (k:Nat):qV ((j,v)::r) k=if k=j then v else qV r k:=rfl
@[simp] theorem D7L (k:Nat):mz [] k=none:=rfl
@[simp] theorem zI (j:Nat) (v:Obj Nat) (r:List (Nat×Obj Nat)) (k:Nat):mz ((j,v)::r) k=if k=j then some v else mz r k:=rfl
@[simp] theorem D7e {α:Type} (k:Nat) (v:α):wP [] k v=[(k,v)]:=rfl
@[simp] theorem D61 {α:Type} (j:Nat) (u:α) (r:List (Nat×α)) (k:Nat) (v:α):wP ((j,u)::r) k v=if k=j then (k,v)::r else (j,u)::wP r k v:=rfl
attribute [simp] C5Z
@[simp] theorem D7M (s:List (Nat×MV)) (h:List (Nat×Obj Nat)) (n:Nat):(⟨qV s,mz h,n⟩:St)=vd s h n:=rfl
@[simp] theorem D7V (s:List (Nat×MV)) (h:List (Nat×Obj Nat)) (n:Nat):(vd s h n).s=qV s:=rfl
@[simp] theorem D7W (s:List (Nat×MV)) (h:List (Nat×Obj Nat)) (n:Nat):(vd s h n).h=mz h:=rfl
@[simp] theorem D7S (s:List (Nat×MV)) (h:List (Nat×Obj Nat)) (n:Nat):(vd s h n).nx=n:=rfl
attribute [simp] C1w C3o C1x
@[simp] theorem D57 (K:jE) (g:Nat) (s:gI) (h:cq):tX K g [] s h=some (s,h):=rfl
@[simp] theorem D7N (ks ids:List Nat) (s:List (Nat×MV)) (h:List (Nat×Obj Nat)) (n:Nat) :
   pq Φ (.gh (.bn ks ids)) (vd s h n)=some (.normal,vd (Ca (mz h) ids (qV s) ks) (zH (mz h) ids h) 2):=by
  rw [SZ];simp only [yM,vd,C1y]
@[simp] theorem C7m (ks ids:List Nat) (s:List (Nat×MV)) (h:List (Nat×Obj Nat)) (n:Nat) :
   rJ ks ids (vd s h n)=vd (Ca (mz h) ids (qV s) ks) (zH (mz h) ids h) 2:=C1y ks ids s h n
@[simp] theorem D7f (c:Prop) [Decidable c] (a b:Bool):(if c then MV.p (.bool a) else MV.p (.bool b))=.p (.bool (if c then a else b)):=by split<;>rfl
end
@[simp] theorem D6e (h:cq) (ids:List Nat) (s:gI):Ca h ids s []=[]:=rfl
@[simp] theorem D58 (h:cq) (ids:List Nat) (s:gI) (k:Nat) (r:List Nat):Ca h ids s (k::r)=(k,j7 h (tx ids) jR (s k))::Ca h ids s r:=rfl
attribute [simp] cQ zH cf wg tx yL wj Au D2 PV.cs PV.dm wk tV Ay A7 B9 xW xV CN CO rM j7 sx sy kf mD jw yG qe m5 kO jk jQ yI xS mC rI pF uU Bq vn DY D6c callee DZ tT D0 o9 tQ look lY rH vl xd m4 Gb yK c6 ew put dh T.cs T.dm MV.cs MV.dm okB rZ jI zT zT.CK jR uQ xQ CO Mt
section
variable (k:IntKind) (n:Int) (b:Bool) (s:ByteArray) (l m:List PV) (v:PV) (f:Nat) (w:MV) (i o q g:Nat) (r:List Nat) (np:Option (List Nat)) (ms:List MV)
@[simp] theorem D62:(PV.int k n).isAgg=false:=rfl
@[simp] theorem D6f:(PV.bool b).isAgg=false:=rfl
@[simp] theorem D63:(PV.str s).isAgg=false:=rfl
@[simp] theorem D64:(PV.agg l).isAgg=true:=rfl
@[simp] theorem D7g:(PV.sl l).isAgg=false:=rfl
@[simp] theorem D65:(PV.ref v).isAgg=false:=rfl
@[simp] theorem D7h:(PV.fn f l).isAgg=false:=rfl
@[simp] theorem D7i:(PV.mp l m).isAgg=false:=rfl
@[simp] theorem D6g:PV.eY.isAgg=false:=rfl
@[simp] theorem D6h:PV.fg.isAgg=false:=rfl
@[simp] theorem D7j:(MV.p v).isAgg=v.isAgg:=rfl
@[simp] theorem D6i:(MV.agg ms).isAgg=true:=rfl
@[simp] theorem D6j:(MV.own i r o q g).isAgg=false:=rfl
@[simp] theorem D6k:(MV.ptr i np r o q).isAgg=false:=rfl
@[simp] theorem D59:(MV.fE i r g).isAgg=false:=rfl
@[simp] theorem D6l:(MV.nil i).isAgg=false:=rfl
@[simp] theorem D66:(MV.fn i ms).isAgg=false:=rfl
@[simp] theorem D6m:(MV.eO ms).isAgg=false:=rfl
@[simp] theorem D6a:(MV.dead i).isAgg=false:=rfl
end
@[simp] theorem D6b (i:Nat):pc [] i=none:=rfl
@[simp] theorem S3 (x:Nat) (r:List Nat) (i:Nat):pc (x::r) i=if x=i then some 0 else (pc r i).map (· + 1):=by
  unfold pc;rw [List.findIdx?_cons];by_cases h:x=i
  · simp [h]
  · simp [h]
@[simp 1100] theorem D7O (n:Nat) (k:IntKind) (i:Int) (h0:0≤i) (h1:i<n):xU n (.p (.int k i))=some i.toNat:=by simp [xU,wk,h0,h1]
@[simp 1100] theorem D7P (n:Nat) (k:IntKind) (i:Int) (h0:0≤i) (h1:i≤n):xf n (.p (.int k i))=some i.toNat:=by simp [xf,wk,h0,h1]
section
variable (k:IntKind) (a b:Int)
@[simp 1100] theorem D7X (h:a<b):jT .lss (.int k a) (.int k b)=some (.bool true):=by simp [jT,h]
@[simp 1100] theorem D7Y (h:b≤a):jT .lss (.int k a) (.int k b)=some (.bool false):=by simp [jT];omega
@[simp 900] theorem D7Z:jT .lss (.int k a) (.int k b)=some (.bool (decide (a<b))):=by simp [jT]
@[simp 1100] theorem D70 (h:a≤b):jT .leq (.int k a) (.int k b)=some (.bool true):=by simp [jT,h]
@[simp 1100] theorem D71 (h:b<a):jT .leq (.int k a) (.int k b)=some (.bool false):=by simp [jT];omega
@[simp 900] theorem D72:jT .leq (.int k a) (.int k b)=some (.bool (decide (a≤b))):=by simp [jT]
@[simp 1100] theorem D73 (h:b<a):jT .gtr (.int k a) (.int k b)=some (.bool true):=by simp [jT,h]
@[simp 1100] theorem D74 (h:a≤b):jT .gtr (.int k a) (.int k b)=some (.bool false):=by simp [jT];omega
@[simp 900] theorem D75:jT .gtr (.int k a) (.int k b)=some (.bool (decide (b<a))):=by simp [jT]
@[simp 1100] theorem D76 (h:b≤a):jT .geq (.int k a) (.int k b)=some (.bool true):=by simp [jT,h]
@[simp 1100] theorem D77 (h:a<b):jT .geq (.int k a) (.int k b)=some (.bool false):=by simp [jT];omega
@[simp 900] theorem D78:jT .geq (.int k a) (.int k b)=some (.bool (decide (b≤a))):=by simp [jT]
@[simp 1100] theorem D79 (h:a=b):jT .eql (.int k a) (.int k b)=some (.bool true):=by simp [jT,h]
@[simp 1100] theorem D8a (h:a≠b):jT .eql (.int k a) (.int k b)=some (.bool false):=by simp [jT,h]
@[simp 900] theorem D8b:jT .eql (.int k a) (.int k b)=some (.bool (decide (a=b))):=by simp [jT];rfl
@[simp 1100] theorem D8c (h:a≠b):jT .neq (.int k a) (.int k b)=some (.bool true):=by simp [jT,h]
@[simp 1100] theorem D8d (h:a=b):jT .neq (.int k a) (.int k b)=some (.bool false):=by simp [jT,h]
@[simp 900] theorem D8e:jT .neq (.int k a) (.int k b)=some (.bool (decide (a≠b))):=by simp [jT,bne];rfl
@[simp] theorem D8f:jT .add (.int k a) (.int k b)=some (.int k (k.wrap (a+b))):=by simp [jT]
@[simp] theorem D8g:jT .sub (.int k a) (.int k b)=some (.int k (k.wrap (a-b))):=by simp [jT]
@[simp] theorem D8h:jT .mul (.int k a) (.int k b)=some (.int k (k.wrap (a*b))):=by simp [jT]
end
@[simp 1100] theorem D8i (k k':IntKind) (a i:Nat) (h:i≤k.bits):jT .shr (.int k (a:Int)) (.int k' (i:Int))=some (.int k ((a >>> i:Nat):Int)):=by
  have h0:¬ ((i:Int)<0):=by omega
  have e:min (i:Int).toNat k.bits=i:=by rw [Int.toNat_natCast];exact Nat.min_eq_left h
  have h2:(a:Int).fdiv (2 ^ i)=((a >>> i:Nat):Int):=by
   rw [Nat.shiftRight_eq_div_pow,show ((2:Int) ^ i)=((2 ^ i:Nat):Int) by simp,Int.fdiv_eq_ediv_of_nonneg _ (Int.natCast_nonneg _)]
   exact (Int.natCast_ediv _ _).symm
  simp only [jT,h0,if_false,e,h2]
theorem C84 (n a b:Nat) (ha:a<2 ^ n) (hb:b<2 ^ n):(cl n (a:Int) &&& cl n (b:Int)).toNat=a &&& b:=by
 simp [fe ha,fe hb]
theorem D2U (a b:Nat) (ha:a<18446744073709551616) (hb:b<18446744073709551616):jT .and (.int .u64 (a:Int)) (.int .u64 (b:Int))=some (.int .u64 ((a &&& b:Nat):Int)):=by
 have h:a &&& b≤a:=iT;have e:jT .and (.int .u64 (a:Int)) (.int .u64 (b:Int))=some (.int .u64 (IntKind.u64.wrap (cl 64 (a:Int) &&& cl 64 (b:Int)).toNat)):=rfl;rw [e,C84 64 a b ha hb,IntWalk.u64_in _ ⟨by omega,by omega⟩]
theorem D2V (a b:Nat) (ha:a<4294967296) (hb:b<4294967296):jT .and (.int .u32 (a:Int)) (.int .u32 (b:Int))=some (.int .u32 ((a &&& b:Nat):Int)):=by
 have h:a &&& b≤a:=iT;have e:jT .and (.int .u32 (a:Int)) (.int .u32 (b:Int))=some (.int .u32 (IntKind.u32.wrap (cl 32 (a:Int) &&& cl 32 (b:Int)).toNat)):=rfl;rw [e,C84 32 a b ha hb,IntWalk.u32_in _ ⟨by omega,by omega⟩]
@[simp 1100] theorem D7k (a:Nat) (ha:a<18446744073709551616):jT .and (.int .u64 (a:Int)) (.int .u64 1)=some (.int .u64 ((a%2:Nat):Int)):=by
  have:=D2U a 1 ha (by omega)
  rw [iD] at this;exact this
@[simp 1100] theorem D7l (a:Nat) (ha:a<4294967296):jT .and (.int .u32 (a:Int)) (.int .u32 1)=some (.int .u32 ((a%2:Nat):Int)):=by
  have:=D2V a 1 ha (by omega)
  rw [iD] at this;exact this
attribute [simp] List.getElem?_cons_zero
attribute [simp 1100] List.take_of_length_le
attribute [simp] IntWalk.i64_in IntWalk.u64_in IntWalk.u8_in IntWalk.u32_in
def tv (l:List PV):List (T Nat):=l.map T.p
section
variable (l m:List PV) (g z:Nat)
@[simp] theorem S4:(tv l).length=l.length:=by simp [tv]
@[simp] theorem D67:tv l++tv m=tv (l++m):=by simp [tv]
@[simp] theorem D68 (v:PV):tv l++[T.p v]=tv (l++[v]):=by simp [tv]
@[simp] theorem D7Q (n:Nat):(tv l).take n=tv (l.take n):=by simp [tv]
@[simp] theorem D7R (n:Nat):(tv l).drop n=tv (l.drop n):=by simp [tv]
@[simp] theorem D7T:tv []=[]:=rfl
@[simp] theorem D7U (i:Nat):(tv l)[i]?=l[i]?.map T.p:=by simp [tv]
@[simp] theorem S5:mw (tv l)=some l:=by
  induction l with
  | nil=>rfl
  | cons x r ih=>simp only [tv,aG,mw] at ih ⊢;rw [ih]
@[simp] theorem D69:lv (tv l)=some l:=by
  induction l with
  | nil=>rfl
  | cons x r ih=>simp only [tv,aG,lv,sP] at ih ⊢;rw [ih]
@[simp] theorem D0W (φ:MV→MV) (ζ:Nat→Nat):jQ φ ζ (tv l)=tv l:=by
  induction l with
  | nil=>rfl
  | cons x r ih=>simp only [tv,aG,jQ,jk] at ih ⊢;rw [ih]
@[simp] theorem C1z:nS g (tv l)=tv l:=D0W l _ _
@[simp] theorem D6n:nS g []=[]:=rfl
@[simp] theorem D39 (v:PV):nS g [T.p v]=[T.p v]:=rfl
@[simp] theorem S6:(tv l).all tC=true:=by simp [tv,tC]
@[simp] theorem D0X:pI z (tv l)=l.all fun v=>v.cs==z:=by simp [tv,pI,T.cs];rfl
@[simp] theorem D7a:pI z []=true:=rfl
@[simp] theorem B8Q (t:T Nat) (r:List (T Nat)):pI z (t::r)=(t.cs==z&&pI z r):=rfl
@[simp] theorem D7b:oU (tv l)=[]:=by
  induction l with
  | nil=>rfl
  | cons x r ih=>simp only [tv,aG,oU,tw,List.nil_append] at ih ⊢;rw [ih]
@[simp] theorem D7c:uT (tv l)=l.all vn:=by
  induction l with
  | nil=>rfl
  | cons x r ih=>simp only [tv,aG,uT,yH,List.all_cons] at ih ⊢;rw [ih]
end
@[simp] theorem D7m (h:cq) (l:List PV):elems h (.p (.sl l))=some (tv l):=rfl
@[simp] theorem D7d (h:cq) (z:Nat):elems h (.nil z)=some (tv []):=rfl
attribute [simp] yF eD kP
@[simp] theorem D7n (K:jE) (g:Nat) (s:gI) (h:cq):ua K g [] s h=[]:=rfl
section
variable {α β:Type}
end
end Go.Mid
