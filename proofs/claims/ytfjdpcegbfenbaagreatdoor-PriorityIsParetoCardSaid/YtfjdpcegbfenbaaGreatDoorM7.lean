/- The run without a number of rounds: its equations. -/
import Derived.Test.YtfjdpcegbfenbaaGreatDoorM6
import Derived.IntWalk
set_option linter.unusedSimpArgs false
set_option linter.unusedVariables false
open BitVec renaming ofInt → cl
open List renaming map_cons → aH
open Nat renaming le_max_left → iP, le_max_right → ik, mod_eq_of_lt → fc, and_le_left → iQ, and_one_is_mod → iC
namespace Go.Mid
def xz (K K':jC):Prop:=∀ f args ext r,K f args ext=some r→K' f args ext=some r
theorem xz.refl (K:jC):xz K K:=fun _ _ _ _ h=>h
theorem xz.trans {K K' Z9:jC}(h:xz K K')(k:xz K' Z9):xz K Z9:=fun f a e r hr=>k f a e r (h f a e r hr)
theorem C5t {K K':jC}(hk:xz K K'){g:Nat}{d:Option Nat}{s:gJ}{h:cq}{op:sr}{x:MV×cq}(he:cf K g d s h op=some x):cf K' g d s h op=some x:=by
 cases op with
 | call md f args =>
   simp only [cf] at he ⊢;split at he
   · rename_i f0 cs hc;split at he
     · unfold yH at he ⊢;split at he
       · rename_i vs fX;cases hK:K f0 (vs.map .p) [] with
         | none=>rw [hK] at he;simp [xR] at he
         | some r =>
           rw [hK] at he;rw [hk _ _ _ _ hK];exact he
       · cases he
     · unfold Bp at he ⊢
       dsimp only at he ⊢
       split at he
       · cases he
       · split at he
         · cases he
         · rename_i r ext dK hK;rw [hk _ _ _ _ hK];exact he
     · unfold Aq at he ⊢;split at he
       · rename_i vs fX;split at he
         · rename_i r dK hK;rw [hk _ _ _ _ hK];exact he
         · cases he
       · cases he
   · cases he
 | _=>exact he
theorem B5B {K K':jC}(hk:xz K K'){g:Nat}{i:Ins}{s:gJ}{h:cq}{x:gJ×cq}(he:oE K g i s h=some x):oE K' g i s h=some x:=by
 unfold oE at he ⊢;split at he
 · split at he
   · rename_i v h' hv;rw [C5t hk hv];exact he
   · cases he
 · exact he
 · cases he
theorem NQ {K K':jC}(hk:xz K K'):∀ {l:List Ins} {g:Nat} {s:gJ} {h:cq} {x:gJ×cq},tV K g l s h=some x→tV K' g l s h=some x∧tY K' g l s h=tY K g l s h
 | [],g,s,h,x,he=>⟨he,rfl⟩
 | i::r,g,s,h,x,he=>by
   simp only [tV] at he ⊢;split at he
   · rename_i s1 h1 hi;obtain ⟨q1,q2⟩:=NQ hk he;simp only [tY,hi,B5B hk hi,q1,q2,and_self]
   · cases he
theorem B7h {K K':jC}(hk:xz K K'){loose:List (Nat×Nat)}{ops:List Ins}{σ σ':St}(he:rY K loose ops σ=some σ'):rY K' loose ops σ=some σ':=by
 unfold rY at he ⊢;split at he
 · rename_i s h hst;obtain ⟨q1,q2⟩:=NQ hk hst;rw [q1,q2];exact he
 · cases he
theorem SW {Φ:mz}{R R':MC→St→Option (Ex×St)}(h:∀ c σ r,R c σ=some r→R' c σ=some r):xz (n4 Φ R) (n4 Φ R'):=by
 intro f args ext r hr;unfold n4 at hr ⊢;split at hr
 · cases hr
 · exact hr
 · rename_i F hF;cases hR:R F.body ⟨uV args,nq ext,1⟩ with
   | none=>rw [hR] at hr;cases hr
   | some x =>
     rw [hR] at hr;simp only [h _ _ _ hR];exact hr
theorem D02 {Φ:mz}:∀ {n:Nat} {c:MC} {σ:St} {r:Ex×St},run Φ n c σ=some r→run Φ (n+1) c σ=some r:=by
 intro n
 induction n with
 | zero=>intro c σ r h;simp [run] at h
 | succ n ih =>
   intro c σ r h;cases c with
   | yD loose ops =>
     rw [run] at h ⊢;cases hr:rY (n4 Φ (run Φ n)) loose ops σ with
     | none=>rw [hr] at h;cases h
     | some σ' =>
       rw [hr] at h;rw [B7h (SW fun c σ r=>ih) hr]
       exact h
   | seq a b =>
     rw [run] at h ⊢;cases ha:run Φ n a σ with
     | none=>rw [ha] at h;cases h
     | some x =>
       rw [ha] at h;rw [ih ha];obtain ⟨e,σ1⟩:=x;cases e with
       | normal=>exact ih h
       | exit id=>exact h
       | ret=>exact h
   | cond c a b =>
     rw [run] at h ⊢;split at h
     · exact ih h
     · exact ih h
     · cases h
   | block id c =>
     rw [run] at h ⊢;cases ha:run Φ n c σ with
     | none=>rw [ha] at h;cases h
     | some x=>rw [ha] at h;rw [ih ha];exact h
   | loop ks ids c =>
     rw [run] at h ⊢;cases ha:run Φ n c (rI ks ids σ) with
     | none=>rw [ha] at h;cases h
     | some x =>
       rw [ha] at h;rw [ih ha];obtain ⟨e,σ1⟩:=x;cases e with
       | normal=>exact ih h
       | exit id=>exact h
       | ret=>exact h
   | _=>rw [run] at h ⊢;exact h
theorem E4 {Φ:mz}{n m:Nat}(SX:n≤m){c:MC}{σ:St}{r:Ex×St}(h:run Φ n c σ=some r):run Φ m c σ=some r:=by
 induction SX with
 | refl=>exact h
 | step _ ih=>exact D02 ih
theorem C1F {Φ:mz}{n m:Nat}(SX:n≤m):xz (n4 Φ (run Φ n)) (n4 Φ (run Φ m)):=SW fun _ _ _ h=>E4 SX h
open Classical in
noncomputable def pq (Φ:mz)(c:MC)(σ:St):Option (Ex×St):=if h:∃ n r,run Φ n c σ=some r then some h.choose_spec.choose else none
noncomputable def KI (Φ:mz):jC:=n4 Φ (pq Φ)
section
variable {Φ:mz}
theorem qB {c:MC}{σ:St}{r:Ex×St}:pq Φ c σ=some r↔∃ n,run Φ n c σ=some r:=by
 unfold pq;constructor
 · intro h;split at h
   · rename_i hex;simp only [Option.some.injEq] at h;exact ⟨hex.choose,by rw [← h];exact hex.choose_spec.choose_spec⟩
   · cases h
 · rintro ⟨n,hn⟩;have hex:∃ n r,run Φ n c σ=some r:=⟨n,r,hn⟩;rw [dif_pos hex];have h1:=hex.choose_spec.choose_spec;have h2:=E4 (iP hex.choose n) h1;have h3:=E4 (ik hex.choose n) hn;rw [h2] at h3;exact h3
theorem E5 {α:Type}{x y:Option α}(h:∀ r,x=some r↔y=some r):x=y:=by
 cases x with
 | none =>
   cases y with
   | none=>rfl
   | some r=>exact absurd ((h r).2 rfl) (by simp)
 | some r=>exact ((h r).1 rfl).symm
theorem SY (n:Nat):xz (n4 Φ (run Φ n)) (KI Φ):=SW fun c σ r h=>qB.2 ⟨n,h⟩
theorem NR {f:Nat}{args:List MV}{ext:List (Obj Nat)}{r:CF}(h:KI Φ f args ext=some r):∃ n,n4 Φ (run Φ n) f args ext=some r:=by
 unfold KI n4 at h;split at h
 · cases h
 · rename_i p hp;exact ⟨0,by unfold n4;rw [hp];exact h⟩
 · rename_i F hF;cases hR:pq Φ F.body ⟨uV args,nq ext,1⟩ with
   | none=>rw [hR] at h;cases h
   | some x =>
     rw [hR] at h;obtain ⟨n,hn⟩:=qB.1 hR;refine ⟨n,?_⟩;unfold n4;rw [hF];simp only [hn];exact h
theorem C7r {g:Nat}{d:Option Nat}{s:gJ}{h:cq}{op:sr}{x:MV×cq}(he:cf (KI Φ) g d s h op=some x):∃ n,cf (n4 Φ (run Φ n)) g d s h op=some x:=by
 cases op with
 | call md f args =>
   simp only [cf] at he ⊢;split at he
   · rename_i f0 cs hc;split at he
     · unfold yH at he;split at he
       · rename_i vs fX;cases hK:KI Φ f0 (vs.map .p) [] with
         | none=>rw [hK] at he;simp [xR] at he
         | some r =>
           obtain ⟨n,hn⟩:=NR hK;refine ⟨n,?_⟩;unfold yH;rw [hK] at he;simp only [fX,hn];exact he
       · cases he
     · unfold Bp at he
       dsimp only at he
       split at he
       · cases he
       · rename_i qk sE;split at he
         · cases he
         · rename_i r ext dK hK;obtain ⟨n,hn⟩:=NR hK;refine ⟨n,?_⟩;unfold Bp;simp only [sE,hn];exact he
     · unfold Aq at he;split at he
       · rename_i vs fX;split at he
         · rename_i r dK hK;obtain ⟨n,hn⟩:=NR hK;refine ⟨n,?_⟩;unfold Aq;simp only [fX,hn];exact he
         · cases he
       · cases he
   · cases he
 | _=>exact ⟨0,he⟩
theorem B7i:∀ {l:List Ins} {g:Nat} {s:gJ} {h:cq} {x:gJ×cq},tV (KI Φ) g l s h=some x→∃ n,tV (n4 Φ (run Φ n)) g l s h=some x
 | [],g,s,h,x,he=>⟨0,he⟩
 | i::r,g,s,h,x,he=>by
   simp only [tV] at he;split at he
   · rename_i s1 h1 hi;obtain ⟨m,hm⟩:=B7i he;have qC:∃ n,oE (n4 Φ (run Φ n)) g i s h=some (s1,h1):=by
      unfold oE at hi ⊢;split at hi
      · split at hi
        · rename_i v h' hv;obtain ⟨n,hn⟩:=C7r hv;exact ⟨n,by rw [hn];exact hi⟩
        · cases hi
      · exact ⟨0,hi⟩
      · cases hi
     obtain ⟨n,hn⟩:=qC;refine ⟨max n m,?_⟩;simp only [tV,B5B (C1F (iP n m)) hn];exact (NQ (C1F (ik n m)) hm).1
   · cases he
theorem C7s {loose:List (Nat×Nat)}{ops:List Ins}{σ σ':St}(he:rY (KI Φ) loose ops σ=some σ'):∃ n,rY (n4 Φ (run Φ n)) loose ops σ=some σ':=by
 unfold rY at he;split at he
 · rename_i s h hst;obtain ⟨n,hn⟩:=B7i hst;refine ⟨n,?_⟩;obtain ⟨q1,q2⟩:=NQ (SY n) hn;unfold rY;rw [hn,← q2];exact he
 · cases he
theorem C1G (σ:St):pq Φ .skip σ=some (.normal,σ):=qB.2 ⟨1,rfl⟩
theorem C3x (σ:St):pq Φ .ret σ=some (.ret,σ):=qB.2 ⟨1,rfl⟩
theorem C1H (id:Nat)(σ:St):pq Φ (.exit id) σ=some (.exit id,σ):=qB.2 ⟨1,rfl⟩
theorem SZ (g:Gh)(σ:St):pq Φ (.gh g) σ=match yL g σ with | some σ'=>some (.normal,σ') | none=>none:=by
 refine E5 fun r=>?_
 rw [qB];constructor
 · rintro ⟨n,hn⟩;cases n with
   | zero=>simp [run] at hn
   | succ n=>exact hn
 · intro h;exact ⟨1,h⟩
theorem D03 (loose:List (Nat×Nat))(ops:List Ins)(σ:St):pq Φ (.yD loose ops) σ=match rY (KI Φ) loose ops σ with | some σ'=>some (.normal,σ') | none=>none:=by
 refine E5 fun r=>?_
 rw [qB];constructor
 · rintro ⟨n,hn⟩;cases n with
   | zero=>simp [run] at hn
   | succ n =>
     simp only [run] at hn;cases hr:rY (n4 Φ (run Φ n)) loose ops σ with
     | none=>rw [hr] at hn;cases hn
     | some σ' =>
       rw [hr] at hn;rw [B7h (SY n) hr];exact hn
 · intro h;cases hr:rY (KI Φ) loose ops σ with
   | none=>rw [hr] at h;cases h
   | some σ' =>
     rw [hr] at h;obtain ⟨n,hn⟩:=C7s hr;exact ⟨n+1,by rw [run,hn];exact h⟩
theorem D04 (a b:MC)(σ:St):pq Φ (.seq a b) σ=match pq Φ a σ with | some (.normal,σ')=>pq Φ b σ' | r=>r:=by
 refine E5 fun r=>?_
 rw [qB];constructor
 · rintro ⟨n,hn⟩;cases n with
   | zero=>simp [run] at hn
   | succ n =>
     rw [run] at hn;cases ha:run Φ n a σ with
     | none=>rw [ha] at hn;cases hn
     | some x =>
       rw [qB.2 ⟨n,ha⟩];rw [ha] at hn;obtain ⟨e,σ1⟩:=x;cases e with
       | normal=>exact qB.2 ⟨n,hn⟩
       | exit id=>exact hn
       | ret=>exact hn
 · intro h;cases ha:pq Φ a σ with
   | none=>rw [ha] at h;cases h
   | some x =>
     rw [ha] at h;obtain ⟨n,hn⟩:=qB.1 ha;obtain ⟨e,σ1⟩:=x;cases e with
     | normal =>
       obtain ⟨m,hm⟩:=qB.1 h;refine ⟨max n m+1,?_⟩;rw [run,E4 (iP n m) hn];exact E4 (ik n m) hm
     | exit id=>exact ⟨n+1,by rw [run,hn];exact h⟩
     | ret=>exact ⟨n+1,by rw [run,hn];exact h⟩
theorem C9b (c:dO)(a b:MC)(σ:St):pq Φ (.cond c a b) σ=match cR σ.s c with | .p (.bool true)=>pq Φ a σ | .p (.bool false)=>pq Φ b σ | _=>none:=by
 refine E5 fun r=>?_
 rw [qB];constructor
 · rintro ⟨n,hn⟩;cases n with
   | zero=>simp [run] at hn
   | succ n =>
     rw [run] at hn;split at hn
     · rename_i hc;rw [hc];exact qB.2 ⟨n,hn⟩
     · rename_i hc;rw [hc];exact qB.2 ⟨n,hn⟩
     · cases hn
 · intro h;split at h
   · rename_i hc;obtain ⟨n,hn⟩:=qB.1 h;exact ⟨n+1,by rw [run,hc];exact hn⟩
   · rename_i hc;obtain ⟨n,hn⟩:=qB.1 h;exact ⟨n+1,by rw [run,hc];exact hn⟩
   · cases h
theorem C7t (id:Nat)(c:MC)(σ:St):pq Φ (.block id c) σ=match pq Φ c σ with | some (.exit j,σ')=>if j=id then some (.normal,σ') else some (.exit j,σ') | r=>r:=by
 refine E5 fun r=>?_
 rw [qB];constructor
 · rintro ⟨n,hn⟩;cases n with
   | zero=>simp [run] at hn
   | succ n =>
     rw [run] at hn;cases ha:run Φ n c σ with
     | none=>rw [ha] at hn;cases hn
     | some x=>rw [qB.2 ⟨n,ha⟩];rw [ha] at hn;exact hn
 · intro h;cases ha:pq Φ c σ with
   | none=>rw [ha] at h;cases h
   | some x =>
     obtain ⟨n,hn⟩:=qB.1 ha;rw [ha] at h;exact ⟨n+1,by rw [run,hn];exact h⟩
theorem C9c (ks ids:List Nat)(c:MC)(σ:St):pq Φ (.loop ks ids c) σ=match pq Φ c (rI ks ids σ) with | some (.normal,σ')=>pq Φ (.loop ks ids c) σ' | r=>r:=by
 refine E5 fun r=>?_
 constructor
 · intro h0;obtain ⟨n,hn⟩:=qB.1 h0;cases n with
   | zero=>simp [run] at hn
   | succ n =>
     rw [run] at hn;cases ha:run Φ n c (rI ks ids σ) with
     | none=>rw [ha] at hn;cases hn
     | some x =>
       rw [qB.2 ⟨n,ha⟩];rw [ha] at hn;obtain ⟨e,σ1⟩:=x;cases e with
       | normal=>exact qB.2 ⟨n,hn⟩
       | exit id=>exact hn
       | ret=>exact hn
 · intro h;refine qB.2 ?_;cases ha:pq Φ c (rI ks ids σ) with
   | none=>rw [ha] at h;cases h
   | some x =>
     rw [ha] at h;obtain ⟨n,hn⟩:=qB.1 ha;obtain ⟨e,σ1⟩:=x;cases e with
     | normal =>
       obtain ⟨m,hm⟩:=qB.1 h;refine ⟨max n m+1,?_⟩;rw [run,E4 (iP n m) hn];exact E4 (ik n m) hm
     | exit id=>exact ⟨n+1,by rw [run,hn];exact h⟩
     | ret=>exact ⟨n+1,by rw [run,hn];exact h⟩
theorem D21 {f:Nat}{F:qj}(h:Φ f=some (.code F))(args:List MV)(ext:List (Obj Nat)):KI Φ f args ext=match pq Φ F.body ⟨uV args,nq ext,1⟩ with
 | some (.normal,σ)=>xV F ext.length σ
 | some (.ret,σ)=>xV F ext.length σ
 | _=>none:=by
 unfold KI n4;rw [h];rfl
theorem S1 {f:Nat}{p:Prim}(h:Φ f=some (.qm p))(args:List MV)(ext:List (Obj Nat)):KI Φ f args ext=vn p args ext:=by
 unfold KI n4;rw [h]
end
def qT:List (Nat×MV)→gJ
 | [],_=>.dead 0
 | (j,v)::r,k=>if k=j then v else qT r k
def mw:List (Nat×Obj Nat)→cq
 | [],_=>none
 | (j,o)::r,k=>if k=j then some o else mw r k
def wN {α:Type}:List (Nat×α)→Nat→α→List (Nat×α)
 | [],k,v=>[(k,v)]
 | (j,u)::r,k,v=>if k=j then (k,v)::r else (j,u)::wN r k v
theorem D22 (l:List (Nat×MV))(k:Nat)(v:MV):cD (qT l) k v=qT (wN l k v):=by
 funext i
 induction l with
 | nil=>simp only [cD,qT,wN]
 | cons x r ih =>
   obtain ⟨j,u⟩:=x;simp only [cD,wN] at ih ⊢;by_cases E6:k=j
   · subst E6;by_cases A4:i=k<;>simp [qT,A4]
   · rw [if_neg E6];simp only [qT];by_cases gU:i=j
     · subst gU;simp [Ne.symm E6]
     · rw [if_neg gU,if_neg gU];exact ih
theorem C58 (l:List (Nat×Obj Nat))(k:Nat)(o:Obj Nat):cD (mw l) k (some o)=mw (wN l k o):=by
 funext i
 induction l with
 | nil=>simp only [cD,mw,wN]
 | cons x r ih =>
   obtain ⟨j,u⟩:=x;simp only [cD,wN] at ih ⊢;by_cases E6:k=j
   · subst E6;by_cases A4:i=k<;>simp [mw,A4]
   · rw [if_neg E6];simp only [mw];by_cases gU:i=j
     · subst gU;simp [Ne.symm E6]
     · rw [if_neg gU,if_neg gU];exact ih
def A5 (args:List MV):Nat→List (Nat×MV)
 | i=>match args with
   | []=>[]
   | v::r=>(i,v)::A5 r (i+1)
theorem C5u (args:List MV):uV args=qT (A5 args 0):=by
 have key:∀ (args:List MV) (i k:Nat),qT (A5 args i) k=if i≤k then args.getD (k-i) (.dead 0) else .dead 0:=by
  intro args
  induction args with
  | nil=>intro i k;simp [A5,qT]
  | cons v r ih =>
    intro i k;simp only [A5,qT];by_cases h:k=i
    · subst h;simp
    · rw [if_neg h,ih];by_cases h2:i≤k
      · rw [if_pos (by omega),if_pos h2,show k-i=(k-(i+1))+1 by omega]
        simp
      · rw [if_neg (by omega),if_neg h2]
 funext k;rw [key];simp [uV]
def B8 (ext:List (Obj Nat)):Nat→List (Nat×Obj Nat)
 | i=>match ext with
   | []=>[]
   | o::r=>(i,o)::B8 r (i+1)
theorem C7u (ext:List (Obj Nat)):nq ext=mw (B8 ext eB):=by
 have key:∀ (ext:List (Obj Nat)) (i k:Nat),mw (B8 ext i) k=if i≤k then ext[k-i]? else none:=by
  intro ext
  induction ext with
  | nil=>intro i k;simp [B8,mw]
  | cons v r ih =>
    intro i k;simp only [B8,mw];by_cases h:k=i
    · subst h;simp
    · rw [if_neg h,ih];by_cases h2:i≤k
      · rw [if_pos (by omega),if_pos h2,show k-i=(k-(i+1))+1 by omega]
        simp
      · rw [if_neg (by omega),if_neg h2]
 funext k;rw [key];rfl
def B9 (h:cq)(ids:List Nat)(s:gJ)(ks:List Nat):List (Nat×MV):=ks.map fun k=>(k,j6 h (tt ids) jP (s k))
def zG (h:cq)(ids:List Nat):List (Nat×Obj Nat)→List (Nat×Obj Nat)
 | []=>[]
 | (i,o)::r=>if wc ids i then (i,kO (j6 h (tt ids) jP) jP o)::zG h ids r else zG h ids r
theorem C1I (ks ids:List Nat)(l:List (Nat×MV))(m:List (Nat×Obj Nat))(n:Nat):rI ks ids ⟨qT l,mw m,n⟩=⟨qT (B9 (mw m) ids (qT l) ks),mw (zG (mw m) ids m),2⟩:=by
 unfold rI;congr 1
 · funext k;simp only [B9]
   induction ks with
   | nil=>rfl
   | cons j r ih =>
     simp only [aH,qT];by_cases h:k=j
     · subst h;simp
     · rw [if_neg h,← ih];simp [h]
 · funext i
   have:∀ q:List (Nat×Obj Nat),mw (zG (mw m) ids q) i=if wc ids i=true then (mw q i).map (kO (j6 (mw m) (tt ids) jP) jP) else none:=by
    intro q
    induction q with
    | nil=>simp [zG,mw]
    | cons x r ih =>
      obtain ⟨j,o⟩:=x;simp only [zG];by_cases gU:i=j
      · subst gU;by_cases hk:wc ids i=true
        · rw [if_pos hk,if_pos hk];simp [mw]
        · rw [if_neg hk,if_neg hk,ih,if_neg hk]
      · by_cases hk:wc ids j=true
        · rw [if_pos hk];simp only [mw,if_neg gU];exact ih
        · rw [if_neg hk];simp only [mw,if_neg gU];exact ih
   exact (this m).symm
end Go.Mid
namespace Go.Mid
def u9 (s:List (Nat×MV))(h:List (Nat×Obj Nat))(n:Nat):St:=⟨qT s,mw h,n⟩
section
variable {Φ:mz}
@[simp] theorem D7T (k:Nat):qT [] k=.dead 0:=rfl
@[simp] theorem D05 (j:Nat) (v:MV) (r:List (Nat×MV)) (k:Nat):qT ((j,v)::r) k=if k=j then v else qT r k:=rfl
@[simp] theorem D7U (k:Nat):mw [] k=none:=rfl
@[simp] theorem zH (j:Nat) (v:Obj Nat) (r:List (Nat×Obj Nat)) (k:Nat):mw ((j,v)::r) k=if k=j then some v else mw r k:=rfl
@[simp] theorem D7n {α:Type} (k:Nat) (v:α):wN [] k v=[(k,v)]:=rfl
@[simp] theorem D7a {α:Type} (j:Nat) (u:α) (r:List (Nat×α)) (k:Nat) (v:α):wN ((j,u)::r) k v=if k=j then (k,v)::r else (j,u)::wN r k v:=rfl
attribute [simp] C58
@[simp] theorem D7V (s:List (Nat×MV)) (h:List (Nat×Obj Nat)) (n:Nat):(⟨qT s,mw h,n⟩:St)=u9 s h n:=rfl
@[simp] theorem D74 (s:List (Nat×MV)) (h:List (Nat×Obj Nat)) (n:Nat):(u9 s h n).s=qT s:=rfl
@[simp] theorem D75 (s:List (Nat×MV)) (h:List (Nat×Obj Nat)) (n:Nat):(u9 s h n).h=mw h:=rfl
@[simp] theorem D71 (s:List (Nat×MV)) (h:List (Nat×Obj Nat)) (n:Nat):(u9 s h n).nx=n:=rfl
attribute [simp] C1G C3x C1H
@[simp] theorem D6g (K:jC) (g:Nat) (s:gJ) (h:cq):tV K g [] s h=some (s,h):=rfl
@[simp] theorem D7W (ks ids:List Nat) (s:List (Nat×MV)) (h:List (Nat×Obj Nat)) (n:Nat) :
   pq Φ (.gh (.bn ks ids)) (u9 s h n)=some (.normal,u9 (B9 (mw h) ids (qT s) ks) (zG (mw h) ids h) 2):=by
  rw [SZ];simp only [yL,u9,C1I]
@[simp] theorem C7v (ks ids:List Nat) (s:List (Nat×MV)) (h:List (Nat×Obj Nat)) (n:Nat) :
   rI ks ids (u9 s h n)=u9 (B9 (mw h) ids (qT s) ks) (zG (mw h) ids h) 2:=C1I ks ids s h n
@[simp] theorem D7o (c:Prop) [Decidable c] (a b:Bool):(if c then MV.p (.bool a) else MV.p (.bool b))=.p (.bool (if c then a else b)):=by split<;>rfl
end
@[simp] theorem D6n (h:cq) (ids:List Nat) (s:gJ):B9 h ids s []=[]:=rfl
@[simp] theorem D6h (h:cq) (ids:List Nat) (s:gJ) (k:Nat) (r:List Nat):B9 h ids s (k::r)=(k,j6 h (tt ids) jP (s k))::B9 h ids s r:=rfl
attribute [simp] cR zG cf wc tt yK wg Ar D1 PV.cs PV.dm wi tT Aw A5 B8 xV xU CL CM rL j6 sw sx kf mC js yF qc m4 kO jg jO yH xR mB rH pF uT Bo vm DX D6l callee DY tQ DZ o9 tN look lX rG vk w9 mZ Gc yJ c6 ew put dg T.cs T.dm MV.cs MV.dm okB rX jG zT zT.CI jP uP xP CM Mv
section
variable (k:IntKind)(n:Int)(b:Bool)(s:ByteArray)(l m:List PV)(v:PV)(f:Nat)(w:MV)(i o q g:Nat)(r:List Nat)(np:Option (List Nat))(ms:List MV)
@[simp] theorem D7b:(PV.int k n).isAgg=false:=rfl
@[simp] theorem D6o:(PV.bool b).isAgg=false:=rfl
@[simp] theorem D7c:(PV.str s).isAgg=false:=rfl
@[simp] theorem D7d:(PV.agg l).isAgg=true:=rfl
@[simp] theorem D7p:(PV.sl l).isAgg=false:=rfl
@[simp] theorem D7e:(PV.ref v).isAgg=false:=rfl
@[simp] theorem D7q:(PV.fn f l).isAgg=false:=rfl
@[simp] theorem D7r:(PV.mp l m).isAgg=false:=rfl
@[simp] theorem D6p:PV.eX.isAgg=false:=rfl
@[simp] theorem D6q:PV.ff.isAgg=false:=rfl
@[simp] theorem D7s:(MV.p v).isAgg=v.isAgg:=rfl
@[simp] theorem D6r:(MV.agg ms).isAgg=true:=rfl
@[simp] theorem D6s:(MV.own i r o q g).isAgg=false:=rfl
@[simp] theorem D6t:(MV.ptr i np r o q).isAgg=false:=rfl
@[simp] theorem D6i:(MV.fC i r g).isAgg=false:=rfl
@[simp] theorem D6u:(MV.nil i).isAgg=false:=rfl
@[simp] theorem D7f:(MV.fn i ms).isAgg=false:=rfl
@[simp] theorem D6v:(MV.eO ms).isAgg=false:=rfl
@[simp] theorem D6j:(MV.dead i).isAgg=false:=rfl
end
@[simp] theorem D6k (i:Nat):pc [] i=none:=rfl
@[simp] theorem S3 (x:Nat) (r:List Nat) (i:Nat):pc (x::r) i=if x=i then some 0 else (pc r i).map (· + 1):=by
  unfold pc;rw [List.findIdx?_cons];by_cases h:x=i
  · simp [h]
  · simp [h]
@[simp 1100] theorem D7X (n:Nat) (k:IntKind) (i:Int) (h0:0≤i) (h1:i<n):xT n (.p (.int k i))=some i.toNat:=by simp [xT,wi,h0,h1]
@[simp 1100] theorem D7Y (n:Nat) (k:IntKind) (i:Int) (h0:0≤i) (h1:i≤n):xe n (.p (.int k i))=some i.toNat:=by simp [xe,wi,h0,h1]
section
variable (k:IntKind)(a b:Int)
@[simp 1100] theorem D76 (h:a<b):jR .lss (.int k a) (.int k b)=some (.bool true):=by simp [jR,h]
@[simp 1100] theorem D77 (h:b≤a):jR .lss (.int k a) (.int k b)=some (.bool false):=by simp [jR];omega
@[simp 900] theorem D78:jR .lss (.int k a) (.int k b)=some (.bool (decide (a<b))):=by simp [jR]
@[simp 1100] theorem D79 (h:a≤b):jR .leq (.int k a) (.int k b)=some (.bool true):=by simp [jR,h]
@[simp 1100] theorem D8a (h:b<a):jR .leq (.int k a) (.int k b)=some (.bool false):=by simp [jR];omega
@[simp 900] theorem D8b:jR .leq (.int k a) (.int k b)=some (.bool (decide (a≤b))):=by simp [jR]
@[simp 1100] theorem D8c (h:b<a):jR .gtr (.int k a) (.int k b)=some (.bool true):=by simp [jR,h]
@[simp 1100] theorem D8d (h:a≤b):jR .gtr (.int k a) (.int k b)=some (.bool false):=by simp [jR];omega
@[simp 900] theorem D8e:jR .gtr (.int k a) (.int k b)=some (.bool (decide (b<a))):=by simp [jR]
@[simp 1100] theorem D8f (h:b≤a):jR .geq (.int k a) (.int k b)=some (.bool true):=by simp [jR,h]
@[simp 1100] theorem D8g (h:a<b):jR .geq (.int k a) (.int k b)=some (.bool false):=by simp [jR];omega
@[simp 900] theorem D8h:jR .geq (.int k a) (.int k b)=some (.bool (decide (b≤a))):=by simp [jR]
@[simp 1100] theorem D8i (h:a=b):jR .eql (.int k a) (.int k b)=some (.bool true):=by simp [jR,h]
@[simp 1100] theorem D8j (h:a≠b):jR .eql (.int k a) (.int k b)=some (.bool false):=by simp [jR,h]
@[simp 900] theorem D8k:jR .eql (.int k a) (.int k b)=some (.bool (decide (a=b))):=by simp [jR];rfl
@[simp 1100] theorem D8l (h:a≠b):jR .neq (.int k a) (.int k b)=some (.bool true):=by simp [jR,h]
@[simp 1100] theorem D8m (h:a=b):jR .neq (.int k a) (.int k b)=some (.bool false):=by simp [jR,h]
@[simp 900] theorem D8n:jR .neq (.int k a) (.int k b)=some (.bool (decide (a≠b))):=by simp [jR,bne];rfl
@[simp] theorem D8o:jR .add (.int k a) (.int k b)=some (.int k (k.wrap (a+b))):=by simp [jR]
@[simp] theorem D8p:jR .sub (.int k a) (.int k b)=some (.int k (k.wrap (a-b))):=by simp [jR]
@[simp] theorem D8q:jR .mul (.int k a) (.int k b)=some (.int k (k.wrap (a*b))):=by simp [jR]
end
@[simp 1100] theorem D8r (k k':IntKind) (a i:Nat) (h:i≤k.bits):jR .shr (.int k (a:Int)) (.int k' (i:Int))=some (.int k ((a >>> i:Nat):Int)):=by
  have h0:¬ ((i:Int)<0):=by omega
  have e:min (i:Int).toNat k.bits=i:=by rw [Int.toNat_natCast];exact Nat.min_eq_left h
  have h2:(a:Int).fdiv (2 ^ i)=((a >>> i:Nat):Int):=by
   rw [Nat.shiftRight_eq_div_pow,show ((2:Int) ^ i)=((2 ^ i:Nat):Int) by simp,Int.fdiv_eq_ediv_of_nonneg _ (Int.natCast_nonneg _)]
   exact (Int.natCast_ediv _ _).symm
  simp only [jR,h0,if_false,e,h2]
theorem C9d (n a b:Nat)(ha:a<2 ^ n)(hb:b<2 ^ n):(cl n (a:Int) &&& cl n (b:Int)).toNat=a &&& b:=by
 simp [fc ha,fc hb]
theorem D23 (a b:Nat)(ha:a<18446744073709551616)(hb:b<18446744073709551616):jR .and (.int .u64 (a:Int)) (.int .u64 (b:Int))=some (.int .u64 ((a &&& b:Nat):Int)):=by
 have h:a &&& b≤a:=iQ;have e:jR .and (.int .u64 (a:Int)) (.int .u64 (b:Int))=some (.int .u64 (IntKind.u64.wrap (cl 64 (a:Int) &&& cl 64 (b:Int)).toNat)):=rfl;rw [e,C9d 64 a b ha hb,IntWalk.u64_in _ ⟨by omega,by omega⟩]
theorem D24 (a b:Nat)(ha:a<4294967296)(hb:b<4294967296):jR .and (.int .u32 (a:Int)) (.int .u32 (b:Int))=some (.int .u32 ((a &&& b:Nat):Int)):=by
 have h:a &&& b≤a:=iQ;have e:jR .and (.int .u32 (a:Int)) (.int .u32 (b:Int))=some (.int .u32 (IntKind.u32.wrap (cl 32 (a:Int) &&& cl 32 (b:Int)).toNat)):=rfl;rw [e,C9d 32 a b ha hb,IntWalk.u32_in _ ⟨by omega,by omega⟩]
@[simp 1100] theorem D7t (a:Nat) (ha:a<18446744073709551616):jR .and (.int .u64 (a:Int)) (.int .u64 1)=some (.int .u64 ((a%2:Nat):Int)):=by
  have:=D23 a 1 ha (by omega)
  rw [iC] at this;exact this
@[simp 1100] theorem D7u (a:Nat) (ha:a<4294967296):jR .and (.int .u32 (a:Int)) (.int .u32 1)=some (.int .u32 ((a%2:Nat):Int)):=by
  have:=D24 a 1 ha (by omega)
  rw [iC] at this;exact this
attribute [simp] List.getElem?_cons_zero
attribute [simp 1100] List.take_of_length_le
attribute [simp] IntWalk.i64_in IntWalk.u64_in IntWalk.u8_in IntWalk.u32_in
def tv (l:List PV):List (T Nat):=l.map T.p
section
variable (l m:List PV)(g z:Nat)
@[simp] theorem S4:(tv l).length=l.length:=by simp [tv]
@[simp] theorem D7g:tv l++tv m=tv (l++m):=by simp [tv]
@[simp] theorem D7h (v:PV):tv l++[T.p v]=tv (l++[v]):=by simp [tv]
@[simp] theorem D7Z (n:Nat):(tv l).take n=tv (l.take n):=by simp [tv]
@[simp] theorem D70 (n:Nat):(tv l).drop n=tv (l.drop n):=by simp [tv]
@[simp] theorem D72:tv []=[]:=rfl
@[simp] theorem D73 (i:Nat):(tv l)[i]?=l[i]?.map T.p:=by simp [tv]
@[simp] theorem S5:mu (tv l)=some l:=by
  induction l with
  | nil=>rfl
  | cons x r ih=>simp only [tv,aH,mu] at ih ⊢;rw [ih]
@[simp] theorem D7i:lv (tv l)=some l:=by
  induction l with
  | nil=>rfl
  | cons x r ih=>simp only [tv,aH,lv,sO] at ih ⊢;rw [ih]
@[simp] theorem D06 (φ:MV→MV) (ζ:Nat→Nat):jO φ ζ (tv l)=tv l:=by
  induction l with
  | nil=>rfl
  | cons x r ih=>simp only [tv,aH,jO,jg] at ih ⊢;rw [ih]
@[simp] theorem C1J:nR g (tv l)=tv l:=D06 l _ _
@[simp] theorem D6w:nR g []=[]:=rfl
@[simp] theorem D4i (v:PV):nR g [T.p v]=[T.p v]:=rfl
@[simp] theorem S6:(tv l).all tu=true:=by simp [tv,tu]
@[simp] theorem D07:pI z (tv l)=l.all fun v=>v.cs==z:=by simp [tv,pI,T.cs];rfl
@[simp] theorem D7j:pI z []=true:=rfl
@[simp] theorem B80 (t:T Nat) (r:List (T Nat)):pI z (t::r)=(t.cs==z&&pI z r):=rfl
@[simp] theorem D7k:oV (tv l)=[]:=by
  induction l with
  | nil=>rfl
  | cons x r ih=>simp only [tv,aH,oV,tq,List.nil_append] at ih ⊢;rw [ih]
@[simp] theorem D7l:uS (tv l)=l.all vm:=by
  induction l with
  | nil=>rfl
  | cons x r ih=>simp only [tv,aH,uS,yG,List.all_cons] at ih ⊢;rw [ih]
end
@[simp] theorem D7v (h:cq) (l:List PV):elems h (.p (.sl l))=some (tv l):=rfl
@[simp] theorem D7m (h:cq) (z:Nat):elems h (.nil z)=some (tv []):=rfl
attribute [simp] yE eB kP
@[simp] theorem D7w (K:jC) (g:Nat) (s:gJ) (h:cq):tY K g [] s h=[]:=rfl
section
variable {α β:Type}
end
end Go.Mid
