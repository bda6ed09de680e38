/- The run without a number of rounds: its equations. -/
import Derived.Test.YtibenanokfodaaaM6
import Derived.IntWalk
namespace Go.Mid
set_option linter.unusedSimpArgs false
set_option linter.unusedVariables false
def KLe (K K':A0v):Prop:=∀ f args ext r,K f args ext=some r→K' f args ext=some r
theorem KLe.refl (K:A0v):KLe K K:=fun _ _ _ _ h=>h
theorem KLe.trans {K K' K'':A0v} (h:KLe K K') (k:KLe K' K''):KLe K K'':=fun f a e r hr=>k f a e r (h f a e r hr)
theorem C00 {K K':A0v} (hk:KLe K K') {g:Nat} {d:Option Nat} {s:A0m} {h:A0b} {op:MOp} {x:MV×A0b} (he:A0a K g d s h op=some x):A0a K' g d s h op=some x:=by
 cases op with
 | call md f args =>
   simp only [A0a] at he ⊢
   split at he
   · rename_i f0 cs hc
     split at he
     · unfold A3Z at he ⊢
       split at he
       · rename_i vs hvs
         cases hK:K f0 (vs.map .p) [] with
         | none=>rw [hK] at he; simp [A3Y] at he
         | some r =>
           rw [hK] at he
           rw [hk _ _ _ _ hK]
           exact he
       · cases he
     · unfold A3I at he ⊢
       dsimp only at he ⊢
       split at he
       · cases he
       · split at he
         · cases he
         · rename_i r ext esc hK
           rw [hk _ _ _ _ hK]
           exact he
     · unfold A4C at he ⊢
       split at he
       · rename_i vs hvs
         split at he
         · rename_i r esc hK
           rw [hk _ _ _ _ hK]
           exact he
         · cases he
       · cases he
   · cases he
 | _=>exact he
theorem B2I {K K':A0v} (hk:KLe K K') {g:Nat} {i:Ins} {s:A0m} {h:A0b} {x:A0m×A0b} (he:A0W K g i s h=some x):A0W K' g i s h=some x:=by
 unfold A0W at he ⊢
 split at he
 · split at he
   · rename_i v h' hv
     rw [C00 hk hv]
     exact he
   · cases he
 · exact he
 · cases he
theorem A7e {K K':A0v} (hk:KLe K K'):∀ {l:List Ins} {g:Nat} {s:A0m} {h:A0b} {x:A0m×A0b},A2H K g l s h=some x→A2H K' g l s h=some x∧A5D K' g l s h=A5D K g l s h
 | [],g,s,h,x,he=>⟨he,rfl⟩
 | i::r,g,s,h,x,he=>by
   simp only [A2H] at he ⊢
   split at he
   · rename_i s1 h1 hi
     obtain ⟨q1,q2⟩:=A7e hk he
     simp only [A5D,hi,B2I hk hi,q1,q2,and_self]
   · cases he
theorem B39 {K K':A0v} (hk:KLe K K') {loose:List (Nat×Nat)} {ops:List Ins} {σ σ':St} (he:A2v K loose ops σ=some σ'):A2v K' loose ops σ=some σ':=by
 unfold A2v at he ⊢
 split at he
 · rename_i s h hst
   obtain ⟨q1,q2⟩:=A7e hk hst
   rw [q1,q2]
   exact he
 · cases he
theorem B1q {Φ:Tbl} {R R':MC→St→Option (Ex×St)} (h:∀ c σ r,R c σ=some r→R' c σ=some r):KLe (A1D Φ R) (A1D Φ R'):=by
 intro f args ext r hr
 unfold A1D at hr ⊢
 split at hr
 · cases hr
 · exact hr
 · rename_i F hF
   cases hR:R F.body ⟨A2o args,A0S ext,1⟩ with
   | none=>rw [hR] at hr; cases hr
   | some x =>
     rw [hR] at hr
     simp only [h _ _ _ hR]
     exact hr
theorem C5t {Φ:Tbl}:∀ {n:Nat} {c:MC} {σ:St} {r:Ex×St},run Φ n c σ=some r→run Φ (n + 1) c σ=some r:=by
 intro n
 induction n with
 | zero=>intro c σ r h; simp [run] at h
 | succ n ih =>
   intro c σ r h
   cases c with
   | reg loose ops =>
     rw [run] at h ⊢
     cases hr:A2v (A1D Φ (run Φ n)) loose ops σ with
     | none=>rw [hr] at h; cases h
     | some σ' =>
       rw [hr] at h
       rw [B39 (B1q fun c σ r=>ih) hr]
       exact h
   | seq a b =>
     rw [run] at h ⊢
     cases ha:run Φ n a σ with
     | none=>rw [ha] at h; cases h
     | some x =>
       rw [ha] at h
       rw [ih ha]
       obtain ⟨e,σ1⟩:=x
       cases e with
       | normal=>exact ih h
       | exit id=>exact h
       | ret=>exact h
   | cond c a b =>
     rw [run] at h ⊢
     split at h
     · exact ih h
     · exact ih h
     · cases h
   | block id c =>
     rw [run] at h ⊢
     cases ha:run Φ n c σ with
     | none=>rw [ha] at h; cases h
     | some x=>rw [ha] at h; rw [ih ha]; exact h
   | loop ks ids c =>
     rw [run] at h ⊢
     cases ha:run Φ n c (A2m ks ids σ) with
     | none=>rw [ha] at h; cases h
     | some x =>
       rw [ha] at h
       rw [ih ha]
       obtain ⟨e,σ1⟩:=x
       cases e with
       | normal=>exact ih h
       | exit id=>exact h
       | ret=>exact h
   | _=>rw [run] at h ⊢; exact h
theorem A5I {Φ:Tbl} {n m:Nat} (hnm:n ≤ m) {c:MC} {σ:St} {r:Ex×St} (h:run Φ n c σ=some r):run Φ m c σ=some r:=by
 induction hnm with
 | refl=>exact h
 | step _ ih=>exact C5t ih
theorem B7Y {Φ:Tbl} {n m:Nat} (hnm:n ≤ m):KLe (A1D Φ (run Φ n)) (A1D Φ (run Φ m)):=B1q fun _ _ _ h=>A5I hnm h
open Classical in
noncomputable def A2B (Φ:Tbl) (c:MC) (σ:St):Option (Ex×St):=if h:∃ n r,run Φ n c σ=some r then some h.choose_spec.choose else none
noncomputable def KI (Φ:Tbl):A0v:=A1D Φ (A2B Φ)
section
variable {Φ:Tbl}
theorem A1c {c:MC} {σ:St} {r:Ex×St}:A2B Φ c σ=some r↔∃ n,run Φ n c σ=some r:=by
 unfold A2B
 constructor
 · intro h
   split at h
   · rename_i hex
     simp only [Option.some.injEq] at h
     exact ⟨hex.choose,by rw [← h]; exact hex.choose_spec.choose_spec⟩
   · cases h
 · rintro ⟨n,hn⟩
   have hex:∃ n r,run Φ n c σ=some r:=⟨n,r,hn⟩
   rw [dif_pos hex]
   have h1:=hex.choose_spec.choose_spec
   have h2:=A5I (Nat.le_max_left hex.choose n) h1
   have h3:=A5I (Nat.le_max_right hex.choose n) hn
   rw [h2] at h3
   exact h3
theorem A89 {α:Type} {x y:Option α} (h:∀ r,x=some r↔y=some r):x=y:=by
 cases x with
 | none =>
   cases y with
   | none=>rfl
   | some r=>exact absurd ((h r).2 rfl) (by simp)
 | some r=>exact ((h r).1 rfl).symm
theorem C2B (n:Nat):KLe (A1D Φ (run Φ n)) (KI Φ):=B1q fun c σ r h=>A1c.2 ⟨n,h⟩
theorem B5A {f:Nat} {args:List MV} {ext:List (Obj Nat)} {r:Ret} (h:KI Φ f args ext=some r):∃ n,A1D Φ (run Φ n) f args ext=some r:=by
 unfold KI A1D at h
 split at h
 · cases h
 · rename_i p hp
   exact ⟨0,by unfold A1D; rw [hp]; exact h⟩
 · rename_i F hF
   cases hR:A2B Φ F.body ⟨A2o args,A0S ext,1⟩ with
   | none=>rw [hR] at h; cases h
   | some x =>
     rw [hR] at h
     obtain ⟨n,hn⟩:=A1c.1 hR
     refine ⟨n,?_⟩
     unfold A1D
     rw [hF]
     simp only [hn]
     exact h
theorem C2C {g:Nat} {d:Option Nat} {s:A0m} {h:A0b} {op:MOp} {x:MV×A0b} (he:A0a (KI Φ) g d s h op=some x):∃ n,A0a (A1D Φ (run Φ n)) g d s h op=some x:=by
 cases op with
 | call md f args =>
   simp only [A0a] at he ⊢
   split at he
   · rename_i f0 cs hc
     split at he
     · unfold A3Z at he
       split at he
       · rename_i vs hvs
         cases hK:KI Φ f0 (vs.map .p) [] with
         | none=>rw [hK] at he; simp [A3Y] at he
         | some r =>
           obtain ⟨n,hn⟩:=B5A hK
           refine ⟨n,?_⟩
           unfold A3Z
           rw [hK] at he
           simp only [hvs,hn]
           exact he
       · cases he
     · unfold A3I at he
       dsimp only at he
       split at he
       · cases he
       · rename_i objs hobjs
         split at he
         · cases he
         · rename_i r ext esc hK
           obtain ⟨n,hn⟩:=B5A hK
           refine ⟨n,?_⟩
           unfold A3I
           simp only [hobjs,hn]
           exact he
     · unfold A4C at he
       split at he
       · rename_i vs hvs
         split at he
         · rename_i r esc hK
           obtain ⟨n,hn⟩:=B5A hK
           refine ⟨n,?_⟩
           unfold A4C
           simp only [hvs,hn]
           exact he
         · cases he
       · cases he
   · cases he
 | _=>exact ⟨0,he⟩
theorem B4a:∀ {l:List Ins} {g:Nat} {s:A0m} {h:A0b} {x:A0m×A0b},A2H (KI Φ) g l s h=some x→∃ n,A2H (A1D Φ (run Φ n)) g l s h=some x
 | [],g,s,h,x,he=>⟨0,he⟩
 | i::r,g,s,h,x,he=>by
   simp only [A2H] at he
   split at he
   · rename_i s1 h1 hi
     obtain ⟨m,hm⟩:=B4a he
     have hstep:∃ n,A0W (A1D Φ (run Φ n)) g i s h=some (s1,h1):=by
      unfold A0W at hi ⊢
      split at hi
      · split at hi
        · rename_i v h' hv
          obtain ⟨n,hn⟩:=C2C hv
          exact ⟨n,by rw [hn]; exact hi⟩
        · cases hi
      · exact ⟨0,hi⟩
      · cases hi
     obtain ⟨n,hn⟩:=hstep
     refine ⟨max n m,?_⟩
     simp only [A2H,B2I (B7Y (Nat.le_max_left n m)) hn]
     exact (A7e (B7Y (Nat.le_max_right n m)) hm).1
   · cases he
theorem C2D {loose:List (Nat×Nat)} {ops:List Ins} {σ σ':St} (he:A2v (KI Φ) loose ops σ=some σ'):∃ n,A2v (A1D Φ (run Φ n)) loose ops σ=some σ':=by
 unfold A2v at he
 split at he
 · rename_i s h hst
   obtain ⟨n,hn⟩:=B4a hst
   refine ⟨n,?_⟩
   obtain ⟨q1,q2⟩:=A7e (C2B n) hn
   unfold A2v
   rw [hn,← q2]
   exact he
 · cases he
theorem B7Z (σ:St):A2B Φ .skip σ=some (.normal,σ):=A1c.2 ⟨1,rfl⟩
theorem B9L (σ:St):A2B Φ .ret σ=some (.ret,σ):=A1c.2 ⟨1,rfl⟩
theorem B70 (id:Nat) (σ:St):A2B Φ (.exit id) σ=some (.exit id,σ):=A1c.2 ⟨1,rfl⟩
theorem B6R (g:Gh) (σ:St):A2B Φ (.gh g) σ=match A6Z g σ with | some σ'=>some (.normal,σ') | none=>none:=by
 refine A89 fun r=>?_
 rw [A1c]
 constructor
 · rintro ⟨n,hn⟩
   cases n with
   | zero=>simp [run] at hn
   | succ n=>exact hn
 · intro h; exact ⟨1,h⟩
theorem C5u (loose:List (Nat×Nat)) (ops:List Ins) (σ:St):A2B Φ (.reg loose ops) σ=match A2v (KI Φ) loose ops σ with | some σ'=>some (.normal,σ') | none=>none:=by
 refine A89 fun r=>?_
 rw [A1c]
 constructor
 · rintro ⟨n,hn⟩
   cases n with
   | zero=>simp [run] at hn
   | succ n =>
     simp only [run] at hn
     cases hr:A2v (A1D Φ (run Φ n)) loose ops σ with
     | none=>rw [hr] at hn; cases hn
     | some σ' =>
       rw [hr] at hn
       rw [B39 (C2B n) hr]
       exact hn
 · intro h
   cases hr:A2v (KI Φ) loose ops σ with
   | none=>rw [hr] at h; cases h
   | some σ' =>
     rw [hr] at h
     obtain ⟨n,hn⟩:=C2D hr
     exact ⟨n + 1,by rw [run,hn]; exact h⟩
theorem C5v (a b:MC) (σ:St):A2B Φ (.seq a b) σ=match A2B Φ a σ with | some (.normal,σ')=>A2B Φ b σ' | r=>r:=by
 refine A89 fun r=>?_
 rw [A1c]
 constructor
 · rintro ⟨n,hn⟩
   cases n with
   | zero=>simp [run] at hn
   | succ n =>
     rw [run] at hn
     cases ha:run Φ n a σ with
     | none=>rw [ha] at hn; cases hn
     | some x =>
       rw [A1c.2 ⟨n,ha⟩]
       rw [ha] at hn
       obtain ⟨e,σ1⟩:=x
       cases e with
       | normal=>exact A1c.2 ⟨n,hn⟩
       | exit id=>exact hn
       | ret=>exact hn
 · intro h
   cases ha:A2B Φ a σ with
   | none=>rw [ha] at h; cases h
   | some x =>
     rw [ha] at h
     obtain ⟨n,hn⟩:=A1c.1 ha
     obtain ⟨e,σ1⟩:=x
     cases e with
     | normal =>
       obtain ⟨m,hm⟩:=A1c.1 h
       refine ⟨max n m + 1,?_⟩
       rw [run,A5I (Nat.le_max_left n m) hn]
       exact A5I (Nat.le_max_right n m) hm
     | exit id=>exact ⟨n + 1,by rw [run,hn]; exact h⟩
     | ret=>exact ⟨n + 1,by rw [run,hn]; exact h⟩
theorem C34 (c:Opd) (a b:MC) (σ:St):A2B Φ (.cond c a b) σ=match evO σ.s c with | .p (.bool true)=>A2B Φ a σ | .p (.bool false)=>A2B Φ b σ | _=>none:=by
 refine A89 fun r=>?_
 rw [A1c]
 constructor
 · rintro ⟨n,hn⟩
   cases n with
   | zero=>simp [run] at hn
   | succ n =>
     rw [run] at hn
     split at hn
     · rename_i hc; rw [hc]; exact A1c.2 ⟨n,hn⟩
     · rename_i hc; rw [hc]; exact A1c.2 ⟨n,hn⟩
     · cases hn
 · intro h
   split at h
   · rename_i hc
     obtain ⟨n,hn⟩:=A1c.1 h
     exact ⟨n + 1,by rw [run,hc]; exact hn⟩
   · rename_i hc
     obtain ⟨n,hn⟩:=A1c.1 h
     exact ⟨n + 1,by rw [run,hc]; exact hn⟩
   · cases h
theorem C2E (id:Nat) (c:MC) (σ:St):A2B Φ (.block id c) σ=match A2B Φ c σ with | some (.exit j,σ')=>if j=id then some (.normal,σ') else some (.exit j,σ') | r=>r:=by
 refine A89 fun r=>?_
 rw [A1c]
 constructor
 · rintro ⟨n,hn⟩
   cases n with
   | zero=>simp [run] at hn
   | succ n =>
     rw [run] at hn
     cases ha:run Φ n c σ with
     | none=>rw [ha] at hn; cases hn
     | some x=>rw [A1c.2 ⟨n,ha⟩]; rw [ha] at hn; exact hn
 · intro h
   cases ha:A2B Φ c σ with
   | none=>rw [ha] at h; cases h
   | some x =>
     obtain ⟨n,hn⟩:=A1c.1 ha
     rw [ha] at h
     exact ⟨n + 1,by rw [run,hn]; exact h⟩
theorem C35 (ks ids:List Nat) (c:MC) (σ:St):A2B Φ (.loop ks ids c) σ=match A2B Φ c (A2m ks ids σ) with | some (.normal,σ')=>A2B Φ (.loop ks ids c) σ' | r=>r:=by
 refine A89 fun r=>?_
 constructor
 · intro h0
   obtain ⟨n,hn⟩:=A1c.1 h0
   cases n with
   | zero=>simp [run] at hn
   | succ n =>
     rw [run] at hn
     cases ha:run Φ n c (A2m ks ids σ) with
     | none=>rw [ha] at hn; cases hn
     | some x =>
       rw [A1c.2 ⟨n,ha⟩]
       rw [ha] at hn
       obtain ⟨e,σ1⟩:=x
       cases e with
       | normal=>exact A1c.2 ⟨n,hn⟩
       | exit id=>exact hn
       | ret=>exact hn
 · intro h
   refine A1c.2 ?_
   cases ha:A2B Φ c (A2m ks ids σ) with
   | none=>rw [ha] at h; cases h
   | some x =>
     rw [ha] at h
     obtain ⟨n,hn⟩:=A1c.1 ha
     obtain ⟨e,σ1⟩:=x
     cases e with
     | normal =>
       obtain ⟨m,hm⟩:=A1c.1 h
       refine ⟨max n m + 1,?_⟩
       rw [run,A5I (Nat.le_max_left n m) hn]
       exact A5I (Nat.le_max_right n m) hm
     | exit id=>exact ⟨n + 1,by rw [run,hn]; exact h⟩
     | ret=>exact ⟨n + 1,by rw [run,hn]; exact h⟩
theorem C66 {f:Nat} {F:MFun} (h:Φ f=some (.code F)) (args:List MV) (ext:List (Obj Nat)):KI Φ f args ext=match A2B Φ F.body ⟨A2o args,A0S ext,1⟩ with
 | some (.normal,σ)=>A5g F ext.length σ
 | some (.ret,σ)=>A5g F ext.length σ
 | _=>none:=by
 unfold KI A1D
 rw [h]
 rfl
theorem B6S {f:Nat} {p:Prim} (h:Φ f=some (.prim p)) (args:List MV) (ext:List (Obj Nat)):KI Φ f args ext=A60 p args ext:=by
 unfold KI A1D
 rw [h]
end
def mkS:List (Nat×MV)→A0m
 | [],_=>.dead 0
 | (j,v)::r,k=>if k=j then v else mkS r k
def mkH:List (Nat×Obj Nat)→A0b
 | [],_=>none
 | (j,o)::r,k=>if k=j then some o else mkH r k
def A7f {α:Type}:List (Nat×α)→Nat→α→List (Nat×α)
 | [],k,v=>[(k,v)]
 | (j,u)::r,k,v=>if k=j then (k,v)::r else (j,u)::A7f r k v
theorem C67 (l:List (Nat×MV)) (k:Nat) (v:MV):upd (mkS l) k v=mkS (A7f l k v):=by
 funext i
 induction l with
 | nil=>simp only [upd,mkS,A7f]
 | cons x r ih =>
   obtain ⟨j,u⟩:=x
   simp only [upd,A7f] at ih ⊢
   by_cases hkj:k=j
   · subst hkj
     by_cases hik:i=k <;> simp [mkS,hik]
   · rw [if_neg hkj]
     simp only [mkS]
     by_cases hij:i=j
     · subst hij
       simp [Ne.symm hkj]
     · rw [if_neg hij,if_neg hij]; exact ih
theorem C1s (l:List (Nat×Obj Nat)) (k:Nat) (o:Obj Nat):upd (mkH l) k (some o)=mkH (A7f l k o):=by
 funext i
 induction l with
 | nil=>simp only [upd,mkH,A7f]
 | cons x r ih =>
   obtain ⟨j,u⟩:=x
   simp only [upd,A7f] at ih ⊢
   by_cases hkj:k=j
   · subst hkj
     by_cases hik:i=k <;> simp [mkH,hik]
   · rw [if_neg hkj]
     simp only [mkH]
     by_cases hij:i=j
     · subst hij
       simp [Ne.symm hkj]
     · rw [if_neg hij,if_neg hij]; exact ih
def B0l (args:List MV):Nat→List (Nat×MV)
 | i=>match args with
   | []=>[]
   | v::r=>(i,v)::B0l r (i + 1)
theorem C01 (args:List MV):A2o args=mkS (B0l args 0):=by
 have key:∀ (args:List MV) (i k:Nat),mkS (B0l args i) k=if i ≤ k then args.getD (k - i) (.dead 0) else .dead 0:=by
  intro args
  induction args with
  | nil=>intro i k; simp [B0l,mkS]
  | cons v r ih =>
    intro i k
    simp only [B0l,mkS]
    by_cases h:k=i
    · subst h; simp
    · rw [if_neg h,ih]
      by_cases h2:i ≤ k
      · rw [if_pos (by omega),if_pos h2,show k - i=(k - (i + 1)) + 1 by omega]
        simp
      · rw [if_neg (by omega),if_neg h2]
 funext k
 rw [key]
 simp [A2o]
def B1r (ext:List (Obj Nat)):Nat→List (Nat×Obj Nat)
 | i=>match ext with
   | []=>[]
   | o::r=>(i,o)::B1r r (i + 1)
theorem C2F (ext:List (Obj Nat)):A0S ext=mkH (B1r ext A0e):=by
 have key:∀ (ext:List (Obj Nat)) (i k:Nat),mkH (B1r ext i) k=if i ≤ k then ext[k - i]? else none:=by
  intro ext
  induction ext with
  | nil=>intro i k; simp [B1r,mkH]
  | cons v r ih =>
    intro i k
    simp only [B1r,mkH]
    by_cases h:k=i
    · subst h; simp
    · rw [if_neg h,ih]
      by_cases h2:i ≤ k
      · rw [if_pos (by omega),if_pos h2,show k - i=(k - (i + 1)) + 1 by omega]
        simp
      · rw [if_neg (by omega),if_neg h2]
 funext k
 rw [key]
 rfl
def A7g (h:A0b) (ids:List Nat) (s:A0m) (ks:List Nat):List (Nat×MV):=ks.map fun k=>(k,A0w h (A2t ids) A0l (s k))
def A5J (h:A0b) (ids:List Nat):List (Nat×Obj Nat)→List (Nat×Obj Nat)
 | []=>[]
 | (i,o)::r=>if A5y ids i then (i,A00 (A0w h (A2t ids) A0l) A0l o)::A5J h ids r else A5J h ids r
theorem B71 (ks ids:List Nat) (l:List (Nat×MV)) (m:List (Nat×Obj Nat)) (n:Nat):A2m ks ids ⟨mkS l,mkH m,n⟩=⟨mkS (A7g (mkH m) ids (mkS l) ks),mkH (A5J (mkH m) ids m),2⟩:=by
 unfold A2m
 congr 1
 · funext k
   simp only [A7g]
   induction ks with
   | nil=>rfl
   | cons j r ih =>
     simp only [List.map_cons,mkS]
     by_cases h:k=j
     · subst h; simp
     · rw [if_neg h,← ih]
       simp [h]
 · funext i
   have:∀ q:List (Nat×Obj Nat),mkH (A5J (mkH m) ids q) i=if A5y ids i=true then (mkH q i).map (A00 (A0w (mkH m) (A2t ids) A0l) A0l) else none:=by
    intro q
    induction q with
    | nil=>simp [A5J,mkH]
    | cons x r ih =>
      obtain ⟨j,o⟩:=x
      simp only [A5J]
      by_cases hij:i=j
      · subst hij
        by_cases hk:A5y ids i=true
        · rw [if_pos hk,if_pos hk]; simp [mkH]
        · rw [if_neg hk,if_neg hk,ih,if_neg hk]
      · by_cases hk:A5y ids j=true
        · rw [if_pos hk]; simp only [mkH,if_neg hij]; exact ih
        · rw [if_neg hk]; simp only [mkH,if_neg hij]; exact ih
   exact (this m).symm
end Go.Mid
/- Running code on list states. -/
namespace Go.Mid
set_option linter.unusedSimpArgs false
set_option linter.unusedVariables false
def stL (s:List (Nat×MV)) (h:List (Nat×Obj Nat)) (n:Nat):St:=⟨mkS s,mkH h,n⟩
section
variable {Φ:Tbl}
@[simp] theorem D0e (k:Nat):mkS [] k=.dead 0:=rfl
@[simp] theorem C5w (j:Nat) (v:MV) (r:List (Nat×MV)) (k:Nat):mkS ((j,v)::r) k=if k=j then v else mkS r k:=rfl
@[simp] theorem D0f (k:Nat):mkH [] k=none:=rfl
@[simp] theorem A37 (j:Nat) (v:Obj Nat) (r:List (Nat×Obj Nat)) (k:Nat):mkH ((j,v)::r) k=if k=j then some v else mkH r k:=rfl
@[simp] theorem C9G {α:Type} (k:Nat) (v:α):A7f [] k v=[(k,v)]:=rfl
@[simp] theorem C9t {α:Type} (j:Nat) (u:α) (r:List (Nat×α)) (k:Nat) (v:α):A7f ((j,u)::r) k v=if k=j then (k,v)::r else (j,u)::A7f r k v:=rfl
attribute [simp] C1s
@[simp] theorem D0g (s:List (Nat×MV)) (h:List (Nat×Obj Nat)) (n:Nat):(⟨mkS s,mkH h,n⟩:St)=stL s h n:=rfl
@[simp] theorem D0p (s:List (Nat×MV)) (h:List (Nat×Obj Nat)) (n:Nat):(stL s h n).s=mkS s:=rfl
@[simp] theorem D0q (s:List (Nat×MV)) (h:List (Nat×Obj Nat)) (n:Nat):(stL s h n).h=mkH h:=rfl
@[simp] theorem D0m (s:List (Nat×MV)) (h:List (Nat×Obj Nat)) (n:Nat):(stL s h n).nx=n:=rfl
attribute [simp] B7Z B9L B70
@[simp] theorem C81 (K:A0v) (g:Nat) (s:A0m) (h:A0b):A2H K g [] s h=some (s,h):=rfl
@[simp] theorem D0h (ks ids:List Nat) (s:List (Nat×MV)) (h:List (Nat×Obj Nat)) (n:Nat) :
   A2B Φ (.gh (.keep ks ids)) (stL s h n)=some (.normal,stL (A7g (mkH h) ids (mkS s) ks) (A5J (mkH h) ids h) 2):=by
  rw [B6R]
  simp only [A6Z,stL,B71]
@[simp] theorem C2G (ks ids:List Nat) (s:List (Nat×MV)) (h:List (Nat×Obj Nat)) (n:Nat) :
   A2m ks ids (stL s h n)=stL (A7g (mkH h) ids (mkS s) ks) (A5J (mkH h) ids h) 2:=B71 ks ids s h n
@[simp] theorem C9H (c:Prop) [Decidable c] (a b:Bool):(if c then MV.p (.bool a) else MV.p (.bool b))=.p (.bool (if c then a else b)):=by split <;> rfl
end
@[simp] theorem C89 (h:A0b) (ids:List Nat) (s:A0m):A7g h ids s []=[]:=rfl
@[simp] theorem C82 (h:A0b) (ids:List Nat) (s:A0m) (k:Nat) (r:List Nat):A7g h ids s (k::r)=(k,A0w h (A2t ids) A0l (s k))::A7g h ids s r:=rfl
attribute [simp] evO A5J A0a A5y A2t A6X A6W A7R isB PV.cs PV.css asI A3q A5r B0l B1r A5g A4o A6H A6I sfM A0w A13 A2F A0G A0O A0p A6V A17 A0J A00 A0L A0B A3Z A3Y A08 A2l A2S A2e A4Z A4q A8V C86 callee A3x A5o A1Q A3p look A0Y A4m A6w A5U A0I A8M A31 A0c A0h put putT T.cs T.css MV.cs MV.css okB A3l A0D zT zT.zTs A0l A4M A6p A6I B45
section
variable (k:IntKind) (n:Int) (b:Bool) (s:ByteArray) (l m:List PV) (v:PV) (f:Nat) (w:MV) (i o q g:Nat) (r:List Nat) (np:Option (List Nat)) (ms:List MV)
@[simp] theorem C9u:(PV.int k n).isAgg=false:=rfl
@[simp] theorem C9a:(PV.bool b).isAgg=false:=rfl
@[simp] theorem C9v:(PV.str s).isAgg=false:=rfl
@[simp] theorem C9w:(PV.agg l).isAgg=true:=rfl
@[simp] theorem C9I:(PV.sl l).isAgg=false:=rfl
@[simp] theorem C9x:(PV.ref v).isAgg=false:=rfl
@[simp] theorem C9J:(PV.fn f l).isAgg=false:=rfl
@[simp] theorem C9K:(PV.mp l m).isAgg=false:=rfl
@[simp] theorem C9b:PV.nilp.isAgg=false:=rfl
@[simp] theorem C9c:PV.nilf.isAgg=false:=rfl
@[simp] theorem C9L:(MV.p v).isAgg=v.isAgg:=rfl
@[simp] theorem C9d:(MV.agg ms).isAgg=true:=rfl
@[simp] theorem C9e:(MV.own i r o q g).isAgg=false:=rfl
@[simp] theorem C9f:(MV.ptr i np r o q).isAgg=false:=rfl
@[simp] theorem C83:(MV.mref i r g).isAgg=false:=rfl
@[simp] theorem C9g:(MV.nil i).isAgg=false:=rfl
@[simp] theorem C9y:(MV.fn i ms).isAgg=false:=rfl
@[simp] theorem C9h:(MV.tup ms).isAgg=false:=rfl
@[simp] theorem C84:(MV.dead i).isAgg=false:=rfl
end
@[simp] theorem C85 (i:Nat):A03 [] i=none:=rfl
@[simp] theorem A9a (x:Nat) (r:List Nat) (i:Nat):A03 (x::r) i=if x=i then some 0 else (A03 r i).map (· + 1):=by
  unfold A03
  rw [List.findIdx?_cons]
  by_cases h:x=i
  · simp [h]
  · simp [h]
@[simp 1100] theorem D0i (n:Nat) (k:IntKind) (i:Int) (h0:0 ≤ i) (h1:i < n):A8j n (.p (.int k i))=some i.toNat:=by simp [A8j,asI,h0,h1]
@[simp 1100] theorem D0j (n:Nat) (k:IntKind) (i:Int) (h0:0 ≤ i) (h1:i ≤ n):A7w n (.p (.int k i))=some i.toNat:=by simp [A7w,asI,h0,h1]
section
variable (k:IntKind) (a b:Int)
@[simp 1100] theorem D0r (h:a < b):A0N .lss (.int k a) (.int k b)=some (.bool true):=by simp [A0N,h]
@[simp 1100] theorem D0s (h:b ≤ a):A0N .lss (.int k a) (.int k b)=some (.bool false):=by simp [A0N]; omega
@[simp 900] theorem D0t:A0N .lss (.int k a) (.int k b)=some (.bool (decide (a < b))):=by simp [A0N]
@[simp 1100] theorem D0u (h:a ≤ b):A0N .leq (.int k a) (.int k b)=some (.bool true):=by simp [A0N,h]
@[simp 1100] theorem D0v (h:b < a):A0N .leq (.int k a) (.int k b)=some (.bool false):=by simp [A0N]; omega
@[simp 900] theorem D0w:A0N .leq (.int k a) (.int k b)=some (.bool (decide (a ≤ b))):=by simp [A0N]
@[simp 1100] theorem D0x (h:b < a):A0N .gtr (.int k a) (.int k b)=some (.bool true):=by simp [A0N,h]
@[simp 1100] theorem D0y (h:a ≤ b):A0N .gtr (.int k a) (.int k b)=some (.bool false):=by simp [A0N]; omega
@[simp 900] theorem D0z:A0N .gtr (.int k a) (.int k b)=some (.bool (decide (b < a))):=by simp [A0N]
@[simp 1100] theorem D0A (h:b ≤ a):A0N .geq (.int k a) (.int k b)=some (.bool true):=by simp [A0N,h]
@[simp 1100] theorem D0B (h:a < b):A0N .geq (.int k a) (.int k b)=some (.bool false):=by simp [A0N]; omega
@[simp 900] theorem D0C:A0N .geq (.int k a) (.int k b)=some (.bool (decide (b ≤ a))):=by simp [A0N]
@[simp 1100] theorem D0D (h:a=b):A0N .eql (.int k a) (.int k b)=some (.bool true):=by simp [A0N,h]
@[simp 1100] theorem D0E (h:a ≠ b):A0N .eql (.int k a) (.int k b)=some (.bool false):=by simp [A0N,h]
@[simp 900] theorem D0F:A0N .eql (.int k a) (.int k b)=some (.bool (decide (a=b))):=by simp [A0N]; rfl
@[simp 1100] theorem D0G (h:a ≠ b):A0N .neq (.int k a) (.int k b)=some (.bool true):=by simp [A0N,h]
@[simp 1100] theorem D0H (h:a=b):A0N .neq (.int k a) (.int k b)=some (.bool false):=by simp [A0N,h]
@[simp 900] theorem D0I:A0N .neq (.int k a) (.int k b)=some (.bool (decide (a ≠ b))):=by simp [A0N,bne]; rfl
@[simp] theorem D0J:A0N .add (.int k a) (.int k b)=some (.int k (k.wrap (a + b))):=by simp [A0N]
@[simp] theorem D0K:A0N .sub (.int k a) (.int k b)=some (.int k (k.wrap (a - b))):=by simp [A0N]
@[simp] theorem D0L:A0N .mul (.int k a) (.int k b)=some (.int k (k.wrap (a * b))):=by simp [A0N]
end
@[simp 1100] theorem D0M (k k':IntKind) (a i:Nat) (h:i ≤ k.bits):A0N .shr (.int k (a:Int)) (.int k' (i:Int))=some (.int k ((a >>> i:Nat):Int)):=by
  have h0:¬ ((i:Int) < 0):=by omega
  have e:min (i:Int).toNat k.bits=i:=by rw [Int.toNat_natCast]; exact Nat.min_eq_left h
  have h2:(a:Int).fdiv (2 ^ i)=((a >>> i:Nat):Int):=by
   rw [Nat.shiftRight_eq_div_pow,show ((2:Int) ^ i)=((2 ^ i:Nat):Int) by simp,Int.fdiv_eq_ediv_of_nonneg _ (Int.natCast_nonneg _)]
   exact (Int.natCast_ediv _ _).symm
  simp only [A0N,h0,if_false,e,h2]
theorem C36 (n a b:Nat) (ha:a < 2 ^ n) (hb:b < 2 ^ n):(BitVec.ofInt n (a:Int) &&& BitVec.ofInt n (b:Int)).toNat=a &&& b:=by
 simp [Nat.mod_eq_of_lt ha,Nat.mod_eq_of_lt hb]
theorem C68 (a b:Nat) (ha:a < 18446744073709551616) (hb:b < 18446744073709551616):A0N .and (.int .u64 (a:Int)) (.int .u64 (b:Int))=some (.int .u64 ((a &&& b:Nat):Int)):=by
 have h:a &&& b ≤ a:=Nat.and_le_left
 have e:A0N .and (.int .u64 (a:Int)) (.int .u64 (b:Int))=some (.int .u64 (IntKind.u64.wrap (BitVec.ofInt 64 (a:Int) &&& BitVec.ofInt 64 (b:Int)).toNat)):=rfl
 rw [e,C36 64 a b ha hb,IntWalk.u64_in _ ⟨by omega,by omega⟩]
theorem C69 (a b:Nat) (ha:a < 4294967296) (hb:b < 4294967296):A0N .and (.int .u32 (a:Int)) (.int .u32 (b:Int))=some (.int .u32 ((a &&& b:Nat):Int)):=by
 have h:a &&& b ≤ a:=Nat.and_le_left
 have e:A0N .and (.int .u32 (a:Int)) (.int .u32 (b:Int))=some (.int .u32 (IntKind.u32.wrap (BitVec.ofInt 32 (a:Int) &&& BitVec.ofInt 32 (b:Int)).toNat)):=rfl
 rw [e,C36 32 a b ha hb,IntWalk.u32_in _ ⟨by omega,by omega⟩]
@[simp 1100] theorem C9M (a:Nat) (ha:a < 18446744073709551616):A0N .and (.int .u64 (a:Int)) (.int .u64 1)=some (.int .u64 ((a % 2:Nat):Int)):=by
  have:=C68 a 1 ha (by omega)
  rw [Nat.and_one_is_mod] at this
  exact this
@[simp 1100] theorem C9N (a:Nat) (ha:a < 4294967296):A0N .and (.int .u32 (a:Int)) (.int .u32 1)=some (.int .u32 ((a % 2:Nat):Int)):=by
  have:=C69 a 1 ha (by omega)
  rw [Nat.and_one_is_mod] at this
  exact this
attribute [simp] List.getElem?_cons_zero
attribute [simp 1100] List.take_of_length_le
attribute [simp] IntWalk.i64_in IntWalk.u64_in IntWalk.u8_in IntWalk.u32_in
def tv (l:List PV):List (T Nat):=l.map T.p
section
variable (l m:List PV) (g z:Nat)
@[simp] theorem B2J:(tv l).length=l.length:=by simp [tv]
@[simp] theorem C9z:tv l++tv m=tv (l++m):=by simp [tv]
@[simp] theorem C9A (v:PV):tv l++[T.p v]=tv (l++[v]):=by simp [tv]
@[simp] theorem D0k (n:Nat):(tv l).take n=tv (l.take n):=by simp [tv]
@[simp] theorem D0l (n:Nat):(tv l).drop n=tv (l.drop n):=by simp [tv]
@[simp] theorem D0n:tv []=[]:=rfl
@[simp] theorem D0o (i:Nat):(tv l)[i]?=l[i]?.map T.p:=by simp [tv]
@[simp] theorem B4z:A02 (tv l)=some l:=by
  induction l with
  | nil=>rfl
  | cons x r ih=>simp only [tv,List.map_cons,A02] at ih ⊢; rw [ih]
@[simp] theorem C9B:A0E (tv l)=some l:=by
  induction l with
  | nil=>rfl
  | cons x r ih=>simp only [tv,List.map_cons,A0E,A4e] at ih ⊢; rw [ih]
@[simp] theorem C5x (φ:MV→MV) (ζ:Nat→Nat):A0B φ ζ (tv l)=tv l:=by
  induction l with
  | nil=>rfl
  | cons x r ih=>simp only [tv,List.map_cons,A0B,A0L] at ih ⊢; rw [ih]
@[simp] theorem B72:A0H g (tv l)=tv l:=C5x l _ _
@[simp] theorem C9i:A0H g []=[]:=rfl
@[simp] theorem C7R (v:PV):A0H g [T.p v]=[T.p v]:=rfl
@[simp] theorem B4A:(tv l).all A23=true:=by simp [tv,A23]
@[simp] theorem C5y:A12 z (tv l)=l.all fun v=>v.cs == z:=by simp [tv,A12,T.cs]; rfl
@[simp] theorem C9C:A12 z []=true:=rfl
@[simp] theorem B5B (t:T Nat) (r:List (T Nat)):A12 z (t::r)=(t.cs == z && A12 z r):=rfl
@[simp] theorem C9D:A1k (tv l)=[]:=by
  induction l with
  | nil=>rfl
  | cons x r ih=>simp only [tv,List.map_cons,A1k,A4f,List.nil_append] at ih ⊢; rw [ih]
@[simp] theorem C9E:A22 (tv l)=l.all A4q:=by
  induction l with
  | nil=>rfl
  | cons x r ih=>simp only [tv,List.map_cons,A22,A6q,List.all_cons] at ih ⊢; rw [ih]
end
@[simp] theorem C9O (h:A0b) (l:List PV):A11 h (.p (.sl l))=some (tv l):=rfl
@[simp] theorem C9F (h:A0b) (z:Nat):A11 h (.nil z)=some (tv []):=rfl
attribute [simp] A6U A0e A0n
@[simp] theorem C9P (K:A0v) (g:Nat) (s:A0m) (h:A0b):A5D K g [] s h=[]:=rfl
section
variable {α β:Type}
end
end Go.Mid
