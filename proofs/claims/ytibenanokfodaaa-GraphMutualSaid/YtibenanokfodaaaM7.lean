/- The run without a number of rounds: its equations. -/
import Derived.Test.YtibenanokfodaaaM6
import Derived.IntWalk
namespace Go.Mid
set_option linter.unusedSimpArgs false
set_option linter.unusedVariables false
def KLe (K K':A0q):Prop:=∀ f args ext r,K f args ext=some r→K' f args ext=some r
theorem KLe.refl (K:A0q):KLe K K:=fun _ _ _ _ h=>h
theorem KLe.trans {K K' K'':A0q} (h:KLe K K') (k:KLe K' K''):KLe K K'':=fun f a e r hr=>k f a e r (h f a e r hr)
theorem C0h {K K':A0q} (hk:KLe K K') {g:Nat} {d:Option Nat} {s:A0j} {h:A0b} {op:MOp} {x:MV×A0b} (he:A0a K g d s h op=some x):A0a K' g d s h op=some x:=by
 cases op with
 | call md f args =>
   simp only [A0a] at he ⊢
   split at he
   · rename_i f0 cs hc
     split at he
     · unfold A3p at he ⊢
       split at he
       · rename_i vs hvs
         cases hK:K f0 (vs.map .p) [] with
         | none=>rw [hK] at he; simp [A4G] at he
         | some r =>
           rw [hK] at he
           rw [hk _ _ _ _ hK]
           exact he
       · cases he
     · unfold A3a at he ⊢
       dsimp only at he ⊢
       split at he
       · cases he
       · split at he
         · cases he
         · rename_i r ext esc hK
           rw [hk _ _ _ _ hK]
           exact he
     · unfold A34 at he ⊢
       split at he
       · rename_i vs hvs
         split at he
         · rename_i r esc hK
           rw [hk _ _ _ _ hK]
           exact he
         · cases he
       · cases he
   · cases he
 | _=>exact he
theorem B2h {K K':A0q} (hk:KLe K K') {g:Nat} {i:Ins} {s:A0j} {h:A0b} {x:A0j×A0b} (he:A0Y K g i s h=some x):A0Y K' g i s h=some x:=by
 unfold A0Y at he ⊢
 split at he
 · split at he
   · rename_i v h' hv
     rw [C0h hk hv]
     exact he
   · cases he
 · exact he
 · cases he
theorem A6H {K K':A0q} (hk:KLe K K'):∀ {l:List Ins} {g:Nat} {s:A0j} {h:A0b} {x:A0j×A0b},A2q K g l s h=some x→A2q K' g l s h=some x∧A46 K' g l s h=A46 K g l s h
 | [],g,s,h,x,he=>⟨he,rfl⟩
 | i::r,g,s,h,x,he=>by
   simp only [A2q] at he ⊢
   split at he
   · rename_i s1 h1 hi
     obtain ⟨q1,q2⟩:=A6H hk he
     simp only [A46,hi,B2h hk hi,q1,q2,and_self]
   · cases he
theorem B3F {K K':A0q} (hk:KLe K K') {loose:List (Nat×Nat)} {ops:List Ins} {σ σ':St} (he:A2e K loose ops σ=some σ'):A2e K' loose ops σ=some σ':=by
 unfold A2e at he ⊢
 split at he
 · rename_i s h hst
   obtain ⟨q1,q2⟩:=A6H hk hst
   rw [q1,q2]
   exact he
 · cases he
theorem B03 {Φ:Tbl} {R R':MC→St→Option (Ex×St)} (h:∀ c σ r,R c σ=some r→R' c σ=some r):KLe (A1B Φ R) (A1B Φ R'):=by
 intro f args ext r hr
 unfold A1B at hr ⊢
 split at hr
 · cases hr
 · exact hr
 · rename_i F hF
   cases hR:R F.body ⟨A18 args,A0U ext,1⟩ with
   | none=>rw [hR] at hr; cases hr
   | some x =>
     rw [hR] at hr
     simp only [h _ _ _ hR]
     exact hr
theorem C4F {Φ:Tbl}:∀ {n:Nat} {c:MC} {σ:St} {r:Ex×St},run Φ n c σ=some r→run Φ (n + 1) c σ=some r:=by
 intro n
 induction n with
 | zero=>intro c σ r h; simp [run] at h
 | succ n ih =>
   intro c σ r h
   cases c with
   | reg loose ops =>
     rw [run] at h ⊢
     cases hr:A2e (A1B Φ (run Φ n)) loose ops σ with
     | none=>rw [hr] at h; cases h
     | some σ' =>
       rw [hr] at h
       rw [B3F (B03 fun c σ r=>ih) hr]
       exact h
   | seq a b =>
     rw [run] at h ⊢
     cases ha:run Φ n a σ with
     | none=>rw [ha] at h; cases h
     | some x =>
       rw [ha] at h
       rw [ih ha]
       obtain ⟨e,σ1⟩:=x
       cases e with
       | normal=>exact ih h
       | exit id=>exact h
       | ret=>exact h
   | cond c a b =>
     rw [run] at h ⊢
     split at h
     · exact ih h
     · exact ih h
     · cases h
   | block id c =>
     rw [run] at h ⊢
     cases ha:run Φ n c σ with
     | none=>rw [ha] at h; cases h
     | some x=>rw [ha] at h; rw [ih ha]; exact h
   | loop ks ids c =>
     rw [run] at h ⊢
     cases ha:run Φ n c (A16 ks ids σ) with
     | none=>rw [ha] at h; cases h
     | some x =>
       rw [ha] at h
       rw [ih ha]
       obtain ⟨e,σ1⟩:=x
       cases e with
       | normal=>exact ih h
       | exit id=>exact h
       | ret=>exact h
   | _=>rw [run] at h ⊢; exact h
theorem A5b {Φ:Tbl} {n m:Nat} (hnm:n ≤ m) {c:MC} {σ:St} {r:Ex×St} (h:run Φ n c σ=some r):run Φ m c σ=some r:=by
 induction hnm with
 | refl=>exact h
 | step _ ih=>exact C4F ih
theorem B7o {Φ:Tbl} {n m:Nat} (hnm:n ≤ m):KLe (A1B Φ (run Φ n)) (A1B Φ (run Φ m)):=B03 fun _ _ _ h=>A5b hnm h
open Classical in
noncomputable def A2i (Φ:Tbl) (c:MC) (σ:St):Option (Ex×St):=if h:∃ n r,run Φ n c σ=some r then some h.choose_spec.choose else none
noncomputable def KI (Φ:Tbl):A0q:=A1B Φ (A2i Φ)
section
variable {Φ:Tbl}
theorem A1b {c:MC} {σ:St} {r:Ex×St}:A2i Φ c σ=some r↔∃ n,run Φ n c σ=some r:=by
 unfold A2i
 constructor
 · intro h
   split at h
   · rename_i hex
     simp only [Option.some.injEq] at h
     exact ⟨hex.choose,by rw [← h]; exact hex.choose_spec.choose_spec⟩
   · cases h
 · rintro ⟨n,hn⟩
   have hex:∃ n r,run Φ n c σ=some r:=⟨n,r,hn⟩
   rw [dif_pos hex]
   have h1:=hex.choose_spec.choose_spec
   have h2:=A5b (Nat.le_max_left hex.choose n) h1
   have h3:=A5b (Nat.le_max_right hex.choose n) hn
   rw [h2] at h3
   exact h3
theorem A8I {α:Type} {x y:Option α} (h:∀ r,x=some r↔y=some r):x=y:=by
 cases x with
 | none =>
   cases y with
   | none=>rfl
   | some r=>exact absurd ((h r).2 rfl) (by simp)
 | some r=>exact ((h r).1 rfl).symm
theorem C1R (n:Nat):KLe (A1B Φ (run Φ n)) (KI Φ):=B03 fun c σ r h=>A1b.2 ⟨n,h⟩
theorem B45 {f:Nat} {args:List MV} {ext:List (Obj Nat)} {r:Ret} (h:KI Φ f args ext=some r):∃ n,A1B Φ (run Φ n) f args ext=some r:=by
 unfold KI A1B at h
 split at h
 · cases h
 · rename_i p hp
   exact ⟨0,by unfold A1B; rw [hp]; exact h⟩
 · rename_i F hF
   cases hR:A2i Φ F.body ⟨A18 args,A0U ext,1⟩ with
   | none=>rw [hR] at h; cases h
   | some x =>
     rw [hR] at h
     obtain ⟨n,hn⟩:=A1b.1 hR
     refine ⟨n,?_⟩
     unfold A1B
     rw [hF]
     simp only [hn]
     exact h
theorem C1S {g:Nat} {d:Option Nat} {s:A0j} {h:A0b} {op:MOp} {x:MV×A0b} (he:A0a (KI Φ) g d s h op=some x):∃ n,A0a (A1B Φ (run Φ n)) g d s h op=some x:=by
 cases op with
 | call md f args =>
   simp only [A0a] at he ⊢
   split at he
   · rename_i f0 cs hc
     split at he
     · unfold A3p at he
       split at he
       · rename_i vs hvs
         cases hK:KI Φ f0 (vs.map .p) [] with
         | none=>rw [hK] at he; simp [A4G] at he
         | some r =>
           obtain ⟨n,hn⟩:=B45 hK
           refine ⟨n,?_⟩
           unfold A3p
           rw [hK] at he
           simp only [hvs,hn]
           exact he
       · cases he
     · unfold A3a at he
       dsimp only at he
       split at he
       · cases he
       · rename_i objs hobjs
         split at he
         · cases he
         · rename_i r ext esc hK
           obtain ⟨n,hn⟩:=B45 hK
           refine ⟨n,?_⟩
           unfold A3a
           simp only [hobjs,hn]
           exact he
     · unfold A34 at he
       split at he
       · rename_i vs hvs
         split at he
         · rename_i r esc hK
           obtain ⟨n,hn⟩:=B45 hK
           refine ⟨n,?_⟩
           unfold A34
           simp only [hvs,hn]
           exact he
         · cases he
       · cases he
   · cases he
 | _=>exact ⟨0,he⟩
theorem B3G:∀ {l:List Ins} {g:Nat} {s:A0j} {h:A0b} {x:A0j×A0b},A2q (KI Φ) g l s h=some x→∃ n,A2q (A1B Φ (run Φ n)) g l s h=some x
 | [],g,s,h,x,he=>⟨0,he⟩
 | i::r,g,s,h,x,he=>by
   simp only [A2q] at he
   split at he
   · rename_i s1 h1 hi
     obtain ⟨m,hm⟩:=B3G he
     have hstep:∃ n,A0Y (A1B Φ (run Φ n)) g i s h=some (s1,h1):=by
      unfold A0Y at hi ⊢
      split at hi
      · split at hi
        · rename_i v h' hv
          obtain ⟨n,hn⟩:=C1S hv
          exact ⟨n,by rw [hn]; exact hi⟩
        · cases hi
      · exact ⟨0,hi⟩
      · cases hi
     obtain ⟨n,hn⟩:=hstep
     refine ⟨max n m,?_⟩
     simp only [A2q,B2h (B7o (Nat.le_max_left n m)) hn]
     exact (A6H (B7o (Nat.le_max_right n m)) hm).1
   · cases he
theorem C1T {loose:List (Nat×Nat)} {ops:List Ins} {σ σ':St} (he:A2e (KI Φ) loose ops σ=some σ'):∃ n,A2e (A1B Φ (run Φ n)) loose ops σ=some σ':=by
 unfold A2e at he
 split at he
 · rename_i s h hst
   obtain ⟨n,hn⟩:=B3G hst
   refine ⟨n,?_⟩
   obtain ⟨q1,q2⟩:=A6H (C1R n) hn
   unfold A2e
   rw [hn,← q2]
   exact he
 · cases he
theorem B7p (σ:St):A2i Φ .skip σ=some (.normal,σ):=A1b.2 ⟨1,rfl⟩
theorem B86 (σ:St):A2i Φ .ret σ=some (.ret,σ):=A1b.2 ⟨1,rfl⟩
theorem B7q (id:Nat) (σ:St):A2i Φ (.exit id) σ=some (.exit id,σ):=A1b.2 ⟨1,rfl⟩
theorem B6j (g:Gh) (σ:St):A2i Φ (.gh g) σ=match A6s g σ with | some σ'=>some (.normal,σ') | none=>none:=by
 refine A8I fun r=>?_
 rw [A1b]
 constructor
 · rintro ⟨n,hn⟩
   cases n with
   | zero=>simp [run] at hn
   | succ n=>exact hn
 · intro h; exact ⟨1,h⟩
theorem C4G (loose:List (Nat×Nat)) (ops:List Ins) (σ:St):A2i Φ (.reg loose ops) σ=match A2e (KI Φ) loose ops σ with | some σ'=>some (.normal,σ') | none=>none:=by
 refine A8I fun r=>?_
 rw [A1b]
 constructor
 · rintro ⟨n,hn⟩
   cases n with
   | zero=>simp [run] at hn
   | succ n =>
     simp only [run] at hn
     cases hr:A2e (A1B Φ (run Φ n)) loose ops σ with
     | none=>rw [hr] at hn; cases hn
     | some σ' =>
       rw [hr] at hn
       rw [B3F (C1R n) hr]
       exact hn
 · intro h
   cases hr:A2e (KI Φ) loose ops σ with
   | none=>rw [hr] at h; cases h
   | some σ' =>
     rw [hr] at h
     obtain ⟨n,hn⟩:=C1T hr
     exact ⟨n + 1,by rw [run,hn]; exact h⟩
theorem C4H (a b:MC) (σ:St):A2i Φ (.seq a b) σ=match A2i Φ a σ with | some (.normal,σ')=>A2i Φ b σ' | r=>r:=by
 refine A8I fun r=>?_
 rw [A1b]
 constructor
 · rintro ⟨n,hn⟩
   cases n with
   | zero=>simp [run] at hn
   | succ n =>
     rw [run] at hn
     cases ha:run Φ n a σ with
     | none=>rw [ha] at hn; cases hn
     | some x =>
       rw [A1b.2 ⟨n,ha⟩]
       rw [ha] at hn
       obtain ⟨e,σ1⟩:=x
       cases e with
       | normal=>exact A1b.2 ⟨n,hn⟩
       | exit id=>exact hn
       | ret=>exact hn
 · intro h
   cases ha:A2i Φ a σ with
   | none=>rw [ha] at h; cases h
   | some x =>
     rw [ha] at h
     obtain ⟨n,hn⟩:=A1b.1 ha
     obtain ⟨e,σ1⟩:=x
     cases e with
     | normal =>
       obtain ⟨m,hm⟩:=A1b.1 h
       refine ⟨max n m + 1,?_⟩
       rw [run,A5b (Nat.le_max_left n m) hn]
       exact A5b (Nat.le_max_right n m) hm
     | exit id=>exact ⟨n + 1,by rw [run,hn]; exact h⟩
     | ret=>exact ⟨n + 1,by rw [run,hn]; exact h⟩
theorem C3h (c:Opd) (a b:MC) (σ:St):A2i Φ (.cond c a b) σ=match evO σ.s c with | .p (.bool true)=>A2i Φ a σ | .p (.bool false)=>A2i Φ b σ | _=>none:=by
 refine A8I fun r=>?_
 rw [A1b]
 constructor
 · rintro ⟨n,hn⟩
   cases n with
   | zero=>simp [run] at hn
   | succ n =>
     rw [run] at hn
     split at hn
     · rename_i hc; rw [hc]; exact A1b.2 ⟨n,hn⟩
     · rename_i hc; rw [hc]; exact A1b.2 ⟨n,hn⟩
     · cases hn
 · intro h
   split at h
   · rename_i hc
     obtain ⟨n,hn⟩:=A1b.1 h
     exact ⟨n + 1,by rw [run,hc]; exact hn⟩
   · rename_i hc
     obtain ⟨n,hn⟩:=A1b.1 h
     exact ⟨n + 1,by rw [run,hc]; exact hn⟩
   · cases h
theorem C1U (id:Nat) (c:MC) (σ:St):A2i Φ (.block id c) σ=match A2i Φ c σ with | some (.exit j,σ')=>if j=id then some (.normal,σ') else some (.exit j,σ') | r=>r:=by
 refine A8I fun r=>?_
 rw [A1b]
 constructor
 · rintro ⟨n,hn⟩
   cases n with
   | zero=>simp [run] at hn
   | succ n =>
     rw [run] at hn
     cases ha:run Φ n c σ with
     | none=>rw [ha] at hn; cases hn
     | some x=>rw [A1b.2 ⟨n,ha⟩]; rw [ha] at hn; exact hn
 · intro h
   cases ha:A2i Φ c σ with
   | none=>rw [ha] at h; cases h
   | some x =>
     obtain ⟨n,hn⟩:=A1b.1 ha
     rw [ha] at h
     exact ⟨n + 1,by rw [run,hn]; exact h⟩
theorem C3i (ks ids:List Nat) (c:MC) (σ:St):A2i Φ (.loop ks ids c) σ=match A2i Φ c (A16 ks ids σ) with | some (.normal,σ')=>A2i Φ (.loop ks ids c) σ' | r=>r:=by
 refine A8I fun r=>?_
 constructor
 · intro h0
   obtain ⟨n,hn⟩:=A1b.1 h0
   cases n with
   | zero=>simp [run] at hn
   | succ n =>
     rw [run] at hn
     cases ha:run Φ n c (A16 ks ids σ) with
     | none=>rw [ha] at hn; cases hn
     | some x =>
       rw [A1b.2 ⟨n,ha⟩]
       rw [ha] at hn
       obtain ⟨e,σ1⟩:=x
       cases e with
       | normal=>exact A1b.2 ⟨n,hn⟩
       | exit id=>exact hn
       | ret=>exact hn
 · intro h
   refine A1b.2 ?_
   cases ha:A2i Φ c (A16 ks ids σ) with
   | none=>rw [ha] at h; cases h
   | some x =>
     rw [ha] at h
     obtain ⟨n,hn⟩:=A1b.1 ha
     obtain ⟨e,σ1⟩:=x
     cases e with
     | normal =>
       obtain ⟨m,hm⟩:=A1b.1 h
       refine ⟨max n m + 1,?_⟩
       rw [run,A5b (Nat.le_max_left n m) hn]
       exact A5b (Nat.le_max_right n m) hm
     | exit id=>exact ⟨n + 1,by rw [run,hn]; exact h⟩
     | ret=>exact ⟨n + 1,by rw [run,hn]; exact h⟩
theorem C6j {f:Nat} {F:MFun} (h:Φ f=some (.code F)) (args:List MV) (ext:List (Obj Nat)):KI Φ f args ext=match A2i Φ F.body ⟨A18 args,A0U ext,1⟩ with
 | some (.normal,σ)=>A4H F ext.length σ
 | some (.ret,σ)=>A4H F ext.length σ
 | _=>none:=by
 unfold KI A1B
 rw [h]
 rfl
theorem C0K {f:Nat} {p:Prim} (h:Φ f=some (.prim p)) (args:List MV) (ext:List (Obj Nat)):KI Φ f args ext=A6t p args ext:=by
 unfold KI A1B
 rw [h]
end
def mkS:List (Nat×MV)→A0j
 | [],_=>.dead 0
 | (j,v)::r,k=>if k=j then v else mkS r k
def mkH:List (Nat×Obj Nat)→A0b
 | [],_=>none
 | (j,o)::r,k=>if k=j then some o else mkH r k
def A6I {α:Type}:List (Nat×α)→Nat→α→List (Nat×α)
 | [],k,v=>[(k,v)]
 | (j,u)::r,k,v=>if k=j then (k,v)::r else (j,u)::A6I r k v
theorem C6k (l:List (Nat×MV)) (k:Nat) (v:MV):upd (mkS l) k v=mkS (A6I l k v):=by
 funext i
 induction l with
 | nil=>simp only [upd,mkS,A6I]
 | cons x r ih =>
   obtain ⟨j,u⟩:=x
   simp only [upd,A6I] at ih ⊢
   by_cases hkj:k=j
   · subst hkj
     by_cases hik:i=k <;> simp [mkS,hik]
   · rw [if_neg hkj]
     simp only [mkS]
     by_cases hij:i=j
     · subst hij
       simp [Ne.symm hkj]
     · rw [if_neg hij,if_neg hij]; exact ih
theorem C0L (l:List (Nat×Obj Nat)) (k:Nat) (o:Obj Nat):upd (mkH l) k (some o)=mkH (A6I l k o):=by
 funext i
 induction l with
 | nil=>simp only [upd,mkH,A6I]
 | cons x r ih =>
   obtain ⟨j,u⟩:=x
   simp only [upd,A6I] at ih ⊢
   by_cases hkj:k=j
   · subst hkj
     by_cases hik:i=k <;> simp [mkH,hik]
   · rw [if_neg hkj]
     simp only [mkH]
     by_cases hij:i=j
     · subst hij
       simp [Ne.symm hkj]
     · rw [if_neg hij,if_neg hij]; exact ih
def A9O (args:List MV):Nat→List (Nat×MV)
 | i=>match args with
   | []=>[]
   | v::r=>(i,v)::A9O r (i + 1)
theorem C0i (args:List MV):A18 args=mkS (A9O args 0):=by
 have key:∀ (args:List MV) (i k:Nat),mkS (A9O args i) k=if i ≤ k then args.getD (k - i) (.dead 0) else .dead 0:=by
  intro args
  induction args with
  | nil=>intro i k; simp [A9O,mkS]
  | cons v r ih =>
    intro i k
    simp only [A9O,mkS]
    by_cases h:k=i
    · subst h; simp
    · rw [if_neg h,ih]
      by_cases h2:i ≤ k
      · rw [if_pos (by omega),if_pos h2,show k - i=(k - (i + 1)) + 1 by omega]
        simp
      · rw [if_neg (by omega),if_neg h2]
 funext k
 rw [key]
 simp [A18]
def B04 (ext:List (Obj Nat)):Nat→List (Nat×Obj Nat)
 | i=>match ext with
   | []=>[]
   | o::r=>(i,o)::B04 r (i + 1)
theorem C1V (ext:List (Obj Nat)):A0U ext=mkH (B04 ext A0e):=by
 have key:∀ (ext:List (Obj Nat)) (i k:Nat),mkH (B04 ext i) k=if i ≤ k then ext[k - i]? else none:=by
  intro ext
  induction ext with
  | nil=>intro i k; simp [B04,mkH]
  | cons v r ih =>
    intro i k
    simp only [B04,mkH]
    by_cases h:k=i
    · subst h; simp
    · rw [if_neg h,ih]
      by_cases h2:i ≤ k
      · rw [if_pos (by omega),if_pos h2,show k - i=(k - (i + 1)) + 1 by omega]
        simp
      · rw [if_neg (by omega),if_neg h2]
 funext k
 rw [key]
 rfl
def A6J (h:A0b) (ids:List Nat) (s:A0j) (ks:List Nat):List (Nat×MV):=ks.map fun k=>(k,A0t h (A2d ids) A0i (s k))
def A5c (h:A0b) (ids:List Nat):List (Nat×Obj Nat)→List (Nat×Obj Nat)
 | []=>[]
 | (i,o)::r=>if A40 ids i then (i,A03 (A0t h (A2d ids) A0i) A0i o)::A5c h ids r else A5c h ids r
theorem B7r (ks ids:List Nat) (l:List (Nat×MV)) (m:List (Nat×Obj Nat)) (n:Nat):A16 ks ids ⟨mkS l,mkH m,n⟩=⟨mkS (A6J (mkH m) ids (mkS l) ks),mkH (A5c (mkH m) ids m),2⟩:=by
 unfold A16
 congr 1
 · funext k
   simp only [A6J]
   induction ks with
   | nil=>rfl
   | cons j r ih =>
     simp only [List.map_cons,mkS]
     by_cases h:k=j
     · subst h; simp
     · rw [if_neg h,← ih]
       simp [h]
 · funext i
   have:∀ q:List (Nat×Obj Nat),mkH (A5c (mkH m) ids q) i=if A40 ids i=true then (mkH q i).map (A03 (A0t (mkH m) (A2d ids) A0i) A0i) else none:=by
    intro q
    induction q with
    | nil=>simp [A5c,mkH]
    | cons x r ih =>
      obtain ⟨j,o⟩:=x
      simp only [A5c]
      by_cases hij:i=j
      · subst hij
        by_cases hk:A40 ids i=true
        · rw [if_pos hk,if_pos hk]; simp [mkH]
        · rw [if_neg hk,if_neg hk,ih,if_neg hk]
      · by_cases hk:A40 ids j=true
        · rw [if_pos hk]; simp only [mkH,if_neg hij]; exact ih
        · rw [if_neg hk]; simp only [mkH,if_neg hij]; exact ih
   exact (this m).symm
end Go.Mid
/- Running code on list states. -/
namespace Go.Mid
set_option linter.unusedSimpArgs false
set_option linter.unusedVariables false
def stL (s:List (Nat×MV)) (h:List (Nat×Obj Nat)) (n:Nat):St:=⟨mkS s,mkH h,n⟩
section
variable {Φ:Tbl}
@[simp] theorem C9j (k:Nat):mkS [] k=.dead 0:=rfl
@[simp] theorem C4I (j:Nat) (v:MV) (r:List (Nat×MV)) (k:Nat):mkS ((j,v)::r) k=if k=j then v else mkS r k:=rfl
@[simp] theorem C9k (k:Nat):mkH [] k=none:=rfl
@[simp] theorem A3x (j:Nat) (v:Obj Nat) (r:List (Nat×Obj Nat)) (k:Nat):mkH ((j,v)::r) k=if k=j then some v else mkH r k:=rfl
@[simp] theorem C8N {α:Type} (k:Nat) (v:α):A6I [] k v=[(k,v)]:=rfl
@[simp] theorem C8A {α:Type} (j:Nat) (u:α) (r:List (Nat×α)) (k:Nat) (v:α):A6I ((j,u)::r) k v=if k=j then (k,v)::r else (j,u)::A6I r k v:=rfl
attribute [simp] C0L
@[simp] theorem C9l (s:List (Nat×MV)) (h:List (Nat×Obj Nat)) (n:Nat):(⟨mkS s,mkH h,n⟩:St)=stL s h n:=rfl
@[simp] theorem C9u (s:List (Nat×MV)) (h:List (Nat×Obj Nat)) (n:Nat):(stL s h n).s=mkS s:=rfl
@[simp] theorem C9v (s:List (Nat×MV)) (h:List (Nat×Obj Nat)) (n:Nat):(stL s h n).h=mkH h:=rfl
@[simp] theorem C9r (s:List (Nat×MV)) (h:List (Nat×Obj Nat)) (n:Nat):(stL s h n).nx=n:=rfl
attribute [simp] B7p B86 B7q
@[simp] theorem C77 (K:A0q) (g:Nat) (s:A0j) (h:A0b):A2q K g [] s h=some (s,h):=rfl
@[simp] theorem C9m (ks ids:List Nat) (s:List (Nat×MV)) (h:List (Nat×Obj Nat)) (n:Nat) :
   A2i Φ (.gh (.keep ks ids)) (stL s h n)=some (.normal,stL (A6J (mkH h) ids (mkS s) ks) (A5c (mkH h) ids h) 2):=by
  rw [B6j]
  simp only [A6s,stL,B7r]
@[simp] theorem C1W (ks ids:List Nat) (s:List (Nat×MV)) (h:List (Nat×Obj Nat)) (n:Nat) :
   A16 ks ids (stL s h n)=stL (A6J (mkH h) ids (mkS s) ks) (A5c (mkH h) ids h) 2:=B7r ks ids s h n
@[simp] theorem C8O (c:Prop) [Decidable c] (a b:Bool):(if c then MV.p (.bool a) else MV.p (.bool b))=.p (.bool (if c then a else b)):=by split <;> rfl
end
@[simp] theorem C8f (h:A0b) (ids:List Nat) (s:A0j):A6J h ids s []=[]:=rfl
@[simp] theorem C78 (h:A0b) (ids:List Nat) (s:A0j) (k:Nat) (r:List Nat):A6J h ids s (k::r)=(k,A0t h (A2d ids) A0i (s k))::A6J h ids s r:=rfl
attribute [simp] evO A5c A0a A40 A2d A6q A6p A7r isB PV.cs PV.css asI A2U A4S A9O B04 A4H A3O A59 A6a sfM A0t A1W A2o A0E A0Q A0m A6n A1X A0H A03 A0J A0z A3p A4G A1e A15 A2y A2E A4r A4q A8u C8c callee A3Q A65 A1O A2T look A01 A3L A5Y A5l A0G A8k A3r A0c A0g put putT T.cs T.css MV.cs MV.css okB A2Q A0C zT zT.zTs A0i A4c A5Q A6a B4A
section
variable (k:IntKind) (n:Int) (b:Bool) (s:ByteArray) (l m:List PV) (v:PV) (f:Nat) (w:MV) (i o q g:Nat) (r:List Nat) (np:Option (List Nat)) (ms:List MV)
@[simp] theorem C8B:(PV.int k n).isAgg=false:=rfl
@[simp] theorem C8g:(PV.bool b).isAgg=false:=rfl
@[simp] theorem C8C:(PV.str s).isAgg=false:=rfl
@[simp] theorem C8D:(PV.agg l).isAgg=true:=rfl
@[simp] theorem C8P:(PV.sl l).isAgg=false:=rfl
@[simp] theorem C8E:(PV.ref v).isAgg=false:=rfl
@[simp] theorem C8Q:(PV.fn f l).isAgg=false:=rfl
@[simp] theorem C8R:(PV.mp l m).isAgg=false:=rfl
@[simp] theorem C8h:PV.nilp.isAgg=false:=rfl
@[simp] theorem C8i:PV.nilf.isAgg=false:=rfl
@[simp] theorem C8S:(MV.p v).isAgg=v.isAgg:=rfl
@[simp] theorem C8j:(MV.agg ms).isAgg=true:=rfl
@[simp] theorem C8k:(MV.own i r o q g).isAgg=false:=rfl
@[simp] theorem C8l:(MV.ptr i np r o q).isAgg=false:=rfl
@[simp] theorem C79:(MV.mref i r g).isAgg=false:=rfl
@[simp] theorem C8m:(MV.nil i).isAgg=false:=rfl
@[simp] theorem C8F:(MV.fn i ms).isAgg=false:=rfl
@[simp] theorem C8n:(MV.tup ms).isAgg=false:=rfl
@[simp] theorem C8a:(MV.dead i).isAgg=false:=rfl
end
@[simp] theorem C8b (i:Nat):A06 [] i=none:=rfl
@[simp] theorem A8J (x:Nat) (r:List Nat) (i:Nat):A06 (x::r) i=if x=i then some 0 else (A06 r i).map (· + 1):=by
  unfold A06
  rw [List.findIdx?_cons]
  by_cases h:x=i
  · simp [h]
  · simp [h]
@[simp 1100] theorem C9n (n:Nat) (k:IntKind) (i:Int) (h0:0 ≤ i) (h1:i < n):A7R n (.p (.int k i))=some i.toNat:=by simp [A7R,asI,h0,h1]
@[simp 1100] theorem C9o (n:Nat) (k:IntKind) (i:Int) (h0:0 ≤ i) (h1:i ≤ n):A66 n (.p (.int k i))=some i.toNat:=by simp [A66,asI,h0,h1]
section
variable (k:IntKind) (a b:Int)
@[simp 1100] theorem C9w (h:a < b):A0P .lss (.int k a) (.int k b)=some (.bool true):=by simp [A0P,h]
@[simp 1100] theorem C9x (h:b ≤ a):A0P .lss (.int k a) (.int k b)=some (.bool false):=by simp [A0P]; omega
@[simp 900] theorem C9y:A0P .lss (.int k a) (.int k b)=some (.bool (decide (a < b))):=by simp [A0P]
@[simp 1100] theorem C9z (h:a ≤ b):A0P .leq (.int k a) (.int k b)=some (.bool true):=by simp [A0P,h]
@[simp 1100] theorem C9A (h:b < a):A0P .leq (.int k a) (.int k b)=some (.bool false):=by simp [A0P]; omega
@[simp 900] theorem C9B:A0P .leq (.int k a) (.int k b)=some (.bool (decide (a ≤ b))):=by simp [A0P]
@[simp 1100] theorem C9C (h:b < a):A0P .gtr (.int k a) (.int k b)=some (.bool true):=by simp [A0P,h]
@[simp 1100] theorem C9D (h:a ≤ b):A0P .gtr (.int k a) (.int k b)=some (.bool false):=by simp [A0P]; omega
@[simp 900] theorem C9E:A0P .gtr (.int k a) (.int k b)=some (.bool (decide (b < a))):=by simp [A0P]
@[simp 1100] theorem C9F (h:b ≤ a):A0P .geq (.int k a) (.int k b)=some (.bool true):=by simp [A0P,h]
@[simp 1100] theorem C9G (h:a < b):A0P .geq (.int k a) (.int k b)=some (.bool false):=by simp [A0P]; omega
@[simp 900] theorem C9H:A0P .geq (.int k a) (.int k b)=some (.bool (decide (b ≤ a))):=by simp [A0P]
@[simp 1100] theorem C9I (h:a=b):A0P .eql (.int k a) (.int k b)=some (.bool true):=by simp [A0P,h]
@[simp 1100] theorem C9J (h:a ≠ b):A0P .eql (.int k a) (.int k b)=some (.bool false):=by simp [A0P,h]
@[simp 900] theorem C9K:A0P .eql (.int k a) (.int k b)=some (.bool (decide (a=b))):=by simp [A0P]; rfl
@[simp 1100] theorem C9L (h:a ≠ b):A0P .neq (.int k a) (.int k b)=some (.bool true):=by simp [A0P,h]
@[simp 1100] theorem C9M (h:a=b):A0P .neq (.int k a) (.int k b)=some (.bool false):=by simp [A0P,h]
@[simp 900] theorem C9N:A0P .neq (.int k a) (.int k b)=some (.bool (decide (a ≠ b))):=by simp [A0P,bne]; rfl
@[simp] theorem C9O:A0P .add (.int k a) (.int k b)=some (.int k (k.wrap (a + b))):=by simp [A0P]
@[simp] theorem C9P:A0P .sub (.int k a) (.int k b)=some (.int k (k.wrap (a - b))):=by simp [A0P]
@[simp] theorem C9Q:A0P .mul (.int k a) (.int k b)=some (.int k (k.wrap (a * b))):=by simp [A0P]
end
@[simp 1100] theorem C9R (k k':IntKind) (a i:Nat) (h:i ≤ k.bits):A0P .shr (.int k (a:Int)) (.int k' (i:Int))=some (.int k ((a >>> i:Nat):Int)):=by
  have h0:¬ ((i:Int) < 0):=by omega
  have e:min (i:Int).toNat k.bits=i:=by rw [Int.toNat_natCast]; exact Nat.min_eq_left h
  have h2:(a:Int).fdiv (2 ^ i)=((a >>> i:Nat):Int):=by
   rw [Nat.shiftRight_eq_div_pow,show ((2:Int) ^ i)=((2 ^ i:Nat):Int) by simp,Int.fdiv_eq_ediv_of_nonneg _ (Int.natCast_nonneg _)]
   exact (Int.natCast_ediv _ _).symm
  simp only [A0P,h0,if_false,e,h2]
theorem C3j (n a b:Nat) (ha:a < 2 ^ n) (hb:b < 2 ^ n):(BitVec.ofInt n (a:Int) &&& BitVec.ofInt n (b:Int)).toNat=a &&& b:=by
 simp [Nat.mod_eq_of_lt ha,Nat.mod_eq_of_lt hb]
theorem C6l (a b:Nat) (ha:a < 18446744073709551616) (hb:b < 18446744073709551616):A0P .and (.int .u64 (a:Int)) (.int .u64 (b:Int))=some (.int .u64 ((a &&& b:Nat):Int)):=by
 have h:a &&& b ≤ a:=Nat.and_le_left
 have e:A0P .and (.int .u64 (a:Int)) (.int .u64 (b:Int))=some (.int .u64 (IntKind.u64.wrap (BitVec.ofInt 64 (a:Int) &&& BitVec.ofInt 64 (b:Int)).toNat)):=rfl
 rw [e,C3j 64 a b ha hb,IntWalk.u64_in _ ⟨by omega,by omega⟩]
theorem C6m (a b:Nat) (ha:a < 4294967296) (hb:b < 4294967296):A0P .and (.int .u32 (a:Int)) (.int .u32 (b:Int))=some (.int .u32 ((a &&& b:Nat):Int)):=by
 have h:a &&& b ≤ a:=Nat.and_le_left
 have e:A0P .and (.int .u32 (a:Int)) (.int .u32 (b:Int))=some (.int .u32 (IntKind.u32.wrap (BitVec.ofInt 32 (a:Int) &&& BitVec.ofInt 32 (b:Int)).toNat)):=rfl
 rw [e,C3j 32 a b ha hb,IntWalk.u32_in _ ⟨by omega,by omega⟩]
@[simp 1100] theorem C8T (a:Nat) (ha:a < 18446744073709551616):A0P .and (.int .u64 (a:Int)) (.int .u64 1)=some (.int .u64 ((a % 2:Nat):Int)):=by
  have:=C6l a 1 ha (by omega)
  rw [Nat.and_one_is_mod] at this
  exact this
@[simp 1100] theorem C8U (a:Nat) (ha:a < 4294967296):A0P .and (.int .u32 (a:Int)) (.int .u32 1)=some (.int .u32 ((a % 2:Nat):Int)):=by
  have:=C6m a 1 ha (by omega)
  rw [Nat.and_one_is_mod] at this
  exact this
attribute [simp] List.getElem?_cons_zero
attribute [simp 1100] List.take_of_length_le
attribute [simp] IntWalk.i64_in IntWalk.u64_in IntWalk.u8_in IntWalk.u32_in
def tv (l:List PV):List (T Nat):=l.map T.p
section
variable (l m:List PV) (g z:Nat)
@[simp] theorem B2i:(tv l).length=l.length:=by simp [tv]
@[simp] theorem C8G:tv l++tv m=tv (l++m):=by simp [tv]
@[simp] theorem C8H (v:PV):tv l++[T.p v]=tv (l++[v]):=by simp [tv]
@[simp] theorem C9p (n:Nat):(tv l).take n=tv (l.take n):=by simp [tv]
@[simp] theorem C9q (n:Nat):(tv l).drop n=tv (l.drop n):=by simp [tv]
@[simp] theorem C9s:tv []=[]:=rfl
@[simp] theorem C9t (i:Nat):(tv l)[i]?=l[i]?.map T.p:=by simp [tv]
@[simp] theorem B34:A05 (tv l)=some l:=by
  induction l with
  | nil=>rfl
  | cons x r ih=>simp only [tv,List.map_cons,A05] at ih ⊢; rw [ih]
@[simp] theorem C8I:A0A (tv l)=some l:=by
  induction l with
  | nil=>rfl
  | cons x r ih=>simp only [tv,List.map_cons,A0A,A3G] at ih ⊢; rw [ih]
@[simp] theorem C4J (φ:MV→MV) (ζ:Nat→Nat):A0z φ ζ (tv l)=tv l:=by
  induction l with
  | nil=>rfl
  | cons x r ih=>simp only [tv,List.map_cons,A0z,A0J] at ih ⊢; rw [ih]
@[simp] theorem B7s:A0F g (tv l)=tv l:=C4J l _ _
@[simp] theorem C8o:A0F g []=[]:=rfl
@[simp] theorem C61 (v:PV):A0F g [T.p v]=[T.p v]:=rfl
@[simp] theorem B35:(tv l).all A2J=true:=by simp [tv,A2J]
@[simp] theorem C4K:A1V z (tv l)=l.all fun v=>v.cs == z:=by simp [tv,A1V,T.cs]; rfl
@[simp] theorem C8J:A1V z []=true:=rfl
@[simp] theorem B46 (t:T Nat) (r:List (T Nat)):A1V z (t::r)=(t.cs == z && A1V z r):=rfl
@[simp] theorem C8K:A1n (tv l)=[]:=by
  induction l with
  | nil=>rfl
  | cons x r ih=>simp only [tv,List.map_cons,A1n,A3H,List.nil_append] at ih ⊢; rw [ih]
@[simp] theorem C8L:A26 (tv l)=l.all A4q:=by
  induction l with
  | nil=>rfl
  | cons x r ih=>simp only [tv,List.map_cons,A26,A6o,List.all_cons] at ih ⊢; rw [ih]
end
@[simp] theorem C8V (h:A0b) (l:List PV):A1U h (.p (.sl l))=some (tv l):=rfl
@[simp] theorem C8M (h:A0b) (z:Nat):A1U h (.nil z)=some (tv []):=rfl
attribute [simp] A6m A0e A0s
@[simp] theorem C8W (K:A0q) (g:Nat) (s:A0j) (h:A0b):A46 K g [] s h=[]:=rfl
section
variable {α β:Type}
end
end Go.Mid
