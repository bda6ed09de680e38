/- The run without a number of rounds: its equations. -/
import Derived.Test.YtibenanokfodaaaM6
import Derived.IntWalk
namespace Go.Mid
set_option linter.unusedSimpArgs false
set_option linter.unusedVariables false
def KLe (K K':A0r):Prop:=∀ f args ext r,K f args ext=some r→K' f args ext=some r
theorem KLe.refl (K:A0r):KLe K K:=fun _ _ _ _ h=>h
theorem KLe.trans {K K' K'':A0r} (h:KLe K K') (k:KLe K' K''):KLe K K'':=fun f a e r hr=>k f a e r (h f a e r hr)
theorem B9c {K K':A0r} (hk:KLe K K') {g:Nat} {d:Option Nat} {s:A0k} {h:A0b} {op:MOp} {x:MV×A0b} (he:A0a K g d s h op=some x):A0a K' g d s h op=some x:=by
 cases op with
 | call md f args =>
   simp only [A0a] at he ⊢
   split at he
   · rename_i f0 cs hc
     split at he
     · unfold A2Z at he ⊢
       split at he
       · rename_i vs hvs
         cases hK:K f0 (vs.map .p) [] with
         | none=>rw [hK] at he; simp [A2Y] at he
         | some r =>
           rw [hK] at he
           rw [hk _ _ _ _ hK]
           exact he
       · cases he
     · unfold A2Q at he ⊢
       dsimp only at he ⊢
       split at he
       · cases he
       · split at he
         · cases he
         · rename_i r ext esc hK
           rw [hk _ _ _ _ hK]
           exact he
     · unfold A3B at he ⊢
       split at he
       · rename_i vs hvs
         split at he
         · rename_i r esc hK
           rw [hk _ _ _ _ hK]
           exact he
         · cases he
       · cases he
   · cases he
 | _=>exact he
theorem B1o {K K':A0r} (hk:KLe K K') {g:Nat} {i:Ins} {s:A0k} {h:A0b} {x:A0k×A0b} (he:A0S K g i s h=some x):A0S K' g i s h=some x:=by
 unfold A0S at he ⊢
 split at he
 · split at he
   · rename_i v h' hv
     rw [B9c hk hv]
     exact he
   · cases he
 · exact he
 · cases he
theorem A54 {K K':A0r} (hk:KLe K K'):∀ {l:List Ins} {g:Nat} {s:A0k} {h:A0b} {x:A0k×A0b},A2a K g l s h=some x→A2a K' g l s h=some x∧A4y K' g l s h=A4y K g l s h
 | [],g,s,h,x,he=>⟨he,rfl⟩
 | i::r,g,s,h,x,he=>by
   simp only [A2a] at he ⊢
   split at he
   · rename_i s1 h1 hi
     obtain ⟨q1,q2⟩:=A54 hk he
     simp only [A4y,hi,B1o hk hi,q1,q2,and_self]
   · cases he
theorem B2F {K K':A0r} (hk:KLe K K') {loose:List (Nat×Nat)} {ops:List Ins} {σ σ':St} (he:A1X K loose ops σ=some σ'):A1X K' loose ops σ=some σ':=by
 unfold A1X at he ⊢
 split at he
 · rename_i s h hst
   obtain ⟨q1,q2⟩:=A54 hk hst
   rw [q1,q2]
   exact he
 · cases he
theorem B0c {Φ:Tbl} {R R':MC→St→Option (Ex×St)} (h:∀ c σ r,R c σ=some r→R' c σ=some r):KLe (A1r Φ R) (A1r Φ R'):=by
 intro f args ext r hr
 unfold A1r at hr ⊢
 split at hr
 · cases hr
 · exact hr
 · rename_i F hF
   cases hR:R F.body ⟨A1S args,A0O ext,1⟩ with
   | none=>rw [hR] at hr; cases hr
   | some x =>
     rw [hR] at hr
     simp only [h _ _ _ hR]
     exact hr
theorem C3g {Φ:Tbl}:∀ {n:Nat} {c:MC} {σ:St} {r:Ex×St},run Φ n c σ=some r→run Φ (n + 1) c σ=some r:=by
 intro n
 induction n with
 | zero=>intro c σ r h; simp [run] at h
 | succ n ih =>
   intro c σ r h
   cases c with
   | reg loose ops =>
     rw [run] at h ⊢
     cases hr:A1X (A1r Φ (run Φ n)) loose ops σ with
     | none=>rw [hr] at h; cases h
     | some σ' =>
       rw [hr] at h
       rw [B2F (B0c fun c σ r=>ih) hr]
       exact h
   | seq a b =>
     rw [run] at h ⊢
     cases ha:run Φ n a σ with
     | none=>rw [ha] at h; cases h
     | some x =>
       rw [ha] at h
       rw [ih ha]
       obtain ⟨e,σ1⟩:=x
       cases e with
       | normal=>exact ih h
       | exit id=>exact h
       | ret=>exact h
   | cond c a b =>
     rw [run] at h ⊢
     split at h
     · exact ih h
     · exact ih h
     · cases h
   | block id c =>
     rw [run] at h ⊢
     cases ha:run Φ n c σ with
     | none=>rw [ha] at h; cases h
     | some x=>rw [ha] at h; rw [ih ha]; exact h
   | loop ks ids c =>
     rw [run] at h ⊢
     cases ha:run Φ n c (A1R ks ids σ) with
     | none=>rw [ha] at h; cases h
     | some x =>
       rw [ha] at h
       rw [ih ha]
       obtain ⟨e,σ1⟩:=x
       cases e with
       | normal=>exact ih h
       | exit id=>exact h
       | ret=>exact h
   | _=>rw [run] at h ⊢; exact h
theorem A4D {Φ:Tbl} {n m:Nat} (hnm:n ≤ m) {c:MC} {σ:St} {r:Ex×St} (h:run Φ n c σ=some r):run Φ m c σ=some r:=by
 induction hnm with
 | refl=>exact h
 | step _ ih=>exact C3g ih
theorem B6g {Φ:Tbl} {n m:Nat} (hnm:n ≤ m):KLe (A1r Φ (run Φ n)) (A1r Φ (run Φ m)):=B0c fun _ _ _ h=>A4D hnm h
open Classical in
noncomputable def A11 (Φ:Tbl) (c:MC) (σ:St):Option (Ex×St):=if h:∃ n r,run Φ n c σ=some r then some h.choose_spec.choose else none
noncomputable def KI (Φ:Tbl):A0r:=A1r Φ (A11 Φ)
section
variable {Φ:Tbl}
theorem A04 {c:MC} {σ:St} {r:Ex×St}:A11 Φ c σ=some r↔∃ n,run Φ n c σ=some r:=by
 unfold A11
 constructor
 · intro h
   split at h
   · rename_i hex
     simp only [Option.some.injEq] at h
     exact ⟨hex.choose,by rw [← h]; exact hex.choose_spec.choose_spec⟩
   · cases h
 · rintro ⟨n,hn⟩
   have hex:∃ n r,run Φ n c σ=some r:=⟨n,r,hn⟩
   rw [dif_pos hex]
   have h1:=hex.choose_spec.choose_spec
   have h2:=A4D (Nat.le_max_left hex.choose n) h1
   have h3:=A4D (Nat.le_max_right hex.choose n) hn
   rw [h2] at h3
   exact h3
theorem A72 {α:Type} {x y:Option α} (h:∀ r,x=some r↔y=some r):x=y:=by
 cases x with
 | none =>
   cases y with
   | none=>rfl
   | some r=>exact absurd ((h r).2 rfl) (by simp)
 | some r=>exact ((h r).1 rfl).symm
theorem C0G (n:Nat):KLe (A1r Φ (run Φ n)) (KI Φ):=B0c fun c σ r h=>A04.2 ⟨n,h⟩
theorem B31 {f:Nat} {args:List MV} {ext:List (Obj Nat)} {r:Ret} (h:KI Φ f args ext=some r):∃ n,A1r Φ (run Φ n) f args ext=some r:=by
 unfold KI A1r at h
 split at h
 · cases h
 · rename_i p hp
   exact ⟨0,by unfold A1r; rw [hp]; exact h⟩
 · rename_i F hF
   cases hR:A11 Φ F.body ⟨A1S args,A0O ext,1⟩ with
   | none=>rw [hR] at h; cases h
   | some x =>
     rw [hR] at h
     obtain ⟨n,hn⟩:=A04.1 hR
     refine ⟨n,?_⟩
     unfold A1r
     rw [hF]
     simp only [hn]
     exact h
theorem C0H {g:Nat} {d:Option Nat} {s:A0k} {h:A0b} {op:MOp} {x:MV×A0b} (he:A0a (KI Φ) g d s h op=some x):∃ n,A0a (A1r Φ (run Φ n)) g d s h op=some x:=by
 cases op with
 | call md f args =>
   simp only [A0a] at he ⊢
   split at he
   · rename_i f0 cs hc
     split at he
     · unfold A2Z at he
       split at he
       · rename_i vs hvs
         cases hK:KI Φ f0 (vs.map .p) [] with
         | none=>rw [hK] at he; simp [A2Y] at he
         | some r =>
           obtain ⟨n,hn⟩:=B31 hK
           refine ⟨n,?_⟩
           unfold A2Z
           rw [hK] at he
           simp only [hvs,hn]
           exact he
       · cases he
     · unfold A2Q at he
       dsimp only at he
       split at he
       · cases he
       · rename_i objs hobjs
         split at he
         · cases he
         · rename_i r ext esc hK
           obtain ⟨n,hn⟩:=B31 hK
           refine ⟨n,?_⟩
           unfold A2Q
           simp only [hobjs,hn]
           exact he
     · unfold A3B at he
       split at he
       · rename_i vs hvs
         split at he
         · rename_i r esc hK
           obtain ⟨n,hn⟩:=B31 hK
           refine ⟨n,?_⟩
           unfold A3B
           simp only [hvs,hn]
           exact he
         · cases he
       · cases he
   · cases he
 | _=>exact ⟨0,he⟩
theorem B2G:∀ {l:List Ins} {g:Nat} {s:A0k} {h:A0b} {x:A0k×A0b},A2a (KI Φ) g l s h=some x→∃ n,A2a (A1r Φ (run Φ n)) g l s h=some x
 | [],g,s,h,x,he=>⟨0,he⟩
 | i::r,g,s,h,x,he=>by
   simp only [A2a] at he
   split at he
   · rename_i s1 h1 hi
     obtain ⟨m,hm⟩:=B2G he
     have hstep:∃ n,A0S (A1r Φ (run Φ n)) g i s h=some (s1,h1):=by
      unfold A0S at hi ⊢
      split at hi
      · split at hi
        · rename_i v h' hv
          obtain ⟨n,hn⟩:=C0H hv
          exact ⟨n,by rw [hn]; exact hi⟩
        · cases hi
      · exact ⟨0,hi⟩
      · cases hi
     obtain ⟨n,hn⟩:=hstep
     refine ⟨max n m,?_⟩
     simp only [A2a,B1o (B6g (Nat.le_max_left n m)) hn]
     exact (A54 (B6g (Nat.le_max_right n m)) hm).1
   · cases he
theorem C0I {loose:List (Nat×Nat)} {ops:List Ins} {σ σ':St} (he:A1X (KI Φ) loose ops σ=some σ'):∃ n,A1X (A1r Φ (run Φ n)) loose ops σ=some σ':=by
 unfold A1X at he
 split at he
 · rename_i s h hst
   obtain ⟨n,hn⟩:=B2G hst
   refine ⟨n,?_⟩
   obtain ⟨q1,q2⟩:=A54 (C0G n) hn
   unfold A1X
   rw [hn,← q2]
   exact he
 · cases he
theorem B6h (σ:St):A11 Φ .skip σ=some (.normal,σ):=A04.2 ⟨1,rfl⟩
theorem B7X (σ:St):A11 Φ .ret σ=some (.ret,σ):=A04.2 ⟨1,rfl⟩
theorem B6i (id:Nat) (σ:St):A11 Φ (.exit id) σ=some (.exit id,σ):=A04.2 ⟨1,rfl⟩
theorem B5a (g:Gh) (σ:St):A11 Φ (.gh g) σ=match A5P g σ with | some σ'=>some (.normal,σ') | none=>none:=by
 refine A72 fun r=>?_
 rw [A04]
 constructor
 · rintro ⟨n,hn⟩
   cases n with
   | zero=>simp [run] at hn
   | succ n=>exact hn
 · intro h; exact ⟨1,h⟩
theorem C3h (loose:List (Nat×Nat)) (ops:List Ins) (σ:St):A11 Φ (.reg loose ops) σ=match A1X (KI Φ) loose ops σ with | some σ'=>some (.normal,σ') | none=>none:=by
 refine A72 fun r=>?_
 rw [A04]
 constructor
 · rintro ⟨n,hn⟩
   cases n with
   | zero=>simp [run] at hn
   | succ n =>
     simp only [run] at hn
     cases hr:A1X (A1r Φ (run Φ n)) loose ops σ with
     | none=>rw [hr] at hn; cases hn
     | some σ' =>
       rw [hr] at hn
       rw [B2F (C0G n) hr]
       exact hn
 · intro h
   cases hr:A1X (KI Φ) loose ops σ with
   | none=>rw [hr] at h; cases h
   | some σ' =>
     rw [hr] at h
     obtain ⟨n,hn⟩:=C0I hr
     exact ⟨n + 1,by rw [run,hn]; exact h⟩
theorem C3i (a b:MC) (σ:St):A11 Φ (.seq a b) σ=match A11 Φ a σ with | some (.normal,σ')=>A11 Φ b σ' | r=>r:=by
 refine A72 fun r=>?_
 rw [A04]
 constructor
 · rintro ⟨n,hn⟩
   cases n with
   | zero=>simp [run] at hn
   | succ n =>
     rw [run] at hn
     cases ha:run Φ n a σ with
     | none=>rw [ha] at hn; cases hn
     | some x =>
       rw [A04.2 ⟨n,ha⟩]
       rw [ha] at hn
       obtain ⟨e,σ1⟩:=x
       cases e with
       | normal=>exact A04.2 ⟨n,hn⟩
       | exit id=>exact hn
       | ret=>exact hn
 · intro h
   cases ha:A11 Φ a σ with
   | none=>rw [ha] at h; cases h
   | some x =>
     rw [ha] at h
     obtain ⟨n,hn⟩:=A04.1 ha
     obtain ⟨e,σ1⟩:=x
     cases e with
     | normal =>
       obtain ⟨m,hm⟩:=A04.1 h
       refine ⟨max n m + 1,?_⟩
       rw [run,A4D (Nat.le_max_left n m) hn]
       exact A4D (Nat.le_max_right n m) hm
     | exit id=>exact ⟨n + 1,by rw [run,hn]; exact h⟩
     | ret=>exact ⟨n + 1,by rw [run,hn]; exact h⟩
theorem C13 (c:Opd) (a b:MC) (σ:St):A11 Φ (.cond c a b) σ=match evO σ.s c with | .p (.bool true)=>A11 Φ a σ | .p (.bool false)=>A11 Φ b σ | _=>none:=by
 refine A72 fun r=>?_
 rw [A04]
 constructor
 · rintro ⟨n,hn⟩
   cases n with
   | zero=>simp [run] at hn
   | succ n =>
     rw [run] at hn
     split at hn
     · rename_i hc; rw [hc]; exact A04.2 ⟨n,hn⟩
     · rename_i hc; rw [hc]; exact A04.2 ⟨n,hn⟩
     · cases hn
 · intro h
   split at h
   · rename_i hc
     obtain ⟨n,hn⟩:=A04.1 h
     exact ⟨n + 1,by rw [run,hc]; exact hn⟩
   · rename_i hc
     obtain ⟨n,hn⟩:=A04.1 h
     exact ⟨n + 1,by rw [run,hc]; exact hn⟩
   · cases h
theorem C0J (id:Nat) (c:MC) (σ:St):A11 Φ (.block id c) σ=match A11 Φ c σ with | some (.exit j,σ')=>if j=id then some (.normal,σ') else some (.exit j,σ') | r=>r:=by
 refine A72 fun r=>?_
 rw [A04]
 constructor
 · rintro ⟨n,hn⟩
   cases n with
   | zero=>simp [run] at hn
   | succ n =>
     rw [run] at hn
     cases ha:run Φ n c σ with
     | none=>rw [ha] at hn; cases hn
     | some x=>rw [A04.2 ⟨n,ha⟩]; rw [ha] at hn; exact hn
 · intro h
   cases ha:A11 Φ c σ with
   | none=>rw [ha] at h; cases h
   | some x =>
     obtain ⟨n,hn⟩:=A04.1 ha
     rw [ha] at h
     exact ⟨n + 1,by rw [run,hn]; exact h⟩
theorem C14 (ks ids:List Nat) (c:MC) (σ:St):A11 Φ (.loop ks ids c) σ=match A11 Φ c (A1R ks ids σ) with | some (.normal,σ')=>A11 Φ (.loop ks ids c) σ' | r=>r:=by
 refine A72 fun r=>?_
 constructor
 · intro h0
   obtain ⟨n,hn⟩:=A04.1 h0
   cases n with
   | zero=>simp [run] at hn
   | succ n =>
     rw [run] at hn
     cases ha:run Φ n c (A1R ks ids σ) with
     | none=>rw [ha] at hn; cases hn
     | some x =>
       rw [A04.2 ⟨n,ha⟩]
       rw [ha] at hn
       obtain ⟨e,σ1⟩:=x
       cases e with
       | normal=>exact A04.2 ⟨n,hn⟩
       | exit id=>exact hn
       | ret=>exact hn
 · intro h
   refine A04.2 ?_
   cases ha:A11 Φ c (A1R ks ids σ) with
   | none=>rw [ha] at h; cases h
   | some x =>
     rw [ha] at h
     obtain ⟨n,hn⟩:=A04.1 ha
     obtain ⟨e,σ1⟩:=x
     cases e with
     | normal =>
       obtain ⟨m,hm⟩:=A04.1 h
       refine ⟨max n m + 1,?_⟩
       rw [run,A4D (Nat.le_max_left n m) hn]
       exact A4D (Nat.le_max_right n m) hm
     | exit id=>exact ⟨n + 1,by rw [run,hn]; exact h⟩
     | ret=>exact ⟨n + 1,by rw [run,hn]; exact h⟩
theorem C4M {f:Nat} {F:MFun} (h:Φ f=some (.code F)) (args:List MV) (ext:List (Obj Nat)):KI Φ f args ext=match A11 Φ F.body ⟨A1S args,A0O ext,1⟩ with
 | some (.normal,σ)=>A4c F ext.length σ
 | some (.ret,σ)=>A4c F ext.length σ
 | _=>none:=by
 unfold KI A1r
 rw [h]
 rfl
theorem B9D {f:Nat} {p:Prim} (h:Φ f=some (.prim p)) (args:List MV) (ext:List (Obj Nat)):KI Φ f args ext=A5Q p args ext:=by
 unfold KI A1r
 rw [h]
end
def mkS:List (Nat×MV)→A0k
 | [],_=>.dead 0
 | (j,v)::r,k=>if k=j then v else mkS r k
def mkH:List (Nat×Obj Nat)→A0b
 | [],_=>none
 | (j,o)::r,k=>if k=j then some o else mkH r k
def A55 {α:Type}:List (Nat×α)→Nat→α→List (Nat×α)
 | [],k,v=>[(k,v)]
 | (j,u)::r,k,v=>if k=j then (k,v)::r else (j,u)::A55 r k v
theorem C4N (l:List (Nat×MV)) (k:Nat) (v:MV):upd (mkS l) k v=mkS (A55 l k v):=by
 funext i
 induction l with
 | nil=>simp only [upd,mkS,A55]
 | cons x r ih =>
   obtain ⟨j,u⟩:=x
   simp only [upd,A55] at ih ⊢
   by_cases hkj:k=j
   · subst hkj
     by_cases hik:i=k <;> simp [mkS,hik]
   · rw [if_neg hkj]
     simp only [mkS]
     by_cases hij:i=j
     · subst hij
       simp [Ne.symm hkj]
     · rw [if_neg hij,if_neg hij]; exact ih
theorem B9E (l:List (Nat×Obj Nat)) (k:Nat) (o:Obj Nat):upd (mkH l) k (some o)=mkH (A55 l k o):=by
 funext i
 induction l with
 | nil=>simp only [upd,mkH,A55]
 | cons x r ih =>
   obtain ⟨j,u⟩:=x
   simp only [upd,A55] at ih ⊢
   by_cases hkj:k=j
   · subst hkj
     by_cases hik:i=k <;> simp [mkH,hik]
   · rw [if_neg hkj]
     simp only [mkH]
     by_cases hij:i=j
     · subst hij
       simp [Ne.symm hkj]
     · rw [if_neg hij,if_neg hij]; exact ih
def A81 (args:List MV):Nat→List (Nat×MV)
 | i=>match args with
   | []=>[]
   | v::r=>(i,v)::A81 r (i + 1)
theorem B9d (args:List MV):A1S args=mkS (A81 args 0):=by
 have key:∀ (args:List MV) (i k:Nat),mkS (A81 args i) k=if i ≤ k then args.getD (k - i) (.dead 0) else .dead 0:=by
  intro args
  induction args with
  | nil=>intro i k; simp [A81,mkS]
  | cons v r ih =>
    intro i k
    simp only [A81,mkS]
    by_cases h:k=i
    · subst h; simp
    · rw [if_neg h,ih]
      by_cases h2:i ≤ k
      · rw [if_pos (by omega),if_pos h2,show k - i=(k - (i + 1)) + 1 by omega]
        simp
      · rw [if_neg (by omega),if_neg h2]
 funext k
 rw [key]
 simp [A1S]
def B0d (ext:List (Obj Nat)):Nat→List (Nat×Obj Nat)
 | i=>match ext with
   | []=>[]
   | o::r=>(i,o)::B0d r (i + 1)
theorem C0K (ext:List (Obj Nat)):A0O ext=mkH (B0d ext A0e):=by
 have key:∀ (ext:List (Obj Nat)) (i k:Nat),mkH (B0d ext i) k=if i ≤ k then ext[k - i]? else none:=by
  intro ext
  induction ext with
  | nil=>intro i k; simp [B0d,mkH]
  | cons v r ih =>
    intro i k
    simp only [B0d,mkH]
    by_cases h:k=i
    · subst h; simp
    · rw [if_neg h,ih]
      by_cases h2:i ≤ k
      · rw [if_pos (by omega),if_pos h2,show k - i=(k - (i + 1)) + 1 by omega]
        simp
      · rw [if_neg (by omega),if_neg h2]
 funext k
 rw [key]
 rfl
def A56 (h:A0b) (ids:List Nat) (s:A0k) (ks:List Nat):List (Nat×MV):=ks.map fun k=>(k,A0s h (A1W ids) A0i (s k))
def A4E (h:A0b) (ids:List Nat):List (Nat×Obj Nat)→List (Nat×Obj Nat)
 | []=>[]
 | (i,o)::r=>if A4t ids i then (i,A0X (A0s h (A1W ids) A0i) A0i o)::A4E h ids r else A4E h ids r
theorem B6j (ks ids:List Nat) (l:List (Nat×MV)) (m:List (Nat×Obj Nat)) (n:Nat):A1R ks ids ⟨mkS l,mkH m,n⟩=⟨mkS (A56 (mkH m) ids (mkS l) ks),mkH (A4E (mkH m) ids m),2⟩:=by
 unfold A1R
 congr 1
 · funext k
   simp only [A56]
   induction ks with
   | nil=>rfl
   | cons j r ih =>
     simp only [List.map_cons,mkS]
     by_cases h:k=j
     · subst h; simp
     · rw [if_neg h,← ih]
       simp [h]
 · funext i
   have:∀ q:List (Nat×Obj Nat),mkH (A4E (mkH m) ids q) i=if A4t ids i=true then (mkH q i).map (A0X (A0s (mkH m) (A1W ids) A0i) A0i) else none:=by
    intro q
    induction q with
    | nil=>simp [A4E,mkH]
    | cons x r ih =>
      obtain ⟨j,o⟩:=x
      simp only [A4E]
      by_cases hij:i=j
      · subst hij
        by_cases hk:A4t ids i=true
        · rw [if_pos hk,if_pos hk]; simp [mkH]
        · rw [if_neg hk,if_neg hk,ih,if_neg hk]
      · by_cases hk:A4t ids j=true
        · rw [if_pos hk]; simp only [mkH,if_neg hij]; exact ih
        · rw [if_neg hk]; simp only [mkH,if_neg hij]; exact ih
   exact (this m).symm
end Go.Mid
/- Running code on list states. -/
namespace Go.Mid
set_option linter.unusedSimpArgs false
set_option linter.unusedVariables false
def stL (s:List (Nat×MV)) (h:List (Nat×Obj Nat)) (n:Nat):St:=⟨mkS s,mkH h,n⟩
section
variable {Φ:Tbl}
@[simp] theorem C7g (k:Nat):mkS [] k=.dead 0:=rfl
@[simp] theorem C3j (j:Nat) (v:MV) (r:List (Nat×MV)) (k:Nat):mkS ((j,v)::r) k=if k=j then v else mkS r k:=rfl
@[simp] theorem C7h (k:Nat):mkH [] k=none:=rfl
@[simp] theorem A27 (j:Nat) (v:Obj Nat) (r:List (Nat×Obj Nat)) (k:Nat):mkH ((j,v)::r) k=if k=j then some v else mkH r k:=rfl
@[simp] theorem C6T {α:Type} (k:Nat) (v:α):A55 [] k v=[(k,v)]:=rfl
@[simp] theorem C6G {α:Type} (j:Nat) (u:α) (r:List (Nat×α)) (k:Nat) (v:α):A55 ((j,u)::r) k v=if k=j then (k,v)::r else (j,u)::A55 r k v:=rfl
attribute [simp] B9E
@[simp] theorem C7i (s:List (Nat×MV)) (h:List (Nat×Obj Nat)) (n:Nat):(⟨mkS s,mkH h,n⟩:St)=stL s h n:=rfl
@[simp] theorem C7r (s:List (Nat×MV)) (h:List (Nat×Obj Nat)) (n:Nat):(stL s h n).s=mkS s:=rfl
@[simp] theorem C7s (s:List (Nat×MV)) (h:List (Nat×Obj Nat)) (n:Nat):(stL s h n).h=mkH h:=rfl
@[simp] theorem C7o (s:List (Nat×MV)) (h:List (Nat×Obj Nat)) (n:Nat):(stL s h n).nx=n:=rfl
attribute [simp] B6h B7X B6i
@[simp] theorem C6e (K:A0r) (g:Nat) (s:A0k) (h:A0b):A2a K g [] s h=some (s,h):=rfl
@[simp] theorem C7j (ks ids:List Nat) (s:List (Nat×MV)) (h:List (Nat×Obj Nat)) (n:Nat) :
   A11 Φ (.gh (.keep ks ids)) (stL s h n)=some (.normal,stL (A56 (mkH h) ids (mkS s) ks) (A4E (mkH h) ids h) 2):=by
  rw [B5a]
  simp only [A5P,stL,B6j]
@[simp] theorem C0L (ks ids:List Nat) (s:List (Nat×MV)) (h:List (Nat×Obj Nat)) (n:Nat) :
   A1R ks ids (stL s h n)=stL (A56 (mkH h) ids (mkS s) ks) (A4E (mkH h) ids h) 2:=B6j ks ids s h n
@[simp] theorem C6U (c:Prop) [Decidable c] (a b:Bool):(if c then MV.p (.bool a) else MV.p (.bool b))=.p (.bool (if c then a else b)):=by split <;> rfl
end
@[simp] theorem C6m (h:A0b) (ids:List Nat) (s:A0k):A56 h ids s []=[]:=rfl
@[simp] theorem C6f (h:A0b) (ids:List Nat) (s:A0k) (k:Nat) (r:List Nat):A56 h ids s (k::r)=(k,A0s h (A1W ids) A0i (s k))::A56 h ids s r:=rfl
attribute [simp] evO A4E A0a A4t A1W A5N A5M A6L isB PV.cs PV.css asI A2E A4l A81 B0d A4c A3j A5w A5x sfM A0s A1G A18 A0A A0I A0o A5L A1I A0C A0X A0D A0w A2Z A2Y A01 A1Q A2i A1O A3W A3m A7O C6j callee A2J A4i A1z A2D look A0V A3h A5k A4L A0B A7G A21 A0c A0g put putT T.cs T.css MV.cs MV.css okB A2A A0x zT zT.zTs A0i A3L A5d A5x B3y
section
variable (k:IntKind) (n:Int) (b:Bool) (s:ByteArray) (l m:List PV) (v:PV) (f:Nat) (w:MV) (i o q g:Nat) (r:List Nat) (np:Option (List Nat)) (ms:List MV)
@[simp] theorem C6H:(PV.int k n).isAgg=false:=rfl
@[simp] theorem C6n:(PV.bool b).isAgg=false:=rfl
@[simp] theorem C6I:(PV.str s).isAgg=false:=rfl
@[simp] theorem C6J:(PV.agg l).isAgg=true:=rfl
@[simp] theorem C6V:(PV.sl l).isAgg=false:=rfl
@[simp] theorem C6K:(PV.ref v).isAgg=false:=rfl
@[simp] theorem C6W:(PV.fn f l).isAgg=false:=rfl
@[simp] theorem C6X:(PV.mp l m).isAgg=false:=rfl
@[simp] theorem C6o:PV.nilp.isAgg=false:=rfl
@[simp] theorem C6p:PV.nilf.isAgg=false:=rfl
@[simp] theorem C6Y:(MV.p v).isAgg=v.isAgg:=rfl
@[simp] theorem C6q:(MV.agg ms).isAgg=true:=rfl
@[simp] theorem C6r:(MV.own i r o q g).isAgg=false:=rfl
@[simp] theorem C6s:(MV.ptr i np r o q).isAgg=false:=rfl
@[simp] theorem C6g:(MV.mref i r g).isAgg=false:=rfl
@[simp] theorem C6t:(MV.nil i).isAgg=false:=rfl
@[simp] theorem C6L:(MV.fn i ms).isAgg=false:=rfl
@[simp] theorem C6u:(MV.tup ms).isAgg=false:=rfl
@[simp] theorem C6h:(MV.dead i).isAgg=false:=rfl
end
@[simp] theorem C6i (i:Nat):A00 [] i=none:=rfl
@[simp] theorem A73 (x:Nat) (r:List Nat) (i:Nat):A00 (x::r) i=if x=i then some 0 else (A00 r i).map (· + 1):=by
  unfold A00
  rw [List.findIdx?_cons]
  by_cases h:x=i
  · simp [h]
  · simp [h]
@[simp 1100] theorem C7k (n:Nat) (k:IntKind) (i:Int) (h0:0 ≤ i) (h1:i < n):A7f n (.p (.int k i))=some i.toNat:=by simp [A7f,asI,h0,h1]
@[simp 1100] theorem C7l (n:Nat) (k:IntKind) (i:Int) (h0:0 ≤ i) (h1:i ≤ n):A6o n (.p (.int k i))=some i.toNat:=by simp [A6o,asI,h0,h1]
section
variable (k:IntKind) (a b:Int)
@[simp 1100] theorem C7t (h:a < b):A0H .lss (.int k a) (.int k b)=some (.bool true):=by simp [A0H,h]
@[simp 1100] theorem C7u (h:b ≤ a):A0H .lss (.int k a) (.int k b)=some (.bool false):=by simp [A0H]; omega
@[simp 900] theorem C7v:A0H .lss (.int k a) (.int k b)=some (.bool (decide (a < b))):=by simp [A0H]
@[simp 1100] theorem C7w (h:a ≤ b):A0H .leq (.int k a) (.int k b)=some (.bool true):=by simp [A0H,h]
@[simp 1100] theorem C7x (h:b < a):A0H .leq (.int k a) (.int k b)=some (.bool false):=by simp [A0H]; omega
@[simp 900] theorem C7y:A0H .leq (.int k a) (.int k b)=some (.bool (decide (a ≤ b))):=by simp [A0H]
@[simp 1100] theorem C7z (h:b < a):A0H .gtr (.int k a) (.int k b)=some (.bool true):=by simp [A0H,h]
@[simp 1100] theorem C7A (h:a ≤ b):A0H .gtr (.int k a) (.int k b)=some (.bool false):=by simp [A0H]; omega
@[simp 900] theorem C7B:A0H .gtr (.int k a) (.int k b)=some (.bool (decide (b < a))):=by simp [A0H]
@[simp 1100] theorem C7C (h:b ≤ a):A0H .geq (.int k a) (.int k b)=some (.bool true):=by simp [A0H,h]
@[simp 1100] theorem C7D (h:a < b):A0H .geq (.int k a) (.int k b)=some (.bool false):=by simp [A0H]; omega
@[simp 900] theorem C7E:A0H .geq (.int k a) (.int k b)=some (.bool (decide (b ≤ a))):=by simp [A0H]
@[simp 1100] theorem C7F (h:a=b):A0H .eql (.int k a) (.int k b)=some (.bool true):=by simp [A0H,h]
@[simp 1100] theorem C7G (h:a ≠ b):A0H .eql (.int k a) (.int k b)=some (.bool false):=by simp [A0H,h]
@[simp 900] theorem C7H:A0H .eql (.int k a) (.int k b)=some (.bool (decide (a=b))):=by simp [A0H]; rfl
@[simp 1100] theorem C7I (h:a ≠ b):A0H .neq (.int k a) (.int k b)=some (.bool true):=by simp [A0H,h]
@[simp 1100] theorem C7J (h:a=b):A0H .neq (.int k a) (.int k b)=some (.bool false):=by simp [A0H,h]
@[simp 900] theorem C7K:A0H .neq (.int k a) (.int k b)=some (.bool (decide (a ≠ b))):=by simp [A0H,bne]; rfl
@[simp] theorem C7L:A0H .add (.int k a) (.int k b)=some (.int k (k.wrap (a + b))):=by simp [A0H]
@[simp] theorem C7M:A0H .sub (.int k a) (.int k b)=some (.int k (k.wrap (a - b))):=by simp [A0H]
@[simp] theorem C7N:A0H .mul (.int k a) (.int k b)=some (.int k (k.wrap (a * b))):=by simp [A0H]
end
@[simp 1100] theorem C7O (k k':IntKind) (a i:Nat) (h:i ≤ k.bits):A0H .shr (.int k (a:Int)) (.int k' (i:Int))=some (.int k ((a >>> i:Nat):Int)):=by
  have h0:¬ ((i:Int) < 0):=by omega
  have e:min (i:Int).toNat k.bits=i:=by rw [Int.toNat_natCast]; exact Nat.min_eq_left h
  have h2:(a:Int).fdiv (2 ^ i)=((a >>> i:Nat):Int):=by
   rw [Nat.shiftRight_eq_div_pow,show ((2:Int) ^ i)=((2 ^ i:Nat):Int) by simp,Int.fdiv_eq_ediv_of_nonneg _ (Int.natCast_nonneg _)]
   exact (Int.natCast_ediv _ _).symm
  simp only [A0H,h0,if_false,e,h2]
theorem C15 (n a b:Nat) (ha:a < 2 ^ n) (hb:b < 2 ^ n):(BitVec.ofInt n (a:Int) &&& BitVec.ofInt n (b:Int)).toNat=a &&& b:=by
 simp [Nat.mod_eq_of_lt ha,Nat.mod_eq_of_lt hb]
theorem C4O (a b:Nat) (ha:a < 18446744073709551616) (hb:b < 18446744073709551616):A0H .and (.int .u64 (a:Int)) (.int .u64 (b:Int))=some (.int .u64 ((a &&& b:Nat):Int)):=by
 have h:a &&& b ≤ a:=Nat.and_le_left
 have e:A0H .and (.int .u64 (a:Int)) (.int .u64 (b:Int))=some (.int .u64 (IntKind.u64.wrap (BitVec.ofInt 64 (a:Int) &&& BitVec.ofInt 64 (b:Int)).toNat)):=rfl
 rw [e,C15 64 a b ha hb,IntWalk.u64_in _ ⟨by omega,by omega⟩]
theorem C4P (a b:Nat) (ha:a < 4294967296) (hb:b < 4294967296):A0H .and (.int .u32 (a:Int)) (.int .u32 (b:Int))=some (.int .u32 ((a &&& b:Nat):Int)):=by
 have h:a &&& b ≤ a:=Nat.and_le_left
 have e:A0H .and (.int .u32 (a:Int)) (.int .u32 (b:Int))=some (.int .u32 (IntKind.u32.wrap (BitVec.ofInt 32 (a:Int) &&& BitVec.ofInt 32 (b:Int)).toNat)):=rfl
 rw [e,C15 32 a b ha hb,IntWalk.u32_in _ ⟨by omega,by omega⟩]
@[simp 1100] theorem C6Z (a:Nat) (ha:a < 18446744073709551616):A0H .and (.int .u64 (a:Int)) (.int .u64 1)=some (.int .u64 ((a % 2:Nat):Int)):=by
  have:=C4O a 1 ha (by omega)
  rw [Nat.and_one_is_mod] at this
  exact this
@[simp 1100] theorem C60 (a:Nat) (ha:a < 4294967296):A0H .and (.int .u32 (a:Int)) (.int .u32 1)=some (.int .u32 ((a % 2:Nat):Int)):=by
  have:=C4P a 1 ha (by omega)
  rw [Nat.and_one_is_mod] at this
  exact this
attribute [simp] List.getElem?_cons_zero
attribute [simp 1100] List.take_of_length_le
attribute [simp] IntWalk.i64_in IntWalk.u64_in IntWalk.u8_in IntWalk.u32_in
def tv (l:List PV):List (T Nat):=l.map T.p
section
variable (l m:List PV) (g z:Nat)
@[simp] theorem B1p:(tv l).length=l.length:=by simp [tv]
@[simp] theorem C6M:tv l++tv m=tv (l++m):=by simp [tv]
@[simp] theorem C6N (v:PV):tv l++[T.p v]=tv (l++[v]):=by simp [tv]
@[simp] theorem C7m (n:Nat):(tv l).take n=tv (l.take n):=by simp [tv]
@[simp] theorem C7n (n:Nat):(tv l).drop n=tv (l.drop n):=by simp [tv]
@[simp] theorem C7p:tv []=[]:=rfl
@[simp] theorem C7q (i:Nat):(tv l)[i]?=l[i]?.map T.p:=by simp [tv]
@[simp] theorem B23:A0Z (tv l)=some l:=by
  induction l with
  | nil=>rfl
  | cons x r ih=>simp only [tv,List.map_cons,A0Z] at ih ⊢; rw [ih]
@[simp] theorem C6O:A0y (tv l)=some l:=by
  induction l with
  | nil=>rfl
  | cons x r ih=>simp only [tv,List.map_cons,A0y,A3b] at ih ⊢; rw [ih]
@[simp] theorem C3k (φ:MV→MV) (ζ:Nat→Nat):A0w φ ζ (tv l)=tv l:=by
  induction l with
  | nil=>rfl
  | cons x r ih=>simp only [tv,List.map_cons,A0w,A0D] at ih ⊢; rw [ih]
@[simp] theorem B6k:A0F g (tv l)=tv l:=C3k l _ _
@[simp] theorem C6v:A0F g []=[]:=rfl
@[simp] theorem C5o (v:PV):A0F g [T.p v]=[T.p v]:=rfl
@[simp] theorem B24:(tv l).all A2u=true:=by simp [tv,A2u]
@[simp] theorem C3l:A1E z (tv l)=l.all fun v=>v.cs == z:=by simp [tv,A1E,T.cs]; rfl
@[simp] theorem C6P:A1E z []=true:=rfl
@[simp] theorem B32 (t:T Nat) (r:List (T Nat)):A1E z (t::r)=(t.cs == z && A1E z r):=rfl
@[simp] theorem C6Q:A1a (tv l)=[]:=by
  induction l with
  | nil=>rfl
  | cons x r ih=>simp only [tv,List.map_cons,A1a,A3c,List.nil_append] at ih ⊢; rw [ih]
@[simp] theorem C6R:A2t (tv l)=l.all A3m:=by
  induction l with
  | nil=>rfl
  | cons x r ih=>simp only [tv,List.map_cons,A2t,A5e,List.all_cons] at ih ⊢; rw [ih]
end
@[simp] theorem C61 (h:A0b) (l:List PV):A1D h (.p (.sl l))=some (tv l):=rfl
@[simp] theorem C6S (h:A0b) (z:Nat):A1D h (.nil z)=some (tv []):=rfl
attribute [simp] A5K A0e A0m
@[simp] theorem C62 (K:A0r) (g:Nat) (s:A0k) (h:A0b):A4y K g [] s h=[]:=rfl
section
variable {α β:Type}
end
end Go.Mid
