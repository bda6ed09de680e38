/- The run without a number of rounds: its equations. -/
import Derived.Test.YtibenanokfodaaaM6
import Derived.IntWalk
namespace Go.Mid
set_option linter.unusedSimpArgs false
set_option linter.unusedVariables false

/-! ### more rounds, the same result -/
def KLe (K K' : Calls3) : Prop := ∀ f args ext r, K f args ext = some r → K' f args ext = some r
theorem KLe.refl (K : Calls3) : KLe K K := fun _ _ _ _ h => h
theorem KLe.trans {K K' K'' : Calls3} (h : KLe K K') (k : KLe K' K'') : KLe K K'' := fun f a e r hr => k f a e r (h f a e r hr)
theorem evalOp_mono {K K' : Calls3} (hk : KLe K K') {g : Nat} {d : Option Nat} {s : Slots} {h : Heap} {op : MOp} {x : MV × Heap} (he : evalOp K g d s h op = some x) : evalOp K' g d s h op = some x := by
  cases op with
  | call md f args =>
    simp only [evalOp] at he ⊢
    split at he
    · rename_i f0 cs hc
      split at he
      · unfold snapCall at he ⊢
        split at he
        · rename_i vs hvs
          cases hK : K f0 (vs.map .p) [] with
          | none => rw [hK] at he; simp [purify] at he
          | some r =>
            rw [hK] at he
            rw [hk _ _ _ _ hK]
            exact he
        · cases he
      · unfold sharedCall at he ⊢
        dsimp only at he ⊢
        split at he
        · cases he
        · split at he
          · cases he
          · rename_i r ext esc hK
            rw [hk _ _ _ _ hK]
            exact he
      · unfold takeCall at he ⊢
        split at he
        · rename_i vs hvs
          split at he
          · rename_i r esc hK
            rw [hk _ _ _ _ hK]
            exact he
          · cases he
        · cases he
    · cases he
  | _ => exact he
theorem stepIns_mono {K K' : Calls3} (hk : KLe K K') {g : Nat} {i : Ins} {s : Slots} {h : Heap} {x : Slots × Heap} (he : stepIns K g i s h = some x) : stepIns K' g i s h = some x := by
  unfold stepIns at he ⊢
  split at he
  · split at he
    · rename_i v h' hv
      rw [evalOp_mono hk hv]
      exact he
    · cases he
  · exact he
  · cases he
theorem stepAll_mono {K K' : Calls3} (hk : KLe K K') : ∀ {l : List Ins} {g : Nat} {s : Slots} {h : Heap} {x : Slots × Heap}, stepAll K g l s h = some x → stepAll K' g l s h = some x ∧ feet K' g l s h = feet K g l s h
  | [], g, s, h, x, he => ⟨he, rfl⟩
  | i :: r, g, s, h, x, he => by
    simp only [stepAll] at he ⊢
    split at he
    · rename_i s1 h1 hi
      obtain ⟨q1, q2⟩ := stepAll_mono hk he
      simp only [feet, hi, stepIns_mono hk hi, q1, q2, and_self]
    · cases he
theorem runReg_mono {K K' : Calls3} (hk : KLe K K') {loose : List (Nat × Nat)} {ops : List Ins} {σ σ' : St} (he : runReg K loose ops σ = some σ') : runReg K' loose ops σ = some σ' := by
  unfold runReg at he ⊢
  split at he
  · rename_i s h hst
    obtain ⟨q1, q2⟩ := stepAll_mono hk hst
    rw [q1, q2]
    exact he
  · cases he
theorem callF_mono {Φ : Tbl} {R R' : MC → St → Option (Ex × St)} (h : ∀ c σ r, R c σ = some r → R' c σ = some r) : KLe (callF Φ R) (callF Φ R') := by
  intro f args ext r hr
  unfold callF at hr ⊢
  split at hr
  · cases hr
  · exact hr
  · rename_i F hF
    cases hR : R F.body ⟨argSlots args, extHeap ext, 1⟩ with
    | none => rw [hR] at hr; cases hr
    | some x =>
      rw [hR] at hr
      simp only [h _ _ _ hR]
      exact hr
theorem run_mono {Φ : Tbl} : ∀ {n : Nat} {c : MC} {σ : St} {r : Ex × St}, run Φ n c σ = some r → run Φ (n + 1) c σ = some r := by
  intro n
  induction n with
  | zero => intro c σ r h; simp [run] at h
  | succ n ih =>
    intro c σ r h
    cases c with
    | reg loose ops =>
      rw [run] at h ⊢
      cases hr : runReg (callF Φ (run Φ n)) loose ops σ with
      | none => rw [hr] at h; cases h
      | some σ' =>
        rw [hr] at h
        rw [runReg_mono (callF_mono fun c σ r => ih) hr]
        exact h
    | seq a b =>
      rw [run] at h ⊢
      cases ha : run Φ n a σ with
      | none => rw [ha] at h; cases h
      | some x =>
        rw [ha] at h
        rw [ih ha]
        obtain ⟨e, σ1⟩ := x
        cases e with
        | normal => exact ih h
        | exit id => exact h
        | ret => exact h
    | cond c a b =>
      rw [run] at h ⊢
      split at h
      · exact ih h
      · exact ih h
      · cases h
    | block id c =>
      rw [run] at h ⊢
      cases ha : run Φ n c σ with
      | none => rw [ha] at h; cases h
      | some x => rw [ha] at h; rw [ih ha]; exact h
    | loop ks ids c =>
      rw [run] at h ⊢
      cases ha : run Φ n c (forget ks ids σ) with
      | none => rw [ha] at h; cases h
      | some x =>
        rw [ha] at h
        rw [ih ha]
        obtain ⟨e, σ1⟩ := x
        cases e with
        | normal => exact ih h
        | exit id => exact h
        | ret => exact h
    | _ => rw [run] at h ⊢; exact h
theorem run_mono' {Φ : Tbl} {n m : Nat} (hnm : n ≤ m) {c : MC} {σ : St} {r : Ex × St} (h : run Φ n c σ = some r) : run Φ m c σ = some r := by
  induction hnm with
  | refl => exact h
  | step _ ih => exact run_mono ih
theorem call_mono {Φ : Tbl} {n m : Nat} (hnm : n ≤ m) : KLe (callF Φ (run Φ n)) (callF Φ (run Φ m)) := callF_mono fun _ _ _ h => run_mono' hnm h

/-! ### the limit -/
open Classical in
noncomputable def runI (Φ : Tbl) (c : MC) (σ : St) : Option (Ex × St) := if h : ∃ n r, run Φ n c σ = some r then some h.choose_spec.choose else none
noncomputable def KI (Φ : Tbl) : Calls3 := callF Φ (runI Φ)
section
variable {Φ : Tbl}
theorem runI_iff {c : MC} {σ : St} {r : Ex × St} : runI Φ c σ = some r ↔ ∃ n, run Φ n c σ = some r := by
  unfold runI
  constructor
  · intro h
    split at h
    · rename_i hex
      simp only [Option.some.injEq] at h
      exact ⟨hex.choose, by rw [← h]; exact hex.choose_spec.choose_spec⟩
    · cases h
  · rintro ⟨n, hn⟩
    have hex : ∃ n r, run Φ n c σ = some r := ⟨n, r, hn⟩
    rw [dif_pos hex]
    have h1 := hex.choose_spec.choose_spec
    have h2 := run_mono' (Nat.le_max_left hex.choose n) h1
    have h3 := run_mono' (Nat.le_max_right hex.choose n) hn
    rw [h2] at h3
    exact h3
/-- two options are one -/
theorem opt_eq {α : Type} {x y : Option α} (h : ∀ r, x = some r ↔ y = some r) : x = y := by
  cases x with
  | none =>
    cases y with
    | none => rfl
    | some r => exact absurd ((h r).2 rfl) (by simp)
  | some r => exact ((h r).1 rfl).symm
theorem KI_le (n : Nat) : KLe (callF Φ (run Φ n)) (KI Φ) := callF_mono fun c σ r h => runI_iff.2 ⟨n, h⟩
theorem KI_fin {f : Nat} {args : List MV} {ext : List (Obj Nat)} {r : Ret} (h : KI Φ f args ext = some r) : ∃ n, callF Φ (run Φ n) f args ext = some r := by
  unfold KI callF at h
  split at h
  · cases h
  · rename_i p hp
    exact ⟨0, by unfold callF; rw [hp]; exact h⟩
  · rename_i F hF
    cases hR : runI Φ F.body ⟨argSlots args, extHeap ext, 1⟩ with
    | none => rw [hR] at h; cases h
    | some x =>
      rw [hR] at h
      obtain ⟨n, hn⟩ := runI_iff.1 hR
      refine ⟨n, ?_⟩
      unfold callF
      rw [hF]
      simp only [hn]
      exact h
theorem evalOp_fin {g : Nat} {d : Option Nat} {s : Slots} {h : Heap} {op : MOp} {x : MV × Heap} (he : evalOp (KI Φ) g d s h op = some x) : ∃ n, evalOp (callF Φ (run Φ n)) g d s h op = some x := by
  cases op with
  | call md f args =>
    simp only [evalOp] at he ⊢
    split at he
    · rename_i f0 cs hc
      split at he
      · unfold snapCall at he
        split at he
        · rename_i vs hvs
          cases hK : KI Φ f0 (vs.map .p) [] with
          | none => rw [hK] at he; simp [purify] at he
          | some r =>
            obtain ⟨n, hn⟩ := KI_fin hK
            refine ⟨n, ?_⟩
            unfold snapCall
            rw [hK] at he
            simp only [hvs, hn]
            exact he
        · cases he
      · unfold sharedCall at he
        dsimp only at he
        split at he
        · cases he
        · rename_i objs hobjs
          split at he
          · cases he
          · rename_i r ext esc hK
            obtain ⟨n, hn⟩ := KI_fin hK
            refine ⟨n, ?_⟩
            unfold sharedCall
            simp only [hobjs, hn]
            exact he
      · unfold takeCall at he
        split at he
        · rename_i vs hvs
          split at he
          · rename_i r esc hK
            obtain ⟨n, hn⟩ := KI_fin hK
            refine ⟨n, ?_⟩
            unfold takeCall
            simp only [hvs, hn]
            exact he
          · cases he
        · cases he
    · cases he
  | _ => exact ⟨0, he⟩
theorem stepAll_fin : ∀ {l : List Ins} {g : Nat} {s : Slots} {h : Heap} {x : Slots × Heap}, stepAll (KI Φ) g l s h = some x → ∃ n, stepAll (callF Φ (run Φ n)) g l s h = some x
  | [], g, s, h, x, he => ⟨0, he⟩
  | i :: r, g, s, h, x, he => by
    simp only [stepAll] at he
    split at he
    · rename_i s1 h1 hi
      obtain ⟨m, hm⟩ := stepAll_fin he
      have hstep : ∃ n, stepIns (callF Φ (run Φ n)) g i s h = some (s1, h1) := by
        unfold stepIns at hi ⊢
        split at hi
        · split at hi
          · rename_i v h' hv
            obtain ⟨n, hn⟩ := evalOp_fin hv
            exact ⟨n, by rw [hn]; exact hi⟩
          · cases hi
        · exact ⟨0, hi⟩
        · cases hi
      obtain ⟨n, hn⟩ := hstep
      refine ⟨max n m, ?_⟩
      simp only [stepAll, stepIns_mono (call_mono (Nat.le_max_left n m)) hn]
      exact (stepAll_mono (call_mono (Nat.le_max_right n m)) hm).1
    · cases he
theorem runReg_fin {loose : List (Nat × Nat)} {ops : List Ins} {σ σ' : St} (he : runReg (KI Φ) loose ops σ = some σ') : ∃ n, runReg (callF Φ (run Φ n)) loose ops σ = some σ' := by
  unfold runReg at he
  split at he
  · rename_i s h hst
    obtain ⟨n, hn⟩ := stepAll_fin hst
    refine ⟨n, ?_⟩
    obtain ⟨q1, q2⟩ := stepAll_mono (KI_le n) hn
    unfold runReg
    rw [hn, ← q2]
    exact he
  · cases he

/-! ### equations -/
theorem runI_skip (σ : St) : runI Φ .skip σ = some (.normal, σ) := runI_iff.2 ⟨1, rfl⟩
theorem runI_ret (σ : St) : runI Φ .ret σ = some (.ret, σ) := runI_iff.2 ⟨1, rfl⟩
theorem runI_exit (id : Nat) (σ : St) : runI Φ (.exit id) σ = some (.exit id, σ) := runI_iff.2 ⟨1, rfl⟩
theorem runI_gh (g : Gh) (σ : St) : runI Φ (.gh g) σ = match runGh g σ with | some σ' => some (.normal, σ') | none => none := by
  refine opt_eq fun r => ?_
  rw [runI_iff]
  constructor
  · rintro ⟨n, hn⟩
    cases n with
    | zero => simp [run] at hn
    | succ n => exact hn
  · intro h; exact ⟨1, h⟩
theorem runI_reg (loose : List (Nat × Nat)) (ops : List Ins) (σ : St) : runI Φ (.reg loose ops) σ = match runReg (KI Φ) loose ops σ with | some σ' => some (.normal, σ') | none => none := by
  refine opt_eq fun r => ?_
  rw [runI_iff]
  constructor
  · rintro ⟨n, hn⟩
    cases n with
    | zero => simp [run] at hn
    | succ n =>
      simp only [run] at hn
      cases hr : runReg (callF Φ (run Φ n)) loose ops σ with
      | none => rw [hr] at hn; cases hn
      | some σ' =>
        rw [hr] at hn
        rw [runReg_mono (KI_le n) hr]
        exact hn
  · intro h
    cases hr : runReg (KI Φ) loose ops σ with
    | none => rw [hr] at h; cases h
    | some σ' =>
      rw [hr] at h
      obtain ⟨n, hn⟩ := runReg_fin hr
      exact ⟨n + 1, by rw [run, hn]; exact h⟩
theorem runI_seq (a b : MC) (σ : St) : runI Φ (.seq a b) σ = match runI Φ a σ with | some (.normal, σ') => runI Φ b σ' | r => r := by
  refine opt_eq fun r => ?_
  rw [runI_iff]
  constructor
  · rintro ⟨n, hn⟩
    cases n with
    | zero => simp [run] at hn
    | succ n =>
      rw [run] at hn
      cases ha : run Φ n a σ with
      | none => rw [ha] at hn; cases hn
      | some x =>
        rw [runI_iff.2 ⟨n, ha⟩]
        rw [ha] at hn
        obtain ⟨e, σ1⟩ := x
        cases e with
        | normal => exact runI_iff.2 ⟨n, hn⟩
        | exit id => exact hn
        | ret => exact hn
  · intro h
    cases ha : runI Φ a σ with
    | none => rw [ha] at h; cases h
    | some x =>
      rw [ha] at h
      obtain ⟨n, hn⟩ := runI_iff.1 ha
      obtain ⟨e, σ1⟩ := x
      cases e with
      | normal =>
        obtain ⟨m, hm⟩ := runI_iff.1 h
        refine ⟨max n m + 1, ?_⟩
        rw [run, run_mono' (Nat.le_max_left n m) hn]
        exact run_mono' (Nat.le_max_right n m) hm
      | exit id => exact ⟨n + 1, by rw [run, hn]; exact h⟩
      | ret => exact ⟨n + 1, by rw [run, hn]; exact h⟩
theorem runI_cond (c : Opd) (a b : MC) (σ : St) : runI Φ (.cond c a b) σ = match evO σ.s c with | .p (.bool true) => runI Φ a σ | .p (.bool false) => runI Φ b σ | _ => none := by
  refine opt_eq fun r => ?_
  rw [runI_iff]
  constructor
  · rintro ⟨n, hn⟩
    cases n with
    | zero => simp [run] at hn
    | succ n =>
      rw [run] at hn
      split at hn
      · rename_i hc; rw [hc]; exact runI_iff.2 ⟨n, hn⟩
      · rename_i hc; rw [hc]; exact runI_iff.2 ⟨n, hn⟩
      · cases hn
  · intro h
    split at h
    · rename_i hc
      obtain ⟨n, hn⟩ := runI_iff.1 h
      exact ⟨n + 1, by rw [run, hc]; exact hn⟩
    · rename_i hc
      obtain ⟨n, hn⟩ := runI_iff.1 h
      exact ⟨n + 1, by rw [run, hc]; exact hn⟩
    · cases h
theorem runI_block (id : Nat) (c : MC) (σ : St) : runI Φ (.block id c) σ = match runI Φ c σ with | some (.exit j, σ') => if j = id then some (.normal, σ') else some (.exit j, σ') | r => r := by
  refine opt_eq fun r => ?_
  rw [runI_iff]
  constructor
  · rintro ⟨n, hn⟩
    cases n with
    | zero => simp [run] at hn
    | succ n =>
      rw [run] at hn
      cases ha : run Φ n c σ with
      | none => rw [ha] at hn; cases hn
      | some x => rw [runI_iff.2 ⟨n, ha⟩]; rw [ha] at hn; exact hn
  · intro h
    cases ha : runI Φ c σ with
    | none => rw [ha] at h; cases h
    | some x =>
      obtain ⟨n, hn⟩ := runI_iff.1 ha
      rw [ha] at h
      exact ⟨n + 1, by rw [run, hn]; exact h⟩
theorem runI_loop (ks ids : List Nat) (c : MC) (σ : St) : runI Φ (.loop ks ids c) σ = match runI Φ c (forget ks ids σ) with | some (.normal, σ') => runI Φ (.loop ks ids c) σ' | r => r := by
  refine opt_eq fun r => ?_
  constructor
  · intro h0
    obtain ⟨n, hn⟩ := runI_iff.1 h0
    cases n with
    | zero => simp [run] at hn
    | succ n =>
      rw [run] at hn
      cases ha : run Φ n c (forget ks ids σ) with
      | none => rw [ha] at hn; cases hn
      | some x =>
        rw [runI_iff.2 ⟨n, ha⟩]
        rw [ha] at hn
        obtain ⟨e, σ1⟩ := x
        cases e with
        | normal => exact runI_iff.2 ⟨n, hn⟩
        | exit id => exact hn
        | ret => exact hn
  · intro h
    refine runI_iff.2 ?_
    cases ha : runI Φ c (forget ks ids σ) with
    | none => rw [ha] at h; cases h
    | some x =>
      rw [ha] at h
      obtain ⟨n, hn⟩ := runI_iff.1 ha
      obtain ⟨e, σ1⟩ := x
      cases e with
      | normal =>
        obtain ⟨m, hm⟩ := runI_iff.1 h
        refine ⟨max n m + 1, ?_⟩
        rw [run, run_mono' (Nat.le_max_left n m) hn]
        exact run_mono' (Nat.le_max_right n m) hm
      | exit id => exact ⟨n + 1, by rw [run, hn]; exact h⟩
      | ret => exact ⟨n + 1, by rw [run, hn]; exact h⟩
/-- a call of a function with a body -/
theorem KI_code {f : Nat} {F : MFun} (h : Φ f = some (.code F)) (args : List MV) (ext : List (Obj Nat)) : KI Φ f args ext = match runI Φ F.body ⟨argSlots args, extHeap ext, 1⟩ with
    | some (.normal, σ) => finish F ext.length σ
    | some (.ret, σ) => finish F ext.length σ
    | _ => none := by
  unfold KI callF
  rw [h]
  rfl
theorem KI_prim {f : Nat} {p : Prim} (h : Φ f = some (.prim p)) (args : List MV) (ext : List (Obj Nat)) : KI Φ f args ext = primF p args ext := by
  unfold KI callF
  rw [h]
end

/-! ### states as lists -/
def mkS : List (Nat × MV) → Slots
  | [], _ => .dead 0
  | (j, v) :: r, k => if k = j then v else mkS r k
def mkH : List (Nat × Obj Nat) → Heap
  | [], _ => none
  | (j, o) :: r, k => if k = j then some o else mkH r k
def setL {α : Type} : List (Nat × α) → Nat → α → List (Nat × α)
  | [], k, v => [(k, v)]
  | (j, u) :: r, k, v => if k = j then (k, v) :: r else (j, u) :: setL r k v
theorem upd_mkS (l : List (Nat × MV)) (k : Nat) (v : MV) : upd (mkS l) k v = mkS (setL l k v) := by
  funext i
  induction l with
  | nil => simp only [upd, mkS, setL]
  | cons x r ih =>
    obtain ⟨j, u⟩ := x
    simp only [upd, setL] at ih ⊢
    by_cases hkj : k = j
    · subst hkj
      by_cases hik : i = k <;> simp [mkS, hik]
    · rw [if_neg hkj]
      simp only [mkS]
      by_cases hij : i = j
      · subst hij
        simp [Ne.symm hkj]
      · rw [if_neg hij, if_neg hij]; exact ih
theorem upd_mkH (l : List (Nat × Obj Nat)) (k : Nat) (o : Obj Nat) : upd (mkH l) k (some o) = mkH (setL l k o) := by
  funext i
  induction l with
  | nil => simp only [upd, mkH, setL]
  | cons x r ih =>
    obtain ⟨j, u⟩ := x
    simp only [upd, setL] at ih ⊢
    by_cases hkj : k = j
    · subst hkj
      by_cases hik : i = k <;> simp [mkH, hik]
    · rw [if_neg hkj]
      simp only [mkH]
      by_cases hij : i = j
      · subst hij
        simp [Ne.symm hkj]
      · rw [if_neg hij, if_neg hij]; exact ih
def argL (args : List MV) : Nat → List (Nat × MV)
  | i => match args with
    | [] => []
    | v :: r => (i, v) :: argL r (i + 1)
theorem argSlots_eq (args : List MV) : argSlots args = mkS (argL args 0) := by
  have key : ∀ (args : List MV) (i k : Nat), mkS (argL args i) k = if i ≤ k then args.getD (k - i) (.dead 0) else .dead 0 := by
    intro args
    induction args with
    | nil => intro i k; simp [argL, mkS]
    | cons v r ih =>
      intro i k
      simp only [argL, mkS]
      by_cases h : k = i
      · subst h; simp
      · rw [if_neg h, ih]
        by_cases h2 : i ≤ k
        · rw [if_pos (by omega), if_pos h2, show k - i = (k - (i + 1)) + 1 by omega]
          simp
        · rw [if_neg (by omega), if_neg h2]
  funext k
  rw [key]
  simp [argSlots]
def extL (ext : List (Obj Nat)) : Nat → List (Nat × Obj Nat)
  | i => match ext with
    | [] => []
    | o :: r => (i, o) :: extL r (i + 1)
theorem extHeap_eq (ext : List (Obj Nat)) : extHeap ext = mkH (extL ext extBase) := by
  have key : ∀ (ext : List (Obj Nat)) (i k : Nat), mkH (extL ext i) k = if i ≤ k then ext[k - i]? else none := by
    intro ext
    induction ext with
    | nil => intro i k; simp [extL, mkH]
    | cons v r ih =>
      intro i k
      simp only [extL, mkH]
      by_cases h : k = i
      · subst h; simp
      · rw [if_neg h, ih]
        by_cases h2 : i ≤ k
        · rw [if_pos (by omega), if_pos h2, show k - i = (k - (i + 1)) + 1 by omega]
          simp
        · rw [if_neg (by omega), if_neg h2]
  funext k
  rw [key]
  rfl
/-- pruned lists -/
def pruneS (h : Heap) (ids : List Nat) (s : Slots) (ks : List Nat) : List (Nat × MV) := ks.map fun k => (k, cleanM h (keepIds ids) touched (s k))
def pruneH (h : Heap) (ids : List Nat) : List (Nat × Obj Nat) → List (Nat × Obj Nat)
  | [] => []
  | (i, o) :: r => if keepB ids i then (i, mapO (cleanM h (keepIds ids) touched) touched o) :: pruneH h ids r else pruneH h ids r
theorem forget_eq (ks ids : List Nat) (l : List (Nat × MV)) (m : List (Nat × Obj Nat)) (n : Nat) : forget ks ids ⟨mkS l, mkH m, n⟩ = ⟨mkS (pruneS (mkH m) ids (mkS l) ks), mkH (pruneH (mkH m) ids m), 2⟩ := by
  unfold forget
  congr 1
  · funext k
    simp only [pruneS]
    induction ks with
    | nil => rfl
    | cons j r ih =>
      simp only [List.map_cons, mkS]
      by_cases h : k = j
      · subst h; simp
      · rw [if_neg h, ← ih]
        simp [h]
  · funext i
    have : ∀ q : List (Nat × Obj Nat), mkH (pruneH (mkH m) ids q) i = if keepB ids i = true then (mkH q i).map (mapO (cleanM (mkH m) (keepIds ids) touched) touched) else none := by
      intro q
      induction q with
      | nil => simp [pruneH, mkH]
      | cons x r ih =>
        obtain ⟨j, o⟩ := x
        simp only [pruneH]
        by_cases hij : i = j
        · subst hij
          by_cases hk : keepB ids i = true
          · rw [if_pos hk, if_pos hk]; simp [mkH]
          · rw [if_neg hk, if_neg hk, ih, if_neg hk]
        · by_cases hk : keepB ids j = true
          · rw [if_pos hk]; simp only [mkH, if_neg hij]; exact ih
          · rw [if_neg hk]; simp only [mkH, if_neg hij]; exact ih
    exact (this m).symm
end Go.Mid
/- Running code on list states. -/
namespace Go.Mid
set_option linter.unusedSimpArgs false
set_option linter.unusedVariables false

def stL (s : List (Nat × MV)) (h : List (Nat × Obj Nat)) (n : Nat) : St := ⟨mkS s, mkH h, n⟩
section
variable {Φ : Tbl}
@[simp] theorem mkS_nil (k : Nat) : mkS [] k = .dead 0 := rfl
@[simp] theorem mkS_cons (j : Nat) (v : MV) (r : List (Nat × MV)) (k : Nat) : mkS ((j, v) :: r) k = if k = j then v else mkS r k := rfl
@[simp] theorem mkH_nil (k : Nat) : mkH [] k = none := rfl
@[simp] theorem mkH_cons (j : Nat) (v : Obj Nat) (r : List (Nat × Obj Nat)) (k : Nat) : mkH ((j, v) :: r) k = if k = j then some v else mkH r k := rfl
@[simp] theorem setL_nil {α : Type} (k : Nat) (v : α) : setL [] k v = [(k, v)] := rfl
@[simp] theorem setL_cons {α : Type} (j : Nat) (u : α) (r : List (Nat × α)) (k : Nat) (v : α) : setL ((j, u) :: r) k v = if k = j then (k, v) :: r else (j, u) :: setL r k v := rfl
attribute [simp] upd_mkH
@[simp] theorem stL_def (s : List (Nat × MV)) (h : List (Nat × Obj Nat)) (n : Nat) : (⟨mkS s, mkH h, n⟩ : St) = stL s h n := rfl
@[simp] theorem stL_s (s : List (Nat × MV)) (h : List (Nat × Obj Nat)) (n : Nat) : (stL s h n).s = mkS s := rfl
@[simp] theorem stL_h (s : List (Nat × MV)) (h : List (Nat × Obj Nat)) (n : Nat) : (stL s h n).h = mkH h := rfl
@[simp] theorem stL_nx (s : List (Nat × MV)) (h : List (Nat × Obj Nat)) (n : Nat) : (stL s h n).nx = n := rfl

attribute [simp] runI_skip runI_ret runI_exit
@[simp] theorem stepAll_nil (K : Calls3) (g : Nat) (s : Slots) (h : Heap) : stepAll K g [] s h = some (s, h) := rfl
@[simp] theorem gh_keep (ks ids : List Nat) (s : List (Nat × MV)) (h : List (Nat × Obj Nat)) (n : Nat) :
    runI Φ (.gh (.keep ks ids)) (stL s h n) = some (.normal, stL (pruneS (mkH h) ids (mkS s) ks) (pruneH (mkH h) ids h) 2) := by
  rw [runI_gh]
  simp only [runGh, stL, forget_eq]
@[simp] theorem forget_stL (ks ids : List Nat) (s : List (Nat × MV)) (h : List (Nat × Obj Nat)) (n : Nat) :
    forget ks ids (stL s h n) = stL (pruneS (mkH h) ids (mkS s) ks) (pruneH (mkH h) ids h) 2 := forget_eq ks ids s h n
@[simp] theorem ite_bool (c : Prop) [Decidable c] (a b : Bool) : (if c then MV.p (.bool a) else MV.p (.bool b)) = .p (.bool (if c then a else b)) := by split <;> rfl
end
@[simp] theorem pruneS_nil (h : Heap) (ids : List Nat) (s : Slots) : pruneS h ids s [] = [] := rfl
@[simp] theorem pruneS_cons (h : Heap) (ids : List Nat) (s : Slots) (k : Nat) (r : List Nat) : pruneS h ids s (k :: r) = (k, cleanM h (keepIds ids) touched (s k)) :: pruneS h ids s r := rfl
attribute [simp] evO pruneH evalOp keepB keepIds lenOp intV boolV isB PV.cs PV.css asI loadOp iaddrOp argL extL finish readAll readRes packRes sfM cleanM cleanMs getAll refsM refsMs roots1 dedup outId isLocal mapO mapT mapTs snapCall purify pureM pureMs allP flatRef flatRefs flatP flatPs flatM callee flatO escHeap intoT intoTs look lookF full valT valTs ofAlloc storeOp storeNew subT subO put putT T.cs T.css MV.cs MV.css okB liveM vecAt zT zT.zTs touched okOwn okPtr packRes isDead
section
variable (k : IntKind) (n : Int) (b : Bool) (s : ByteArray) (l m : List PV) (v : PV) (f : Nat) (w : MV) (i o q g : Nat) (r : List Nat) (np : Option (List Nat)) (ms : List MV)
@[simp] theorem isAgg_int : (PV.int k n).isAgg = false := rfl
@[simp] theorem isAgg_bool : (PV.bool b).isAgg = false := rfl
@[simp] theorem isAgg_str : (PV.str s).isAgg = false := rfl
@[simp] theorem isAgg_agg : (PV.agg l).isAgg = true := rfl
@[simp] theorem isAgg_sl : (PV.sl l).isAgg = false := rfl
@[simp] theorem isAgg_ref : (PV.ref v).isAgg = false := rfl
@[simp] theorem isAgg_fn : (PV.fn f l).isAgg = false := rfl
@[simp] theorem isAgg_mp : (PV.mp l m).isAgg = false := rfl
@[simp] theorem isAgg_nilp : PV.nilp.isAgg = false := rfl
@[simp] theorem isAgg_nilf : PV.nilf.isAgg = false := rfl
@[simp] theorem misAgg_p : (MV.p v).isAgg = v.isAgg := rfl
@[simp] theorem misAgg_agg : (MV.agg ms).isAgg = true := rfl
@[simp] theorem misAgg_own : (MV.own i r o q g).isAgg = false := rfl
@[simp] theorem misAgg_ptr : (MV.ptr i np r o q).isAgg = false := rfl
@[simp] theorem misAgg_mref : (MV.mref i r g).isAgg = false := rfl
@[simp] theorem misAgg_nil : (MV.nil i).isAgg = false := rfl
@[simp] theorem misAgg_fn : (MV.fn i ms).isAgg = false := rfl
@[simp] theorem misAgg_tup : (MV.tup ms).isAgg = false := rfl
@[simp] theorem misAgg_dead : (MV.dead i).isAgg = false := rfl
end
@[simp] theorem indexIn_nil (i : Nat) : indexIn [] i = none := rfl
@[simp] theorem indexIn_cons (x : Nat) (r : List Nat) (i : Nat) : indexIn (x :: r) i = if x = i then some 0 else (indexIn r i).map (· + 1) := by
  unfold indexIn
  rw [List.findIdx?_cons]
  by_cases h : x = i
  · simp [h]
  · simp [h]
/-! ### scalars -/
@[simp 1100] theorem asIx_in (n : Nat) (k : IntKind) (i : Int) (h0 : 0 ≤ i) (h1 : i < n) : asIx n (.p (.int k i)) = some i.toNat := by simp [asIx, asI, h0, h1]
@[simp 1100] theorem asBd_in (n : Nat) (k : IntKind) (i : Int) (h0 : 0 ≤ i) (h1 : i ≤ n) : asBd n (.p (.int k i)) = some i.toNat := by simp [asBd, asI, h0, h1]
section
variable (k : IntKind) (a b : Int)
@[simp 1100] theorem lss_t (h : a < b) : binP .lss (.int k a) (.int k b) = some (.bool true) := by simp [binP, h]
@[simp 1100] theorem lss_f (h : b ≤ a) : binP .lss (.int k a) (.int k b) = some (.bool false) := by simp [binP]; omega
@[simp 900] theorem lss_d : binP .lss (.int k a) (.int k b) = some (.bool (decide (a < b))) := by simp [binP]
@[simp 1100] theorem leq_t (h : a ≤ b) : binP .leq (.int k a) (.int k b) = some (.bool true) := by simp [binP, h]
@[simp 1100] theorem leq_f (h : b < a) : binP .leq (.int k a) (.int k b) = some (.bool false) := by simp [binP]; omega
@[simp 900] theorem leq_d : binP .leq (.int k a) (.int k b) = some (.bool (decide (a ≤ b))) := by simp [binP]
@[simp 1100] theorem gtr_t (h : b < a) : binP .gtr (.int k a) (.int k b) = some (.bool true) := by simp [binP, h]
@[simp 1100] theorem gtr_f (h : a ≤ b) : binP .gtr (.int k a) (.int k b) = some (.bool false) := by simp [binP]; omega
@[simp 900] theorem gtr_d : binP .gtr (.int k a) (.int k b) = some (.bool (decide (b < a))) := by simp [binP]
@[simp 1100] theorem geq_t (h : b ≤ a) : binP .geq (.int k a) (.int k b) = some (.bool true) := by simp [binP, h]
@[simp 1100] theorem geq_f (h : a < b) : binP .geq (.int k a) (.int k b) = some (.bool false) := by simp [binP]; omega
@[simp 900] theorem geq_d : binP .geq (.int k a) (.int k b) = some (.bool (decide (b ≤ a))) := by simp [binP]
@[simp 1100] theorem eql_t (h : a = b) : binP .eql (.int k a) (.int k b) = some (.bool true) := by simp [binP, h]
@[simp 1100] theorem eql_f (h : a ≠ b) : binP .eql (.int k a) (.int k b) = some (.bool false) := by simp [binP, h]
@[simp 900] theorem eql_d : binP .eql (.int k a) (.int k b) = some (.bool (decide (a = b))) := by simp [binP]; rfl
@[simp 1100] theorem neq_t (h : a ≠ b) : binP .neq (.int k a) (.int k b) = some (.bool true) := by simp [binP, h]
@[simp 1100] theorem neq_f (h : a = b) : binP .neq (.int k a) (.int k b) = some (.bool false) := by simp [binP, h]
@[simp 900] theorem neq_d : binP .neq (.int k a) (.int k b) = some (.bool (decide (a ≠ b))) := by simp [binP, bne]; rfl
@[simp] theorem add_d : binP .add (.int k a) (.int k b) = some (.int k (k.wrap (a + b))) := by simp [binP]
@[simp] theorem sub_d : binP .sub (.int k a) (.int k b) = some (.int k (k.wrap (a - b))) := by simp [binP]
@[simp] theorem mul_d : binP .mul (.int k a) (.int k b) = some (.int k (k.wrap (a * b))) := by simp [binP]
end
/-! ### bits of natural numbers -/
@[simp 1100] theorem shr_n (k k' : IntKind) (a i : Nat) (h : i ≤ k.bits) : binP .shr (.int k (a : Int)) (.int k' (i : Int)) = some (.int k ((a >>> i : Nat) : Int)) := by
  have h0 : ¬ ((i : Int) < 0) := by omega
  have e : min (i : Int).toNat k.bits = i := by rw [Int.toNat_natCast]; exact Nat.min_eq_left h
  have h2 : (a : Int).fdiv (2 ^ i) = ((a >>> i : Nat) : Int) := by
    rw [Nat.shiftRight_eq_div_pow, show ((2 : Int) ^ i) = ((2 ^ i : Nat) : Int) by simp, Int.fdiv_eq_ediv_of_nonneg _ (Int.natCast_nonneg _)]
    exact (Int.natCast_ediv _ _).symm
  simp only [binP, h0, if_false, e, h2]
theorem bv_and (n a b : Nat) (ha : a < 2 ^ n) (hb : b < 2 ^ n) : (BitVec.ofInt n (a : Int) &&& BitVec.ofInt n (b : Int)).toNat = a &&& b := by
  simp [Nat.mod_eq_of_lt ha, Nat.mod_eq_of_lt hb]
theorem and_u64 (a b : Nat) (ha : a < 18446744073709551616) (hb : b < 18446744073709551616) : binP .and (.int .u64 (a : Int)) (.int .u64 (b : Int)) = some (.int .u64 ((a &&& b : Nat) : Int)) := by
  have h : a &&& b ≤ a := Nat.and_le_left
  have e : binP .and (.int .u64 (a : Int)) (.int .u64 (b : Int)) = some (.int .u64 (IntKind.u64.wrap (BitVec.ofInt 64 (a : Int) &&& BitVec.ofInt 64 (b : Int)).toNat)) := rfl
  rw [e, bv_and 64 a b ha hb, IntWalk.u64_in _ ⟨by omega, by omega⟩]
theorem and_u32 (a b : Nat) (ha : a < 4294967296) (hb : b < 4294967296) : binP .and (.int .u32 (a : Int)) (.int .u32 (b : Int)) = some (.int .u32 ((a &&& b : Nat) : Int)) := by
  have h : a &&& b ≤ a := Nat.and_le_left
  have e : binP .and (.int .u32 (a : Int)) (.int .u32 (b : Int)) = some (.int .u32 (IntKind.u32.wrap (BitVec.ofInt 32 (a : Int) &&& BitVec.ofInt 32 (b : Int)).toNat)) := rfl
  rw [e, bv_and 32 a b ha hb, IntWalk.u32_in _ ⟨by omega, by omega⟩]
@[simp 1100] theorem and1_u64 (a : Nat) (ha : a < 18446744073709551616) : binP .and (.int .u64 (a : Int)) (.int .u64 1) = some (.int .u64 ((a % 2 : Nat) : Int)) := by
  have := and_u64 a 1 ha (by omega)
  rw [Nat.and_one_is_mod] at this
  exact this
@[simp 1100] theorem and1_u32 (a : Nat) (ha : a < 4294967296) : binP .and (.int .u32 (a : Int)) (.int .u32 1) = some (.int .u32 ((a % 2 : Nat) : Int)) := by
  have := and_u32 a 1 ha (by omega)
  rw [Nat.and_one_is_mod] at this
  exact this
attribute [simp] List.getElem?_cons_zero
attribute [simp 1100] List.take_of_length_le
attribute [simp] IntWalk.i64_in IntWalk.u64_in IntWalk.u8_in IntWalk.u32_in

/-! ### arrays of pure values -/
def tv (l : List PV) : List (T Nat) := l.map T.p
section
variable (l m : List PV) (g z : Nat)
@[simp] theorem tv_length : (tv l).length = l.length := by simp [tv]
@[simp] theorem tv_append : tv l ++ tv m = tv (l ++ m) := by simp [tv]
@[simp] theorem tv_single (v : PV) : tv l ++ [T.p v] = tv (l ++ [v]) := by simp [tv]
@[simp] theorem tv_take (n : Nat) : (tv l).take n = tv (l.take n) := by simp [tv]
@[simp] theorem tv_drop (n : Nat) : (tv l).drop n = tv (l.drop n) := by simp [tv]
@[simp] theorem tv_nil : tv [] = [] := rfl
@[simp] theorem tv_get (i : Nat) : (tv l)[i]? = l[i]?.map T.p := by simp [tv]
@[simp] theorem allTP_tv : allTP (tv l) = some l := by
  induction l with
  | nil => rfl
  | cons x r ih => simp only [tv, List.map_cons, allTP] at ih ⊢; rw [ih]
@[simp] theorem pureTs_tv : pureTs (tv l) = some l := by
  induction l with
  | nil => rfl
  | cons x r ih => simp only [tv, List.map_cons, pureTs, pureT] at ih ⊢; rw [ih]
@[simp] theorem mapTs_tv (φ : MV → MV) (ζ : Nat → Nat) : mapTs φ ζ (tv l) = tv l := by
  induction l with
  | nil => rfl
  | cons x r ih => simp only [tv, List.map_cons, mapTs, mapT] at ih ⊢; rw [ih]
@[simp] theorem stamps_tv : stamps g (tv l) = tv l := mapTs_tv l _ _
@[simp] theorem stamps_nil : stamps g [] = [] := rfl
@[simp] theorem stamps_single (v : PV) : stamps g [T.p v] = [T.p v] := rfl
@[simp] theorem plain_tv : (tv l).all plainT = true := by simp [tv, plainT]
@[simp] theorem csAll_tv : csAll z (tv l) = l.all fun v => v.cs == z := by simp [tv, csAll, T.cs]; rfl
@[simp] theorem csAll_nil : csAll z [] = true := rfl
@[simp] theorem csAll_cons (t : T Nat) (r : List (T Nat)) : csAll z (t :: r) = (t.cs == z && csAll z r) := rfl
@[simp] theorem refsTs_tv : refsTs (tv l) = [] := by
  induction l with
  | nil => rfl
  | cons x r ih => simp only [tv, List.map_cons, refsTs, refsT, List.nil_append] at ih ⊢; rw [ih]
@[simp] theorem flatTs_tv : flatTs (tv l) = l.all flatP := by
  induction l with
  | nil => rfl
  | cons x r ih => simp only [tv, List.map_cons, flatTs, flatT, List.all_cons] at ih ⊢; rw [ih]
end
@[simp] theorem elems_sl (h : Heap) (l : List PV) : elems h (.p (.sl l)) = some (tv l) := rfl
@[simp] theorem elems_nil (h : Heap) (z : Nat) : elems h (.nil z) = some (tv []) := rfl
attribute [simp] refsO extBase escBase
@[simp] theorem feet_nil (K : Calls3) (g : Nat) (s : Slots) (h : Heap) : feet K g [] s h = [] := rfl
/-! ### ranging over a list -/
section
variable {α β : Type}
end
end Go.Mid
