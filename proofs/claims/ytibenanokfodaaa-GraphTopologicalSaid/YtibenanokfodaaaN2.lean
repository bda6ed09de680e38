/- Operations on symbolic states: append, copy, clear, new slices. -/
import Derived.Test.YtibenanokfodaaaN1
import Derived.Test.YtibenanokfodaaaM6
import Derived.Test.YtibenanokfodaaaM5
import Derived.Lib.SliceRun
import Derived.Sort.Row
import Derived.Sort.Grow
namespace Go.Mid
set_option linter.unusedSimpArgs false
set_option linter.unusedVariables false
def castL {t : Ty} (u : Ty) (l : List (El t)) : Option (List (El u)) := castE (t := .sl t) (.sl u) l
theorem castL_eq {t u : Ty} {l : List (El t)} {m : List (El u)} (h : castL u l = some m) : t = u ∧ HEq l m := by
  obtain ⟨e, he, _⟩ := castE_enc h
  cases e
  exact ⟨rfl, he⟩
/-- the first elements of an array, and a list behind them -/
def SL.more (a : SL) (n : Nat) (t : Ty) (m : List (El t)) : Tree SL := match a with
  | .base s u l => (Tree.ofO (castL u m)).bind fun m' => if u.pure then .leaf (.base s u (l.take n ++ m')) else .fail
  | _ => .fail
theorem SL.more_eq {a b : SL} {n : Nat} {t : Ty} {m : List (El t)} (h : (a.more n t m).den = some b) : t.pure = true ∧ cSL b = (cSL a).take n ++ tv (m.map (enc t)) := by
  cases a <;> simp only [SL.more, Tree.den_fail] at h
  rename_i s u l
  simp only [Tree.den_bind, Tree.den_ofO] at h
  obtain ⟨m', h1, h⟩ := h
  split at h
  · rename_i hp
    simp only [Tree.den_leaf] at h
    subst h
    obtain ⟨e, he⟩ := castL_eq h1
    cases e
    cases he
    refine ⟨hp, ?_⟩
    simp only [cSL, List.map_append, List.map_take]
    congr 1
    simp only [tv, List.map_map]
    congr 1
    funext y
    exact encT_pure s t y hp
  · simp at h
/-- what 'append' and 'copy' read: pure elements -/
def src2 (h : H2) (u : Option Ty) : W → Tree ((t : Ty) × List (El t))
  | .v (.sl t) l => .leaf ⟨t, l⟩
  | .nil _ => match u with | some t => .leaf ⟨t, []⟩ | none => .fail
  | .c (.sl []) => match u with | some t => .leaf ⟨t, []⟩ | none => .fail
  | .own id path off len g => (Tree.ofO (getH h id)).bind fun o => (vecAt2 o path).bind fun x => if x.1 == g then
      (Tree.ask (Nat.ble (match off with | none => len | some o => o + len) x.2.2.len)).bind fun _ => match x.2.2 with
        | .base _ t l => if t.pure then .leaf ⟨t, (match off with | none => l | some o => l.drop o).take len⟩ else .fail
        | _ => .fail
      else .fail
  | _ => .fail
theorem src2_eq {h : H2} {u : Option Ty} {w : W} {t : Ty} {l : List (El t)} (e : (src2 h u w).den = some ⟨t, l⟩) : elems (cH h) (cW w) = some (tv (l.map (enc t))) := by
  unfold src2 at e
  split at e
  · simp only [Tree.den_leaf] at e; cases e; rfl
  · split at e
    · simp only [Tree.den_leaf] at e; cases e; rfl
    · simp at e
  · split at e
    · simp only [Tree.den_leaf] at e; cases e; rfl
    · simp at e
  · rename_i id path off len g
    simp only [Tree.den_bind, Tree.den_ofO] at e
    obtain ⟨o, h1, ⟨g', z, a⟩, h2, e⟩ := e
    split at e
    · rename_i hg
      simp only [beq_iff_eq] at hg
      subst hg
      simp only [Tree.den_bind, Tree.den_ask] at e
      obtain ⟨_, h3, e⟩ := e
      split at e
      · rename_i s t' l'
        split at e
        · rename_i hp
          simp only [Tree.den_leaf] at e
          cases e
          have h3 : off.getD 0 + len ≤ (cSL (.base s t l')).length := by
            rw [SL.len_eq]
            cases off with
            | none => simpa using Nat.ble_eq.mp h3
            | some o => exact Nat.ble_eq.mp h3
          simp only [cW, elems]
          rw [getH_c h1, vecAt2_eq h2]
          simp only
          rw [if_pos ⟨trivial, h3⟩]
          simp only [cSL, tv, List.map_map]
          have e1 : encT s t = T.p ∘ enc t := by funext y; exact encT_pure s t y hp
          rw [e1]
          cases off <;> simp [List.map_take, List.map_drop]
        · simp at e
      · simp at e
    · simp at e
  · simp at e
def app2 (g : Nat) (d : Option Nat) (u : Option Ty) (h : H2) (z bytes : Nat) (x y : W) : Tree (W × H2) :=
  match x with
  | .nil _ => match d with
    | some d => (src2 h u y).bind fun m => if m.1.cs == z && m.1.pure then
        (Tree.ask (Nat.ble (m.2.length * bytes) 140737488355328)).bind fun _ => .leaf (.own d [] none m.2.length g, setA h d (.vec g z (.base g m.1 m.2))) else .fail
    | none => .fail
  | .own id path off len g0 => match off with
    | some _ => .fail
    | none => (Tree.ofO (getH h id)).bind fun o => match o, path with
      | .vec g1 z1 a, [] => if g1 == g0 && z1 == z then
          (src2 h (match a with | .base _ t _ => some t | _ => u) y).bind fun m => if m.1.cs == z then (Tree.ask (Nat.ble len a.len)).bind fun _ =>
            (Tree.ask (Nat.ble ((len + m.2.length) * bytes) 140737488355328)).bind fun _ => (a.more len m.1 m.2).bind fun b =>
              .leaf (.own id [] none (len + m.2.length) g, setA h id (.vec g z b)) else .fail
          else .fail
      | o, path => match d with
        | some d => (subO2 o path).bind fun t => match hdT t with
          | some (g1, z1, a, n) => if g1 == g0 && z1 == z then
              (src2 h (match a with | .base _ t _ => some t | _ => u) y).bind fun m => if m.1.cs == z then (Tree.ask (len == n)).bind fun _ => (Tree.ask (Nat.ble n a.len)).bind fun _ =>
                (Tree.ask (Nat.ble ((len + m.2.length) * bytes) 140737488355328)).bind fun _ => (a.more len m.1 m.2).bind fun b => (stampSL g b).bind fun b' => (putO2 (.hole 1) o path).bind fun o' =>
                  .leaf (.own d [] none (len + m.2.length) g, setA (setA h id o') d (.vec g z b')) else .fail
              else .fail
          | none => .fail
        | none => .fail
  | _ => .fail
theorem csAll_enc (t : Ty) (z : Nat) (h : t.cs = z) (l : List (El t)) : csAll z (tv (l.map (enc t))) = true := by
  rw [csAll_tv]; exact all_enc t z h l
theorem appPlace_eq {g : Nat} {d : Option Nat} {h : Heap} {z bytes id len g0 : Nat} {p : List Nat} {m : List PV} {y : MV} {ob : Obj Nat} (ho : h id = some ob)
    (hn : ∀ g1 z1 l1, ob = .vec g1 z1 l1 → p = [] → False) (hy : elems h y = some (tv m)) (hc : csAll z (tv m) = true) : appOp g d h z bytes (.own id p 0 len g0) y = appPlace g d h id p z bytes len g0 (tv m) := by
  unfold appOp takeElems
  rw [hy]
  simp only [plain_tv, if_true, hc, Bool.not_true, Bool.false_eq_true, if_false, ho]
  split
  · rename_i h1
    simp only [Option.some.injEq] at h1
    exact (hn _ _ _ h1 rfl).elim
  · rfl
theorem app2_eq {g : Nat} {d : Option Nat} {u : Option Ty} {h h' : H2} {z bytes : Nat} {x y w : W} (e : (app2 g d u h z bytes x y).den = some (w, h')) :
    appOp g d (cH h) z bytes (cW x) (cW y) = some (cW w, cH h') ∧ ∃ id len g1, w = .own id [] none len g1 := by
  unfold app2 at e
  split at e
  · split at e
    · rename_i d'
      simp only [Tree.den_bind] at e
      obtain ⟨⟨t, m⟩, h1, e⟩ := e
      split at e
      · rename_i hc
        simp only [Bool.and_eq_true, beq_iff_eq] at hc
        simp only [Tree.den_bind, Tree.den_ask, Tree.den_leaf, Prod.mk.injEq] at e
        obtain ⟨_, h2, rfl, rfl⟩ := e
        have h2 := Nat.ble_eq.mp h2
        refine ⟨?_, _, _, _, rfl⟩
        have hs := src2_eq h1
        unfold appOp takeElems
        rw [hs]
        simp only [plain_tv, if_true, csAll_enc t z hc.1, Bool.not_true, Bool.false_eq_true, if_false, cW, tv_length, List.length_map, stamps_tv]
        rw [if_pos (by unfold room; exact h2)]
        simp only [ofAlloc, ixs, Option.getD_some, Option.getD_none]
        rw [show (Obj.vec g z (tv (m.map (enc t)))) = cO (.vec g z (.base g t m)) by
          simp only [cO, cSL, tv, List.map_map]
          congr 2
          funext y
          exact (encT_pure g t y hc.2).symm]
        rw [cH_upd]
      · simp at e
    · simp at e
  · rename_i id path off len g0
    split at e
    · simp at e
    · simp only [Tree.den_bind, Tree.den_ofO] at e
      obtain ⟨o, h1, e⟩ := e
      have ho := getH_c h1
      split at e
      · rename_i g1 z1 a
        split at e
        · rename_i hc
          simp only [Bool.and_eq_true, beq_iff_eq] at hc
          simp only [Tree.den_bind] at e
          obtain ⟨⟨t, m⟩, h2, e⟩ := e
          split at e
          · rename_i hz
            simp only [beq_iff_eq] at hz
            simp only [Tree.den_bind, Tree.den_ask, Tree.den_leaf, Prod.mk.injEq] at e
            obtain ⟨_, h3, _, h4, b, h5, rfl, rfl⟩ := e
            have h3 := Nat.ble_eq.mp h3
            have h4 := Nat.ble_eq.mp h4
            refine ⟨?_, _, _, _, rfl⟩
            have hs := src2_eq h2
            obtain ⟨hp, hb⟩ := SL.more_eq h5
            unfold appOp takeElems
            rw [hs]
            simp only [plain_tv, if_true, csAll_enc t z hz, Bool.not_true, Bool.false_eq_true, if_false, cW, Option.getD_none, ho, cO, ixs, appRoot, tv_length, List.length_map]
            rw [if_pos ⟨hc.1, hc.2, by rw [SL.len_eq]; exact h3, by unfold room; exact h4⟩, stamps_tv, ← hb]
            rw [show Obj.vec g z (cSL b) = cO (.vec g z b) from rfl, cH_upd]
          · simp at e
        · simp at e
      · rename_i hno
        split at e
        · rename_i d'
          simp only [Tree.den_bind] at e
          obtain ⟨t0, h2, e⟩ := e
          split at e
          · rename_i g1 z1 a n ht
            split at e
            · rename_i hc
              simp only [Bool.and_eq_true, beq_iff_eq] at hc
              simp only [Tree.den_bind] at e
              obtain ⟨⟨t, m⟩, h3, e⟩ := e
              split at e
              · rename_i hz
                simp only [beq_iff_eq] at hz
                simp only [Tree.den_bind, Tree.den_ask, Tree.den_leaf, Prod.mk.injEq, beq_iff_eq] at e
                obtain ⟨_, h4, _, h5, _, h6, b, h7, b', h8, o', h9, rfl, rfl⟩ := e
                have h5 := Nat.ble_eq.mp h5
                have h6 := Nat.ble_eq.mp h6
                refine ⟨?_, _, _, _, rfl⟩
                have hs := src2_eq h3
                obtain ⟨hp, hb⟩ := SL.more_eq h7
                have hsub := subO2_eq h2
                rw [hdT_eq ht] at hsub
                have hput : put (some (cO o)) (ixs path) (.hole 1) = some (cO o') := putO2_eq h9
                have key := appPlace_eq (g := g) (d := some d') (bytes := bytes) (len := len) (g0 := g0) ho (p := ixs path) (fun g1 z1 l1 e1 e2 => by
                  obtain ⟨a1, ha⟩ := cO_vec e1
                  cases path with
                  | nil => exact hno _ _ _ ha rfl
                  | cons s r => simp [ixs] at e2) hs (csAll_enc t z hz m)
                refine key.trans ?_
                unfold appPlace
                rw [ho, hsub]
                simp only [tv_length, List.length_map]
                rw [if_pos ⟨hc.1, hc.2, h4, by rw [SL.len_eq]; exact h5, by unfold room; exact h6⟩, hput]
                simp only [ofAlloc]
                rw [← hb, stampSL_eq h8, cH_upd, show Obj.vec g z (cSL b') = cO (.vec g z b') from rfl, cH_upd]
                rfl
              · simp at e
            · simp at e
          · simp at e
        · simp at e
  · simp at e
theorem csAll_cTs' {z : Nat} : ∀ {l : List T2}, l.all (fun t => tcs t == z) = true → csAll z (cTs l) = true
  | [], _ => rfl
  | t :: r, h => by
    simp only [List.all_cons, Bool.and_eq_true] at h
    simp only [cTs, csAll_cons, tcs_eq, h.1, csAll_cTs' h.2, Bool.and_self]
theorem cTs_length' (l : List T2) : (cTs l).length = l.length := by rw [cTs_map, List.length_map]
def pushAll' : SL → List T2 → SL
  | a, [] => a
  | a, t :: r => pushAll' (.app a t) r
theorem pushAll'_eq : ∀ (l : List T2) (a : SL), cSL (pushAll' a l) = cSL a ++ cTs l
  | [], a => by simp [pushAll', cTs]
  | t :: r, a => by rw [pushAll', pushAll'_eq r]; simp [cTs, cSL]
/-! ### append, where the source's elements own memory: the source is an array of its own, and is gone -/
def items2 : SL → Tree (List T2)
  | .base _ _ l => (Tree.ask (Nat.beq l.length 0)).bind fun _ => .leaf []
  | .app a u => (items2 a).bind fun l => .leaf (l ++ [u])
  | .set .. => .fail
theorem cTs_append (l m : List T2) : cTs (l ++ m) = cTs l ++ cTs m := by simp only [cTs_map, List.map_append]
theorem items2_eq : ∀ {a : SL} {us : List T2}, (items2 a).den = some us → cSL a = cTs us
  | .base s t l, us, h => by
    simp only [items2, Tree.den_bind, Tree.den_ask, Tree.den_leaf] at h
    obtain ⟨_, h1, rfl⟩ := h
    have h1 := Nat.eq_of_beq_eq_true h1
    cases l with
    | nil => rfl
    | cons a r => simp at h1
  | .app a u, us, h => by
    simp only [items2, Tree.den_bind, Tree.den_leaf] at h
    obtain ⟨l, h1, rfl⟩ := h
    rw [cTs_append, ← items2_eq h1]
    rfl
  | .set .., us, h => by simp [items2] at h
mutual
/-- certainly not a pure value -/
def np2 : T2 → Bool
  | .vec .. => true
  | .agg l => nps2 l
  | .w _ => true
  | _ => false
def nps2 : List T2 → Bool
  | [] => false
  | t :: r => np2 t || nps2 r
end
mutual
theorem np2_eq : ∀ t : T2, np2 t = true → plainT (cT t) = false
  | .vec .., _ => rfl
  | .agg l, h => by
    simp only [np2] at h
    simp only [cT]
    rcases mkTAgg_cases (cTs l) with ⟨vs, hv, _⟩ | e
    · exact absurd hv (nps2_eq l h vs)
    · rw [e]; rfl
  | .w _, _ => rfl
  | .e .., h => by simp [np2] at h
  | .hole _, h => by simp [np2] at h
theorem nps2_eq : ∀ l : List T2, nps2 l = true → ∀ vs : List PV, cTs l ≠ vs.map T.p
  | [], h, _ => by simp [nps2] at h
  | t :: r, h, vs => by
    simp only [nps2, Bool.or_eq_true] at h
    intro e
    cases vs with
    | nil => simp [cTs] at e
    | cons v q =>
      simp only [cTs, List.map_cons, List.cons.injEq] at e
      rcases h with h | h
      · have := np2_eq t h
        rw [e.1] at this
        simp [plainT] at this
      · exact nps2_eq r h q e.2
end
theorem solid_mk (l : List (T Nat)) (h : solidTs l = true) : solidT (mkTAgg l) = true := by
  rcases mkTAgg_cases l with ⟨vs, _, e⟩ | e
  · rw [e]; rfl
  · rw [e]; exact h
mutual
theorem solid_enc (s : Nat) : ∀ (t : Ty) (x : El t), solidT (encT s t x) = true
  | .agg ts, x => by simp only [encT]; exact solid_mk _ (solids_enc s ts x)
  | .int _, _ | .bool, _ | .str, _ | .sl _, _ | .ref _, _ | .fn _ _, _ | .mp _ _, _ | .nilp, _ | .nilf, _ | .vec _ _, _ => rfl
theorem solids_enc (s : Nat) : ∀ (ts : List Ty) (x : Els ts), solidTs (encTs s ts x) = true
  | [], _ => rfl
  | t :: r, x => by simp only [encTs, solidTs]; rw [solid_enc s t, solids_enc s r]; rfl
end
mutual
def solid2 : T2 → Bool
  | .e .. => true
  | .vec .. => true
  | .agg l => solids2 l
  | .w (.own ..) => true
  | .w (.ptr ..) => true
  | .w _ => false
  | .hole _ => false
def solids2 : List T2 → Bool
  | [] => true
  | t :: r => solid2 t && solids2 r
end
mutual
theorem solid2_eq : ∀ t : T2, solid2 t = true → solidT (cT t) = true
  | .e s t x, _ => solid_enc s t x
  | .vec .., _ => rfl
  | .agg l, h => by
    simp only [cT]
    exact solid_mk _ (solids2_eq l h)
  | .w v, h => by
    cases v <;> first | rfl | simp [solid2] at h
  | .hole _, h => by simp [solid2] at h
theorem solids2_eq : ∀ l : List T2, solids2 l = true → solidTs (cTs l) = true
  | [], _ => rfl
  | t :: r, h => by
    simp only [solids2, Bool.and_eq_true] at h
    simp only [cTs, solidTs, solid2_eq t h.1, solids2_eq r h.2, Bool.and_self]
end
def top2 : SL → Bool
  | .app _ u => np2 u
  | _ => false
/-- is the source an array of its own, whose last element owns memory -/
def ownSrc (h : H2) : W → Option (Nat × Nat × SL)
  | .own id path off len g => match off, path, getH h id with
    | none, [], some (.vec g' _ a) => if g' == g && top2 a then some (id, len, a) else none
    | _, _, _ => none
  | _ => none
/-- the source's elements, and memory behind the move -/
def movable (h : H2) (z : Nat) (q : Nat × Nat × SL) : Tree (List T2 × H2) := (items2 q.2.2).bind fun us => (Tree.chk (nps2 us && solids2 us && us.all (fun t => tcs t == z))).bind fun _ => (Tree.ask (Nat.beq us.length q.2.1)).bind fun _ => .leaf (us, setA h q.1 .gone)
theorem all_plain_np : ∀ {l : List T2}, nps2 l = true → (cTs l).all plainT = false
  | [], h => by simp [nps2] at h
  | t :: r, h => by
    simp only [nps2, Bool.or_eq_true] at h
    simp only [cTs, List.all_cons]
    rcases h with h | h
    · rw [np2_eq t h]; rfl
    · rw [all_plain_np h, Bool.and_false]
theorem movable_eq {h h' : H2} {z : Nat} {y : W} {q : Nat × Nat × SL} {us : List T2} (ho : ownSrc h y = some q) (e : (movable h z q).den = some (us, h')) : takeElems (cH h) (cW y) = some (cTs us, cH h') ∧ csAll z (cTs us) = true := by
  unfold ownSrc at ho
  split at ho
  · rename_i id path off len g
    split at ho
    · rename_i g' z' a ho1
      split at ho
      · rename_i hc
        simp only [Bool.and_eq_true, beq_iff_eq] at hc
        simp only [Option.some.injEq] at ho
        subst ho
        obtain ⟨rfl, _⟩ := hc
        simp only [movable, Tree.den_bind, Tree.den_chk, Tree.den_ask, Tree.den_leaf, Prod.mk.injEq, Bool.and_eq_true] at e
        obtain ⟨us', hi, _, ⟨⟨hn, hs⟩, hz⟩, _, hl, rfl, rfl⟩ := e
        have hl := Nat.eq_of_beq_eq_true hl
        have ho' := getH_c ho1
        have hcs := items2_eq hi
        have hlen : (cTs us').length = len := by rw [cTs_length']; exact hl
        refine ⟨?_, csAll_cTs' hz⟩
        have hv : vecAt (cH h id) [] = some (g', z', cSL a) := by rw [ho']; rfl
        unfold takeElems elems
        simp only [cW, ixs, Option.getD_none, hv]
        rw [if_pos ⟨trivial, by rw [hcs, hlen]; omega⟩]
        simp only [List.drop_zero]
        have ht : (cSL a).take len = cTs us' := by rw [hcs, List.take_of_length_le (by omega)]
        rw [ht, all_plain_np hn]
        simp only [Bool.false_eq_true, if_false, ho', cO]
        rw [if_pos ⟨by rw [hcs, hlen], solids2_eq us' hs⟩, ← cH_upd]
        rfl
      · cases ho
    · cases ho
  · cases ho
def takeSL (n : Nat) : SL → Tree SL
  | .base s t l => .leaf (.base s t (l.take n))
  | _ => .fail
theorem takeSL_eq {n : Nat} {a b : SL} (h : (takeSL n a).den = some b) : cSL b = (cSL a).take n := by
  cases a <;> simp only [takeSL, Tree.den_fail, Tree.den_leaf] at h
  subst h
  simp only [cSL, List.map_take]
def app3 (g : Nat) (d : Option Nat) (u : Option Ty) (h : H2) (z bytes : Nat) (x : W) (us : List T2) : Tree (W × H2) :=
  match x with
  | .nil _ => match d with
    | some d => (Tree.ask (Nat.ble (us.length * bytes) 140737488355328)).bind fun _ => (stampSL g (pushAll' (match u with | some t => .base g t [] | none => .base g .bool []) us)).bind fun b =>
        .leaf (.own d [] none us.length g, setA h d (.vec g z b))
    | none => .fail
  | .own id path off len g0 => match off with
    | some _ => .fail
    | none => (Tree.ofO (getH h id)).bind fun o => match o, path with
      | .vec g1 z1 a, [] => if g1 == g0 && z1 == z then (Tree.ask (Nat.ble len a.len)).bind fun _ =>
            (Tree.ask (Nat.ble ((len + us.length) * bytes) 140737488355328)).bind fun _ => (takeSL len a).bind fun b => (mapT2s .leaf (fun _ => g) us).bind fun vs =>
              .leaf (.own id [] none (len + us.length) g, setA h id (.vec g z (pushAll' b vs))) else .fail
      | o, path => match d with
        | some d => (subO2 o path).bind fun t => match hdT t with
          | some (g1, z1, a, n) => if g1 == g0 && z1 == z then (Tree.ask (len == n)).bind fun _ => (Tree.ask (Nat.ble n a.len)).bind fun _ =>
                (Tree.ask (Nat.ble ((len + us.length) * bytes) 140737488355328)).bind fun _ => (takeSL len a).bind fun b => (stampSL g (pushAll' b us)).bind fun b' => (putO2 (.hole 1) o path).bind fun o' =>
                  .leaf (.own d [] none (len + us.length) g, setA (setA h id o') d (.vec g z b'))
              else .fail
          | none => .fail
        | none => .fail
  | _ => .fail
theorem app3_eq {g : Nat} {d : Option Nat} {u : Option Ty} {h h1 h' : H2} {z bytes : Nat} {x y w : W} {us : List T2} {q : Nat × Nat × SL} (ho' : ownSrc h y = some q) (hm : (movable h z q).den = some (us, h1)) (e : (app3 g d u h1 z bytes x us).den = some (w, h')) :
    appOp g d (cH h) z bytes (cW x) (cW y) = some (cW w, cH h') ∧ ∃ id len g1, w = .own id [] none len g1 := by
  obtain ⟨hs, hcs⟩ := movable_eq ho' hm
  have hul : (cTs us).length = us.length := cTs_length' us
  unfold app3 at e
  unfold appOp
  rw [hs]
  simp only [hcs, Bool.not_true, Bool.false_eq_true, if_false]
  split at e
  · split at e
    · rename_i d'
      simp only [Tree.den_bind, Tree.den_ask, Tree.den_leaf, Prod.mk.injEq] at e
      obtain ⟨_, h2, b, h3, rfl, rfl⟩ := e
      have h2 := Nat.ble_eq.mp h2
      refine ⟨?_, _, _, _, rfl⟩
      simp only [cW, hul]
      rw [if_pos (by unfold room; exact h2)]
      have hb : stamps g (cTs us) = cSL b := by
        rw [← stampSL_eq h3, pushAll'_eq]
        cases u <;> simp [cSL]
      simp only [ofAlloc, ixs, Option.getD_some, Option.getD_none, hb]
      rw [show (Obj.vec g z (cSL b)) = cO (.vec g z b) from rfl, cH_upd]
    · simp at e
  · rename_i id path off len g0
    split at e
    · simp at e
    · simp only [Tree.den_bind, Tree.den_ofO] at e
      obtain ⟨o, h2, e⟩ := e
      have ho := getH_c h2
      split at e
      · rename_i g1 z1 a
        split at e
        · rename_i hc
          simp only [Bool.and_eq_true, beq_iff_eq] at hc
          simp only [Tree.den_bind, Tree.den_ask, Tree.den_leaf, Prod.mk.injEq] at e
          obtain ⟨_, h3, _, h4, b, h5, vs, h6, rfl, rfl⟩ := e
          have h3 := Nat.ble_eq.mp h3
          have h4 := Nat.ble_eq.mp h4
          refine ⟨?_, _, _, _, rfl⟩
          simp only [cW, Option.getD_none, ho, cO, ixs, appRoot, hul, if_true]
          rw [if_pos ⟨hc.1, hc.2, by rw [SL.len_eq]; exact h3, by unfold room; exact h4⟩]
          have hst : stamps g (cTs us) = cTs vs := mapT2s_eq _ leaf_id us vs h6
          rw [hst, show (cSL a).take len ++ cTs vs = cSL (pushAll' b vs) by rw [pushAll'_eq, takeSL_eq h5]]
          rw [show Obj.vec g z (cSL (pushAll' b vs)) = cO (.vec g z (pushAll' b vs)) from rfl, cH_upd]
        · simp at e
      · rename_i hno
        split at e
        · rename_i d'
          simp only [Tree.den_bind] at e
          obtain ⟨t0, h3, e⟩ := e
          split at e
          · rename_i g1 z1 a n ht
            split at e
            · rename_i hc
              simp only [Bool.and_eq_true, beq_iff_eq] at hc
              simp only [Tree.den_bind, Tree.den_ask, Tree.den_leaf, Prod.mk.injEq, beq_iff_eq] at e
              obtain ⟨_, h4, _, h5, _, h6, b, h7, b', h8, o', h9, rfl, rfl⟩ := e
              have h5 := Nat.ble_eq.mp h5
              have h6 := Nat.ble_eq.mp h6
              refine ⟨?_, _, _, _, rfl⟩
              have hsub := subO2_eq h3
              rw [hdT_eq ht] at hsub
              have hput : put (some (cO o)) (ixs path) (.hole 1) = some (cO o') := putO2_eq h9
              simp only [cW, Option.getD_none, if_true]
              have key : appPlace g (some d') (cH h1) id (ixs path) z bytes len g0 (cTs us) = some (.own d' [] 0 (len + us.length) g, cH (setA (setA h1 id o') d' (.vec g z b'))) := by
                unfold appPlace
                rw [ho, hsub]
                simp only [hul]
                rw [if_pos ⟨hc.1, hc.2, h4, by rw [SL.len_eq]; exact h5, by unfold room; exact h6⟩, hput]
                simp only [ofAlloc]
                rw [show (cSL a).take len ++ cTs us = cSL (pushAll' b us) by rw [pushAll'_eq, takeSL_eq h7], stampSL_eq h8, cH_upd, show Obj.vec g z (cSL b') = cO (.vec g z b') from rfl, cH_upd]
                rfl
              split
              · rename_i e0 e2
                exfalso
                rw [ho] at e0
                simp only [Option.some.injEq] at e0
                obtain ⟨a1, ha⟩ := cO_vec e0
                cases path with
                | nil => exact hno _ _ _ ha rfl
                | cons s r => simp [ixs] at e2
              · exact key
            · simp at e
          · simp at e
        · simp at e
  · simp at e
/-- both kinds of append -/
def app4 (g : Nat) (d : Option Nat) (u : Option Ty) (h : H2) (z bytes : Nat) (x y : W) : Tree (W × H2) := match ownSrc h y with
  | some q => (movable h z q).bind fun m => app3 g d u m.2 z bytes x m.1
  | none => app2 g d u h z bytes x y
theorem app4_eq {g : Nat} {d : Option Nat} {u : Option Ty} {h h' : H2} {z bytes : Nat} {x y w : W} (e : (app4 g d u h z bytes x y).den = some (w, h')) :
    appOp g d (cH h) z bytes (cW x) (cW y) = some (cW w, cH h') ∧ ∃ id len g1, w = .own id [] none len g1 := by
  unfold app4 at e
  split at e
  · rename_i q hq
    simp only [Tree.den_bind] at e
    obtain ⟨⟨us, h1⟩, e1, e⟩ := e
    exact app3_eq hq e1 e
  · exact app2_eq e
/-! ### copy and clear -/
def overL {A : Type} (l : List A) (off : Option Nat) (m : List A) : List A := match off with
  | none => m ++ l.drop m.length
  | some o => l.take o ++ m ++ l.drop (o + m.length)
theorem over_enc {s : Nat} {t : Ty} (hp : t.pure = true) (l : List (El t)) (off : Option Nat) (m : List (El t)) : over (l.map (encT s t)) (off.getD 0) (m.map (enc t)) = (overL l off m).map (encT s t) := by
  have e1 : (m.map (enc t)).map (T.p (α := Nat)) = m.map (encT s t) := by
    rw [List.map_map]; congr 1; funext y; exact (encT_pure s t y hp).symm
  unfold over overL
  rw [e1, List.length_map]
  cases off <;> simp [List.map_take, List.map_drop]
/-- puts elements over those of an array -/
def over2 (h : H2) (z : Nat) (x : W) (t : Ty) (m : Nat → List (El t)) : Tree H2 := match x with
  | .own id path off len g => (Tree.ofO (getH h id)).bind fun o => match o, path with
    | .vec a z' (.base s u l), [] => if a == g && z' == z && u.pure && u.cs == z then
        (Tree.ofO (castL u (m len))).bind fun m' => (Tree.ask (Nat.ble (match off with | none => m'.length | some o => o + m'.length) l.length)).bind fun _ =>
          .leaf (setA h id (.vec a z (.base s u (overL l off m')))) else .fail
    | o, path => (subO2 o path).bind fun t1 => match hdT t1 with
        | some (a, z', .base s u l, n) => if a == g && z' == z && u.pure && u.cs == z then
            (Tree.ofO (castL u (m len))).bind fun m' => (Tree.ask (Nat.ble (match off with | none => m'.length | some o => o + m'.length) l.length)).bind fun _ =>
              (putO2 (.vec a z (.base s u (overL l off m')) n) o path).bind fun o' => .leaf (setA h id o') else .fail
        | _ => .fail
  | _ => .fail
theorem over2_eq {h h' : H2} {z : Nat} {x : W} {t : Ty} {m : Nat → List (El t)} (e : (over2 h z x t m).den = some h') :
    ∃ id path off len g, cW x = .own id path off len g ∧ overwrite (cH h) id path g z off ((m len).map (enc t)) = some (cH h') := by
  unfold over2 at e
  split at e
  · rename_i id path off len g
    refine ⟨id, ixs path, off.getD 0, len, g, rfl, ?_⟩
    simp only [Tree.den_bind, Tree.den_ofO] at e
    obtain ⟨o, h1, e⟩ := e
    have ho := getH_c h1
    split at e
    · rename_i a z' s u l
      split at e
      · rename_i hc
        simp only [Bool.and_eq_true, beq_iff_eq] at hc
        simp only [Tree.den_bind, Tree.den_ofO, Tree.den_ask, Tree.den_leaf] at e
        obtain ⟨m', h2, _, h3, rfl⟩ := e
        obtain ⟨e1, e2⟩ := castL_eq h2
        cases e1
        have e2 : m len = m' := eq_of_heq e2
        subst e2
        unfold overwrite
        rw [if_pos (all_enc t z hc.2 _), ho]
        simp only [cO, ixs, cSL, List.length_map]
        rw [if_pos ⟨hc.1.1.1, hc.1.1.2, by cases off with | none => simpa using Nat.ble_eq.mp h3 | some o => simpa using Nat.ble_eq.mp h3⟩, over_enc hc.1.2]
        rw [show Obj.vec a z ((overL l off (m len)).map (encT s t)) = cO (.vec a z (.base s t (overL l off (m len)))) from rfl, cH_upd]
      · simp at e
    · rename_i hno
      simp only [Tree.den_bind] at e
      obtain ⟨t1, h2, e⟩ := e
      split at e
      · rename_i a z' s u l n ht
        split at e
        · rename_i hc
          simp only [Bool.and_eq_true, beq_iff_eq] at hc
          simp only [Tree.den_bind, Tree.den_ofO, Tree.den_ask, Tree.den_leaf] at e
          obtain ⟨m', h3, _, h4, o', h5, rfl⟩ := e
          obtain ⟨e1, e2⟩ := castL_eq h3
          cases e1
          have e2 : m len = m' := eq_of_heq e2
          subst e2
          have hsub := subO2_eq h2
          rw [hdT_eq ht] at hsub
          have hput := putO2_eq h5
          unfold overwrite
          rw [if_pos (all_enc t z hc.2 _), ho]
          split
          · rename_i e8 e9
            exfalso
            cases path with
            | nil =>
              cases o with
              | cell _ _ => simp [cO] at e8
              | vec _ _ _ => simp [subO2] at h2
              | mp _ _ _ _ => simp [subO2] at h2
              | gone => simp [subO2] at h2
            | cons p q => simp [ixs] at e9
          · rw [hsub]
            simp only [cSL, List.length_map]
            rw [if_pos ⟨hc.1.1.1, hc.1.1.2, by cases off with | none => simpa using Nat.ble_eq.mp h4 | some o => simpa using Nat.ble_eq.mp h4⟩, over_enc hc.1.2]
            simp only [cT, cSL] at hput
            rw [hput]
            simp only
            rw [← cH_upd]
        · simp at e
      · simp at e
  · simp at e
def cpy2 (h : H2) (z : Nat) (x y : W) : Tree (W × H2) :=
  match x with
  | .nil _ => (src2 h (some .bool) y).bind fun m => if m.1.cs == z then .leaf (.c (.int .i64 0), h) else .fail
  | x => (src2 h none y).bind fun m => if m.1.cs == z then (over2 h z x m.1 (fun n => m.2.take n)).bind fun h' => .leaf (wI .i64 ((min m.2.length (match x with | .own _ _ _ n _ => n | _ => 0) : Nat)), h') else .fail
theorem cpy2_eq {h h' : H2} {z : Nat} {x y w : W} (e : (cpy2 h z x y).den = some (w, h')) : cpyOp (cH h) z (cW x) (cW y) = some (cW w, cH h') := by
  unfold cpy2 at e
  split at e
  · simp only [Tree.den_bind] at e
    obtain ⟨⟨t, m⟩, h1, e⟩ := e
    split at e
    · rename_i hc
      simp only [beq_iff_eq] at hc
      simp only [Tree.den_leaf, Prod.mk.injEq] at e
      obtain ⟨rfl, rfl⟩ := e
      unfold cpyOp
      rw [src2_eq h1]
      simp only [allTP_tv]
      rw [if_pos (csAll_enc t z hc m)]
      rfl
    · simp at e
  · simp only [Tree.den_bind] at e
    obtain ⟨⟨t, m⟩, h1, e⟩ := e
    split at e
    · rename_i hc
      simp only [beq_iff_eq] at hc
      simp only [Tree.den_bind, Tree.den_leaf, Prod.mk.injEq] at e
      obtain ⟨h2, h3, rfl, rfl⟩ := e
      obtain ⟨id, path, off, len, g, e1, e2⟩ := over2_eq h3
      unfold cpyOp
      rw [src2_eq h1]
      simp only [allTP_tv]
      rw [if_pos (csAll_enc t z hc m), e1]
      simp only
      rw [← List.map_take, e2]
      cases x <;> simp only [cW, reduceCtorEq, MV.own.injEq] at e1
      obtain ⟨_, _, _, rfl, _⟩ := e1
      simp [intV, enc, cW]
    · simp at e
def clr2 (h : H2) (z : Nat) (zero : PV) (x : W) : Tree (W × H2) :=
  match x with
  | .nil _ => .leaf (.tup [], h)
  | .c (.sl []) => .leaf (.tup [], h)
  | x => match pv? (.c zero) with
    | some v => if v.1.cs == z then (over2 h z x v.1 (fun n => List.replicate n v.2)).bind fun h' => .leaf (.tup [], h') else .fail
    | none => match hintC h x with
      | some t => match dec t zero with
        | some v => if t.cs == z then (over2 h z x t (fun n => List.replicate n v)).bind fun h' => .leaf (.tup [], h') else .fail
        | none => .fail
      | none => .fail
where hintC (h : H2) : W → Option Ty
  | .own id _ _ _ _ => match getH h id with | some (.vec _ _ (.base _ t _)) => some t | _ => none
  | _ => none

theorem clr2_eq {K : Calls3} {g : Nat} {d : Option Nat} {s : S2} {h h' : H2} {z : Nat} {zero : PV} {o : Opd} {x w : W} (hw : evO (cS s) o = cW x) (e : (clr2 h z zero x).den = some (w, h')) :
    evalOp K g d (cS s) (cH h) (.clr z zero o) = some (cW w, cH h') := by
  have main : ∀ (t : Ty) (v : El t), enc t v = zero → t.cs = z → ∀ h', (over2 h z x t (fun n => List.replicate n v)).den = some h' → evalOp K g d (cS s) (cH h) (.clr z zero o) = some (.tup [], cH h') := by
    intro t v hv hz h' h1
    obtain ⟨id, path, off, len, g', e1, e2⟩ := over2_eq h1
    simp only [evalOp, hw, e1]
    simp only [List.map_replicate, hv] at e2
    rw [e2]
    simp only
    rw [if_pos (by rw [← hv]; exact (enc_cs _ _).trans hz)]
  unfold clr2 at e
  split at e
  · simp only [Tree.den_leaf, Prod.mk.injEq] at e
    obtain ⟨rfl, rfl⟩ := e
    simp only [evalOp, hw]
    rfl
  · simp only [Tree.den_leaf, Prod.mk.injEq] at e
    obtain ⟨rfl, rfl⟩ := e
    simp only [evalOp, hw]
    rfl
  · split at e
    · rename_i v hv
      obtain ⟨t, y⟩ := v
      split at e
      · rename_i hc
        simp only [beq_iff_eq] at hc
        simp only [Tree.den_bind, Tree.den_leaf, Prod.mk.injEq] at e
        obtain ⟨h1, h2, rfl, rfl⟩ := e
        have := pv?_eq hv
        simp only [cW, MV.p.injEq] at this
        exact main t y this.symm hc h1 h2
      · simp at e
    · split at e
      · rename_i t _
        split at e
        · rename_i v hv
          split at e
          · rename_i hc
            simp only [beq_iff_eq] at hc
            simp only [Tree.den_bind, Tree.den_leaf, Prod.mk.injEq] at e
            obtain ⟨h1, h2, rfl, rfl⟩ := e
            exact main t v (dec_enc _ _ _ hv) hc h1 h2
          · simp at e
        · simp at e
      · simp at e
/-! ### new slices -/
mutual
/-- a zero value as owned memory -/
def zero2 (u : Option Ty) : MV → Option TV
  | .p v => match (match u with | some t => if t.pure then (match dec t v with | some x => some (⟨t, x⟩ : TV) | none => none) else none | none => none) with
    | some x => some x
    | none => match pv? (.c v) with
      | some x => if x.1.pure then some x else none
      | none => none
  | .nil z => match hintSl u with
    | some t => some ⟨.vec z t, ([] : List (El t))⟩
    | none => some ⟨.vec z .bool, ([] : List Bool)⟩
  | .agg l => match zeros2 u 0 l with | some q => some ⟨.agg q.1, q.2⟩ | none => none
  | _ => none
def zeros2 (u : Option Ty) (i : Nat) : List MV → Option ((ts : List Ty) × Els ts)
  | [] => some ⟨[], ()⟩
  | x :: r => match zero2 (hintAgg u i) x, zeros2 u (i + 1) r with | some p, some q => some ⟨p.1 :: q.1, mkE q.1 p.2 q.2⟩ | _, _ => none
end
mutual
theorem zero2_eq (g : Nat) : ∀ (m : MV) (u : Option Ty) (v : TV), zero2 u m = some v → zT g m = some (encT g v.1 v.2)
  | .p p, u, v, h => by
    have key : ∀ (t : Ty) (x : El t), t.pure = true → enc t x = p → zT g (.p p) = some (encT g t x) := by
      intro t x ht hx
      rw [encT_pure g t x ht, hx]
      rfl
    simp only [zero2] at h
    split at h
    · rename_i x hx
      simp only [Option.some.injEq] at h
      subst h
      split at hx
      · split at hx
        · rename_i hp
          split at hx
          · rename_i y hy
            simp only [Option.some.injEq] at hx
            subst hx
            exact key _ _ hp (dec_enc _ _ _ hy)
          · cases hx
        · cases hx
      · cases hx
    · split at h
      · rename_i x hx
        split at h
        · rename_i hp
          simp only [Option.some.injEq] at h
          subst h
          have := pv?_eq hx
          simp only [cW, MV.p.injEq] at this
          exact key _ _ hp this.symm
        · cases h
      · cases h
  | .nil z, u, v, h => by
    simp only [zero2] at h
    split at h <;> (simp only [Option.some.injEq] at h; subst h; rfl)
  | .agg l, u, v, h => by
    simp only [zero2] at h
    split at h
    · rename_i q hq
      simp only [Option.some.injEq] at h
      subst h
      simp only [zT, encT]
      rw [zeros2_eq g l u 0 q hq]
    · cases h
  | .own .., u, v, h | .ptr .., u, v, h | .mref .., u, v, h | .fn .., u, v, h | .tup _, u, v, h | .dead _, u, v, h => by simp [zero2] at h
theorem zeros2_eq (g : Nat) : ∀ (l : List MV) (u : Option Ty) (i : Nat) (q : (ts : List Ty) × Els ts), zeros2 u i l = some q → zT.zTs g l = some (encTs g q.1 q.2)
  | [], u, i, q, h => by simp only [zeros2, Option.some.injEq] at h; subst h; rfl
  | x :: r, u, i, q, h => by
    simp only [zeros2] at h
    split at h
    · rename_i p q' h1 h2
      simp only [Option.some.injEq] at h
      subst h
      simp only [zT.zTs, zero2_eq g x _ p h1, zeros2_eq g r u (i + 1) q' h2, encTs, hd_mk, tl_mk]
    · cases h
end
def mksl2 (g : Nat) (d : Option Nat) (u : Option Ty) (h : H2) (z bytes : Nat) (zero : MV) (l c : W) : Tree (W × H2) :=
  match int? l, int? c, zero2 (hintSl u) zero, d with
  | some (_, l'), some (_, c'), some v, some d => if v.1.cs == z then
      (askIf l (decide (0 ≤ l'))).bind fun _ => (Tree.ask (decide (l' ≤ c'))).bind fun _ => (Tree.ask (Nat.ble (c'.toNat * bytes) 140737488355328)).bind fun _ =>
        .leaf (.own d [] none l'.toNat g, setA h d (.vec g z (.base g v.1 (List.replicate l'.toNat v.2)))) else .fail
  | _, _, _, _ => .fail
theorem mksl2_eq {K : Calls3} {g : Nat} {d : Option Nat} {u : Option Ty} {s : S2} {h h' : H2} {z bytes : Nat} {zero : MV} {x y : Opd} {l c w : W} (hl : evO (cS s) x = cW l) (hc : evO (cS s) y = cW c)
    (e : (mksl2 g d u h z bytes zero l c).den = some (w, h')) : evalOp K g d (cS s) (cH h) (.mksl z bytes zero x y) = some (cW w, cH h') := by
  unfold mksl2 at e
  split at e
  · rename_i k1 l' k2 c' v d' h1 h2 h3
    split at e
    · rename_i hz
      simp only [beq_iff_eq] at hz
      simp only [Tree.den_bind, den_askIf, Tree.den_ask, Tree.den_leaf, decide_eq_true_eq, Prod.mk.injEq] at e
      obtain ⟨_, e1, _, e2, _, e3, rfl, rfl⟩ := e
      simp only [evalOp, hl, hc, int?_eq h1, int?_eq h2, asI, zero2_eq g zero _ _ h3]
      rw [if_pos ⟨e1, e2, by unfold room; exact Nat.ble_eq.mp e3, by rw [encT_cs]; exact hz⟩]
      simp only [ofAlloc, Option.getD_some]
      rw [show Obj.vec g z (List.replicate l'.toNat (encT g v.1 v.2)) = cO (.vec g z (.base g v.1 (List.replicate l'.toNat v.2))) by simp [cO, cSL], cH_upd]
      rfl
    · simp at e
  · simp at e
theorem SL.len_eq' (l : SL) : l.len = (cSL l).length := (SL.len_eq l).symm
def appn2 (g : Nat) (d : Option Nat) (u : Option Ty) (h : H2) (z bytes : Nat) (zero : MV) (x l : W) : Tree (W × H2) :=
  match x, int? l, zero2 (hintSl u) zero, d with
  | .nil _, some (_, l'), some v, some d => if v.1.cs == z then
      (Tree.ask (decide (0 < l'))).bind fun _ => (Tree.ask (Nat.ble (l'.toNat * bytes) 140737488355328)).bind fun _ =>
        .leaf (.own d [] none l'.toNat g, setA h d (.vec g z (.base g v.1 (List.replicate l'.toNat v.2)))) else .fail
  | _, _, _, _ => .fail
theorem appn2_eq {K : Calls3} {g : Nat} {d : Option Nat} {u : Option Ty} {s : S2} {h h' : H2} {z bytes : Nat} {zero : MV} {x y : Opd} {l c w : W} (hx : evO (cS s) x = cW c) (hl : evO (cS s) y = cW l)
    (e : (appn2 g d u h z bytes zero c l).den = some (w, h')) : evalOp K g d (cS s) (cH h) (.appn z bytes zero x y) = some (cW w, cH h') := by
  unfold appn2 at e
  split at e
  · rename_i zz k1 l' v d' h1 h3
    split at e
    · rename_i hz
      simp only [beq_iff_eq] at hz
      simp only [Tree.den_bind, Tree.den_ask, Tree.den_leaf, decide_eq_true_eq, Prod.mk.injEq] at e
      obtain ⟨_, e1, _, e3, rfl, rfl⟩ := e
      simp only [evalOp, hx, hl, cW, int?_eq h1, asI, zero2_eq g zero _ _ h3]
      rw [if_pos ⟨e1, by unfold room; exact Nat.ble_eq.mp e3, by rw [encT_cs]; exact hz⟩]
      simp only [ofAlloc, Option.getD_some]
      rw [show Obj.vec g z (List.replicate l'.toNat (encT g v.1 v.2)) = cO (.vec g z (.base g v.1 (List.replicate l'.toNat v.2))) by simp [cO, cSL], cH_upd]
      rfl
    · simp at e
  · simp at e
/-- elements written behind the slice's end -/
def appk2 (h : H2) (z : Nat) (x y : W) : Tree (W × H2) := match x with
  | .own id path off len g => (src2 h none y).bind fun m => if m.1.cs == z then
      (over2 h z (.own id path (some (match off with | none => len | some o => o + len)) m.2.length g) m.1 (fun _ => m.2)).bind fun h' => .leaf (.own id path off (len + m.2.length) g, h') else .fail
  | _ => .fail
theorem appk2_eq {K : Calls3} {g : Nat} {d : Option Nat} {s : S2} {h h' : H2} {z : Nat} {x y : Opd} {a b w : W} (hx : evO (cS s) x = cW a) (hy : evO (cS s) y = cW b) (e : (appk2 h z a b).den = some (w, h')) :
    evalOp K g d (cS s) (cH h) (.appk z x y) = some (cW w, cH h') := by
  unfold appk2 at e
  split at e
  · rename_i id path off len g0
    simp only [Tree.den_bind] at e
    obtain ⟨⟨t, m⟩, h1, e⟩ := e
    split at e
    · rename_i hc
      simp only [beq_iff_eq] at hc
      simp only [Tree.den_bind, Tree.den_leaf, Prod.mk.injEq] at e
      obtain ⟨h2, h3, rfl, rfl⟩ := e
      obtain ⟨id', path', off', len', g', e1, e2⟩ := over2_eq h3
      simp only [cW, MV.own.injEq] at e1
      obtain ⟨rfl, rfl, e3, rfl, rfl⟩ := e1
      have e3 : off' = off.getD 0 + len := by
        rw [← e3]
        cases off <;> simp
      subst e3
      simp only [evalOp, hx, hy, src2_eq h1, allTP_tv]
      rw [if_pos (csAll_enc t z hc m)]
      simp only [cW, e2, List.length_map]
    · simp at e
  · simp at e
def sliceK2 (h : H2) (z : Nat) (x lo hi : W) : Tree W := match x with
  | .own id path off _ g => (Tree.ofO (getH h id)).bind fun o => (vecAt2 o path).bind fun y => if y.1 == g && y.2.1 == z then
      (Tree.ask (match off with | none => true | some o => Nat.ble o y.2.2.len)).bind fun _ => (bd2 (match off with | none => y.2.2.len | some o => y.2.2.len - o) (some hi)).bind fun b => (bd2 (b.getD 0) (some lo)).bind fun a =>
        .leaf (.own id path (some (match off with | none => a.getD 0 | some o => o + a.getD 0)) (b.getD 0 - a.getD 0) g) else .fail
  | _ => .fail
theorem sliceK2_eq {K : Calls3} {g : Nat} {d : Option Nat} {s : S2} {h : H2} {z : Nat} {x lo hi : Opd} {a b c w : W} (hx : evO (cS s) x = cW a) (hl : evO (cS s) lo = cW b) (hh : evO (cS s) hi = cW c) (e : (sliceK2 h z a b c).den = some w) :
    evalOp K g d (cS s) (cH h) (.sliceK z x lo hi) = some (cW w, cH h) := by
  unfold sliceK2 at e
  split at e
  · rename_i id path off len g0
    simp only [Tree.den_bind, Tree.den_ofO] at e
    obtain ⟨o, h1, ⟨g1, z1, sl⟩, h2, e⟩ := e
    split at e
    · rename_i hc
      simp only [Bool.and_eq_true, beq_iff_eq] at hc
      simp only [Tree.den_bind, Tree.den_ask, Tree.den_leaf] at e
      obtain ⟨_, e1, j, e2, i, e3, rfl⟩ := e
      have hv := vecAt2_eq h2
      rw [SL.len_eq'] at e1 e2
      have f3 := bd2_eq (m := 0) e3
      cases off with
      | none =>
        have f2 := bd2_eq (m := 0) e2
        simp only [Option.map_some, bdOr] at f2 f3
        simp only [evalOp, hx, hl, hh, cW, Option.getD_none, getH_c h1, hv]
        rw [if_pos ⟨hc.1, hc.2, Nat.zero_le _⟩, Nat.sub_zero, f2]
        simp [f3]
      | some o =>
        have f2 := bd2_eq (m := 0) e2
        simp only [Option.map_some, bdOr] at f2 f3
        simp only [evalOp, hx, hl, hh, cW, Option.getD_some, getH_c h1, hv]
        rw [if_pos ⟨hc.1, hc.2, Nat.ble_eq.mp e1⟩, f2]
        simp [f3]
    · simp at e
  · simp at e
def okB2 : List Nat → List W → Bool
  | [], [] => true
  | z :: zs, w :: ws => wcs w == z && wlive w && okB2 zs ws
  | _, _ => false
theorem okB2_eq : ∀ (zs : List Nat) (ws : List W), okB2 zs ws = okB zs (ws.map cW)
  | [], [] => rfl
  | z :: zs, w :: ws => by simp only [okB2, List.map_cons, okB, wcs_eq, wlive_eq, okB2_eq zs ws]
  | [], _ :: _ => rfl
  | _ :: _, [] => rfl
/-- values of one type as a list -/
def asL (t : Ty) : List W → Option (List (El t))
  | [] => some []
  | w :: r => match as? t w, asL t r with | some a, some l => some (a :: l) | _, _ => none
theorem asL_eq {t : Ty} : ∀ {ws : List W} {l : List (El t)}, asL t ws = some l → ws.map cW = (l.map (enc t)).map .p
  | [], l, h => by simp only [asL, Option.some.injEq] at h; subst h; rfl
  | w :: r, l, h => by
    simp only [asL] at h
    cases h1 : as? t w with
    | none => rw [h1] at h; cases h
    | some a =>
      cases h2 : asL t r with
      | none => rw [h1, h2] at h; cases h
      | some q =>
        rw [h1, h2] at h
        simp only [Option.some.injEq] at h
        subst h
        simp only [List.map_cons, as?_eq h1, asL_eq h2]
def elTy (u : Option Ty) (ws : List W) : Option Ty := match hintSl u with
  | some t => some t
  | none => match ws with
    | w :: _ => (pv? w).map (·.1)
    | [] => none
def pushAll : SL → List T2 → SL
  | a, [] => a
  | a, t :: r => pushAll (a.push t) r
theorem pushAll_eq : ∀ (l : List T2) (a : SL), cSL (pushAll a l) = cSL a ++ cTs l
  | [], a => by simp [pushAll, cTs]
  | t :: r, a => by rw [pushAll, pushAll_eq r, SL.push_eq]; simp [cTs]
def bsl2 (g : Nat) (d : Option Nat) (u : Option Ty) (h : H2) (mt : Bool) (z : Nat) (ws : List W) : Tree (W × H2) :=
  if okB2 (List.replicate ws.length z) ws then
    match (match mt with | true => none | false => match elTy u ws with | some t => (asL t ws).map fun l => (⟨.sl t, l⟩ : TV) | none => none) with
    | some v => .leaf (.v v.1 v.2, h)
    | none => if mt || ws.any nonP then match d with
        | some d => (intos2 g (match hintSl u with | some t => some (.agg (List.replicate ws.length t)) | none => none) 0 h ws).bind fun x => if x.1.all (fun t => tcs t == z) then
            .leaf (.own d [] none x.1.length g, setA x.2 d (.vec g z (pushAll (noneE g u) x.1))) else .fail
        | none => .fail
      else .fail
  else .fail
theorem csAll_cTs {z : Nat} : ∀ {l : List T2}, l.all (fun t => tcs t == z) = true → csAll z (cTs l) = true
  | [], _ => rfl
  | t :: r, h => by
    simp only [List.all_cons, Bool.and_eq_true] at h
    simp only [cTs, csAll_cons, tcs_eq, h.1, csAll_cTs h.2, Bool.and_self]
theorem cTs_length (l : List T2) : (cTs l).length = l.length := by rw [cTs_map, List.length_map]
theorem bsl2_eq {K : Calls3} {g : Nat} {d : Option Nat} {u : Option Ty} {s : S2} {h h' : H2} {mt : Bool} {z : Nat} {parts : List Opd} {ws : List W} {w : W} (hw : parts.map (evO (cS s)) = ws.map cW)
    (e : (bsl2 g d u h mt z ws).den = some (w, h')) : evalOp K g d (cS s) (cH h) (.bsl mt z parts) = some (cW w, cH h') := by
  have hlen : parts.length = ws.length := by have := congrArg List.length hw; simpa using this
  unfold bsl2 at e
  split at e
  · rename_i hok
    simp only [evalOp, hw, hlen]
    rw [← okB2_eq, if_pos hok]
    split at e
    · rename_i v hv
      simp only [Tree.den_leaf, Prod.mk.injEq] at e
      obtain ⟨rfl, rfl⟩ := e
      split at hv
      · cases hv
      · split at hv
        · rename_i t _
          cases hl : asL t ws with
          | none => rw [hl] at hv; cases hv
          | some l =>
            rw [hl] at hv
            cases hv
            rw [asL_eq hl, allP_ps]
            rfl
        · cases hv
    · split at e
      · rename_i hmt
        split at e
        · rename_i d'
          simp only [Tree.den_bind] at e
          obtain ⟨⟨ts, h1⟩, e1, e⟩ := e
          split at e
          · rename_i hz
            simp only [Tree.den_leaf, Prod.mk.injEq] at e
            obtain ⟨rfl, rfl⟩ := e
            have hnone : (if mt = true then none else allP (ws.map cW)) = none := by
              cases mt with
              | true => rfl
              | false =>
                simp only [Bool.false_or] at hmt
                simp only [Bool.false_eq_true, if_false]
                exact nonP_allP hmt
            rw [hnone]
            simp only
            have := intos2_eq g ws _ 0 h ts h1 e1
            rw [cWs_map] at this
            rw [this]
            simp only
            rw [if_pos (csAll_cTs hz)]
            simp only [ofAlloc, Option.getD_some]
            rw [show Obj.vec g z (cTs ts) = cO (.vec g z (pushAll (noneE g u) ts)) by simp [cO, pushAll_eq, noneE_eq], cH_upd]
            simp only [cW, ixs, Option.getD_none, cTs_length]
          · simp at e
        · simp at e
      · simp at e
  · simp at e
/-! ### greatest and least, closures -/
def ints? : List W → Option (List Int)
  | [] => some []
  | w :: r => match int? w, ints? r with | some (_, n), some l => some (n :: l) | _, _ => none
def foldW (f : Int → Int → Int) : Int → List Int → Int
  | x, [] => x
  | x, y :: r => foldW f (f x y) r
theorem foldMx_eq (f : Int → Int → Int) (k : IntKind) : ∀ {ws : List W} {l : List Int} {x : Int}, ints? ws = some l → ∃ vs, allP (ws.map cW) = some vs ∧ foldMx f (.int k x) vs = some (.int k (foldW f x l))
  | [], l, x, h => by simp only [ints?, Option.some.injEq] at h; subst h; exact ⟨[], rfl, rfl⟩
  | w :: r, l, x, h => by
    simp only [ints?] at h
    split at h
    · rename_i k' n q h1 h2
      simp only [Option.some.injEq] at h
      subst h
      obtain ⟨vs, h3, h4⟩ := foldMx_eq f k (x := f x n) h2
      refine ⟨.int k' n :: vs, ?_, ?_⟩
      · simp only [List.map_cons, int?_eq h1, allP, h3]
      · simp only [foldMx, h4, foldW]
    · cases h
def mxn2 (f : Int → Int → Int) : List W → Tree W
  | [] => .fail
  | w :: r => match int? w, ints? r with
    | some (k, x), some l => .leaf (wI k (foldW f x l))
    | _, _ => .fail
theorem mxn2_eq {f : Int → Int → Int} {ws : List W} {w : W} {h : Heap} (e : (mxn2 f ws).den = some w) :
    (match ws.map cW with
    | .p v :: r => match allP r with
      | some vs => match foldMx f v vs with | some w => some (MV.p w, h) | none => none
      | none => none
    | _ => none) = some (cW w, h) := by
  cases ws with
  | nil => simp [mxn2] at e
  | cons a r =>
    simp only [mxn2] at e
    split at e
    · rename_i k x l h1 h2
      simp only [Tree.den_leaf] at e
      subst e
      obtain ⟨vs, h3, h4⟩ := foldMx_eq f k (x := x) h2
      simp only [List.map_cons, int?_eq h1, h3, h4]
      rfl
    · simp at e
def mkfn2 (f : Nat) (ws : List W) : Tree W := match pvs? ws with
  | some q => .leaf (.v (.fn f q.1) q.2)
  | none => if ws.any nonP then .leaf (.fn f ws) else .fail
theorem mkfn2_eq {f : Nat} {ws : List W} {w : W} {h : Heap} (e : (mkfn2 f ws).den = some w) :
    (match allP (ws.map cW) with
    | some vs => some (MV.p (.fn f vs), h)
    | none => some (.fn f (ws.map cW), h)) = some (cW w, h) := by
  unfold mkfn2 at e
  split at e
  · rename_i q hq
    obtain ⟨ts, x⟩ := q
    simp only [Tree.den_leaf] at e
    subst e
    rw [pvs?_eq hq, allP_ps]
    rfl
  · split at e
    · rename_i hn
      simp only [Tree.den_leaf] at e
      subst e
      rw [nonP_allP hn, cW, cWs_map]
    · simp at e
end Go.Mid
/- Operations and regions on symbolic states. -/
namespace Go.Mid
set_option linter.unusedSimpArgs false
set_option linter.unusedVariables false
def cst : MV → Option W
  | .p v => some (.c v)
  | .nil z => some (.nil z)
  | .agg l => match csts l with | some l => some (.agg l) | none => none
  | _ => none
where csts : List MV → Option (List W)
  | [] => some []
  | x :: r => match cst x, csts r with | some a, some b => some (a :: b) | _, _ => none
mutual
theorem cst_eq : ∀ (m : MV) (w : W), cst m = some w → m = cW w
  | .p v, w, h => by simp only [cst, Option.some.injEq] at h; subst h; rfl
  | .nil z, w, h => by simp only [cst, Option.some.injEq] at h; subst h; rfl
  | .agg l, w, h => by
    simp only [cst] at h
    split at h
    · rename_i l' hl
      simp only [Option.some.injEq] at h
      subst h
      simp only [cW, csts_eq l l' hl]
    · cases h
  | .own .., w, h | .ptr .., w, h | .mref .., w, h | .fn .., w, h | .tup _, w, h | .dead _, w, h => by simp [cst] at h
theorem csts_eq : ∀ (l : List MV) (ws : List W), cst.csts l = some ws → l = cWs ws
  | [], ws, h => by simp only [cst.csts, Option.some.injEq] at h; subst h; rfl
  | x :: r, ws, h => by
    simp only [cst.csts] at h
    split at h
    · rename_i a b h1 h2
      simp only [Option.some.injEq] at h
      subst h
      simp only [cWs]
      rw [← cst_eq x a h1, ← csts_eq r b h2]
    · cases h
end
def evW (s : S2) : Opd → Option W
  | .t n => some (getS s n)
  | .c v => cst v
  | .f id => some (.c (.fn id []))
theorem evW_eq {s : S2} {o : Opd} {w : W} (h : evW s o = some w) : evO (cS s) o = cW w := by
  cases o with
  | t n => simp only [evW, Option.some.injEq] at h; subst h; exact cS_get s n
  | c v => exact cst_eq v w h
  | f id => simp only [evW, Option.some.injEq] at h; subst h; rfl
def evWs (s : S2) : List Opd → Option (List W)
  | [] => some []
  | o :: r => match evW s o, evWs s r with | some w, some l => some (w :: l) | _, _ => none
theorem evWs_eq {s : S2} : ∀ {l : List Opd} {ws : List W}, evWs s l = some ws → l.map (evO (cS s)) = ws.map cW
  | [], ws, h => by simp only [evWs, Option.some.injEq] at h; subst h; rfl
  | o :: r, ws, h => by
    simp only [evWs] at h
    split at h
    · rename_i w l h1 h2
      simp only [Option.some.injEq] at h
      subst h
      simp only [List.map_cons, evW_eq h1, evWs_eq h2]
    · cases h
def evWo (s : S2) : Option Opd → Option (Option W)
  | none => some none
  | some o => match evW s o with | some w => some (some w) | none => none
theorem evWo_eq {s : S2} {o : Option Opd} {w : Option W} (h : evWo s o = some w) : o.map (evO (cS s)) = w.map cW := by
  cases o with
  | none => simp only [evWo, Option.some.injEq] at h; subst h; rfl
  | some o =>
    simp only [evWo] at h
    split at h
    · rename_i w' hw
      simp only [Option.some.injEq] at h
      subst h
      simp only [Option.map_some, evW_eq hw]
    · cases h
/-- parts of captured values -/
def compsW : (ts : List Ty) → Els ts → List W
  | [], _ => []
  | t :: r, x => .v t (hdE r x) :: compsW r (tlE r x)
theorem compsW_eq : ∀ (ts : List Ty) (x : Els ts), (compsW ts x).map cW = (encs ts x).map .p
  | [], _ => rfl
  | t :: r, x => by simp only [compsW, List.map_cons, encs, compsW_eq r]; rfl
def callee2 : W → Option (Nat × List W)
  | .c (.fn f cs) => some (f, cs.map .c)
  | .v (.fn f ts) x => some (f, compsW ts x)
  | .fn f cs => some (f, cs)
  | _ => none
theorem callee2_eq {w : W} {f : Nat} {cs : List W} (h : callee2 w = some (f, cs)) : callee (cW w) = some (f, cs.map cW) := by
  unfold callee2 at h
  split at h
  · rename_i f' cs'
    simp only [Option.some.injEq, Prod.mk.injEq] at h
    obtain ⟨rfl, rfl⟩ := h
    simp only [cW, callee, List.map_map]
    congr 2
  · rename_i f' ts x
    simp only [Option.some.injEq, Prod.mk.injEq] at h
    obtain ⟨rfl, rfl⟩ := h
    simp only [cW, enc, callee]
    congr 2
    exact (compsW_eq ts x).symm
  · simp only [Option.some.injEq, Prod.mk.injEq] at h
    obtain ⟨rfl, rfl⟩ := h
    simp only [cW, callee, cWs_map]
  · cases h
/-- calls: mode, stamp, slot, type, memory, function, arguments -/
abbrev Call2 := Nat → Nat → Option Nat → Option Ty → H2 → Nat → List W → Tree (W × H2)
def callM (K : Calls3) (md g : Nat) (d : Option Nat) (h : Heap) (f : Nat) (args : List MV) : Option (MV × Heap) :=
  match md with
  | 0 => snapCall K h f args
  | 1 => sharedCall K g d h f args
  | _ => takeCall K g d h f args
def SymCalls (K : Calls3) (C : Call2) : Prop := ∀ md g d u h f args w h', (C md g d u h f args).den = some (w, h') → callM K md g d (cH h) f (args.map cW) = some (cW w, cH h')
def with1 (s : S2) (x : Opd) (k : W → Tree (W × H2)) : Tree (W × H2) := match evW s x with | some w => k w | none => .fail
def with2 (s : S2) (x y : Opd) (k : W → W → Tree (W × H2)) : Tree (W × H2) := match evW s x, evW s y with | some w, some v => k w v | _, _ => .fail
def withs (s : S2) (l : List Opd) (k : List W → Tree (W × H2)) : Tree (W × H2) := match evWs s l with | some ws => k ws | none => .fail
theorem with1_eq {s : S2} {x : Opd} {k : W → Tree (W × H2)} {r : W × H2} (h : (with1 s x k).den = some r) : ∃ w, evO (cS s) x = cW w ∧ (k w).den = some r := by
  unfold with1 at h
  split at h
  · rename_i w hw; exact ⟨w, evW_eq hw, h⟩
  · simp at h
theorem with2_eq {s : S2} {x y : Opd} {k : W → W → Tree (W × H2)} {r : W × H2} (h : (with2 s x y k).den = some r) : ∃ w v, evO (cS s) x = cW w ∧ evO (cS s) y = cW v ∧ (k w v).den = some r := by
  unfold with2 at h
  split at h
  · rename_i w v hw hv; exact ⟨w, v, evW_eq hw, evW_eq hv, h⟩
  · simp at h
theorem withs_eq {s : S2} {l : List Opd} {k : List W → Tree (W × H2)} {r : W × H2} (h : (withs s l k).den = some r) : ∃ ws, l.map (evO (cS s)) = ws.map cW ∧ (k ws).den = some r := by
  unfold withs at h
  split at h
  · rename_i ws hw; exact ⟨ws, evWs_eq hw, h⟩
  · simp at h
def still (h : H2) (t : Tree W) : Tree (W × H2) := t.bind fun w => .leaf (w, h)
theorem still_eq {h : H2} {t : Tree W} {w : W} {h' : H2} (e : (still h t).den = some (w, h')) : t.den = some w ∧ h' = h := by
  simp only [still, Tree.den_bind, Tree.den_leaf, Prod.mk.injEq] at e
  obtain ⟨a, h1, rfl, rfl⟩ := e
  exact ⟨h1, rfl⟩
theorem bslp_eq {K : Calls3} {g : Nat} {d : Option Nat} {s : Slots} {h h2 : Heap} {z id len g1 : Nat} {parts : List Opd} {v : PV}
    (e : evalOp K g d s h (.bsl true z parts) = some (.own id [] 0 len g1, h2)) (hp : pureM h2 (.own id [] 0 len g1) = some v) :
    evalOp K g d s h (.bslp z parts) = some (.p v, upd h2 id (some .gone)) := by
  simp only [evalOp] at e ⊢
  split at e
  · rename_i hok
    rw [if_pos hok]
    simp only [if_true] at e
    split at e
    · rename_i ts h1 hi
      split at e
      · rename_i hcs
        split at e
        · rename_i h' ho
          simp only [Option.some.injEq, Prod.mk.injEq, MV.own.injEq] at e
          obtain ⟨⟨rfl, _, _, rfl, rfl⟩, rfl⟩ := e
          simp only [hi, if_pos hcs, ho, hp]
        · cases e
      · cases e
    · cases e
  · cases e
def pureApp (h : H2) (w : W) : Tree (W × H2) := match w with
  | .own id [] none len g => (snap h none (.own id [] none len g)).bind fun v => .leaf (.v v.1 v.2, setA h id .gone)
  | _ => .fail
def pick2 (h : H2) (c a b : W) : Tree (W × H2) := match c with
  | .c (.bool true) => .leaf (a, h)
  | .c (.bool false) => .leaf (b, h)
  | .v .bool t => .ite t (.leaf (a, h)) (.leaf (b, h))
  | _ => .fail
theorem pick2_eq {h h' : H2} {c a b w : W} (e : (pick2 h c a b).den = some (w, h')) : ∃ t, cW c = .p (.bool t) ∧ (if t then cW a else cW b) = cW w ∧ h' = h := by
  unfold pick2 at e
  split at e
  · simp only [Tree.den_leaf, Prod.mk.injEq] at e; obtain ⟨rfl, rfl⟩ := e; exact ⟨true, rfl, rfl, rfl⟩
  · simp only [Tree.den_leaf, Prod.mk.injEq] at e; obtain ⟨rfl, rfl⟩ := e; exact ⟨false, rfl, rfl, rfl⟩
  · rename_i t
    rcases (Tree.den_ite _ _ _ _).1 e with ⟨ht, q⟩ | ⟨ht, q⟩
    · simp only [Tree.den_leaf, Prod.mk.injEq] at q; obtain ⟨rfl, rfl⟩ := q
      have ht : (show Bool from t) = true := ht
      exact ⟨true, by show MV.p (.bool (show Bool from t)) = _; rw [ht], rfl, rfl⟩
    · simp only [Tree.den_leaf, Prod.mk.injEq] at q; obtain ⟨rfl, rfl⟩ := q
      have ht : (show Bool from t) = false := ht
      exact ⟨false, by show MV.p (.bool (show Bool from t)) = _; rw [ht], rfl, rfl⟩
  · simp at e
def lenW : W → Option Nat
  | .v (.sl t) l => some (List.length (α := El t) l)
  | .nil _ => some 0
  | .own _ _ _ len _ => some len
  | _ => none
theorem lenW_eq {w : W} {n : Nat} (h : lenW w = some n) : lenOp (cW w) = some n := by
  unfold lenW at h
  split at h
  · rename_i t l
    cases h
    have : ∀ l : List (El t), lenOp (.p (.sl (l.map (enc t)))) = some l.length := fun l => by simp [lenOp]
    exact this l
  · cases h; rfl
  · cases h; rfl
  · cases h
def cut3 (h : H2) (x lo hi mx : W) : Tree (W × H2) := match lenW x with
  | some n => (bd2 n (some mx)).bind fun m => (bd2 (m.getD 0) (some hi)).bind fun b => (bd2 (b.getD 0) (some lo)).bind fun _ => .leaf (.dead 1, h)
  | none => .fail
theorem asBd_of2 {n : Nat} {w : W} {k : Option Nat} (h : (bd2 n (some w)).den = some k) : asBd n (cW w) = some (k.getD 0) := bd2_eq (m := 0) h
theorem cut3_eq {K : Calls3} {g : Nat} {d : Option Nat} {s : S2} {h : H2} {x lo hi mx : Opd} {wx wl wh wm : W} {r : W × H2} (h1 : evO (cS s) x = cW wx) (h2 : evO (cS s) lo = cW wl) (h3 : evO (cS s) hi = cW wh) (h4 : evO (cS s) mx = cW wm)
    (e : (cut3 h wx wl wh wm).den = some r) : evalOp K g d (cS s) (cH h) (.slice3 x lo hi mx) = some (cW r.1, cH r.2) := by
  unfold cut3 at e
  split at e
  · rename_i n hn
    simp only [Tree.den_bind, Tree.den_leaf] at e
    obtain ⟨m, e1, b, e2, c, e3, rfl⟩ := e
    simp only [evalOp, h1, h2, h3, h4, lenW_eq hn, asBd_of2 e1, asBd_of2 e2, asBd_of2 e3]
    rfl
  · simp at e
def ev2 (C : Call2) (hint : Nat → Option Ty) (g : Nat) (d : Option Nat) (s : S2) (h : H2) (op : MOp) : Tree (W × H2) :=
  let u : Option Ty := match d with | some d => hint d | none => none
  match op with
  | .move x => with1 s x fun w => .leaf (w, h)
  | .nilv z => match d with | some d => .leaf (.own d [] none 0 g, setA h d (.vec g z (noneE g u))) | none => .fail
  | .pick c a b => with1 s c fun c => with2 s a b fun a b => pick2 h c a b
  | .box x => with1 s x fun w => match d with
    | some d => (into2 g (match u with | some (.ref t) => some t | _ => none) h w).bind fun y => .leaf (.ptr d none [] g, setA y.2 d (.cell g y.1))
    | none => .fail
  | .build zs parts => withs s parts fun ws => if okB2 zs ws then still h (mkAggW ws) else .fail
  | .bsl mt z parts => withs s parts fun ws => bsl2 g d u h mt z ws
  | .bslp z parts => withs s parts fun ws => (bsl2 g d u h true z ws).bind fun r => pureApp r.2 r.1
  | .load agg n x => with1 s x fun w => still h (load2 h agg n w)
  | .store n a x => with2 s a x fun a w => store2 g h n a w
  | .bin bl o x y => with2 s x y fun a b => still h (bin2 bl o a b)
  | .eqs neg td x y => with2 s x y fun a b => still h (eqs2 neg td a b)
  | .mkfn f caps => withs s caps fun ws => still h (mkfn2 f ws)
  | .mksl z b zero l c => with2 s l c fun l c => mksl2 g d u h z b zero l c
  | .slice z x lo hi => with1 s x fun w => match evWo s lo, evWo s hi with | some a, some b => still h (slice2 h z w a b) | _, _ => .fail
  | .sliceS x lo hi => with1 s x fun w => match evWo s lo, evWo s hi with | some a, some b => still h (sliceS2 w a b) | _, _ => .fail
  | .appn z b zero x n => with2 s x n fun x n => appn2 g d u h z b zero x n
  | .appk z x y => with2 s x y fun x y => appk2 h z x y
  | .sliceK z x lo hi => with1 s x fun x => with2 s lo hi fun lo hi => still h (sliceK2 h z x lo hi)
  | .slice3 x lo hi mx => with2 s x lo fun x lo => with2 s hi mx fun hi mx => cut3 h x lo hi mx
  | .clr z zero x => with1 s x fun w => clr2 h z zero w
  | .iaddr z x i => with2 s x i fun w i => still h (iaddr2 h z w i)
  | .iaddrA n z x i => with2 s x i fun w i => still h (iaddrA2 n z w i)
  | .idx agg z n x i => with2 s x i fun w i => still h (idx2 agg z n w i)
  | .idxS x i => with2 s x i fun w i => still h (idxS2 w i)
  | .call md f args => with1 s f fun fw => withs s args fun ws => match callee2 fw with | some (f, cs) => C md g d u h f (ws ++ cs) | none => .fail
  | .app pz z b x y => with2 s x y fun x y => (app4 g d (hintSl u) h z b x y).bind fun r => match pz with | true => pureApp r.2 r.1 | false => .leaf r
  | .cpy z x y => with2 s x y fun x y => cpy2 h z x y
  | .mx l => withs s l fun ws => still h (mxn2 (fun x y => if y > x then y else x) ws)
  | .mn l => withs s l fun ws => still h (mxn2 (fun x y => if y < x then y else x) ws)
  | op => match opd1 op with | some x => with1 s x fun w => still h (un2 op w) | none => .fail
theorem evalOp_bin (K : Calls3) (g : Nat) (d : Option Nat) (s : Slots) (h : Heap) (bl : Bool) (o : BinOp) (x y : Opd) : evalOp K g d s h (.bin bl o x y) = (binM bl o (evO s x) (evO s y)).map fun v => (v, h) := by
  simp only [evalOp, binM]
  cases evO s x <;> try rfl
  cases evO s y <;> try rfl
  simp only
  split
  · split
    · rename_i h1; rw [h1]; rfl
    · rename_i h1; rw [h1]; rfl
  · rfl
theorem evalOp_eqs (K : Calls3) (g : Nat) (d : Option Nat) (s : Slots) (h : Heap) (neg : Bool) (td : TD) (x y : Opd) : evalOp K g d s h (.eqs neg td x y) = (eqsM neg td (evO s x) (evO s y)).map fun v => (v, h) := by
  simp only [evalOp, eqsM]
  cases evO s x <;> try rfl
  cases evO s y <;> try rfl
  simp only
  split
  · rfl
  · rfl
theorem ev2_eq {K : Calls3} {C : Call2} (hC : SymCalls K C) {hint : Nat → Option Ty} {g : Nat} {d : Option Nat} {s : S2} {h h' : H2} {op : MOp} {w : W} (e : (ev2 C hint g d s h op).den = some (w, h')) :
    evalOp K g d (cS s) (cH h) op = some (cW w, cH h') := by
  have one : ∀ x, opd1 op = some x → (with1 s x fun w => still h (un2 op w)).den = some (w, h') → evalOp K g d (cS s) (cH h) op = some (cW w, cH h') := by
    intro x hx e
    obtain ⟨a, h1, e⟩ := with1_eq e
    obtain ⟨q, rfl⟩ := still_eq e
    exact un2_eq K g d s _ op x a w hx h1 q
  cases op with
  | move x =>
    obtain ⟨a, h1, e⟩ := with1_eq e
    simp only [Tree.den_leaf, Prod.mk.injEq] at e
    obtain ⟨rfl, rfl⟩ := e
    simp only [evalOp, h1]
  | nilv z =>
    simp only [ev2] at e
    split at e
    · simp only [Tree.den_leaf, Prod.mk.injEq] at e
      obtain ⟨rfl, rfl⟩ := e
      simp only [evalOp, ofAlloc, Option.getD_some, ← cH_upd, cO, noneE_eq]
      rfl
    · simp at e
  | pick c a b =>
    obtain ⟨cw, h1, e⟩ := with1_eq e
    obtain ⟨aw, bw, h2, h3, e⟩ := with2_eq e
    obtain ⟨t, q1, q2, rfl⟩ := pick2_eq e
    simp only [evalOp, h1, h2, h3, q1, q2]
  | box x =>
    obtain ⟨a, h1, e⟩ := with1_eq e
    split at e
    · simp only [Tree.den_bind, Tree.den_leaf, Prod.mk.injEq] at e
      obtain ⟨⟨t, h2⟩, e1, rfl, rfl⟩ := e
      simp only [evalOp, h1, into2_eq _ _ _ _ _ _ e1, ofAlloc, Option.getD_some, ← cH_upd, cO]
      rfl
    · simp at e
  | build zs parts =>
    obtain ⟨ws, h1, e⟩ := withs_eq e
    split at e
    · rename_i hok
      obtain ⟨q, rfl⟩ := still_eq e
      simp only [evalOp, h1]
      rw [← okB2_eq, if_pos hok, mkAggW_eq q]
    · simp at e
  | bsl mt z parts =>
    obtain ⟨ws, h1, e⟩ := withs_eq e
    exact bsl2_eq h1 e
  | bslp z parts =>
    obtain ⟨ws, h1, e⟩ := withs_eq e
    simp only [Tree.den_bind] at e
    obtain ⟨⟨r, h3⟩, e1, e⟩ := e
    have e2 := bsl2_eq (K := K) h1 e1
    unfold pureApp at e
    split at e
    · rename_i id len g1 hr
      simp only at hr; subst hr
      simp only [Tree.den_bind, Tree.den_leaf, Prod.mk.injEq] at e
      obtain ⟨v, e3, rfl, rfl⟩ := e
      have e4 := snap_eq _ _ _ _ e3
      have e2' : evalOp K g d (cS s) (cH h) (.bsl true z parts) = some (.own id [] 0 len g1, cH h3) := e2
      rw [bslp_eq e2' e4, ← cH_upd]
      rfl
    · simp at e
  | load agg n x =>
    obtain ⟨a, h1, e⟩ := with1_eq e
    obtain ⟨q, rfl⟩ := still_eq e
    simp only [evalOp, h1, load2_eq q]
  | store n a x =>
    obtain ⟨aw, xw, h1, h2, e⟩ := with2_eq e
    simp only [evalOp, h1, h2]
    exact store2_eq e
  | bin bl o x y =>
    obtain ⟨aw, xw, h1, h2, e⟩ := with2_eq e
    obtain ⟨q, rfl⟩ := still_eq e
    rw [evalOp_bin, h1, h2, bin2_eq q]
    rfl
  | eqs neg td x y =>
    obtain ⟨aw, xw, h1, h2, e⟩ := with2_eq e
    obtain ⟨q, rfl⟩ := still_eq e
    rw [evalOp_eqs, h1, h2, eqs2_eq q]
    rfl
  | mkfn f caps =>
    obtain ⟨ws, h1, e⟩ := withs_eq e
    obtain ⟨q, rfl⟩ := still_eq e
    simp only [evalOp, h1]
    exact mkfn2_eq q
  | mksl z b zero l c =>
    obtain ⟨aw, xw, h1, h2, e⟩ := with2_eq e
    exact mksl2_eq h1 h2 e
  | slice z x lo hi =>
    obtain ⟨a, h1, e⟩ := with1_eq e
    split at e
    · rename_i wl wh hl hh
      obtain ⟨q, rfl⟩ := still_eq e
      simp only [evalOp, h1, evWo_eq hl, evWo_eq hh, slice2_eq q]
    · simp at e
  | sliceS x lo hi =>
    obtain ⟨a, h1, e⟩ := with1_eq e
    split at e
    · rename_i wl wh hl hh
      obtain ⟨q, rfl⟩ := still_eq e
      exact sliceS2_eq h1 (evWo_eq hl) (evWo_eq hh) q
    · simp at e
  | appn z b zero x n =>
    obtain ⟨aw, xw, h1, h2, e⟩ := with2_eq e
    exact appn2_eq h1 h2 e
  | appk z x y =>
    obtain ⟨aw, xw, h1, h2, e⟩ := with2_eq e
    exact appk2_eq h1 h2 e
  | sliceK z x lo hi =>
    obtain ⟨a, h1, e⟩ := with1_eq e
    obtain ⟨b, c, h2, h3, e⟩ := with2_eq e
    obtain ⟨q, rfl⟩ := still_eq e
    exact sliceK2_eq h1 h2 h3 q
  | slice3 x lo hi mx =>
    obtain ⟨a, b, h1, h2, e⟩ := with2_eq e
    obtain ⟨c, f, h3, h4, e⟩ := with2_eq e
    exact cut3_eq h1 h2 h3 h4 e
  | clr z zero x =>
    obtain ⟨a, h1, e⟩ := with1_eq e
    exact clr2_eq h1 e
  | iaddr z x i =>
    obtain ⟨aw, xw, h1, h2, e⟩ := with2_eq e
    obtain ⟨q, rfl⟩ := still_eq e
    simp only [evalOp, h1, h2, iaddr2_eq q]
  | iaddrA n z x i =>
    obtain ⟨aw, xw, h1, h2, e⟩ := with2_eq e
    obtain ⟨q, rfl⟩ := still_eq e
    exact iaddrA2_eq h1 h2 q
  | idx agg z n x i =>
    obtain ⟨aw, xw, h1, h2, e⟩ := with2_eq e
    obtain ⟨q, rfl⟩ := still_eq e
    exact idx2_eq h1 h2 q
  | idxS x i =>
    obtain ⟨aw, xw, h1, h2, e⟩ := with2_eq e
    obtain ⟨q, rfl⟩ := still_eq e
    exact idxS2_eq h1 h2 q
  | call md f args =>
    obtain ⟨fw, h1, e⟩ := with1_eq e
    obtain ⟨ws, h2, e⟩ := withs_eq e
    split at e
    · rename_i f' cs hf
      have := hC _ _ _ _ _ _ _ _ _ e
      simp only [evalOp, h1, h2, callee2_eq hf]
      rw [List.map_append] at this
      unfold callM at this
      split at this <;> first | exact this | (split <;> first | (exfalso; simp_all; done) | exact this)
    · simp at e
  | app pz z b x y =>
    obtain ⟨aw, xw, h1, h2, e⟩ := with2_eq e
    simp only [Tree.den_bind] at e
    obtain ⟨⟨r, h3⟩, e1, e⟩ := e
    obtain ⟨e2, id, len, g1, rfl⟩ := app4_eq e1
    simp only [evalOp, h1, h2, e2, cW, ixs, Option.getD_none]
    split at e
    · simp only [pureApp, Tree.den_bind, Tree.den_leaf, Prod.mk.injEq] at e
      obtain ⟨v, e3, rfl, rfl⟩ := e
      have := snap_eq _ _ _ _ e3
      simp only [cW, ixs, Option.getD_none] at this
      simp only [if_true, this, cW]
      rw [← cH_upd]
      rfl
    · simp only [Tree.den_leaf, Prod.mk.injEq] at e
      obtain ⟨rfl, rfl⟩ := e
      rfl
  | cpy z x y =>
    obtain ⟨aw, xw, h1, h2, e⟩ := with2_eq e
    simp only [evalOp, h1, h2]
    exact cpy2_eq e
  | mx l =>
    obtain ⟨ws, h1, e⟩ := withs_eq e
    obtain ⟨q, rfl⟩ := still_eq e
    simp only [evalOp, h1]
    exact mxn2_eq q
  | mn l =>
    obtain ⟨ws, h1, e⟩ := withs_eq e
    obtain ⟨q, rfl⟩ := still_eq e
    simp only [evalOp, h1]
    exact mxn2_eq q
  | not x => exact one _ rfl e
  | neg x => exact one _ rfl e
  | inv x => exact one _ rfl e
  | convI k x => exact one _ rfl e
  | convS x => exact one _ rfl e
  | convR x => exact one _ rfl e
  | lenS x => exact one _ rfl e
  | capn x => exact one _ rfl e
  | isnil a b x => exact one _ rfl e
  | nilc x => exact one _ rfl e
  | len x => exact one _ rfl e
  | cut0 z x => exact one _ rfl e
  | ext x i => exact one _ rfl e
  | fld a b c x i => exact one _ rfl e
  | faddr x a b => exact one _ rfl e
  | mkmap => simp [ev2, opd1] at e
  | mlook a b c x => simp [ev2, opd1] at e
  | mset a b c => simp [ev2, opd1] at e
  | mdel a b => simp [ev2, opd1] at e
  | bad => simp [ev2, opd1] at e
end Go.Mid
/- Regions on symbolic states; what lives on. -/
namespace Go.Mid
set_option linter.unusedSimpArgs false
set_option linter.unusedVariables false
/-- is it done? and what is known of the slots then -/
def guard2 (s : S2) : Option (Nat × Bool) → Tree (Bool × S2)
  | none => .leaf (true, s)
  | some (t, b) => match getS s t with
    | .tup [] => .leaf (false, s)
    | .c (.bool c) => .leaf (c == b, s)
    | .v .bool c => match b with
      | true => .ite c (.leaf (true, setA s t (.c (.bool true)))) (.leaf (false, setA s t (.c (.bool false))))
      | false => .ite c (.leaf (false, setA s t (.c (.bool true)))) (.leaf (true, setA s t (.c (.bool false))))
    | _ => .fail
theorem cS_known {s : S2} {t : Nat} {w v : W} (h : getS s t = w) (e : cW v = cW w) : cS (setA s t v) = cS s := by
  rw [← cS_upd]
  funext k
  unfold upd
  split
  · rename_i hk
    subst hk
    rw [e, ← h, cS_get]
  · rfl
theorem guard2_eq {s s' : S2} {gd : Option (Nat × Bool)} {b : Bool} (h : (guard2 s gd).den = some (b, s')) : wantedM (cS s) gd = some b ∧ cS s' = cS s := by
  unfold guard2 at h
  split at h
  · simp only [Tree.den_leaf, Prod.mk.injEq] at h; obtain ⟨rfl, rfl⟩ := h; exact ⟨rfl, rfl⟩
  · rename_i t c
    unfold wantedM
    simp only
    rw [cS_get]
    split at h
    · rename_i ht; simp only [Tree.den_leaf, Prod.mk.injEq] at h; obtain ⟨rfl, rfl⟩ := h; rw [ht]; exact ⟨rfl, rfl⟩
    · rename_i c' ht; simp only [Tree.den_leaf, Prod.mk.injEq] at h; obtain ⟨rfl, rfl⟩ := h; rw [ht]; exact ⟨rfl, rfl⟩
    · rename_i c' ht
      have ht' := ht
      rw [ht]
      split at h <;>
      · rcases (Tree.den_ite _ _ _ _).1 h with ⟨hc, q⟩ | ⟨hc, q⟩ <;>
        · simp only [Tree.den_leaf, Prod.mk.injEq] at q
          obtain ⟨rfl, rfl⟩ := q
          have hc' : (show Bool from c') = _ := hc
          refine ⟨?_, cS_known ht' ?_⟩
          · show some ((show Bool from c') == _) = _
            rw [hc']
            rfl
          · show MV.p (.bool _) = MV.p (.bool (show Bool from c'))
            rw [hc']
    · simp at h
def setO (s : S2) (d : Option Nat) (w : W) : S2 := match d with | some d => setA s d w | none => s
theorem setO_eq (s : S2) (d : Option Nat) (w : W) : updo (cS s) d (cW w) = cS (setO s d w) := by
  cases d with
  | none => rfl
  | some d => exact cS_upd s d w
def step2 (C : Call2) (hint : Nat → Option Ty) (g : Nat) (i : Ins) (s : S2) (h : H2) : Tree (S2 × H2) :=
  (guard2 s i.guard).bind fun q => match q.1 with
    | true => (ev2 C hint g i.dst q.2 h i.op).bind fun r => .leaf (setO q.2 i.dst r.1, r.2)
    | false => .leaf (setO q.2 i.dst (.tup []), h)
theorem step2_eq {K : Calls3} {C : Call2} (hC : SymCalls K C) {hint : Nat → Option Ty} {g : Nat} {i : Ins} {s s' : S2} {h h' : H2} (e : (step2 C hint g i s h).den = some (s', h')) :
    stepIns K g i (cS s) (cH h) = some (cS s', cH h') := by
  simp only [step2, Tree.den_bind] at e
  obtain ⟨⟨b, s1⟩, h1, e⟩ := e
  unfold stepIns
  obtain ⟨q1, q2⟩ := guard2_eq h1
  rw [q1, ← q2]
  simp only at e
  split at e
  · simp only [Tree.den_bind, Tree.den_leaf, Prod.mk.injEq] at e
    obtain ⟨⟨w, h2⟩, h3, rfl, rfl⟩ := e
    simp only [ev2_eq hC h3, setO_eq]
  · simp only [Tree.den_leaf, Prod.mk.injEq] at e
    obtain ⟨rfl, rfl⟩ := e
    simp only [← setO_eq]
    rfl
/-! ### what an operation touches -/
def refsAll (h : H2) : List Nat → Option (List Nat)
  | [] => some []
  | i :: r => match (match getH h i with | none => some [] | some o => orefs o), refsAll h r with | some a, some b => some (a ++ b) | _, _ => none
theorem refsAll_eq (h : H2) : ∀ (l q : List Nat), refsAll h l = some q → (l.flatMap fun i => refsO (cH h i)) = q
  | [], q, e => by simp only [refsAll, Option.some.injEq] at e; subst e; rfl
  | i :: r, q, e => by
    simp only [refsAll] at e
    split at e
    · rename_i a b h1 h2
      simp only [Option.some.injEq] at e
      subst e
      simp only [List.flatMap_cons]
      rw [refsAll_eq h r b h2]
      congr 1
      rw [cH_get]
      split at h1
      · rename_i hg; rw [hg]; simp only [Option.some.injEq] at h1; subst h1; rfl
      · rename_i o hg; rw [hg]; exact orefs_eq o a h1
    · cases e
def roots2 (h : H2) (l : List Nat) : Option (List Nat) := match refsAll h l with | some q => some (dedup (l ++ q)) | none => none
theorem roots2_eq {h : H2} {l q : List Nat} (e : roots2 h l = some q) : roots1 (cH h) l = q := by
  unfold roots2 at e
  split at e
  · rename_i q' hq
    simp only [Option.some.injEq] at e
    subst e
    unfold roots1
    rw [refsAll_eq h l q' hq]
  · cases e
def reach2 (h : H2) (l : List Nat) : Option (List Nat) := match roots2 h l with | some q => roots2 h q | none => none
theorem reach2_eq {h : H2} {l q : List Nat} (e : reach2 h l = some q) : roots1 (cH h) (roots1 (cH h) l) = q := by
  unfold reach2 at e
  split at e
  · rename_i q' hq
    rw [roots2_eq hq, roots2_eq e]
  · cases e
def foot2 (s : S2) (h : H2) (i : Ins) (b : Bool) : Option (List Nat) := match b with
  | false => some []
  | true => match evWs s (opds i.op) with
    | some ws => match reach2 h (wrefss ws) with | some q => some ((i.dst.toList ++ q).map fam) | none => none
    | none => none
theorem foot2_eq {s : S2} {h : H2} {i : Ins} {b : Bool} {q : List Nat} (hg : wantedM (cS s) i.guard = some b) (e : foot2 s h i b = some q) : foot (cS s) (cH h) i = q := by
  unfold foot
  rw [hg]
  unfold foot2 at e
  split at e
  · simp only [Option.some.injEq] at e; subst e; rfl
  · split at e
    · rename_i ws hw
      split at e
      · rename_i q' hq
        simp only [Option.some.injEq] at e
        subst e
        simp only
        rw [evWs_eq hw, ← cWs_map, wrefss_eq, reach2_eq hq]
      · cases e
    · cases e
/-- the step of a way, if it is one field -/
def place2 (s : S2) (d : Option Nat) : MOp → Option Plc
  | .load _ _ x => match evW s x with | some (.ptr id none [.f i _] _) => some (true, id, i, 0) | _ => none
  | .app false _ _ x y => match evW s x with
    | some (.own id [.f i _] _ _ _) => match evW s y, d with | some (.v (.sl _) _), some d => some (false, id, i, d) | _, _ => none
    | _ => none
  | _ => none
def placeI2 (s : S2) (i : Ins) : Option Plc := match i.guard with | none => place2 s i.dst i.op | some _ => none
def steps2 (C : Call2) (hint : Nat → Option Ty) (lo : Bool) : Nat → List Ins → S2 → H2 → Tree (S2 × H2 × Feet)
  | _, [], s, h => .leaf (s, h, [])
  | g, i :: r, s, h => (guard2 s i.guard).bind fun q => (match q.1 with
      | true => (ev2 C hint g i.dst q.2 h i.op).bind fun x => .leaf (setO q.2 i.dst x.1, x.2)
      | false => .leaf (setO q.2 i.dst (.tup []), h)).bind fun y => (steps2 C hint lo (g + 1) r y.1 y.2).bind fun z => match lo with
        | false => .leaf z
        | true => match foot2 s h i q.1 with
          | some f => .leaf (z.1, z.2.1, (f, idle i.op || reads i.op, placeI2 s i) :: z.2.2)
          | none => .fail
theorem place2_eq {s : S2} {d : Option Nat} {op : MOp} {p : Plc} (h : place2 s d op = some p) : place0 (cS s) d op = some p := by
  unfold place2 at h
  split at h
  · rename_i a n x
    split at h
    · rename_i id i o g he
      simp only [place0, evW_eq he, cW, ixs]
      exact h
    · cases h
  · rename_i z b x y
    split at h
    · rename_i id i o off len g he
      split at h
      · rename_i t l d' hy
        simp only [place0, evW_eq he, cW, ixs, evW_eq hy, enc]
        exact h
      · cases h
    · cases h
  · cases h
theorem placeI2_eq {s : S2} {i : Ins} {p : Plc} (h : placeI2 s i = some p) : placeI (cS s) i = some p := by
  unfold placeI2 at h
  unfold placeI
  cases hg : i.guard with
  | none => rw [hg] at h; exact place2_eq h
  | some q => rw [hg] at h; cases h
/-- less is known of the places -/
inductive FeetLe : Feet → Feet → Prop where
  | nil : FeetLe [] []
  | cons {a b : List Nat × Bool × Option Plc} {l m : Feet} (h1 : a.1 = b.1) (h2 : a.2.1 = b.2.1) (h3 : ∀ p, a.2.2 = some p → b.2.2 = some p) (r : FeetLe l m) : FeetLe (a :: l) (b :: m)
theorem FeetLe.get {l m : Feet} (h : FeetLe l m) : ∀ (i : Nat), match l[i]? with | none => True | some a => ∃ b, m[i]? = some b ∧ a.1 = b.1 ∧ a.2.1 = b.2.1 ∧ ∀ p, a.2.2 = some p → b.2.2 = some p := by
  induction h with
  | nil => intro i; simp
  | cons h1 h2 h3 r ih =>
    rename_i a b l m
    intro i
    cases i with
    | zero => exact ⟨b, rfl, h1, h2, h3⟩
    | succ i => simpa using ih i
theorem laOk_le {x : List Nat} {p q p' q' : Option Plc} (hp : ∀ a, p = some a → p' = some a) (hq : ∀ a, q = some a → q' = some a) (h : laOk x p q = true) : laOk x p' q' = true := by
  cases p with
  | none => simp [laOk] at h
  | some a =>
    cases q with
    | none => unfold laOk at h; split at h <;> simp_all
    | some b => rw [hp a rfl, hq b rfl]; exact h
theorem looseOk_le {F G : Feet} (h : FeetLe F G) {l : List (Nat × Nat)} (hl : looseOk F l = true) : looseOk G l = true := by
  unfold looseOk at hl ⊢
  rw [List.all_eq_true] at hl ⊢
  intro ab hab
  have := hl ab hab
  obtain ⟨a, b⟩ := ab
  have ha := h.get a
  have hb := h.get b
  simp only at this ⊢
  split at this
  · rename_i x rx px y ry py e1 e2
    rw [e1] at ha
    rw [e2] at hb
    obtain ⟨⟨x', rx', px'⟩, f1, g1, g2, g3⟩ := ha
    obtain ⟨⟨y', ry', py'⟩, f2, k1, k2, k3⟩ := hb
    simp only at g1 g2 g3 k1 k2 k3
    subst g1 g2 k1 k2
    rw [f1, f2]
    simp only [Bool.or_eq_true] at this ⊢
    rcases this with h1 | h1
    · exact .inl h1
    · exact .inr (laOk_le g3 k3 h1)
  · cases this
theorem steps2_eq {K : Calls3} {C : Call2} (hC : SymCalls K C) {hint : Nat → Option Ty} {lo : Bool} : ∀ {ops : List Ins} {g : Nat} {s s' : S2} {h h' : H2} {F : Feet}, (steps2 C hint lo g ops s h).den = some (s', h', F) →
    stepAll K g ops (cS s) (cH h) = some (cS s', cH h') ∧ (lo = true → FeetLe F (feet K g ops (cS s) (cH h)))
  | [], g, s, s', h, h', F, e => by
    simp only [steps2, Tree.den_leaf, Prod.mk.injEq] at e
    obtain ⟨rfl, rfl, rfl⟩ := e
    exact ⟨rfl, fun _ => FeetLe.nil⟩
  | i :: r, g, s, s', h, h', F, e => by
    simp only [steps2, Tree.den_bind] at e
    obtain ⟨⟨b, sb⟩, h1, ⟨s1, h2⟩, h3, ⟨s3, h4, F'⟩, h5, e⟩ := e
    have hst : stepIns K g i (cS s) (cH h) = some (cS s1, cH h2) := by
      apply step2_eq hC (hint := hint)
      simp only [step2, Tree.den_bind]
      exact ⟨(b, sb), h1, h3⟩
    obtain ⟨q1, q2⟩ := steps2_eq hC h5
    split at e
    · simp only [Tree.den_leaf, Prod.mk.injEq] at e
      obtain ⟨rfl, rfl, rfl⟩ := e
      refine ⟨?_, fun hh => by cases hh⟩
      simp only [stepAll, hst]
      exact q1
    · split at e
      · rename_i f hf
        simp only [Tree.den_leaf, Prod.mk.injEq] at e
        obtain ⟨rfl, rfl, rfl⟩ := e
        refine ⟨?_, fun _ => ?_⟩
        · simp only [stepAll, hst]
          exact q1
        · simp only [feet, hst]
          rw [foot2_eq (guard2_eq h1).1 hf]
          exact .cons rfl rfl (fun p hp => placeI2_eq hp) (q2 rfl)
      · simp at e
structure St2 where
  s : S2
  h : H2
  nx : Nat
abbrev cSt (σ : St2) : St := stL (cSs σ.s) (cHs σ.h) σ.nx
def reg2 (C : Call2) (hint : Nat → Option Ty) (loose : List (Nat × Nat)) (ops : List Ins) (σ : St2) : Tree St2 :=
  match loose with
  | [] => (steps2 C hint false σ.nx ops σ.s σ.h).bind fun r => .leaf ⟨r.1, r.2.1, σ.nx + ops.length⟩
  | l => (steps2 C hint true σ.nx ops σ.s σ.h).bind fun r => if looseOk r.2.2 l then .leaf ⟨r.1, r.2.1, σ.nx + ops.length⟩ else .fail
theorem reg2_eq {Φ : Tbl} {C : Call2} (hC : SymCalls (KI Φ) C) {hint : Nat → Option Ty} {loose : List (Nat × Nat)} {ops : List Ins} {σ σ' : St2} (e : (reg2 C hint loose ops σ).den = some σ') :
    runI Φ (.reg loose ops) (cSt σ) = some (.normal, cSt σ') := by
  rw [runI_reg]
  unfold reg2 at e
  split at e
  · simp only [Tree.den_bind, Tree.den_leaf] at e
    obtain ⟨⟨s, h, F⟩, h1, rfl⟩ := e
    have := (steps2_eq hC h1).1
    unfold runReg
    simp only [stL] at this ⊢
    rw [this]
    rfl
  · rename_i l
    simp only [Tree.den_bind] at e
    obtain ⟨⟨s, h, F⟩, h1, e⟩ := e
    split at e
    · rename_i hl
      simp only [Tree.den_leaf] at e
      subst e
      obtain ⟨q1, q2⟩ := steps2_eq hC h1
      unfold runReg
      simp only [stL] at q1 q2 ⊢
      rw [q1]
      simp only [looseOk_le (q2 trivial) hl, Bool.or_true, if_true]
    · simp at e
/-! ### cleaning -/
mutual
def clean2 (h : H2) (ρ : Nat → Option Nat) (ζ : Nat → Nat) : W → Tree W
  | .own id path off len g => match ρ id with
    | some j => match getH h id with
      | none => .leaf (.dead 1)
      | some .gone => .leaf (.dead 1)
      | some o => (vecAt2 o path).bind fun x => if x.1 == g then .leaf (.own j path off len (ζ g)) else .leaf (.dead 1)
    | none => .leaf (.dead 1)
  | .ptr id np rp g => match ρ id with
    | some j => match getH h id with
      | none => .leaf (.dead 1)
      | some .gone => .leaf (.dead 1)
      | some o => (look2 o np rp).bind fun x => if x.2 == g then .leaf (.ptr j np rp (ζ g)) else .leaf (.dead 1)
    | none => .leaf (.dead 1)
  | .agg l => (clean2s h ρ ζ l).bind fun l' => .leaf (.agg l')
  | .fn f l => (clean2s h ρ ζ l).bind fun l' => .leaf (.fn f l')
  | .tup l => (clean2s h ρ ζ l).bind fun l' => .leaf (.tup l')
  | .c p => .leaf (.c p)
  | .v t x => .leaf (.v t x)
  | .nil z => .leaf (.nil z)
  | .dead n => .leaf (.dead n)
  | .mref .. => .fail
def clean2s (h : H2) (ρ : Nat → Option Nat) (ζ : Nat → Nat) : List W → Tree (List W)
  | [] => .leaf []
  | w :: r => (clean2 h ρ ζ w).bind fun w' => (clean2s h ρ ζ r).bind fun r' => .leaf (w' :: r')
end
theorem look_gone (np : Option (List Nat)) (rp : List Nat) : look (α := Nat) (some .gone) np rp = none := by
  cases np with
  | none => rfl
  | some p => cases p <;> cases rp <;> rfl
theorem look_none (np : Option (List Nat)) (rp : List Nat) : look (α := Nat) none np rp = none := by
  cases np with
  | none => rfl
  | some p => cases p <;> cases rp <;> rfl
theorem vecAt_gone (p : List Nat) : vecAt (α := Nat) (some .gone) p = none := by cases p <;> rfl
theorem vecAt_none (p : List Nat) : vecAt (α := Nat) none p = none := by cases p <;> rfl
mutual
theorem clean2_eq (h : H2) (ρ : Nat → Option Nat) (ζ : Nat → Nat) : ∀ (w w' : W), (clean2 h ρ ζ w).den = some w' → cleanM (cH h) ρ ζ (cW w) = cW w'
  | .own id path off len g, w', e => by
    simp only [clean2] at e
    simp only [cW, cleanM]
    split at e
    · rename_i j hj
      rw [hj]
      simp only
      unfold okOwn
      rw [cH_get]
      split at e
      · rename_i hg; simp only [Tree.den_leaf] at e; subst e; rw [hg]; simp only [Option.map_none, vecAt_none]; rfl
      · rename_i hg; simp only [Tree.den_leaf] at e; subst e; rw [hg]; simp only [Option.map_some, cO, vecAt_gone]; rfl
      · rename_i o _ hg
        rw [hg]
        simp only [Tree.den_bind] at e
        obtain ⟨⟨g', z, a⟩, h1, e⟩ := e
        simp only [Option.map_some, vecAt2_eq h1]
        split at e
        · rename_i hc; simp only [Tree.den_leaf] at e; subst e; rw [if_pos hc]; rfl
        · rename_i hc; simp only [Tree.den_leaf] at e; subst e; rw [if_neg hc]; rfl
    · rename_i hj; simp only [Tree.den_leaf] at e; subst e; rw [hj]; rfl
  | .ptr id np rp g, w', e => by
    simp only [clean2] at e
    simp only [cW, cleanM]
    split at e
    · rename_i j hj
      rw [hj]
      simp only
      unfold okPtr
      rw [cH_get]
      split at e
      · rename_i hg; simp only [Tree.den_leaf] at e; subst e; rw [hg]; simp only [Option.map_none, look_none]; rfl
      · rename_i hg; simp only [Tree.den_leaf] at e; subst e; rw [hg]; simp only [Option.map_some, cO, look_gone]; rfl
      · rename_i o _ hg
        rw [hg]
        simp only [Tree.den_bind] at e
        obtain ⟨⟨t, s⟩, h1, e⟩ := e
        simp only [Option.map_some, look2_eq h1, beq_self_eq_true, Bool.and_true]
        split at e
        · rename_i hc; simp only [Tree.den_leaf] at e; subst e; rw [if_pos hc]; rfl
        · rename_i hc; simp only [Tree.den_leaf] at e; subst e; rw [if_neg hc]; rfl
    · rename_i hj; simp only [Tree.den_leaf] at e; subst e; rw [hj]; rfl
  | .agg l, w', e => by
    simp only [clean2, Tree.den_bind, Tree.den_leaf] at e
    obtain ⟨l', h1, rfl⟩ := e
    simp only [cW, cleanM, clean2s_eq h ρ ζ l l' h1]
  | .fn f l, w', e => by
    simp only [clean2, Tree.den_bind, Tree.den_leaf] at e
    obtain ⟨l', h1, rfl⟩ := e
    simp only [cW, cleanM, clean2s_eq h ρ ζ l l' h1]
  | .tup l, w', e => by
    simp only [clean2, Tree.den_bind, Tree.den_leaf] at e
    obtain ⟨l', h1, rfl⟩ := e
    simp only [cW, cleanM, clean2s_eq h ρ ζ l l' h1]
  | .c p, w', e => by simp only [clean2, Tree.den_leaf] at e; subst e; rfl
  | .v t x, w', e => by simp only [clean2, Tree.den_leaf] at e; subst e; rfl
  | .nil z, w', e => by simp only [clean2, Tree.den_leaf] at e; subst e; rfl
  | .dead n, w', e => by simp only [clean2, Tree.den_leaf] at e; subst e; rfl
  | .mref .., w', e => by simp [clean2] at e
theorem clean2s_eq (h : H2) (ρ : Nat → Option Nat) (ζ : Nat → Nat) : ∀ (l l' : List W), (clean2s h ρ ζ l).den = some l' → cleanMs (cH h) ρ ζ (cWs l) = cWs l'
  | [], l', e => by simp only [clean2s, Tree.den_leaf] at e; subst e; rfl
  | w :: r, l', e => by
    simp only [clean2s, Tree.den_bind, Tree.den_leaf] at e
    obtain ⟨w', h1, r', h2, rfl⟩ := e
    simp only [cWs, cleanMs, clean2_eq h ρ ζ w w' h1, clean2s_eq h ρ ζ r r' h2]
end
/-- an object behind cleaning -/
def cleanO (h : H2) (ρ : Nat → Option Nat) (φζ ζ : Nat → Nat) (o : O2) : Tree O2 := (mapO2 (clean2 h ρ φζ) ζ o).bind normO
theorem cleanO_eq {h : H2} {ρ : Nat → Option Nat} {φζ ζ : Nat → Nat} {o o' : O2} (e : (cleanO h ρ φζ ζ o).den = some o') : mapO (cleanM (cH h) ρ φζ) ζ (cO o) = cO o' := by
  simp only [cleanO, Tree.den_bind] at e
  obtain ⟨o1, h1, h2⟩ := e
  rw [mapO2_eq ζ (clean2_eq h ρ φζ) o o1 h1, normO_eq o1 o' h2]
def prS (h : H2) (ids : List Nat) (s : S2) : List Nat → Tree S2
  | [] => .leaf []
  | k :: r => (clean2 h (keepIds ids) touched (getS s k)).bind fun w => (prS h ids s r).bind fun q => .leaf ((k, w) :: q)
theorem prS_eq {h : H2} {ids : List Nat} {s : S2} : ∀ {ks : List Nat} {q : S2}, (prS h ids s ks).den = some q → pruneS (cH h) ids (cS s) ks = cSs q
  | [], q, e => by simp only [prS, Tree.den_leaf] at e; subst e; rfl
  | k :: r, q, e => by
    simp only [prS, Tree.den_bind, Tree.den_leaf] at e
    obtain ⟨w, h1, q', h2, rfl⟩ := e
    have := prS_eq h2
    unfold pruneS at this ⊢
    simp only [List.map_cons, cSs, this]
    rw [cS_get, clean2_eq h _ _ _ w h1]
/-- a root at its place in the order -/
def insH (i : Nat) (o : O2) : H2 → H2
  | [] => [(i, o)]
  | (j, u) :: r => if i == j then (i, o) :: r else if Nat.blt i j then (i, o) :: (j, u) :: r else (j, u) :: insH i o r
theorem insH_eq (i : Nat) (o : O2) : ∀ (q : H2) (k : Nat), mkH (cHs (insH i o q)) k = if k = i then some (cO o) else mkH (cHs q) k
  | [], k => by simp [insH, cHs]
  | (j, u) :: r, k => by
    simp only [insH]
    by_cases h1 : i = j
    · subst h1
      simp only [beq_self_eq_true, if_true, cHs, mkH_cons]
      by_cases hk : k = i <;> simp [hk]
    · rw [if_neg (by simpa using h1)]
      by_cases h2 : Nat.blt i j = true
      · rw [if_pos h2]; simp only [cHs, mkH_cons]
      · rw [if_neg h2]
        simp only [cHs, mkH_cons]
        rw [insH_eq i o r k]
        by_cases hk : k = i
        · subst hk
          simp [h1]
        · simp [hk]
def prH (h : H2) (ids : List Nat) : H2 → Tree H2
  | [] => .leaf []
  | (i, o) :: r => match keepB ids i with
    | true => (cleanO h (keepIds ids) touched touched o).bind fun o' => (prH h ids r).bind fun q => .leaf (insH i o' q)
    | false => prH h ids r
theorem prH_eq {h : H2} {ids : List Nat} : ∀ {l q : H2}, (prH h ids l).den = some q → mkH (pruneH (cH h) ids (cHs l)) = mkH (cHs q)
  | [], q, e => by simp only [prH, Tree.den_leaf] at e; subst e; rfl
  | (i, o) :: r, q, e => by
    simp only [prH] at e
    simp only [cHs, pruneH]
    split at e
    · rename_i hk
      simp only [Tree.den_bind, Tree.den_leaf] at e
      obtain ⟨o', h1, q', h2, rfl⟩ := e
      rw [if_pos hk, cleanO_eq h1]
      funext k
      rw [insH_eq, mkH_cons, prH_eq h2]
    · rename_i hk
      rw [if_neg (by rw [hk]; simp), prH_eq e]
def forget2 (ks ids : List Nat) (σ : St2) : Tree St2 := (prS σ.h ids σ.s ks).bind fun s => (prH σ.h ids σ.h).bind fun h => .leaf ⟨s, h, 2⟩
theorem forget2_eq {ks ids : List Nat} {σ σ' : St2} (e : (forget2 ks ids σ).den = some σ') : forget ks ids (cSt σ) = cSt σ' := by
  simp only [forget2, Tree.den_bind, Tree.den_leaf] at e
  obtain ⟨s, h1, h, h2, rfl⟩ := e
  rw [forget_stL, prS_eq h1]
  unfold stL
  rw [prH_eq h2]
  rfl
/-- a slice is frozen -/
def freeze2 (hint : Nat → Option Ty) (t : Nat) (σ : St2) : Tree St2 := match getS σ.s t with
  | .own id [] none len g => (snap σ.h none (.own id [] none len g)).bind fun v => match getH σ.h id with
    | some (.vec _ _ _) => .leaf ⟨setA σ.s t (.v v.1 v.2), setA σ.h id .gone, σ.nx⟩
    | _ => .fail
  | .v u x => .leaf ⟨setA σ.s t (.v u x), σ.h, σ.nx⟩
  | .c p => .leaf ⟨setA σ.s t (.c p), σ.h, σ.nx⟩
  | .nil _ => match hintSl (hint t) with
    | some u => .leaf ⟨setA σ.s t (.v (.sl u) ([] : List (El u))), σ.h, σ.nx⟩
    | none => .fail
  | _ => .fail
theorem freeze2_eq {Φ : Tbl} {hint : Nat → Option Ty} {t : Nat} {σ σ' : St2} (e : (freeze2 hint t σ).den = some σ') : runI Φ (.gh (.freeze t)) (cSt σ) = some (.normal, cSt σ') := by
  rw [runI_gh]
  unfold freeze2 at e
  have hs : (cSt σ).s t = cW (getS σ.s t) := cS_get σ.s t
  simp only [runGh]
  rw [hs]
  split at e
  · rename_i id len g ht
    simp only [Tree.den_bind] at e
    obtain ⟨v, h1, e⟩ := e
    have := snap_eq _ _ _ _ h1
    split at e
    · rename_i g1 z a hg
      simp only [Tree.den_leaf] at e
      subst e
      rw [ht]
      simp only [cW, ixs, Option.getD_none] at this ⊢
      have hh : (cSt σ).h id = some (cO (.vec g1 z a)) := getH_c hg
      have hh2 : cH σ.h id = some (cO (.vec g1 z a)) := getH_c hg
      rw [hh]
      simp only [pureM, hh2, cO, vecAt] at this ⊢
      split at this
      · rename_i hc
        rw [if_pos ⟨hc.1.symm, by simpa using hc.2⟩]
        split at this
        · rename_i vs hvs
          simp only [Option.some.injEq, List.drop_zero] at this
          simp only [hvs, Option.some.injEq, Prod.mk.injEq, true_and]
          show (⟨upd (cS σ.s) t (.p (.sl (vs.take len))), upd (cH σ.h) id (some .gone), σ.nx⟩ : St) = _
          rw [this, show MV.p (enc v.1 v.2) = cW (.v v.1 v.2) from rfl, cS_upd, show (Obj.gone : Obj Nat) = cO .gone from rfl, cH_upd]
          rfl
        · cases this
      · cases this
    · simp at e
  · rename_i u x ht
    simp only [Tree.den_leaf] at e
    subst e
    rw [ht]
    show some (Ex.normal, (⟨upd (cS σ.s) t (cW (.v u x)), cH σ.h, σ.nx⟩ : St)) = _
    rw [cS_upd]
    rfl
  · rename_i p ht
    simp only [Tree.den_leaf] at e
    subst e
    rw [ht]
    show some (Ex.normal, (⟨upd (cS σ.s) t (cW (.c p)), cH σ.h, σ.nx⟩ : St)) = _
    rw [cS_upd]
    rfl
  · rename_i z ht
    split at e
    · rename_i u _
      simp only [Tree.den_leaf] at e
      subst e
      rw [ht]
      show some (Ex.normal, (⟨upd (cS σ.s) t (cW (.v (.sl u) ([] : List (El u)))), cH σ.h, σ.nx⟩ : St)) = _
      rw [cS_upd]
      rfl
    · simp at e
  · simp at e
end Go.Mid
/- Shapes of symbolic states; loops; running code on symbolic states. -/
namespace Go.Mid
set_option linter.unusedSimpArgs false
set_option linter.unusedVariables false
/-- a shape: what is fixed, and a type of what may vary -/
inductive Gen {σ C : Type} (c : σ → C) : Type 1 where
  | const (x : σ) (ok : σ → Bool) (law : ∀ y, ok y = true → c y = c x)
  | var (A : Type) (mk : A → σ) (un : σ → Tree A) (a0 : A) (law : ∀ y a, (un y).den = some a → c y = c (mk a))
namespace Gen
section
variable {σ C : Type} {c : σ → C}
def A : Gen c → Type
  | const .. => Unit
  | var A .. => A
def mk : (G : Gen c) → G.A → σ
  | const x _ _, _ => x
  | var _ mk _ _ _, a => mk a
def un : (G : Gen c) → σ → Tree G.A
  | const _ ok _, y => match ok y with | true => .leaf () | false => .fail
  | var _ _ un _ _, y => un y
def a0 : (G : Gen c) → G.A
  | const .. => ()
  | var _ _ _ a _ => a
theorem law (G : Gen c) (y : σ) (a : G.A) (h : (G.un y).den = some a) : c y = c (G.mk a) := by
  cases G with
  | const x ok l =>
    simp only [un] at h
    split at h
    · rename_i h1; exact l y h1
    · simp at h
  | var A mk un a0 l => exact l y a h
/-- nothing fits -/
def never (x : σ) : Gen c := const x (fun _ => false) (fun _ h => by cases h)
end
section
variable {σ C σ₁ C₁ σ₂ C₂ : Type} {c : σ → C} {c₁ : σ₁ → C₁} {c₂ : σ₂ → C₂}
def map (f : σ₁ → σ) (sp : σ → Option σ₁) (law : ∀ y x a, sp y = some x → c₁ x = c₁ a → c y = c (f a)) : Gen c₁ → Gen c
  | const x ok l => const (f x) (fun y => match sp y with | some x => ok x | none => false) (fun y h => by
      split at h
      · rename_i x' hx; exact law y x' x hx (l x' h)
      · cases h)
  | var A mk un a0 l => var A (fun a => f (mk a)) (fun y => match sp y with | some x => un x | none => .fail) a0 (fun y a h => by
      split at h
      · rename_i x' hx; exact law y x' (mk a) hx (l x' a h)
      · simp at h)
def pair (f : σ₁ → σ₂ → σ) (sp : σ → Option (σ₁ × σ₂)) (law : ∀ y x₁ x₂ a₁ a₂, sp y = some (x₁, x₂) → c₁ x₁ = c₁ a₁ → c₂ x₂ = c₂ a₂ → c y = c (f a₁ a₂)) : Gen c₁ → Gen c₂ → Gen c
  | const x ok l, const x' ok' l' => const (f x x') (fun y => match sp y with | some (p, q) => ok p && ok' q | none => false) (fun y h => by
      split at h
      · rename_i p q hs
        simp only [Bool.and_eq_true] at h
        exact law y p q x x' hs (l p h.1) (l' q h.2)
      · cases h)
  | const x ok l, var B mk un b0 l' => var B (fun b => f x (mk b)) (fun y => match sp y with | some (p, q) => if ok p then un q else .fail | none => .fail) b0 (fun y b h => by
      split at h
      · rename_i p q hs
        split at h
        · rename_i hp; exact law y p q x (mk b) hs (l p hp) (l' q b h)
        · simp at h
      · simp at h)
  | var A mk un a0 l, const x' ok' l' => var A (fun a => f (mk a) x') (fun y => match sp y with | some (p, q) => if ok' q then un p else .fail | none => .fail) a0 (fun y a h => by
      split at h
      · rename_i p q hs
        split at h
        · rename_i hq; exact law y p q (mk a) x' hs (l p a h) (l' q hq)
        · simp at h
      · simp at h)
  | var A mk un a0 l, var B mk' un' b0 l' => var (A × B) (fun x => f (mk x.1) (mk' x.2)) (fun y => match sp y with | some (p, q) => (un p).bind fun a => (un' q).bind fun b => .leaf (a, b) | none => .fail) (a0, b0) (fun y x h => by
      split at h
      · rename_i p q hs
        simp only [Tree.den_bind, Tree.den_leaf] at h
        obtain ⟨a, h1, b, h2, rfl⟩ := h
        exact law y p q (mk a) (mk' b) hs (l p a h1) (l' q b h2)
      · simp at h)
end
end Gen

/-! ### shapes of values -/
def cSteps (p : List Step) : List Nat × Nat := (ixs p, ofs p)
def genStep : Step → Gen (fun s : Step => (s.ix, s.of))
  | .f i o => .const (.f i o) (fun s => match s with | .f j q => i == j && o == q | _ => false) (fun y h => by
      cases y <;> simp at h
      rw [h.1, h.2])
  | .k i z => .var Nat (fun i => .k i z) (fun s => match s with | .k j y => if y == z then .leaf j else .fail | _ => .fail) i (fun y a h => by
      cases y <;> simp only [Tree.den_fail] at h
      split at h
      · rename_i hz
        simp only [beq_iff_eq] at hz
        simp only [Tree.den_leaf] at h
        subst hz h
        rfl
      · simp at h)
def unc {α : Type} : List α → Option (α × List α)
  | [] => none
  | x :: r => some (x, r)
def isNilL {α : Type} : List α → Bool
  | [] => true
  | _ => false
theorem unc_eq {α : Type} {y : List α} {p : α × List α} (h : unc y = some p) : y = p.1 :: p.2 := by
  cases y with
  | nil => cases h
  | cons a r => simp only [unc, Option.some.injEq] at h; subst h; rfl
theorem isNilL_eq {α : Type} {y : List α} (h : isNilL y = true) : y = [] := by cases y <;> first | rfl | cases h
def genSteps : List Step → Gen cSteps
  | [] => .const [] isNilL (fun y h => by rw [isNilL_eq h])
  | s :: r => .pair (fun s r => s :: r) unc (fun y x₁ x₂ a₁ a₂ h h1 h2 => by
      rw [unc_eq h]
      simp only [cSteps, ixs, ofs, Prod.mk.injEq] at h1 h2 ⊢
      rw [h1.1, h1.2, h2.1, h2.2]
      exact ⟨rfl, rfl⟩) (genStep s) (genSteps r)
def genOff : Option Nat → Gen (fun o : Option Nat => o.getD 0)
  | none => .const none (fun o => o.isNone) (fun y h => by cases y <;> simp at h; rfl)
  | some k => .var Nat some (fun o => match o with | some k => .leaf k | none => .fail) k (fun y a h => by
      cases y <;> simp at h
      subst h; rfl)
def genNat (n : Nat) : Gen (fun n : Nat => n) := .var Nat (fun n => n) .leaf n (fun y a h => by simpa using h)
def cNp (np : Option (List Step)) : Option (List Nat × Nat) := np.map cSteps
def genNp : Option (List Step) → Gen cNp
  | none => .const none (fun o => o.isNone) (fun y h => by cases y <;> simp at h; rfl)
  | some p => .map some (fun o => o) (fun y x a h h1 => by subst h; simp only [cNp, Option.map_some, h1]) (genSteps p)
theorem npI_of {p q : Option (List Step)} (h : cNp p = cNp q) : npI p = npI q := by
  cases p <;> cases q <;> simp [cNp, cSteps] at h <;> first | rfl | (simp only [npI, h.1])
def genV (t : Ty) (x : El t) : Gen cW := .var (El t) (.v t) (fun w => Tree.ofO (as? t w)) x (fun y a h => by
  rw [Tree.den_ofO] at h
  exact as?_eq h)
def spAgg : W → Option (List W) | .agg l => some l | _ => none
def spTup : W → Option (List W) | .tup l => some l | _ => none
def spFn (f : Nat) : W → Option (List W) | .fn g l => if g == f then some l else none | _ => none
def spOwn (id g : Nat) : W → Option (List Step × Option Nat × Nat) | .own i p o n h => if i == id && h == g then some (p, o, n) else none | _ => none
def spPtr (id g : Nat) : W → Option (Option (List Step) × List Step) | .ptr i np rp h => if i == id && h == g then some (np, rp) else none | _ => none
def cOwn (x : List Step × Option Nat × Nat) : (List Nat × Nat) × Nat × Nat := (cSteps x.1, x.2.1.getD 0, x.2.2)
def cPtr (x : Option (List Step) × List Step) : Option (List Nat × Nat) × List Nat × Nat := (cNp x.1, cSteps x.2)
def cOL (x : Option Nat × Nat) : Nat × Nat := (x.1.getD 0, x.2)
mutual
def genW : W → Gen cW
  | .v t x => genV t x
  | .c p => match pv? (.c p) with
    | some v => genV v.1 v.2
    | none => .const (.c p) (fun w => match w, p with | .c (.sl []), .sl [] => true | _, _ => false) (fun y h => by
      split at h
      · rfl
      · cases h)
  | .nil z => .const (.nil z) (fun w => match w with | .nil y => y == z | _ => false) (fun y h => by
      cases y <;> simp at h
      rw [h])
  | .dead n => .const (.dead n) (fun w => match w with | .dead m => m == n | _ => false) (fun y h => by
      cases y <;> simp at h
      rw [h])
  | .own id path off len g => .map (fun x => .own id x.1 x.2.1 x.2.2 g) (spOwn id g) (fun y x a h h1 => by
      unfold spOwn at h
      split at h
      · split at h
        · rename_i hc
          simp only [Bool.and_eq_true, beq_iff_eq] at hc
          cases h
          simp only [cOwn, cSteps, Prod.mk.injEq] at h1
          simp only [cW, hc.1, hc.2, h1.1.1, h1.2.1, h1.2.2]
        · cases h
      · cases h)
      (.pair (c := cOwn) (c₁ := cSteps) (c₂ := cOL) (fun p q => (p, q)) (fun y => some y) (fun y x₁ x₂ a₁ a₂ h h1 h2 => by
        cases h
        simp only [cOL, Prod.mk.injEq] at h2
        simp only [cOwn, h1, h2.1, h2.2]) (genSteps path)
        (.pair (c₁ := fun o : Option Nat => o.getD 0) (c₂ := fun n : Nat => n) (fun p q => (p, q)) (fun y => some y) (fun y x₁ x₂ a₁ a₂ h h1 h2 => by
          cases h
          simp only [cOL, h1, h2]) (genOff off) (genNat len)))
  | .ptr id np rp g => .map (fun x => .ptr id x.1 x.2 g) (spPtr id g) (fun y x a h h1 => by
      unfold spPtr at h
      split at h
      · split at h
        · rename_i hc
          simp only [Bool.and_eq_true, beq_iff_eq] at hc
          cases h
          simp only [cPtr, cSteps, Prod.mk.injEq] at h1
          simp only [cW, hc.1, hc.2, npI_of h1.1, h1.2.1, h1.2.2]
        · cases h
      · cases h)
      (.pair (c := cPtr) (c₁ := cNp) (c₂ := cSteps) (fun p q => (p, q)) (fun y => some y) (fun y x₁ x₂ a₁ a₂ h h1 h2 => by
        cases h
        simp only [cPtr, h1, h2]) (genNp np) (genSteps rp))
  | .agg l => .map .agg spAgg (fun y x a h h1 => by
      cases y <;> simp only [spAgg, reduceCtorEq, Option.some.injEq] at h
      subst h
      simp only [cW, h1]) (genWs l)
  | .tup l => .map .tup spTup (fun y x a h h1 => by
      cases y <;> simp only [spTup, reduceCtorEq, Option.some.injEq] at h
      subst h
      simp only [cW, h1]) (genWs l)
  | .fn f l => .map (.fn f) (spFn f) (fun y x a h h1 => by
      unfold spFn at h
      split at h
      · split at h
        · rename_i hc
          simp only [beq_iff_eq] at hc
          cases h
          simp only [cW, h1, hc]
        · cases h
      · cases h) (genWs l)
  | .mref a b c => .never (.mref a b c)
def genWs : List W → Gen cWs
  | [] => .const [] isNilL (fun y h => by rw [isNilL_eq h])
  | w :: r => .pair (fun s r => s :: r) unc (fun y x₁ x₂ a₁ a₂ h h1 h2 => by
      rw [unc_eq h]
      simp only [cWs, h1, h2]) (genW w) (genWs r)
end
/-! ### shapes of owned memory -/
def genE (s : Nat) (t : Ty) (x : El t) : Gen cT := .var (El t) (.e s t) (fun u => (uniT s u).bind fun v => Tree.ofO (castE t v.2)) x (fun y a h => by
  simp only [Tree.den_bind, Tree.den_ofO] at h
  obtain ⟨v, h1, h2⟩ := h
  rw [uniT_eq s y v h1]
  obtain ⟨u, z⟩ := v
  obtain ⟨e, he, _⟩ := castE_enc h2
  simp only at e he
  subst e
  cases he
  rfl)
def fitB (s : Nat) (t : Ty) : SL → Option (List (El t))
  | .base s' _ l => if s' == s || t.pure then castL t l else none
  | _ => none
theorem fitB_eq {s : Nat} {t : Ty} {a : SL} {l : List (El t)} (h : fitB s t a = some l) : cSL a = l.map (encT s t) := by
  cases a with
  | base s' t' l' =>
    simp only [fitB] at h
    by_cases hc : (s' == s || t.pure) = true
    · rw [if_pos hc] at h
      obtain ⟨e, he⟩ := castL_eq h
      cases e
      cases he
      simp only [cSL]
      congr 1
      funext y
      exact encT_stamp hc y
    · rw [if_neg hc] at h; cases h
  | _ => simp [fitB] at h
def genVec (g z s : Nat) (t : Ty) (l : List (El t)) (n : Nat) : Gen cT := .var (List (El t) × Nat) (fun x => .vec g z (.base s t x.1) x.2)
  (fun u => match hdT u with
    | some (g', z', a, n') => if g' == g && z' == z then (normSL a).bind fun b => (Tree.ofO (fitB s t b)).bind fun l => .leaf (l, n') else .fail
    | none => .fail) (l, n) (fun y x h => by
  split at h
  · rename_i g' z' a n' hy
    split at h
    · rename_i hc
      simp only [Bool.and_eq_true, beq_iff_eq] at hc
      simp only [Tree.den_bind, Tree.den_ofO, Tree.den_leaf] at h
      obtain ⟨b, h1, l, h2, rfl⟩ := h
      rw [hdT_eq hy, normSL_eq a b h1, fitB_eq h2, hc.1, hc.2]
      rfl
    · simp at h
  · simp at h)
def spT : T2 → Option (List T2)
  | .agg l => some l
  | .e s (.agg ts) x => some (comps s ts x)
  | _ => none
theorem spT_eq {y : T2} {l : List T2} (h : spT y = some l) : cT y = mkTAgg (cTs l) := by
  unfold spT at h
  split at h
  · cases h; rfl
  · cases h
    rename_i s ts x
    exact congrArg mkTAgg (comps_eq s ts x).symm
  · cases h
def spW : T2 → Option W | .w v => some v | _ => none
mutual
def genT : T2 → Gen cT
  | .e s t x => genE s t x
  | .w v => .map .w spW (fun y x a h h1 => by
      cases y <;> simp only [spW, reduceCtorEq, Option.some.injEq] at h
      subst h
      simp only [cT, h1]) (genW v)
  | .agg l => .map .agg spT (fun y x a h h1 => by rw [spT_eq h, h1]; rfl) (genTs l)
  | .vec g z a n => match a with
    | .base s t l => genVec g z s t l n
    | a => .never (.vec g z a n)
  | .hole n => .const (.hole n) (fun w => match w with | .hole m => m == n | _ => false) (fun y h => by
      cases y <;> simp at h
      rw [h])
def genTs : List T2 → Gen cTs
  | [] => .const [] isNilL (fun y h => by rw [isNilL_eq h])
  | w :: r => .pair (fun s r => s :: r) unc (fun y x₁ x₂ a₁ a₂ h h1 h2 => by
      rw [unc_eq h]
      simp only [cTs, h1, h2]) (genT w) (genTs r)
end
def spCell (g : Nat) : O2 → Option T2 | .cell h t => if h == g then some t else none | _ => none
def genOV (g z s : Nat) (t : Ty) (l : List (El t)) : Gen cO := .var (List (El t)) (fun x => .vec g z (.base s t x))
  (fun u => match u with
    | .vec g' z' a => if g' == g && z' == z then (normSL a).bind fun b => Tree.ofO (fitB s t b) else .fail
    | _ => .fail) l (fun y x h => by
  split at h
  · rename_i g' z' a
    split at h
    · rename_i hc
      simp only [Bool.and_eq_true, beq_iff_eq] at hc
      simp only [Tree.den_bind, Tree.den_ofO] at h
      obtain ⟨b, h1, h2⟩ := h
      simp only [cO, cSL]
      rw [normSL_eq a b h1, fitB_eq h2, hc.1, hc.2]
    · simp at h
  · simp at h)
def genO : O2 → Gen cO
  | .cell g t => .map (.cell g) (spCell g) (fun y x a h h1 => by
      unfold spCell at h
      split at h
      · split at h
        · rename_i hc
          simp only [beq_iff_eq] at hc
          cases h
          simp only [cO, h1, hc]
        · cases h
      · cases h) (genT t)
  | .vec g z a => match a with
    | .base s t l => genOV g z s t l
    | a => .never (.vec g z a)
  | .mp g k v l => .never (.mp g k v l)
  | .gone => .const .gone (fun w => match w with | .gone => true | _ => false) (fun y h => by
      cases y <;> simp at h
      rfl)
def cOs (l : List O2) : List (Obj Nat) := l.map cO
def genOs : List O2 → Gen cOs
  | [] => .const [] isNilL (fun y h => by rw [isNilL_eq h])
  | w :: r => .pair (fun s r => s :: r) unc (fun y x₁ x₂ a₁ a₂ h h1 h2 => by
      rw [unc_eq h]
      simp only [cOs, List.map_cons, h1] at h2 ⊢
      rw [h2]) (genO w) (genOs r)
def cKey {α β : Type} (c : α → β) (x : Nat × α) : Nat × β := (x.1, c x.2)
def genKey {α β : Type} (c : α → β) (k : Nat) (G : Gen c) : Gen (cKey c) := .map (fun a => (k, a)) (fun y => if y.1 == k then some y.2 else none) (fun y x a h h1 => by
  split at h
  · rename_i hc
    simp only [beq_iff_eq] at hc
    cases h
    simp only [cKey, hc, h1]
  · cases h) G
def genS : S2 → Gen cSs
  | [] => .const [] isNilL (fun y h => by rw [isNilL_eq h])
  | (k, w) :: r => .pair (fun s r => s :: r) unc (fun y x₁ x₂ a₁ a₂ h h1 h2 => by
      rw [unc_eq h]
      obtain ⟨j, v⟩ := x₁
      simp only [cKey, Prod.mk.injEq] at h1
      simp only [cSs, h1.1, h1.2, h2]) (genKey cW k (genW w)) (genS r)
def genH : H2 → Gen cHs
  | [] => .const [] isNilL (fun y h => by rw [isNilL_eq h])
  | (k, w) :: r => .pair (fun s r => s :: r) unc (fun y x₁ x₂ a₁ a₂ h h1 h2 => by
      rw [unc_eq h]
      obtain ⟨j, v⟩ := x₁
      simp only [cKey, Prod.mk.injEq] at h1
      simp only [cHs, h1.1, h1.2, h2]) (genKey cO k (genO w)) (genH r)
def genSt (σ : St2) : Gen cSt := .pair (c₁ := cSs) (c₂ := cHs) (fun s h => ⟨s, h, σ.nx⟩) (fun τ => if τ.nx == σ.nx then some (τ.s, τ.h) else none) (fun y x₁ x₂ a₁ a₂ h h1 h2 => by
  split at h
  · rename_i hc
    simp only [beq_iff_eq] at hc
    cases h
    show stL (cSs y.s) (cHs y.h) y.nx = stL (cSs a₁) (cHs a₂) σ.nx
    rw [h1, h2, hc]
  · cases h) (genS σ.s) (genH σ.h)

/-! ### loops -/
section
variable {A B : Type} (f : A → Option (A ⊕ B))
def iterF : Nat → A → Option B
  | 0, _ => none
  | n + 1, a => match f a with
    | none => none
    | some (.inl b) => iterF n b
    | some (.inr r) => some r
theorem iterF_mono : ∀ {n m : Nat} {a : A} {r : B}, n ≤ m → iterF f n a = some r → iterF f m a = some r
  | 0, _, _, _, _, h => by cases h
  | n + 1, 0, _, _, h, _ => by omega
  | n + 1, m + 1, a, r, h, h1 => by
    simp only [iterF] at h1 ⊢
    split at h1
    · cases h1
    · exact iterF_mono (by omega) h1
    · exact h1
open Classical in
noncomputable def loopI (a : A) : Option B := if h : ∃ n r, iterF f n a = some r then some h.choose_spec.choose else none
theorem loopI_iff {a : A} {r : B} : loopI f a = some r ↔ ∃ n, iterF f n a = some r := by
  unfold loopI
  constructor
  · intro h
    split at h
    · rename_i hex
      simp only [Option.some.injEq] at h
      exact ⟨hex.choose, by rw [← h]; exact hex.choose_spec.choose_spec⟩
    · cases h
  · rintro ⟨n, hn⟩
    have hex : ∃ n r, iterF f n a = some r := ⟨n, r, hn⟩
    rw [dif_pos hex]
    have h1 := iterF_mono f (Nat.le_max_left hex.choose n) hex.choose_spec.choose_spec
    have h2 := iterF_mono f (Nat.le_max_right hex.choose n) hn
    rw [h2] at h1
    exact h1.symm
theorem loopI_eq (a : A) : loopI f a = match f a with | none => none | some (.inl b) => loopI f b | some (.inr r) => some r := by
  apply opt_eq
  intro r
  rw [loopI_iff]
  constructor
  · rintro ⟨n, hn⟩
    cases n with
    | zero => cases hn
    | succ n =>
      simp only [iterF] at hn
      split at hn
      · cases hn
      · exact (loopI_iff f).2 ⟨n, hn⟩
      · exact hn
  · intro h
    split at h
    · cases h
    · rename_i b hb
      obtain ⟨n, hn⟩ := (loopI_iff f).1 h
      exact ⟨n + 1, by simp only [iterF, hb, hn]⟩
    · rename_i b hb
      exact ⟨1, by simp only [iterF, hb]; exact h⟩
end
def exEq : Ex → Ex → Bool
  | .normal, .normal => true
  | .ret, .ret => true
  | .exit i, .exit j => i == j
  | _, _ => false
theorem exEq_eq {a b : Ex} (h : exEq a b = true) : a = b := by
  cases a <;> cases b <;> simp [exEq] at h <;> first | rfl | rw [h]
abbrev Outs := List (Ex × Gen cSt)
/-- what comes out of a loop -/
def Exits : Outs → Type
  | [] => Unit
  | [x] => x.2.A
  | x :: y :: r => x.2.A ⊕ Exits (y :: r)
def exit0 : (L : Outs) → Exits L
  | [] => ()
  | [x] => x.2.a0
  | x :: _ :: _ => .inl x.2.a0
def inj : (L : Outs) → Ex → St2 → Tree (Exits L)
  | [], _, _ => .fail
  | [x], e, σ => if exEq x.1 e then x.2.un σ else .fail
  | x :: y :: r, e, σ => if exEq x.1 e then (x.2.un σ).bind fun a => .leaf (.inl a) else (inj (y :: r) e σ).bind fun b => .leaf (.inr b)
def casesT : (L : Outs) → Exits L → Tree (Ex × St2)
  | [], _ => .fail
  | [x], a => .leaf (x.1, x.2.mk a)
  | x :: y :: r, a => .sum x.2.a0 (exit0 (y :: r)) a (fun a => .leaf (x.1, x.2.mk a)) (fun b => casesT (y :: r) b)
theorem inj_cases : ∀ {L : Outs} {e : Ex} {σ : St2} {x : Exits L}, (inj L e σ).den = some x → ∃ σ', (casesT L x).den = some (e, σ') ∧ cSt σ' = cSt σ
  | [], e, σ, x, h => by simp [inj] at h
  | [p], e, σ, x, h => by
    by_cases he : exEq p.1 e = true
    · have h : (p.2.un σ).den = some x := (congrArg Tree.den (if_pos he)).symm.trans h
      have := p.2.law σ x h
      refine ⟨p.2.mk x, ?_, this.symm⟩
      rw [← exEq_eq he]
      rfl
    · have h : (Tree.fail : Tree (Exits [p])).den = some x := (congrArg Tree.den (if_neg he)).symm.trans h
      cases h
  | p :: q :: r, e, σ, x, h => by
    by_cases he : exEq p.1 e = true
    · have h : ((p.2.un σ).bind fun a => (Tree.leaf (Sum.inl a) : Tree (p.2.A ⊕ Exits (q :: r)))).den = some x := (congrArg Tree.den (if_pos he)).symm.trans h
      obtain ⟨a, h1, h2⟩ := (Tree.den_bind _ _ _).1 h
      cases h2
      have := p.2.law σ a h1
      refine ⟨p.2.mk a, ?_, this.symm⟩
      rw [← exEq_eq he]
      rfl
    · have h : ((inj (q :: r) e σ).bind fun b => (Tree.leaf (Sum.inr b) : Tree (p.2.A ⊕ Exits (q :: r)))).den = some x := (congrArg Tree.den (if_neg he)).symm.trans h
      obtain ⟨a, h1, h2⟩ := (Tree.den_bind _ _ _).1 h
      cases h2
      obtain ⟨σ', h2, h3⟩ := inj_cases h1
      exact ⟨σ', h2, h3⟩
def hasEx (e : Ex) : Outs → Bool
  | [] => false
  | x :: r => exEq x.1 e || hasEx e r
/-- the ways out, with the shape of the first state on each -/
def protos : List (Ex × St2) → Outs → Outs
  | [], L => L
  | (.normal, _) :: r, L => protos r L
  | (e, σ) :: r, L => if hasEx e L then protos r L else protos r (L ++ [(e, genSt σ)])
def loopStep (ks ids : List Nat) (G : Gen cSt) (body : St2 → Tree (Ex × St2)) (L : Outs) (a : G.A) : Option (G.A ⊕ Exits L) :=
  ((body (G.mk a)).bind fun p => match p.1 with
    | .normal => (forget2 ks ids p.2).bind fun σ => (G.un σ).bind fun b => .leaf (.inl b)
    | e => (inj L e p.2).bind fun x => .leaf (.inr x)).den
noncomputable def loopT (ks ids : List Nat) (body : St2 → Tree (Ex × St2)) (G : Gen cSt) (a0 : G.A) : Tree (Ex × St2) :=
  (fun L : Outs => .opt (exit0 L) (loopI (loopStep ks ids G body L) a0) (casesT L)) (protos (body (G.mk G.a0)).leaves [])
theorem loopT_eq {Φ : Tbl} {ks ids : List Nat} {body : St2 → Tree (Ex × St2)} {G : Gen cSt} {c : MC} (hb : ∀ σ r, (body σ).den = some r → runI Φ c (cSt σ) = some (r.1, cSt r.2))
    {e : Ex} {σ' : St2} {a0 : G.A} (h : (loopT ks ids body G a0).den = some (e, σ')) : ∀ σ : St, forget ks ids σ = cSt (G.mk a0) → runI Φ (.loop ks ids c) σ = some (e, cSt σ') := by
  unfold loopT at h
  generalize hL : protos (body (G.mk G.a0)).leaves [] = L at h
  simp only [Tree.den_opt] at h
  obtain ⟨x, h1, h2⟩ := h
  obtain ⟨n, hn⟩ := (loopI_iff _).1 h1
  have key : ∀ (n : Nat) (a : G.A), iterF (loopStep ks ids G body L) n a = some x → ∀ σ : St, forget ks ids σ = cSt (G.mk a) → runI Φ (.loop ks ids c) σ = some (e, cSt σ') := by
    intro n
    induction n with
    | zero => intro a h; cases h
    | succ n ih =>
      intro a h σ hσ
      simp only [iterF] at h
      rw [runI_loop, hσ]
      split at h
      · cases h
      · rename_i b hb'
        simp only [loopStep, Tree.den_bind] at hb'
        obtain ⟨⟨ex, τ⟩, q1, q2⟩ := hb'
        have hr := hb _ _ q1
        simp only at q2 hr
        split at q2
        · simp only [Tree.den_bind, Tree.den_leaf, Sum.inl.injEq] at q2
          obtain ⟨σ1, q3, b', q4, rfl⟩ := q2
          rw [hr]
          exact ih b' h (cSt τ) (by rw [forget2_eq q3]; exact G.law σ1 b' q4)
        · simp only [Tree.den_bind, Tree.den_leaf, reduceCtorEq, and_false, exists_false] at q2
      · rename_i y hy
        simp only [Option.some.injEq] at h
        subst h
        simp only [loopStep, Tree.den_bind] at hy
        obtain ⟨⟨ex, τ⟩, q1, q2⟩ := hy
        have hr := hb _ _ q1
        simp only at q2 hr
        split at q2
        · simp only [Tree.den_bind, Tree.den_leaf, reduceCtorEq, and_false, exists_false] at q2
        · rename_i hne
          simp only [Tree.den_bind, Tree.den_leaf, Sum.inr.injEq] at q2
          obtain ⟨z, q3, rfl⟩ := q2
          obtain ⟨σ2, q4, q5⟩ := inj_cases q3
          rw [h2] at q4
          simp only [Option.some.injEq, Prod.mk.injEq] at q4
          obtain ⟨rfl, rfl⟩ := q4
          rw [hr, ← q5]
          cases e with
          | normal => exact absurd rfl hne
          | exit i => rfl
          | ret => rfl
  exact key n a0 hn
end Go.Mid
/- Calls on symbolic states. -/
namespace Go.Mid
set_option linter.unusedSimpArgs false
set_option linter.unusedVariables false
/-! ### results -/
def readRes2 (σ : St2) : RV → Tree W
  | .tmp t => .leaf (getS σ.s t)
  | .cell a agg n => load2 σ.h agg n (getS σ.s a)
def readAll2 (σ : St2) : List RV → Tree (List W)
  | [] => .leaf []
  | x :: r => (readRes2 σ x).bind fun w => (readAll2 σ r).bind fun l => .leaf (w :: l)
theorem readAll2_eq {σ : St2} : ∀ {l : List RV} {ws : List W}, (readAll2 σ l).den = some ws → readAll (cS σ.s) (cH σ.h) l = some (cWs ws)
  | [], ws, e => by simp only [readAll2, Tree.den_leaf] at e; subst e; rfl
  | x :: r, ws, e => by
    simp only [readAll2, Tree.den_bind, Tree.den_leaf] at e
    obtain ⟨w, h1, l, h2, rfl⟩ := e
    have : readRes (cS σ.s) (cH σ.h) x = some (cW w) := by
      cases x with
      | tmp t => simp only [readRes2, Tree.den_leaf] at h1; subst h1; simp only [readRes, cS_get]
      | cell a agg n =>
        simp only [readRes, cS_get]
        exact load2_eq h1
    simp only [readAll, this, readAll2_eq h2, cWs]
def pack2 : List W → W
  | [w] => w
  | l => .tup l
theorem pack2_eq (l : List W) : packRes (cWs l) = cW (pack2 l) := by
  match l with
  | [] => rfl
  | [w] => rfl
  | _ :: _ :: _ => rfl
mutual
def sf2 (h : H2) (u : Option Ty) : W → Tree W
  | .v t x => .leaf (.v t x)
  | .c p => .leaf (.c p)
  | .agg l => (sf2s h u 0 l).bind mkAggW
  | .tup l => (sf2s h u 0 l).bind fun l' => .leaf (.tup l')
  | .nil z => (snap h u (.nil z)).bind fun v => .leaf (.v v.1 v.2)
  | .own id p off len g => if isLocal id then (snap h u (.own id p off len g)).bind fun v => .leaf (.v v.1 v.2) else .leaf (.own id p off len g)
  | .ptr id np rp g => if isLocal id then (snap h u (.ptr id np rp g)).bind fun v => .leaf (.v v.1 v.2) else .leaf (.ptr id np rp g)
  | .fn f l => if (wrefss l).all (fun i => !isLocal i) && !(wrefss l).isEmpty then .leaf (.fn f l) else if (wrefss l).all isLocal then (snap h u (.fn f l)).bind fun v => .leaf (.v v.1 v.2) else .fail
  | .mref .. => .fail
  | .dead _ => .fail
def sf2s (h : H2) (u : Option Ty) (i : Nat) : List W → Tree (List W)
  | [] => .leaf []
  | w :: r => (sf2 h (hintAgg u i) w).bind fun w' => (sf2s h u (i + 1) r).bind fun r' => .leaf (w' :: r')
end
mutual
theorem sf2_eq (h : H2) : ∀ (w : W) (u : Option Ty) (w' : W), (sf2 h u w).den = some w' → sfM (cH h) (cW w) = some (cW w')
  | .v t x, u, w', e => by simp only [sf2, Tree.den_leaf] at e; subst e; rfl
  | .c p, u, w', e => by simp only [sf2, Tree.den_leaf] at e; subst e; rfl
  | .agg l, u, w', e => by
    simp only [sf2, Tree.den_bind] at e
    obtain ⟨l', h1, h2⟩ := e
    simp only [cW, sfM, sf2s_eq h l u 0 l' h1]
    rw [cWs_map, mkAggW_eq h2]
  | .tup l, u, w', e => by
    simp only [sf2, Tree.den_bind, Tree.den_leaf] at e
    obtain ⟨l', h1, rfl⟩ := e
    simp only [cW, sfM, sf2s_eq h l u 0 l' h1]
  | .nil z, u, w', e => by
    simp only [sf2, Tree.den_bind, Tree.den_leaf] at e
    obtain ⟨v, h1, rfl⟩ := e
    have := snap_eq h _ _ _ h1
    simp only [cW, sfM, refsM, List.all_nil, List.isEmpty_nil, Bool.not_true, Bool.and_false, Bool.false_eq_true, if_false, if_true] at this ⊢
    rw [this]
  | .own id p off len g, u, w', e => by
    simp only [sf2] at e
    simp only [cW, sfM, refsM, List.all_cons, List.all_nil, Bool.and_true, List.isEmpty_cons, Bool.not_false]
    split at e
    · rename_i hl
      simp only [Tree.den_bind, Tree.den_leaf] at e
      obtain ⟨v, h1, rfl⟩ := e
      have := snap_eq h _ _ _ h1
      simp only [cW] at this
      simp only [hl, Bool.not_true, Bool.false_eq_true, if_false, this, if_true]
      rfl
    · rename_i hl
      simp only [Tree.den_leaf] at e
      subst e
      simp only [Bool.not_eq_true] at hl
      simp only [hl, Bool.not_false, if_true]
      rfl
  | .ptr id np rp g, u, w', e => by
    simp only [sf2] at e
    simp only [cW, sfM, refsM, List.all_cons, List.all_nil, Bool.and_true, List.isEmpty_cons, Bool.not_false]
    split at e
    · rename_i hl
      simp only [Tree.den_bind, Tree.den_leaf] at e
      obtain ⟨v, h1, rfl⟩ := e
      have := snap_eq h _ _ _ h1
      simp only [cW] at this
      simp only [hl, Bool.not_true, Bool.false_eq_true, if_false, this, if_true]
      rfl
    · rename_i hl
      simp only [Tree.den_leaf] at e
      subst e
      simp only [Bool.not_eq_true] at hl
      simp only [hl, Bool.not_false, if_true]
      rfl
  | .fn f l, u, w', e => by
    simp only [sf2] at e
    split at e
    · rename_i hx
      simp only [Tree.den_leaf] at e
      subst e
      simp only [cW, sfM, refsM, wrefss_eq]
      rw [if_pos hx]
    · split at e
      rotate_left
      · simp at e
      rename_i hl
      simp only [Tree.den_bind, Tree.den_leaf] at e
      obtain ⟨v, h1, rfl⟩ := e
      have := snap_eq h _ _ _ h1
      simp only [cW, sfM, refsM, wrefss_eq] at this ⊢
      have hno : ((wrefss l).all (fun i => !isLocal i) && !(wrefss l).isEmpty) = false := by
        cases hw : wrefss l with
        | nil => rfl
        | cons a r =>
          rw [hw] at hl
          simp only [List.all_cons, Bool.and_eq_true] at hl
          simp only [List.all_cons, hl.1, Bool.not_true, Bool.false_and]
      rw [hno]
      simp only [Bool.false_eq_true, if_false, this, hl, if_true]
  | .mref .., u, w', e => by simp [sf2] at e
  | .dead _, u, w', e => by simp [sf2] at e
theorem sf2s_eq (h : H2) : ∀ (l : List W) (u : Option Ty) (i : Nat) (l' : List W), (sf2s h u i l).den = some l' → sfMs (cH h) (cWs l) = some (cWs l')
  | [], u, i, l', e => by simp only [sf2s, Tree.den_leaf] at e; subst e; rfl
  | w :: r, u, i, l', e => by
    simp only [sf2s, Tree.den_bind, Tree.den_leaf] at e
    obtain ⟨w', h1, r', h2, rfl⟩ := e
    simp only [cWs, sfMs, sf2_eq h w _ w' h1, sf2s_eq h r u (i + 1) r' h2]
end
def getAll2 (h : H2) : List Nat → Option (List O2)
  | [] => some []
  | i :: r => match getH h i, getAll2 h r with | some o, some l => some (o :: l) | _, _ => none
theorem getAll2_eq {h : H2} : ∀ {l : List Nat} {os : List O2}, getAll2 h l = some os → getAll (cH h) l = some (os.map cO)
  | [], os, e => by simp only [getAll2, Option.some.injEq] at e; subst e; rfl
  | i :: r, os, e => by
    simp only [getAll2] at e
    split at e
    · rename_i o l h1 h2
      simp only [Option.some.injEq] at e
      subst e
      simp only [getAll, getH_c h1, getAll2_eq h2, List.map_cons]
    · cases e
def cleanOs (h : H2) (ρ : Nat → Option Nat) (φζ ζ : Nat → Nat) : List O2 → Tree (List O2)
  | [] => .leaf []
  | o :: r => (cleanO h ρ φζ ζ o).bind fun o' => (cleanOs h ρ φζ ζ r).bind fun r' => .leaf (o' :: r')
theorem cleanOs_eq {h : H2} {ρ : Nat → Option Nat} {φζ ζ : Nat → Nat} : ∀ {l l' : List O2}, (cleanOs h ρ φζ ζ l).den = some l' → (l.map cO).map (mapO (cleanM (cH h) ρ φζ) ζ) = l'.map cO
  | [], l', e => by simp only [cleanOs, Tree.den_leaf] at e; subst e; rfl
  | o :: r, l', e => by
    simp only [cleanOs, Tree.den_bind, Tree.den_leaf] at e
    obtain ⟨o', h1, r', h2, rfl⟩ := e
    simp only [List.map_cons, cleanO_eq h1, cleanOs_eq h2]
abbrev R2 := W × List O2 × List O2
def cRet (r : R2) : Ret := (cW r.1, cOs r.2.1, cOs r.2.2)
def finish2 (F : MFun) (u : Option Ty) (n : Nat) (σ : St2) : Tree R2 :=
  if Nat.blt 1000000 n then .fail else
  (readAll2 σ F.res).bind fun vs =>
    let extIds := (List.range n).map (extBase + ·)
    match F.frz with
    | true => (sf2 σ.h u (pack2 vs)).bind fun v => (Tree.ofO (getAll2 σ.h extIds)).bind fun ext =>
        (clean2 σ.h (outId n []) touched v).bind fun v' => (cleanOs σ.h (outId n []) touched touched ext).bind fun ext' => .leaf (v', ext', [])
    | false => (Tree.ofO (reach2 σ.h (wrefs (pack2 vs) ++ extIds))).bind fun rs =>
        (Tree.ofO (getAll2 σ.h extIds)).bind fun ext => (Tree.ofO (getAll2 σ.h (rs.filter isLocal))).bind fun es =>
          (clean2 σ.h (outId n (rs.filter isLocal)) touched (pack2 vs)).bind fun v' => (cleanOs σ.h (outId n (rs.filter isLocal)) touched touched ext).bind fun ext' =>
            (cleanOs σ.h (outId n (rs.filter isLocal)) touched (fun _ => 1) es).bind fun es' => .leaf (v', ext', es')
theorem finish2_eq {F : MFun} {u : Option Ty} {n : Nat} {σ : St2} {r : R2} (e : (finish2 F u n σ).den = some r) : finish F n (cSt σ) = some (cRet r) := by
  unfold finish2 at e
  split at e
  · simp at e
  · rename_i hn
    have hn : ¬ 1000000 < n := by intro h; exact hn (Nat.blt_eq.mpr h)
    simp only [Tree.den_bind] at e
    obtain ⟨vs, h1, e⟩ := e
    unfold finish
    rw [if_neg hn]
    have h1 : readAll (cSt σ).s (cSt σ).h F.res = some (cWs vs) := readAll2_eq h1
    rw [h1]
    simp only
    rw [pack2_eq]
    split at e
    · rename_i hf
      simp only [Tree.den_bind, Tree.den_ofO, Tree.den_leaf] at e
      obtain ⟨v, h2, ext, h3, v', h4, ext', h5, rfl⟩ := e
      rw [if_pos hf]
      have h2 : sfM (cSt σ).h (cW (pack2 vs)) = some (cW v) := sf2_eq _ _ _ _ h2
      have h3 : getAll (cSt σ).h ((List.range n).map (extBase + ·)) = some (ext.map cO) := getAll2_eq h3
      rw [h2, h3]
      simp only
      have h4 : cleanM (cSt σ).h (outId n []) touched (cW v) = cW v' := clean2_eq _ _ _ _ _ h4
      have h5 : (ext.map cO).map (mapO (cleanM (cSt σ).h (outId n []) touched) touched) = ext'.map cO := cleanOs_eq h5
      rw [h4, h5]
      rfl
    · rename_i hf
      simp only [Tree.den_bind, Tree.den_ofO, Tree.den_leaf] at e
      obtain ⟨rs, h2, ext, h3, es, h4, v', h5, ext', h6, es', h7, rfl⟩ := e
      rw [if_neg (by rw [hf]; simp)]
      have h2 : roots1 (cSt σ).h (roots1 (cSt σ).h (wrefs (pack2 vs) ++ (List.range n).map (extBase + ·))) = rs := reach2_eq h2
      have h3 : getAll (cSt σ).h ((List.range n).map (extBase + ·)) = some (ext.map cO) := getAll2_eq h3
      have h4 : getAll (cSt σ).h (rs.filter isLocal) = some (es.map cO) := getAll2_eq h4
      rw [wrefs_eq, h2, h3, h4]
      simp only
      have h5 : cleanM (cSt σ).h (outId n (rs.filter isLocal)) touched (cW (pack2 vs)) = cW v' := clean2_eq _ _ _ _ _ h5
      have h6 : (ext.map cO).map (mapO (cleanM (cSt σ).h (outId n (rs.filter isLocal)) touched) touched) = ext'.map cO := cleanOs_eq h6
      have h7 : (es.map cO).map (mapO (cleanM (cSt σ).h (outId n (rs.filter isLocal)) touched) (fun _ => 1)) = es'.map cO := cleanOs_eq h7
      rw [h5, h6, h7]
      rfl
/-! ### what a callee hands back -/
def escL : List O2 → Nat → H2
  | [], _ => []
  | o :: r, i => (i, o) :: escL r (i + 1)
theorem escL_eq : ∀ (l : List O2) (i k : Nat), cH (escL l i) k = if i ≤ k then (l.map cO)[k - i]? else none
  | [], i, k => by
    show (none : Option (Obj Nat)) = _
    simp
  | o :: r, i, k => by
    show mkH ((i, cO o) :: cHs (escL r (i + 1))) k = _
    rw [mkH_cons]
    by_cases h : k = i
    · subst h; simp
    · rw [if_neg h]
      have := escL_eq r (i + 1) k
      refine Eq.trans this ?_
      by_cases h2 : i ≤ k
      · rw [if_pos (by omega), if_pos h2, show k - i = (k - (i + 1)) + 1 by omega]
        simp
      · rw [if_neg (by omega), if_neg h2]
theorem escHeap_c (l : List O2) : escHeap (cOs l) = cH (escL l escBase) := by
  funext k
  rw [escL_eq]
  rfl
mutual
def flatTy : Ty → Bool
  | .int _ | .bool | .str | .nilp | .nilf => true
  | .agg ts => flatTys ts
  | _ => false
def flatTys : List Ty → Bool
  | [] => true
  | t :: r => flatTy t && flatTys r
end
mutual
theorem flatTy_eq : ∀ (t : Ty) (x : El t), flatTy t = true → flatP (enc t x) = true
  | .agg ts, x, h => by
    simp only [flatTy] at h
    exact flatTys_eq ts x h
  | .int _, _, _ | .bool, _, _ | .str, _, _ | .nilp, _, _ | .nilf, _, _ => rfl
  | .sl _, _, h | .ref _, _, h | .fn _ _, _, h | .mp _ _, _, h | .vec _ _, _, h => by simp [flatTy] at h
theorem flatTys_eq : ∀ (ts : List Ty) (x : Els ts), flatTys ts = true → flatPs (encs ts x) = true
  | [], _, _ => rfl
  | t :: r, x, h => by
    simp only [flatTys, Bool.and_eq_true] at h
    simp only [encs, flatPs, flatTy_eq t _ h.1, flatTys_eq r _ h.2, Bool.and_self]
end
mutual
def flatW : W → Bool
  | .v t _ => flatTy t
  | .c p => flatP p
  | .agg l | .tup l | .fn _ l => flatWs l
  | _ => true
def flatWs : List W → Bool
  | [] => true
  | w :: r => flatW w && flatWs r
end
mutual
theorem flatW_eq : ∀ w : W, flatW w = true → flatRef (cW w) = true
  | .v t x, h => by simp only [flatW] at h; exact flatTy_eq t x h
  | .c p, h => by simp only [flatW] at h; exact h
  | .agg l, h | .tup l, h | .fn _ l, h => by simp only [flatW] at h; exact flatWs_eq l h
  | .nil _, _ | .own .., _ | .ptr .., _ | .mref .., _ | .dead _, _ => rfl
theorem flatWs_eq : ∀ l : List W, flatWs l = true → flatRefs (cWs l) = true
  | [], _ => rfl
  | w :: r, h => by
    simp only [flatWs, Bool.and_eq_true] at h
    simp only [cWs, flatRefs, flatW_eq w h.1, flatWs_eq r h.2, Bool.and_self]
end
def flatSL : SL → Bool
  | .base _ t _ => t.pure && flatTy t
  | _ => false
def flatT2 : T2 → Bool
  | .e _ t _ => t.pure && flatTy t
  | .vec _ _ a _ => flatSL a
  | _ => false
def flatO2 : O2 → Bool
  | .cell _ t => flatT2 t
  | .vec _ _ a => flatSL a
  | .gone => true
  | .mp .. => false
theorem flatSL_eq {a : SL} (h : flatSL a = true) : flatTs (cSL a) = true := by
  cases a <;> simp only [flatSL, Bool.and_eq_true, Bool.false_eq_true] at h
  rename_i s t l
  have : ∀ l : List (El t), flatTs (l.map (encT s t)) = true := by
    intro l
    induction l with
    | nil => rfl
    | cons x r ih => simp only [List.map_cons, flatTs, ih, Bool.and_true]; rw [encT_pure s t x h.1]; exact flatTy_eq t x h.2
  exact this l
theorem flatO2_eq {o : O2} (h : flatO2 o = true) : flatO (cO o) = true := by
  cases o with
  | cell g t =>
    simp only [flatO2] at h
    cases t <;> simp only [flatT2, Bool.and_eq_true, Bool.false_eq_true] at h
    · rename_i s t x
      show flatT (encT s t x) = true
      rw [encT_pure s t x h.1]; exact flatTy_eq t x h.2
    · exact flatSL_eq h
  | vec g z a => exact flatSL_eq h
  | mp => simp [flatO2] at h
  | gone => rfl
theorem flatOs_eq {l : List O2} (h : l.all flatO2 = true) : (cOs l).all flatO = true := by
  rw [List.all_eq_true] at h ⊢
  intro o ho
  obtain ⟨q, hq, rfl⟩ := List.mem_map.1 ho
  exact flatO2_eq (h q hq)
def allPv (l : List W) : Bool := !(l.any nonP)
theorem allPv_eq : ∀ {l : List W}, allPv l = true → (allP (l.map cW)).isSome = true
  | [], _ => rfl
  | w :: r, h => by
    simp only [allPv, List.any_cons, Bool.not_or, Bool.and_eq_true] at h
    have := allPv_eq (l := r) h.2
    simp only [List.map_cons]
    cases hr : allP (r.map cW) with
    | none => rw [hr] at this; cases this
    | some vs => cases w <;> simp only [nonP, Bool.not_true, Bool.false_eq_true, false_and] at h <;> simp only [cW, allP, hr] <;> rfl
def purify2 (u : Option Ty) (r : R2) : Tree W := match r.2.1 with
  | [] => match r.1 with
    | .tup l => (snaps (escL r.2.2 2000000) u 0 l).bind fun q => .leaf (.tup (compsW q.1 q.2))
    | w => (snap (escL r.2.2 2000000) u w).bind fun v => .leaf (.v v.1 v.2)
  | _ => .fail
def flatR (r : R2) : Bool := flatW r.1 && r.2.2.all flatO2
theorem purify2_eq {u : Option Ty} {r : R2} {w : W} (e : (purify2 u r).den = some w) : ∃ fr, purify (some (cRet r)) = some (cW w, fr) ∧ (flatR r = true → fr = true) := by
  obtain ⟨rw, ext, esc⟩ := r
  unfold purify2 at e
  split at e
  · rename_i hx
    simp only at hx
    subst hx
    have hfl : flatR (rw, [], esc) = true → (flatRef (cW rw) && (cOs esc).all flatO) = true := by
      intro h
      simp only [flatR, Bool.and_eq_true] at h
      rw [flatW_eq _ h.1, flatOs_eq h.2]; rfl
    split at e
    · rename_i l hl
      simp only at hl
      subst hl
      simp only [Tree.den_bind, Tree.den_leaf] at e
      obtain ⟨q, h1, rfl⟩ := e
      have := snaps_eq _ _ _ _ _ h1
      refine ⟨_, ?_, hfl⟩
      simp only [purify, cRet, cOs, List.map_nil, cW]
      have hh := escHeap_c esc
      simp only [cOs] at hh
      rw [hh]
      have this : pureMs (cH (escL esc escBase)) (cWs l) = some (encs q.1 q.2) := this
      rw [this]
      simp only
      rw [← compsW_eq, ← cWs_map]
    · rename_i hl
      simp only [Tree.den_bind, Tree.den_leaf] at e
      obtain ⟨v, h1, rfl⟩ := e
      have := snap_eq _ _ _ _ h1
      refine ⟨_, ?_, hfl⟩
      have hne : ∀ l, cW rw ≠ .tup l := by
        intro l hh
        cases rw with
        | tup l' => exact hl l' rfl
        | _ => cases hh
      have hh := escHeap_c esc
      have this : pureM (escHeap (cOs esc)) (cW rw) = some (enc v.1 v.2) := by rw [hh]; exact this
      show purify (some (cW rw, [], cOs esc)) = _
      unfold purify
      split
      · rename_i q _ _ hq
        simp only [Option.some.injEq, Prod.mk.injEq] at hq
        obtain ⟨rfl, _, rfl⟩ := hq
        split
        · rename_i hh2; exact (hne _ hh2).elim
        · rw [this]; rfl
      · rename_i hq
        exact (hq _ _ rfl).elim
  · simp at e
end Go.Mid
/- Taking over what a callee hands back; functions on symbolic states. -/
namespace Go.Mid
set_option linter.unusedSimpArgs false
set_option linter.unusedVariables false
/-! ### stamps that come back -/
theorem rsN_const (g : Nat) : rsN g = fun _ => g := rfl
theorem allTP_merge (ck : Nat → Nat → Nat) (rs : Nat → Nat) : ∀ (L M : List (T Nat)), allTP (mergeTs ck rs L M) = allTP M
  | [], M => by simp only [mergeTs]; rw [mapTs_map, allTP_mapT]
  | _ :: _, [] => rfl
  | x :: r, y :: q => by
    simp only [mergeTs]
    cases y with
    | p v =>
      have : mergeT ck rs x (.p v) = .p v := by cases x <;> rfl
      rw [this]
      simp only [allTP, allTP_merge ck rs r q]
    | m v => have : mergeT ck rs x (.m v) = .m v := by cases x <;> rfl
             rw [this]; rfl
    | agg l => cases x <;> rfl
    | vec a z l n => cases x <;> rfl
    | mp a ks l => cases x <;> rfl
    | hole n => have : mergeT ck rs x (.hole n) = .hole n := by cases x <;> rfl
                rw [this]; rfl
theorem mergeTs_ps (ck : Nat → Nat → Nat) (rs : Nat → Nat) : ∀ (vs : List PV) (M : List (T Nat)), mergeTs ck rs (vs.map T.p) M = mapTs (fun v => v) rs M
  | [], M => by simp only [List.map_nil, mergeTs]
  | _ :: _, [] => rfl
  | v :: r, y :: q => by
    simp only [List.map_cons, mergeTs, mapTs, mergeTs_ps ck rs r q]
    cases y <;> rfl
theorem mergeT_mk (ck : Nat → Nat → Nat) (rs : Nat → Nat) (L M : List (T Nat)) : mergeT ck rs (mkTAgg L) (mkTAgg M) = mkTAgg (mergeTs ck rs L M) := by
  unfold mkTAgg
  rw [allTP_merge]
  cases hM : allTP M with
  | some vs =>
    simp only
    cases allTP L <;> rfl
  | none =>
    simp only
    cases hL : allTP L with
    | none => rfl
    | some vs =>
      rw [allTP_some hL, mergeTs_ps]
      rfl
def kidsT : T2 → Option (List T2)
  | .agg l => some l
  | .e s (.agg ts) x => some (comps s ts x)
  | _ => none
theorem kidsT_eq {t : T2} {l : List T2} (h : kidsT t = some l) : cT t = mkTAgg (cTs l) := by
  unfold kidsT at h
  split at h
  · cases h; rfl
  · cases h
    rename_i s ts x
    exact congrArg mkTAgg (comps_eq s ts x).symm
  · cases h
mutual
def mergeT2 (g : Nat) : T2 → T2 → Tree T2
  | old, .vec a z l n => match hdT old with
    | some (g0, _, _, _) => (stampSL g l).bind fun l' => .leaf (.vec (ckN g g0 a) z l' n)
    | none => match old with
      | .e _ t _ => if t.pure then (stampSL g l).bind fun l' => .leaf (.vec g z l' n) else .fail
      | .w _ => (stampSL g l).bind fun l' => .leaf (.vec g z l' n)
      | .hole _ => (stampSL g l).bind fun l' => .leaf (.vec g z l' n)
      | _ => .fail
  | old, .agg m => match kidsT old with
    | some ks => (mergeT2s g ks m).bind fun l => .leaf (.agg l)
    | none => .fail
  | _, .e s t x => if t.pure then .leaf (.e s t x) else .fail
  | _, .w v => .leaf (.w v)
  | _, .hole n => .leaf (.hole n)
def mergeT2s (g : Nat) : List T2 → List T2 → Tree (List T2)
  | [], [] => .leaf []
  | x :: r, y :: q => (mergeT2 g x y).bind fun u => (mergeT2s g r q).bind fun l => .leaf (u :: l)
  | _, _ => .fail
end
theorem mergeT_vec_no {g a z n : Nat} {l : List (T Nat)} {t : T Nat} (h : ∀ g0 z0 l0 n0, t ≠ .vec g0 z0 l0 n0) : mergeT (ckN g) (rsN g) t (.vec a z l n) = .vec g z (stamps g l) n := by
  cases t with
  | vec g0 z0 l0 n0 => exact absurd rfl (h _ _ _ _)
  | _ => rfl
mutual
theorem mergeT2_eq (g : Nat) : ∀ (y x u : T2), (mergeT2 g x y).den = some u → mergeT (ckN g) (rsN g) (cT x) (cT y) = cT u
  | .vec a z l n, x, u, e => by
    simp only [mergeT2] at e
    split at e
    · rename_i g0 _ _ _ hx
      simp only [Tree.den_bind, Tree.den_leaf] at e
      obtain ⟨l', h1, rfl⟩ := e
      rw [hdT_eq hx]
      show T.vec (ckN g g0 a) z (mapTs (fun v => v) (rsN g) (cSL l)) n = _
      have := stampSL_eq h1
      unfold stamps at this
      rw [rsN_const, this]
      rfl
    · have fin : ∀ t : T Nat, (∀ g0 z0 l0 n0, t ≠ .vec g0 z0 l0 n0) → ((stampSL g l).bind fun l' => Tree.leaf (T2.vec g z l' n)).den = some u → mergeT (ckN g) (rsN g) t (cT (.vec a z l n)) = cT u := by
        intro t ht e
        simp only [Tree.den_bind, Tree.den_leaf] at e
        obtain ⟨l', h1, rfl⟩ := e
        simp only [cT]
        rw [mergeT_vec_no ht, stampSL_eq h1]
      split at e
      · split at e
        · rename_i hp
          refine fin _ ?_ e
          intro g0 z0 l0 n0
          simp only [cT]
          rw [encT_pure _ _ _ hp]
          simp
        · simp at e
      · exact fin _ (by intro a b c d; simp [cT]) e
      · exact fin _ (by intro a b c d; simp [cT]) e
      · simp at e
  | .agg m, x, u, e => by
    simp only [mergeT2] at e
    split at e
    · rename_i ks hk
      simp only [Tree.den_bind, Tree.den_leaf] at e
      obtain ⟨l, h1, rfl⟩ := e
      rw [kidsT_eq hk]
      simp only [cT]
      rw [mergeT_mk, mergeT2s_eq g m ks l h1]
    · simp at e
  | .e s t y, x, u, e => by
    simp only [mergeT2] at e
    split at e
    · rename_i hp
      simp only [Tree.den_leaf] at e
      subst e
      simp only [cT]
      rw [encT_pure _ _ _ hp]
      cases cT x <;> rfl
    · simp at e
  | .w v, x, u, e => by
    simp only [mergeT2, Tree.den_leaf] at e
    subst e
    simp only [cT]
    cases cT x <;> rfl
  | .hole n, x, u, e => by
    simp only [mergeT2, Tree.den_leaf] at e
    subst e
    simp only [cT]
    cases cT x <;> rfl
theorem mergeT2s_eq (g : Nat) : ∀ (q r l : List T2), (mergeT2s g r q).den = some l → mergeTs (ckN g) (rsN g) (cTs r) (cTs q) = cTs l
  | [], [], l, e => by simp only [mergeT2s, Tree.den_leaf] at e; subst e; rfl
  | y :: q, x :: r, l, e => by
    simp only [mergeT2s, Tree.den_bind, Tree.den_leaf] at e
    obtain ⟨u, h1, l', h2, rfl⟩ := e
    simp only [cTs, mergeTs, mergeT2_eq g y x u h1, mergeT2s_eq g q r l' h2]
  | [], _ :: _, l, e => by simp [mergeT2s] at e
  | _ :: _, [], l, e => by simp [mergeT2s] at e
end
def stampO (g : Nat) (o : O2) : Tree O2 := mapO2 .leaf (fun _ => g) o
def mergeO2 (g : Nat) (old : Option O2) (o : O2) : Tree O2 := match old, o with
  | some (.cell g0 t), .cell b u => (mergeT2 g t u).bind fun v => .leaf (.cell (ckN g g0 b) v)
  | some (.vec g0 _ _), .vec a z l => (stampSL g l).bind fun l' => .leaf (.vec (ckN g g0 a) z l')
  | _, .gone => .leaf .gone
  | none, o => stampO g o
  | _, _ => .fail
theorem mergeO2_eq {g : Nat} {old : Option O2} {o o' : O2} (e : (mergeO2 g old o).den = some o') : mergeO (ckN g) (rsN g) (old.map cO) (cO o) = cO o' := by
  unfold mergeO2 at e
  split at e
  · simp only [Tree.den_bind, Tree.den_leaf] at e
    obtain ⟨v, h1, rfl⟩ := e
    simp only [Option.map_some, cO, mergeO, mergeT2_eq g _ _ _ h1]
  · rename_i g0 z0 l0 a z l
    simp only [Tree.den_bind, Tree.den_leaf] at e
    obtain ⟨l', h1, rfl⟩ := e
    have := stampSL_eq h1
    unfold stamps at this
    simp only [Option.map_some, cO, mergeO, rsN_const, this]
  · simp only [Tree.den_leaf] at e
    subst e
    cases old with
    | none => rfl
    | some o => cases o <;> rfl
  · exact mapO2_eq _ leaf_id _ _ e
  · simp at e
/-! ### references under their new names -/
def stampAt (h : H2) (id : Nat) (np : Option (List Step)) : Tree Nat := match getH h id with
  | some o => match np with
    | none => match o with
      | .cell a _ => .leaf a
      | _ => .fail
    | some p => (vecAt2 o p).bind fun x => .leaf x.1
  | none => .fail
theorem nodeAt_vecAt {ob : Option (Obj Nat)} {p : List Nat} {a z : Nat} {l : List (T Nat)} (h : vecAt ob p = some (a, z, l)) : nodeAt ob (some p) = some (a, some z) := by
  rcases vecAt_sub h with ⟨rfl, rfl⟩ | ⟨n, h1⟩
  · rfl
  · unfold nodeAt
    simp only
    split
    · simp [subO] at h1
    · simp [subO] at h1
    · rw [h1]
theorem stampAt_eq {h : H2} {id : Nat} {np : Option (List Step)} {a : Nat} (e : (stampAt h id np).den = some a) : ∃ z, nodeAt (cH h id) (npI np) = some (a, z) := by
  unfold stampAt at e
  split at e
  · rename_i o ho
    rw [getH_c ho]
    split at e
    · split at e
      · simp only [Tree.den_leaf] at e; subst e; exact ⟨none, rfl⟩
      · simp at e
    · rename_i p
      simp only [Tree.den_bind, Tree.den_leaf] at e
      obtain ⟨⟨a', z, l⟩, h1, rfl⟩ := e
      exact ⟨some z, nodeAt_vecAt (vecAt2_eq h1)⟩
  · simp at e
mutual
def fresh2 (hr h : H2) (ρ : Nat → Nat) : W → Tree W
  | .own id path off len g => match getH hr id with
    | none => .leaf (.dead 1)
    | some .gone => .leaf (.dead 1)
    | some o => (vecAt2 o path).bind fun x => if x.1 == g then (stampAt h (ρ id) (some path)).bind fun a => .leaf (.own (ρ id) path off len a) else .leaf (.dead 1)
  | .ptr id np rp g => match getH hr id with
    | none => .leaf (.dead 1)
    | some .gone => .leaf (.dead 1)
    | some o => (look2 o np rp).bind fun x => if x.2 == g then (stampAt h (ρ id) np).bind fun a => .leaf (.ptr (ρ id) np rp a) else .leaf (.dead 1)
  | .agg l => (fresh2s hr h ρ l).bind fun l' => .leaf (.agg l')
  | .fn f l => (fresh2s hr h ρ l).bind fun l' => .leaf (.fn f l')
  | .tup l => (fresh2s hr h ρ l).bind fun l' => .leaf (.tup l')
  | .c p => .leaf (.c p)
  | .v t x => .leaf (.v t x)
  | .nil z => .leaf (.nil z)
  | .dead n => .leaf (.dead n)
  | .mref .. => .fail
def fresh2s (hr h : H2) (ρ : Nat → Nat) : List W → Tree (List W)
  | [] => .leaf []
  | w :: r => (fresh2 hr h ρ w).bind fun w' => (fresh2s hr h ρ r).bind fun r' => .leaf (w' :: r')
end
mutual
theorem fresh2_eq (hr h : H2) (ρ : Nat → Nat) : ∀ (w w' : W), (fresh2 hr h ρ w).den = some w' → freshM (cH hr) (cH h) ρ (cW w) = cW w'
  | .own id path off len g, w', e => by
    simp only [fresh2] at e
    simp only [cW, freshM]
    unfold okOwn
    rw [cH_get hr]
    split at e
    · rename_i hg; simp only [Tree.den_leaf] at e; subst e; rw [hg]; simp only [Option.map_none, vecAt_none]; rfl
    · rename_i hg; simp only [Tree.den_leaf] at e; subst e; rw [hg]; simp only [Option.map_some, cO, vecAt_gone]; rfl
    · rename_i o _ hg
      rw [hg]
      simp only [Tree.den_bind] at e
      obtain ⟨⟨g', z, a⟩, h1, e⟩ := e
      simp only [Option.map_some, vecAt2_eq h1]
      split at e
      · rename_i hc
        simp only [Tree.den_bind, Tree.den_leaf] at e
        obtain ⟨a', h2, rfl⟩ := e
        obtain ⟨z', h3⟩ := stampAt_eq h2
        simp only [npI] at h3
        rw [if_pos hc, h3]; rfl
      · rename_i hc; simp only [Tree.den_leaf] at e; subst e; rw [if_neg hc]; rfl
  | .ptr id np rp g, w', e => by
    simp only [fresh2] at e
    simp only [cW, freshM]
    unfold okPtr
    rw [cH_get hr]
    split at e
    · rename_i hg; simp only [Tree.den_leaf] at e; subst e; rw [hg]; simp only [Option.map_none, look_none]; rfl
    · rename_i hg; simp only [Tree.den_leaf] at e; subst e; rw [hg]; simp only [Option.map_some, cO, look_gone]; rfl
    · rename_i o _ hg
      rw [hg]
      simp only [Tree.den_bind] at e
      obtain ⟨⟨t, s⟩, h1, e⟩ := e
      simp only [Option.map_some, look2_eq h1, beq_self_eq_true, Bool.and_true]
      split at e
      · rename_i hc
        simp only [Tree.den_bind, Tree.den_leaf] at e
        obtain ⟨a', h2, rfl⟩ := e
        obtain ⟨z', h3⟩ := stampAt_eq h2
        rw [if_pos hc, h3]; rfl
      · rename_i hc; simp only [Tree.den_leaf] at e; subst e; rw [if_neg hc]; rfl
  | .agg l, w', e => by
    simp only [fresh2, Tree.den_bind, Tree.den_leaf] at e
    obtain ⟨l', h1, rfl⟩ := e
    simp only [cW, freshM, fresh2s_eq hr h ρ l l' h1]
  | .fn f l, w', e => by
    simp only [fresh2, Tree.den_bind, Tree.den_leaf] at e
    obtain ⟨l', h1, rfl⟩ := e
    simp only [cW, freshM, fresh2s_eq hr h ρ l l' h1]
  | .tup l, w', e => by
    simp only [fresh2, Tree.den_bind, Tree.den_leaf] at e
    obtain ⟨l', h1, rfl⟩ := e
    simp only [cW, freshM, fresh2s_eq hr h ρ l l' h1]
  | .c p, w', e => by simp only [fresh2, Tree.den_leaf] at e; subst e; rfl
  | .v t x, w', e => by simp only [fresh2, Tree.den_leaf] at e; subst e; rfl
  | .nil z, w', e => by simp only [fresh2, Tree.den_leaf] at e; subst e; rfl
  | .dead n, w', e => by simp only [fresh2, Tree.den_leaf] at e; subst e; rfl
  | .mref .., w', e => by simp [fresh2] at e
theorem fresh2s_eq (hr h : H2) (ρ : Nat → Nat) : ∀ (l l' : List W), (fresh2s hr h ρ l).den = some l' → freshMs (cH hr) (cH h) ρ (cWs l) = cWs l'
  | [], l', e => by simp only [fresh2s, Tree.den_leaf] at e; subst e; rfl
  | w :: r, l', e => by
    simp only [fresh2s, Tree.den_bind, Tree.den_leaf] at e
    obtain ⟨w', h1, r', h2, rfl⟩ := e
    simp only [cWs, freshMs, fresh2_eq hr h ρ w w' h1, fresh2s_eq hr h ρ r r' h2]
end
/-! ### taking back -/
def assoc : List Nat → List O2 → H2
  | k :: r, o :: q => (k, o) :: assoc r q
  | _, _ => []
def without (ks : List Nat) : H2 → H2
  | [] => []
  | (i, o) :: r => if ks.contains i then without ks r else (i, o) :: without ks r
theorem without_eq (ks : List Nat) : ∀ (h : H2) (i : Nat), ks.contains i = false → cH (without ks h) i = cH h i
  | [], i, _ => rfl
  | (j, o) :: r, i, hi => by
    simp only [without]
    split
    · rename_i hj
      have : i ≠ j := by intro e; subst e; rw [hi] at hj; cases hj
      show mkH (cHs (without ks r)) i = mkH ((j, cO o) :: cHs r) i
      rw [mkH_cons, if_neg this]
      exact without_eq ks r i hi
    · show mkH ((j, cO o) :: cHs (without ks r)) i = mkH ((j, cO o) :: cHs r) i
      rw [mkH_cons, mkH_cons]
      split
      · rfl
      · exact without_eq ks r i hi
theorem assoc_eq : ∀ (ks : List Nat) (os : List O2) (rest : H2) (i : Nat), ks.length = os.length → cH (assoc ks os ++ rest) i = match indexIn ks i with | some k => (os[k]?).map cO | none => cH rest i
  | [], [], rest, i, _ => rfl
  | k :: r, o :: q, rest, i, h => by
    show mkH ((k, cO o) :: cHs (assoc r q ++ rest)) i = _
    rw [mkH_cons, indexIn_cons]
    by_cases hk : i = k
    · subst hk; simp
    · rw [if_neg hk, if_neg (Ne.symm hk)]
      have := assoc_eq r q rest i (by simpa using h)
      refine Eq.trans this ?_
      cases indexIn r i with
      | none => rfl
      | some j => simp
  | [], _ :: _, _, _, h => by simp at h
  | _ :: _, [], _, _, h => by simp at h
def mergesO (g : Nat) (h : H2) : List Nat → List O2 → Tree (List O2)
  | [], [] => .leaf []
  | i :: r, o :: q => (mergeO2 g (getH h i) o).bind fun o' => (mergesO g h r q).bind fun l => .leaf (o' :: l)
  | _, _ => .fail
def stampsO (g : Nat) : List O2 → Tree (List O2)
  | [] => .leaf []
  | o :: q => (stampO g o).bind fun o' => (stampsO g q).bind fun l => .leaf (o' :: l)
def freshO (hr h : H2) (ρ : Nat → Nat) : List O2 → Tree (List O2)
  | [] => .leaf []
  | o :: q => (mapO2 (fresh2 hr h ρ) (fun a => a) o).bind fun o' => (freshO hr h ρ q).bind fun l => .leaf (o' :: l)
theorem mergesO_eq {g : Nat} {h : H2} : ∀ {ids : List Nat} {os l : List O2}, (mergesO g h ids os).den = some l → os.length = ids.length ∧ l.length = ids.length ∧ ∀ (k i : Nat) (o : O2), ids[k]? = some i → os[k]? = some o → ∃ o', l[k]? = some o' ∧ mergeO (ckN g) (rsN g) (cH h i) (cO o) = cO o'
  | [], [], l, e => by
    simp only [mergesO, Tree.den_leaf] at e; subst e
    exact ⟨rfl, rfl, fun k i o hi => by simp at hi⟩
  | i :: r, o :: q, l, e => by
    simp only [mergesO, Tree.den_bind, Tree.den_leaf] at e
    obtain ⟨o', h1, l', h2, rfl⟩ := e
    obtain ⟨q1, q2, q3⟩ := mergesO_eq h2
    refine ⟨by simp [q1], by simp [q2], fun k i' o'' hi ho => ?_⟩
    cases k with
    | zero =>
      simp only [List.getElem?_cons_zero, Option.some.injEq] at hi ho
      subst hi ho
      exact ⟨o', rfl, by rw [cH_get]; exact mergeO2_eq h1⟩
    | succ k =>
      simp only [List.getElem?_cons_succ] at hi ho ⊢
      exact q3 k i' o'' hi ho
  | [], _ :: _, l, e => by simp [mergesO] at e
  | _ :: _, [], l, e => by simp [mergesO] at e
theorem stampsO_eq {g : Nat} : ∀ {os l : List O2}, (stampsO g os).den = some l → l.length = os.length ∧ ∀ (k : Nat) (o : O2), os[k]? = some o → ∃ o', l[k]? = some o' ∧ mapO (fun v => v) (rsN g) (cO o) = cO o'
  | [], l, e => by
    simp only [stampsO, Tree.den_leaf] at e; subst e
    exact ⟨rfl, fun k o ho => by simp at ho⟩
  | o :: q, l, e => by
    simp only [stampsO, Tree.den_bind, Tree.den_leaf] at e
    obtain ⟨o', h1, l', h2, rfl⟩ := e
    obtain ⟨q2, q3⟩ := stampsO_eq h2
    refine ⟨by simp [q2], fun k o'' ho => ?_⟩
    cases k with
    | zero =>
      simp only [List.getElem?_cons_zero, Option.some.injEq] at ho
      subst ho
      exact ⟨o', rfl, mapO2_eq _ leaf_id _ _ h1⟩
    | succ k =>
      simp only [List.getElem?_cons_succ] at ho ⊢
      exact q3 k o'' ho
theorem freshO_eq {hr h : H2} {ρ : Nat → Nat} : ∀ {os l : List O2}, (freshO hr h ρ os).den = some l → l.length = os.length ∧ ∀ k : Nat, (l[k]?).map cO = ((os[k]?).map cO).map (mapO (freshM (cH hr) (cH h) ρ) (fun a => a))
  | [], l, e => by
    simp only [freshO, Tree.den_leaf] at e; subst e
    exact ⟨rfl, fun k => by simp⟩
  | o :: q, l, e => by
    simp only [freshO, Tree.den_bind, Tree.den_leaf] at e
    obtain ⟨o', h1, l', h2, rfl⟩ := e
    obtain ⟨q2, q3⟩ := freshO_eq h2
    refine ⟨by simp [q2], fun k => ?_⟩
    cases k with
    | zero => simp only [List.getElem?_cons_zero, Option.map_some, mapO2_eq _ (fresh2_eq hr h ρ) _ _ h1]
    | succ k =>
      simp only [List.getElem?_cons_succ]
      exact q3 k
def takeBack2 (g : Nat) (d : Option Nat) (h : H2) (ids : List Nat) (r : R2) : Tree (W × H2) :=
  let es := eids d r.2.2.length
  if r.2.1.length == ids.length && (r.2.2.isEmpty || d.isSome) && !(es.any ids.contains) && Nat.ble ids.length 1000000 && Nat.ble (eid (d.getD 0) r.2.2.length) extBase then
    (stampsO g r.2.2).bind fun esc => (mergesO g h ids r.2.1).bind fun ext =>
      let rest := without (es ++ ids) h
      let h1 := assoc es esc ++ (assoc ids ext ++ rest)
      let hr := escL r.2.1 extBase ++ escL r.2.2 escBase
      let ρ := backId (d.getD 0) ids
      (fresh2 hr h1 ρ r.1).bind fun w => (freshO hr h1 ρ esc).bind fun esc' => (freshO hr h1 ρ ext).bind fun ext' =>
        .leaf (w, assoc es esc' ++ (assoc ids ext' ++ rest))
  else .fail
theorem retHeap_c (ext esc : List O2) (hn : ext.length ≤ 1000000) : retHeap (cOs ext) (cOs esc) = cH (escL ext extBase ++ escL esc escBase) := by
  funext i
  have gen : ∀ (a : List O2) (j : Nat) (b : H2), cH (escL a j ++ b) i = if j ≤ i ∧ i < j + a.length then (a.map cO)[i - j]? else cH b i := by
    intro a
    induction a with
    | nil =>
      intro j b
      show cH b i = _
      rw [if_neg (by simp)]
    | cons o r ih =>
      intro j b
      show mkH ((j, cO o) :: cHs (escL r (j + 1) ++ b)) i = _
      rw [mkH_cons]
      by_cases hi : i = j
      · subst hi; simp
      · rw [if_neg hi]
        refine Eq.trans (ih (j + 1) b) ?_
        by_cases h2 : j + 1 ≤ i ∧ i < j + 1 + r.length
        · rw [if_pos h2, if_pos (by simp only [List.length_cons]; omega), show i - j = (i - (j + 1)) + 1 by omega]
          simp
        · rw [if_neg h2, if_neg (by simp only [List.length_cons]; omega)]
  rw [gen]
  have h2 := escL_eq esc escBase i
  unfold retHeap
  by_cases he : escBase ≤ i
  · rw [if_pos he]
    have : ¬ (extBase ≤ i ∧ i < extBase + ext.length) := by simp only [escBase, extBase] at he ⊢; omega
    rw [if_neg this, h2, if_pos he]
    rfl
  · rw [if_neg he]
    by_cases hx : extBase ≤ i
    · rw [if_pos hx]
      by_cases hl : i < extBase + ext.length
      · rw [if_pos ⟨hx, hl⟩]; rfl
      · rw [if_neg (by omega), h2, if_neg he]
        simp only [cOs]
        rw [List.getElem?_eq_none (by simp only [extBase] at hx hl ⊢; simp only [List.length_map]; omega)]
    · rw [if_neg hx, if_neg (by omega), h2, if_neg he]
theorem indexIn_at {l : List Nat} {i k : Nat} (h : indexIn l i = some k) : l[k]? = some i := by
  induction l generalizing k with
  | nil => cases h
  | cons a r ih =>
    rw [indexIn_cons] at h
    split at h
    · rename_i ha
      cases h
      simp [ha]
    · cases hr : indexIn r i with
      | none => rw [hr] at h; cases h
      | some j =>
        rw [hr] at h
        cases h
        simp [ih hr]
theorem indexIn_no {l : List Nat} {i : Nat} (h : indexIn l i = none) : l.contains i = false := by
  induction l with
  | nil => rfl
  | cons a r ih =>
    rw [indexIn_cons] at h
    split at h
    · cases h
    · rename_i ha
      cases hr : indexIn r i with
      | some j => rw [hr] at h; cases h
      | none =>
        have h1 := ih hr
        have h2 : ¬ i = a := Ne.symm ha
        have : (i == a) = false := by simpa using h2
        simp only [List.contains_cons, this, h1, Bool.or_self]
theorem eids_length (d : Option Nat) (n : Nat) : (eids d n).length = n := by simp [eids]
theorem takeBack2_eq {g : Nat} {d : Option Nat} {h h' : H2} {ids : List Nat} {r : R2} {w : W} (e : (takeBack2 g d h ids r).den = some (w, h')) :
    takeBack g d (cH h) ids (cW r.1) (cOs r.2.1) (cOs r.2.2) = some (cW w, cH h') := by
  obtain ⟨rw, ext0, esc0⟩ := r
  unfold takeBack2 at e
  simp only at e
  split at e
  · rename_i hc
    simp only [Bool.and_eq_true, beq_iff_eq, Bool.or_eq_true, Bool.not_eq_true', Nat.ble_eq] at hc
    obtain ⟨⟨⟨⟨c1, c2⟩, c3⟩, c4⟩, c5⟩ := hc
    simp only [Tree.den_bind, Tree.den_leaf, Prod.mk.injEq] at e
    obtain ⟨esc, e1, ext, e2, w', e3, esc', e4, ext', e5, rfl, rfl⟩ := e
    obtain ⟨s1, s2⟩ := stampsO_eq e1
    obtain ⟨m1, m2, m3⟩ := mergesO_eq e2
    obtain ⟨f1, f2⟩ := freshO_eq e4
    obtain ⟨f3, f4⟩ := freshO_eq e5
    have hel : (cOs esc0).length = esc0.length := by simp [cOs]
    have hxl : (cOs ext0).length = ext0.length := by simp [cOs]
    have hes : (eids d esc0.length).length = esc.length := by rw [eids_length, s1]
    have tb : takeBack g d (cH h) ids (cW rw) (cOs ext0) (cOs esc0) = some (freshM (retHeap (cOs ext0) (cOs esc0)) (fun i => match srcId (eids d esc0.length) ids i with
          | some j => (retHeap (cOs ext0) (cOs esc0) j).map (mergeAt g (cH h) i j)
          | none => cH h i) (backId (d.getD 0) ids) (cW rw), fun i => match srcId (eids d esc0.length) ids i with
          | some j => (retHeap (cOs ext0) (cOs esc0) j).map (fun o => mapO (freshM (retHeap (cOs ext0) (cOs esc0)) (fun i => match srcId (eids d esc0.length) ids i with
            | some j => (retHeap (cOs ext0) (cOs esc0) j).map (mergeAt g (cH h) i j)
            | none => cH h i) (backId (d.getD 0) ids)) (fun a => a) (mergeAt g (cH h) i j o))
          | none => cH h i) := by
      unfold takeBack
      simp only [hel, hxl]
      exact if_neg (by
        rintro (q | q | q | q | q)
        · exact q c1
        · rcases c2 with c2 | c2
          · have : esc0 = [] := by simpa using c2
            subst this
            exact q.1 rfl
          · rw [q.2] at c2; cases c2
        · rw [c3] at q; cases q
        · omega
        · omega)
    rw [tb]
    have hret := retHeap_c ext0 esc0 (by omega)
    -- the memory in between
    have key : ∀ i, (match srcId (eids d esc0.length) ids i with
        | some j => (retHeap (cOs ext0) (cOs esc0) j).map (mergeAt g (cH h) i j)
        | none => cH h i) = cH (assoc (eids d esc0.length) esc ++ (assoc ids ext ++ without (eids d esc0.length ++ ids) h)) i := by
      intro i
      rw [assoc_eq _ _ _ _ hes]
      unfold srcId
      cases h1 : indexIn (eids d esc0.length) i with
      | some k =>
        simp only
        have hk : k < esc0.length := by
          have := (List.getElem?_eq_some_iff.1 (indexIn_at h1)).1
          rwa [eids_length] at this
        obtain ⟨o', q1, q2⟩ := s2 k esc0[k] (by simp [hk])
        rw [q1]
        unfold retHeap
        rw [if_pos (by omega)]
        have : (cOs esc0)[escBase + k - escBase]? = some (cO esc0[k]) := by
          rw [Nat.add_sub_cancel_left]
          simp [cOs, hk]
        rw [this]
        simp only [Option.map_some, mergeAt]
        rw [if_pos (by omega)]
        exact congrArg some q2
      | none =>
        simp only
        rw [assoc_eq _ _ _ _ m2.symm]
        cases h2 : indexIn ids i with
        | some k =>
          simp only
          have hk : k < ids.length := (List.getElem?_eq_some_iff.1 (indexIn_at h2)).1
          have hk' : k < ext0.length := by omega
          obtain ⟨o', q1, q2⟩ := m3 k i ext0[k] (indexIn_at h2) (by simp [hk'])
          rw [q1]
          unfold retHeap
          have hb : ¬ escBase ≤ extBase + k := by unfold escBase extBase; omega
          rw [if_neg hb, if_pos (by omega)]
          have : (cOs ext0)[extBase + k - extBase]? = some (cO ext0[k]) := by
            rw [Nat.add_sub_cancel_left]
            simp [cOs, hk']
          rw [this]
          simp only [Option.map_some, mergeAt]
          rw [if_neg hb]
          exact congrArg some q2
        | none =>
          simp only
          rw [without_eq]
          have a1 := indexIn_no h1
          have a2 := indexIn_no h2
          simp only [List.contains_eq_mem, decide_eq_false_iff_not] at a1 a2 ⊢
          simp only [List.mem_append, not_or]
          exact ⟨a1, a2⟩
    have key' := funext key
    rw [key', hret]
    have hw := fresh2_eq _ _ _ _ _ e3
    rw [hw]
    congr 2
    funext i
    rw [assoc_eq _ _ _ _ (by rw [hes, f1])]
    have ki := key i
    rw [assoc_eq _ _ _ _ hes] at ki
    unfold srcId at ki ⊢
    cases h1 : indexIn (eids d esc0.length) i with
    | some k =>
      simp only [h1] at ki ⊢
      rw [f2, ← hret, ← ki]
      simp only [Option.map_map]
      rfl
    | none =>
      simp only [h1] at ki ⊢
      rw [assoc_eq _ _ _ _ (by rw [f3, m2])]
      rw [assoc_eq _ _ _ _ m2.symm] at ki
      cases h2 : indexIn ids i with
      | some k =>
        simp only [h2, Option.map_some] at ki ⊢
        rw [f4, ← hret, ← ki]
        simp only [Option.map_map]
        rfl
      | none =>
        simp only [h2, Option.map_none] at ki ⊢
        exact ki
  · simp at e
end Go.Mid
/- Functions on symbolic states: what is known of callees, running code, the theorem. -/
namespace Go.Mid
set_option linter.unusedSimpArgs false
set_option linter.unusedVariables false
abbrev In2 := List W × List O2
def cIn (x : In2) : List MV × List (Obj Nat) := (cWs x.1, cOs x.2)
def genIn (x : In2) : Gen cIn := .pair (c₁ := cWs) (c₂ := cOs) (fun p q => (p, q)) (fun y => some y) (fun y x₁ x₂ a₁ a₂ h h1 h2 => by
  cases h
  simp only [cIn, h1, h2]) (genWs x.1) (genOs x.2)
def cOO (x : List O2 × List O2) : List (Obj Nat) × List (Obj Nat) := (cOs x.1, cOs x.2)
def genRet (r : R2) : Gen cRet := .pair (c₁ := cW) (c₂ := cOO) (fun p q => (p, q)) (fun y => some y) (fun y x₁ x₂ a₁ a₂ h h1 h2 => by
  cases h
  simp only [cOO, Prod.mk.injEq] at h2
  simp only [cRet, h1, h2.1, h2.2]) (genW r.1)
  (.pair (c₁ := cOs) (c₂ := cOs) (fun p q => (p, q)) (fun y => some y) (fun y x₁ x₂ a₁ a₂ h h1 h2 => by
    cases h
    simp only [cOO, h1, h2]) (genOs r.2.1) (genOs r.2.2))
/-- what is known of a function: the shape of arguments, the shape of results, what it computes -/
structure Sg where
  f : Nat
  I : Gen cIn
  O : Gen cRet
  fn : I.A → Option O.A
def SgOk (Φ : Tbl) (S : Sg) : Prop := ∀ a r, S.fn a = some r → KI Φ S.f (cIn (S.I.mk a)).1 (cIn (S.I.mk a)).2 = some (cRet (S.O.mk r))
def SgsOk (Φ : Tbl) : List Sg → Prop
  | [] => True
  | S :: r => SgOk Φ S ∧ SgsOk Φ r
theorem SgsOk.get {Φ : Tbl} : ∀ {Γ : List Sg}, SgsOk Φ Γ → ∀ S ∈ Γ, SgOk Φ S
  | S :: r, h, T, hT => (List.mem_cons.1 hT).elim (fun e => e ▸ h.1) (h.2.get T)
def callS (S : Sg) (x : In2) : Tree R2 := (S.I.un x).bind fun a => .opt S.O.a0 (S.fn a) fun r => .leaf (S.O.mk r)
theorem callS_eq {Φ : Tbl} {S : Sg} (hS : SgOk Φ S) {x : In2} {r : R2} (e : (callS S x).den = some r) : KI Φ S.f (cIn x).1 (cIn x).2 = some (cRet r) := by
  simp only [callS, Tree.den_bind, Tree.den_opt, Tree.den_leaf] at e
  obtain ⟨a, h1, q, h2, rfl⟩ := e
  rw [S.I.law x a h1]
  exact hS a q h2
def tryAll {β : Type} (f : Nat) (k : Sg → Tree β) : List Sg → Tree β
  | [] => .fail
  | S :: r => match S.f == f with
    | false => tryAll f k r
    | true => match (k S).leaves with
      | [] => tryAll f k r
      | _ :: _ => k S
theorem tryAll_eq {β : Type} {f : Nat} {k : Sg → Tree β} {b : β} : ∀ {Γ : List Sg}, (tryAll f k Γ).den = some b → ∃ S ∈ Γ, S.f = f ∧ (k S).den = some b
  | [], h => by simp [tryAll] at h
  | S :: r, h => by
    simp only [tryAll] at h
    split at h
    · obtain ⟨T, h1, h2⟩ := tryAll_eq h
      exact ⟨T, by simp [h1], h2⟩
    · rename_i hf
      split at h
      · obtain ⟨T, h1, h2⟩ := tryAll_eq h
        exact ⟨T, by simp [h1], h2⟩
      · exact ⟨S, by simp, by simpa using hf, h⟩
def tyW : W → Ty
  | .v t _ => t
  | .agg l => .agg (tyWs l)
  | .fn f l => .fn f (tyWs l)
  | _ => .bool
where tyWs : List W → List Ty
  | [] => []
  | w :: r => tyW w :: tyWs r
def inTys (S : Sg) : Option Ty := some (.agg ((S.I.mk S.I.a0).1.map tyW))
/-- what is known of a function whose arguments and results are pure values; fl: the results share nothing with the arguments -/
structure Pg where
  f : Nat
  as : List Ty
  ts : List Ty
  fl : Bool
  fn : Els as → Option (Els ts)
def pckP : (ts : List Ty) → Els ts → W
  | [], _ => .tup []
  | [t], x => .v t x
  | t :: u :: r, x => .tup (compsW (t :: u :: r) x)
def PgOk (Φ : Tbl) (S : Pg) : Prop := ∀ x r, S.fn x = some r → ∃ fr, purify (KI Φ S.f ((encs S.as x).map .p) []) = some (cW (pckP S.ts r), fr) ∧ (S.fl = true → fr = true)
structure Env2 where
  ps : List Pg
  ss : List Sg
def tryP {β : Type} (f : Nat) (k : Pg → Tree β) : List Pg → Tree β
  | [] => .fail
  | S :: r => match S.f == f with
    | false => tryP f k r
    | true => match (k S).leaves with
      | [] => tryP f k r
      | _ :: _ => k S
theorem tryP_eq {β : Type} {f : Nat} {k : Pg → Tree β} {b : β} : ∀ {Γ : List Pg}, (tryP f k Γ).den = some b → ∃ S ∈ Γ, S.f = f ∧ (k S).den = some b
  | [], h => by simp [tryP] at h
  | S :: r, h => by
    simp only [tryP] at h
    split at h
    · obtain ⟨T, h1, h2⟩ := tryP_eq h
      exact ⟨T, by simp [h1], h2⟩
    · rename_i hf
      split at h
      · obtain ⟨T, h1, h2⟩ := tryP_eq h
        exact ⟨T, by simp [h1], h2⟩
      · exact ⟨S, by simp, by simpa using hf, h⟩
def Env2.Ok (Φ : Tbl) (Γ : Env2) : Prop := (∀ S ∈ Γ.ps, PgOk Φ S) ∧ SgsOk Φ Γ.ss
def call2 (Γ : Env2) : Call2 := fun md g d u h f args =>
  match md with
  | 0 => tryP f (fun S => (snaps h (some (.agg S.as)) 0 args).bind fun q => (Tree.ofO (castE (t := .agg q.1) (.agg S.as) q.2)).bind fun x => .opt (dflts S.ts) (S.fn x) fun r => if S.fl || allPv args then .leaf (pckP S.ts r, h) else .fail) Γ.ps
  | 1 => (Tree.ofO (reach2 h (wrefss args))).bind fun ids => (Tree.ofO (getAll2 h ids)).bind fun objs =>
      (clean2s h (extId ids) (fun _ => 0) args).bind fun args' => (cleanOs h (extId ids) (fun _ => 0) (fun _ => 0) objs).bind fun objs' =>
        tryAll f (fun S => (callS S (args', objs')).bind fun r => takeBack2 g d h ids r) Γ.ss
  | _ => tryAll f (fun S => (snaps h (inTys S) 0 args).bind fun q => (callS S (compsW q.1 q.2, [])).bind fun r => match r.2.1 with
      | [] => if allPv args || flatR r then takeBack2 g d h [] r else .fail
      | _ => .fail) Γ.ss
theorem call2_eq {Φ : Tbl} {Γ : Env2} (hΓ : Γ.Ok Φ) : SymCalls (KI Φ) (call2 Γ) := by
  intro md g d u h f args w h' e
  unfold call2 at e
  unfold callM
  split at e
  · obtain ⟨S, hS, hf, e⟩ := tryP_eq e
    simp only [Tree.den_bind, Tree.den_ofO, Tree.den_opt] at e
    obtain ⟨q, e1, x, e2, r, e3, e⟩ := e
    split at e
    · rename_i hfl
      simp only [Tree.den_leaf, Prod.mk.injEq] at e
      obtain ⟨rfl, rfl⟩ := e
      obtain ⟨fr, p1, p2⟩ := hΓ.1 S hS x r e3
      have hs := snaps_eq _ _ _ _ _ e1
      rw [cWs_map] at hs
      try simp only
      unfold snapCall
      rw [hs]
      simp only
      have he : encs q.1 q.2 = encs S.as x := by
        have := (castE_enc e2).2.2
        simpa only [enc, PV.agg.injEq] using this
      rw [he, ← hf, p1]
      simp only
      rw [if_pos (by
        simp only [Bool.or_eq_true] at hfl ⊢
        rcases hfl with hfl | hfl
        · exact .inl (p2 hfl)
        · exact .inr (allPv_eq hfl))]
    · simp at e
  · simp only [Tree.den_bind, Tree.den_ofO] at e
    obtain ⟨ids, e1, objs, e2, args', e3, objs', e4, e⟩ := e
    obtain ⟨S, hS, hf, e⟩ := tryAll_eq e
    simp only [Tree.den_bind] at e
    obtain ⟨r, e5, e6⟩ := e
    have hc := callS_eq (hΓ.2.get S hS) e5
    try simp only
    unfold sharedCall
    have hid : roots1 (cH h) (roots1 (cH h) (refsMs (args.map cW))) = ids := by
      rw [← cWs_map, wrefss_eq]; exact reach2_eq e1
    simp only [hid, getAll2_eq e2]
    have ha := clean2s_eq _ _ _ _ _ e3
    rw [cWs_map] at ha
    have hx := cleanOs_eq e4
    rw [ha, hx]
    have hc' : KI Φ f (cWs args') (objs'.map cO) = some (cRet r) := by rw [← hf]; exact hc
    rw [hc']
    exact takeBack2_eq e6
  · rename_i hm0 hm1
    obtain ⟨S, hS, hf, e⟩ := tryAll_eq e
    simp only [Tree.den_bind] at e
    obtain ⟨q, e1, r, e2, e⟩ := e
    have hc := callS_eq (hΓ.2.get S hS) e2
    split at e
    · rename_i hx
      split at e
      · rename_i hfl
        have hs := snaps_eq _ _ _ _ _ e1
        rw [cWs_map] at hs
        have hc' : KI Φ f ((encs q.1 q.2).map .p) [] = some (cRet r) := by
          rw [← hf, ← compsW_eq, ← cWs_map]
          exact hc
        have ht := takeBack2_eq e
        obtain ⟨rw', ext, esc⟩ := r
        simp only at hx
        subst hx
        have main : takeCall (KI Φ) g d (cH h) f (args.map cW) = some (cW w, cH h') := by
          unfold takeCall
          rw [hs]
          simp only
          rw [hc']
          simp only [cRet, cOs, List.map_nil] at ht ⊢
          rw [if_pos (by
            simp only [Bool.or_eq_true, Bool.and_eq_true] at hfl ⊢
            rcases hfl with hfl | hfl
            · exact .inl (allPv_eq hfl)
            · simp only [flatR, Bool.and_eq_true] at hfl
              exact .inr ⟨flatW_eq _ hfl.1, flatOs_eq hfl.2⟩)]
          exact ht
        first
          | exact main
          | (split
             · exact (hm0 rfl).elim
             · exact (hm1 rfl).elim
             · exact main)
      · simp at e
    · simp at e
/-! ### running code -/
noncomputable def run2 (C : Call2) (hint : Nat → Option Ty) : MC → St2 → Tree (Ex × St2)
  | .skip, σ => .leaf (.normal, σ)
  | .bad, _ => .fail
  | .ret, σ => .leaf (.ret, σ)
  | .exit id, σ => .leaf (.exit id, σ)
  | .gh (.keep ks ids), σ => (forget2 ks ids σ).bind fun τ => .leaf (.normal, τ)
  | .gh (.freeze t), σ => (freeze2 hint t σ).bind fun τ => .leaf (.normal, τ)
  | .reg loose ops, σ => (reg2 C hint loose ops σ).bind fun τ => .leaf (.normal, τ)
  | .seq a b, σ => (run2 C hint a σ).bind fun p => match p.1 with
    | .normal => run2 C hint b p.2
    | e => .leaf (e, p.2)
  | .cond c a b, σ => match evW σ.s c with
    | some (.c (.bool true)) => run2 C hint a σ
    | some (.c (.bool false)) => run2 C hint b σ
    | some (.v .bool x) => match c with
      | .t n => .ite x (run2 C hint a ⟨setA σ.s n (.c (.bool true)), σ.h, σ.nx⟩) (run2 C hint b ⟨setA σ.s n (.c (.bool false)), σ.h, σ.nx⟩)
      | _ => .fail
    | _ => .fail
  | .block id c, σ => (run2 C hint c σ).bind fun p => match p.1 with
    | .exit j => if j == id then .leaf (.normal, p.2) else .leaf (.exit j, p.2)
    | e => .leaf (e, p.2)
  | .loop ks ids c, σ => (forget2 ks ids σ).bind fun τ => ((genSt τ).un τ).bind fun a => loopT ks ids (run2 C hint c) (genSt τ) a
theorem run2_eq {Φ : Tbl} {C : Call2} (hC : SymCalls (KI Φ) C) {hint : Nat → Option Ty} : ∀ (c : MC) (σ : St2) (r : Ex × St2), (run2 C hint c σ).den = some r → runI Φ c (cSt σ) = some (r.1, cSt r.2)
  | .skip, σ, r, e => by simp only [run2, Tree.den_leaf] at e; subst e; exact runI_skip _
  | .bad, σ, r, e => by simp [run2] at e
  | .ret, σ, r, e => by simp only [run2, Tree.den_leaf] at e; subst e; exact runI_ret _
  | .exit id, σ, r, e => by simp only [run2, Tree.den_leaf] at e; subst e; exact runI_exit id _
  | .gh (.keep ks ids), σ, r, e => by
    simp only [run2, Tree.den_bind, Tree.den_leaf] at e
    obtain ⟨τ, h1, rfl⟩ := e
    rw [runI_gh]
    simp only [runGh, forget2_eq h1]
  | .gh (.freeze t), σ, r, e => by
    simp only [run2, Tree.den_bind, Tree.den_leaf] at e
    obtain ⟨τ, h1, rfl⟩ := e
    exact freeze2_eq h1
  | .reg loose ops, σ, r, e => by
    simp only [run2, Tree.den_bind, Tree.den_leaf] at e
    obtain ⟨τ, h1, rfl⟩ := e
    exact reg2_eq hC h1
  | .seq a b, σ, r, e => by
    simp only [run2, Tree.den_bind] at e
    obtain ⟨⟨ex, τ⟩, h1, e⟩ := e
    have ha := run2_eq hC a σ _ h1
    rw [runI_seq, ha]
    simp only at e
    split at e
    · exact run2_eq hC b τ r e
    · rename_i hne
      simp only [Tree.den_leaf] at e
      subst e
      cases ex with
      | normal => exact (hne rfl).elim
      | exit i => rfl
      | ret => rfl
  | .cond c a b, σ, r, e => by
    simp only [run2] at e
    rw [runI_cond]
    have hs : ∀ w, evW σ.s c = some w → evO (cSt σ).s c = cW w := fun w h => evW_eq h
    split at e
    · rename_i hw; rw [hs _ hw]; exact run2_eq hC a σ r e
    · rename_i hw; rw [hs _ hw]; exact run2_eq hC b σ r e
    · rename_i x hw
      rw [hs _ hw]
      split at e
      · rename_i n
        have hn : getS σ.s n = .v .bool x := by simpa only [evW, Option.some.injEq] using hw
        have kn : ∀ b : Bool, (show Bool from x) = b → cSt ⟨setA σ.s n (.c (.bool b)), σ.h, σ.nx⟩ = cSt σ := by
          intro b hb
          have : cS (setA σ.s n (.c (.bool b))) = cS σ.s := cS_known hn (by show MV.p (.bool b) = MV.p (.bool (show Bool from x)); rw [hb])
          show (⟨cS (setA σ.s n (.c (.bool b))), cH σ.h, σ.nx⟩ : St) = ⟨cS σ.s, cH σ.h, σ.nx⟩
          rw [this]
        rcases (Tree.den_ite _ _ _ _).1 e with ⟨hx, q⟩ | ⟨hx, q⟩
        · have hx : (show Bool from x) = true := hx
          have : cW (.v .bool x) = .p (.bool true) := by show MV.p (.bool (show Bool from x)) = _; rw [hx]
          rw [this]
          have := run2_eq hC a _ r q
          rw [kn true hx] at this
          exact this
        · have hx : (show Bool from x) = false := hx
          have : cW (.v .bool x) = .p (.bool false) := by show MV.p (.bool (show Bool from x)) = _; rw [hx]
          rw [this]
          have := run2_eq hC b _ r q
          rw [kn false hx] at this
          exact this
      · simp at e
    · simp at e
  | .block id c, σ, r, e => by
    simp only [run2, Tree.den_bind] at e
    obtain ⟨⟨ex, τ⟩, h1, e⟩ := e
    have ha := run2_eq hC c σ _ h1
    rw [runI_block, ha]
    simp only at e
    cases ex with
    | exit j =>
      simp only at e
      split at e
      · rename_i hj
        simp only [beq_iff_eq] at hj
        simp only [Tree.den_leaf] at e
        subst e
        simp only
        rw [if_pos hj]
      · rename_i hj
        simp only [Tree.den_leaf] at e
        subst e
        simp only
        rw [if_neg (by simpa using hj)]
    | normal => simp only [Tree.den_leaf] at e; subst e; rfl
    | ret => simp only [Tree.den_leaf] at e; subst e; rfl
  | .loop ks ids c, σ, r, e => by
    simp only [run2, Tree.den_bind] at e
    obtain ⟨τ, h1, a, h2, e⟩ := e
    refine loopT_eq (run2_eq hC c) (e := r.1) (σ' := r.2) e (cSt σ) ?_
    rw [forget2_eq h1]
    exact (genSt τ).law τ a h2
/-! ### functions -/
def argS : List W → Nat → S2
  | [], _ => []
  | w :: r, i => (i, w) :: argS r (i + 1)
theorem argS_eq : ∀ (l : List W) (i : Nat), cSs (argS l i) = argL (cWs l) i
  | [], _ => by simp [argS, cSs, cWs, argL]
  | w :: r, i => by simp only [argS, cSs, cWs, argL, argS_eq r]
theorem escL_ext : ∀ (l : List O2) (i : Nat), cHs (escL l i) = extL (cOs l) i
  | [], _ => by simp [escL, cHs, cOs, extL]
  | o :: r, i => by
    simp only [escL, cHs, escL_ext r]
    rfl
/-- a call from inside -/
noncomputable def enter (C : Call2) (hint : Nat → Option Ty) (u : Option Ty) (F : MFun) (x : In2) : Tree R2 :=
  (run2 C hint F.body ⟨argS x.1 0, escL x.2 extBase, 1⟩).bind fun p => match p.1 with
    | .normal => finish2 F u x.2.length p.2
    | .ret => finish2 F u x.2.length p.2
    | .exit _ => .fail
theorem enter_eq {Φ : Tbl} {C : Call2} (hC : SymCalls (KI Φ) C) {hint : Nat → Option Ty} {u : Option Ty} {f : Nat} {F : MFun} (hF : Φ f = some (.code F)) {x : In2} {r : R2} (e : (enter C hint u F x).den = some r) :
    KI Φ f (cIn x).1 (cIn x).2 = some (cRet r) := by
  simp only [enter, Tree.den_bind] at e
  obtain ⟨⟨ex, σ⟩, h1, e⟩ := e
  have h2 := run2_eq hC _ _ _ h1
  rw [KI_code hF, argSlots_eq, extHeap_eq]
  have h3 : (⟨mkS (argL (cIn x).1 0), mkH (extL (cIn x).2 extBase), 1⟩ : St) = cSt ⟨argS x.1 0, escL x.2 extBase, 1⟩ := by
    show _ = stL (cSs (argS x.1 0)) (cHs (escL x.2 extBase)) 1
    rw [argS_eq, escL_ext]
    rfl
  rw [h3, h2]
  have hn : (cIn x).2.length = x.2.length := by simp [cIn, cOs]
  simp only at e ⊢
  cases ex with
  | normal => rw [hn]; exact finish2_eq e
  | ret => rw [hn]; exact finish2_eq e
  | exit i => simp at e
/-- results as pure values -/
def unP : (ts : List Ty) → W → Tree (Els ts)
  | [], w => match w with | .tup [] => .leaf () | _ => .fail
  | [t], w => Tree.ofO (as? t w)
  | t :: u :: r, w => match w with
    | .tup l => (unPs (t :: u :: r) l)
    | _ => .fail
where unPs : (ts : List Ty) → List W → Tree (Els ts)
  | [], l => match l with | [] => .leaf () | _ :: _ => .fail
  | t :: r, l => match l with
    | w :: q => (Tree.ofO (as? t w)).bind fun x => (unPs r q).bind fun y => .leaf (mkE r x y)
    | [] => .fail
theorem unPs_eq : ∀ (ts : List Ty) (l : List W) (x : Els ts), (unP.unPs ts l).den = some x → l.map cW = (compsW ts x).map cW
  | [], l, x, h => by
    cases l with
    | nil => rfl
    | cons a r => cases h
  | t :: r, l, x, h => by
    cases l with
    | nil => cases h
    | cons w q =>
      have h : ((Tree.ofO (as? t w)).bind fun x => (unP.unPs r q).bind fun y => Tree.leaf (mkE r x y)).den = some x := h
      simp only [Tree.den_bind, Tree.den_ofO, Tree.den_leaf] at h
      obtain ⟨a, h1, b, h2, rfl⟩ := h
      simp only [List.map_cons, compsW, hd_mk, tl_mk]
      rw [unPs_eq r q b h2, as?_eq h1]
      rfl
theorem unP_eq : ∀ (ts : List Ty) (w : W) (x : Els ts), (unP ts w).den = some x → cW w = cW (pckP ts x)
  | [], w, x, h => by
    have h : (match w with | .tup [] => Tree.leaf () | _ => Tree.fail).den = some x := h
    split at h
    · rfl
    · cases h
  | [t], w, x, h => by
    exact as?_eq ((Tree.den_ofO (as? t w) x).1 h)
  | t :: u :: r, w, x, h => by
    cases w with
    | tup l =>
      have h : (unP.unPs (t :: u :: r) l).den = some x := h
      have := unPs_eq _ _ _ h
      show MV.tup (cWs l) = MV.tup (cWs (compsW (t :: u :: r) x))
      rw [cWs_map, cWs_map, this]
    | _ => cases h
def hintRes : List Ty → Option Ty
  | [t] => some t
  | ts => some (.agg ts)
/-- a function with pure arguments and results -/
noncomputable def runP (C : Call2) (hint : Nat → Option Ty) (F : MFun) (as ts : List Ty) (fl : Bool) (x : Els as) : Tree (Els ts) :=
  (enter C hint (hintRes ts) F (compsW as x, [])).bind fun r => if fl && !flatR r then .fail else (purify2 (hintRes ts) r).bind fun w => unP ts w
theorem runP_ok {Φ : Tbl} {Γ : Env2} (hΓ : Γ.Ok Φ) {hint : Nat → Option Ty} {f : Nat} {F : MFun} (hF : Φ f = some (.code F)) {as ts : List Ty} {fl : Bool} {fn : Els as → Option (Els ts)}
    (h : ∀ x, (runP (call2 Γ) hint F as ts fl x).den = fn x) : PgOk Φ ⟨f, as, ts, fl, fn⟩ := by
  intro x r hr
  have e : (runP (call2 Γ) hint F as ts fl x).den = some r := (h x).trans hr
  simp only [runP, Tree.den_bind] at e
  obtain ⟨q, h1, e⟩ := e
  have hk := enter_eq (call2_eq hΓ) hF h1
  split at e
  · simp at e
  · rename_i hfl
    simp only [Tree.den_bind] at e
    obtain ⟨w, h2, h3⟩ := e
    obtain ⟨fr, p1, p2⟩ := purify2_eq h2
    refine ⟨fr, ?_, fun h => p2 ?_⟩
    · have hk' : KI Φ f ((encs as x).map .p) [] = some (cRet q) := by
        rw [← compsW_eq, ← cWs_map]
        exact hk
      show purify (KI Φ f ((encs as x).map .p) []) = _
      rw [hk', p1, unP_eq ts w r h3]
    · have h : fl = true := h
      subst h
      cases hq : flatR q with
      | true => rfl
      | false => rw [hq] at hfl; exact absurd rfl hfl
/-- a function whose arguments or results are owned memory -/
theorem runS_ok {Φ : Tbl} {Γ : Env2} (hΓ : Γ.Ok Φ) {hint : Nat → Option Ty} {u : Option Ty} {f : Nat} {F : MFun} (hF : Φ f = some (.code F)) {I : Gen cIn} {O : Gen cRet} {fn : I.A → Option O.A}
    (h : ∀ a, ((enter (call2 Γ) hint u F (I.mk a)).bind O.un).den = fn a) : SgOk Φ ⟨f, I, O, fn⟩ := by
  intro a r hr
  have e := (h a).trans hr
  rw [Tree.den_bind] at e
  obtain ⟨x, h1, h2⟩ := e
  show KI Φ f (cIn (I.mk a)).1 (cIn (I.mk a)).2 = some (cRet (O.mk r))
  rw [enter_eq (call2_eq hΓ) hF h1, O.law x r h2]
/-! ### types of the program -/
def tyOf (P : Program) : Nat → TypeId → Option Ty
  | 0, _ => none
  | n + 1, t => match P.underlying t with
    | some (.int k) => some (.int k)
    | some .bool => some .bool
    | some .string => some .str
    | some (.slice e) => match tyOf P n e with | some u => some (.sl u) | none => none
    | some (.pointer e) => match tyOf P n e with | some u => some (.ref u) | none => none
    | some (.struct fs) => match seqO (fs.toList.map fun f => tyOf P n f.type) with | some l => some (.agg l) | none => none
    | some (.tuple es) => match seqO (es.toList.map fun e => tyOf P n e) with | some l => some (.agg l) | none => none
    | some (.array k e) => match tyOf P n e with | some u => some (.agg (List.replicate k u)) | none => none
    | some (.map k e) => match tyOf P n k, tyOf P n e with | some u, some v => some (.mp u v) | _, _ => none
    | some (.func ..) => some .nilf
    | _ => none
mutual
def toMem : Ty → Ty
  | .sl t => .vec (Ty.cs t) (toMem t)
  | .agg ts => .agg (toMems ts)
  | t => t
def toMems : List Ty → List Ty
  | [] => []
  | t :: r => toMem t :: toMems r
end
def memTop : Ty → Ty
  | .sl t => .sl (toMem t)
  | .ref t => .ref (toMem t)
  | t => toMem t
def opsOf : Code → List Oper
  | .region _ o _ => o.toList
  | .seq a b => opsOf a ++ opsOf b
  | .cond _ a b => opsOf a ++ opsOf b
  | .block _ c => opsOf c
  | .loop c => opsOf c
  | _ => []
def hintOf (P : Program) (mem : List Nat) (fn : Func) (d : Nat) : Option Ty :=
  match (match fn.body with | some c => opsOf c | none => []).find? (fun o : Oper => o.dst == some d) with
  | some o => match (match o.op with
      | .alloc t => match tyOf P 12 t with | some u => some (Ty.ref u) | none => none
      | .box t _ => match tyOf P 12 t with | some u => some (Ty.ref u) | none => none
      | _ => tyOf P 12 o.type) with
    | some t => some (if mem.contains d then memTop t else t)
    | none => none
  | none => none
structure FnAnn where
  f : Nat
  a : Ann
  mem : List Nat := []
  pr : Option Prim := none
def findA (f : Nat) : List FnAnn → Option FnAnn
  | [] => none
  | x :: r => if f == x.f then some x else findA f r
def tabOf (P : Program) (anns : List FnAnn) : Tbl := fun f => match findA f anns, P.funcs[f]? with
  | some A, some fn => match A.pr with
    | some p => some (.prim p)
    | none => if fn.name == "runtime.NumGoroutine" then none else match funC P A.a fn with | some F => some (.code F) | none => none
  | _, _ => none
theorem findA_mem {f : Nat} : ∀ {l : List FnAnn} {A : FnAnn}, findA f l = some A → A ∈ l ∧ A.f = f
  | x :: r, A, h => by
    simp only [findA] at h
    split at h
    · rename_i hx
      cases h
      exact ⟨by simp, by simpa using (eq_comm.1 (beq_iff_eq.1 hx))⟩
    · obtain ⟨h1, h2⟩ := findA_mem h
      exact ⟨by simp [h1], h2⟩
def primsOf (anns : List FnAnn) : List (Nat × Prim) := anns.filterMap fun A => A.pr.map fun p => (A.f, p)
theorem tabOf_ok {P : Program} (hm : P.follows .mixedOrders = true) (anns : List FnAnn) (hp : ∀ x ∈ primsOf anns, PrimOk P x.1 x.2) : TblOk P (tabOf P anns) where
  mix := hm
  code := by
    intro f F h
    unfold tabOf at h
    split at h
    · rename_i A fn h1 h2
      split at h
      · cases h
      · split at h
        · cases h
        · rename_i hn
          split at h
          · rename_i F' hF
            simp only [Option.some.injEq, FnDef.code.injEq] at h
            subst h
            exact ⟨fn, A.a, h2, by simpa using hn, hF⟩
          · cases h
    · cases h
  prim := by
    intro f p h
    unfold tabOf at h
    split at h
    · rename_i A fn h1 h2
      split at h
      · rename_i q hpr
        simp only [Option.some.injEq, FnDef.prim.injEq] at h
        subst h
        obtain ⟨m1, m2⟩ := findA_mem h1
        have := hp (A.f, q) (List.mem_filterMap.2 ⟨A, m1, by rw [hpr]; rfl⟩)
        rw [m2] at this
        exact this
      · split at h
        · cases h
        · split at h
          · cases h
          · cases h
    · cases h
def codeOf (P : Program) (anns : List FnAnn) (f : Nat) : MFun := match tabOf P anns f with | some (.code F) => F | _ => default
def hasCode (P : Program) (anns : List FnAnn) (f : Nat) : Bool := match tabOf P anns f with | some (.code _) => true | _ => false
theorem codeOf_ok {P : Program} {anns : List FnAnn} {f : Nat} (h : hasCode P anns f = true) : tabOf P anns f = some (.code (codeOf P anns f)) := by
  unfold hasCode at h
  unfold codeOf
  split at h
  · rename_i F hF; rw [hF]
  · cases h
def hintF (P : Program) (anns : List FnAnn) (f : Nat) : Nat → Option Ty := hintOf P (match findA f anns with | some A => A.mem | none => []) ((P.funcs[f]?).getD default)
noncomputable def treeP (P : Program) (anns : List FnAnn) (Γ : Env2) (f : Nat) (as ts : List Ty) (fl : Bool) (x : Els as) : Option (Els ts) :=
  (runP (call2 Γ) (hintF P anns f) (codeOf P anns f) as ts fl x).den
theorem treeP_ok {P : Program} {anns : List FnAnn} {Γ : Env2} (hΓ : Γ.Ok (tabOf P anns)) {f : Nat} (hc : hasCode P anns f = true) {as ts : List Ty} {fl : Bool} {fn : Els as → Option (Els ts)}
    (h : ∀ x, treeP P anns Γ f as ts fl x = fn x) : PgOk (tabOf P anns) ⟨f, as, ts, fl, fn⟩ := runP_ok hΓ (codeOf_ok hc) h
noncomputable def treeS (P : Program) (anns : List FnAnn) (Γ : Env2) (f : Nat) (u : Option Ty) (I : Gen cIn) (O : Gen cRet) (a : I.A) : Option O.A :=
  ((enter (call2 Γ) (hintF P anns f) u (codeOf P anns f) (I.mk a)).bind O.un).den
theorem treeS_ok {P : Program} {anns : List FnAnn} {Γ : Env2} (hΓ : Γ.Ok (tabOf P anns)) {f : Nat} (hc : hasCode P anns f = true) (u : Option Ty) {I : Gen cIn} {O : Gen cRet} {fn : I.A → Option O.A}
    (h : ∀ a, treeS P anns Γ f u I O a = fn a) : SgOk (tabOf P anns) ⟨f, I, O, fn⟩ := runS_ok hΓ (codeOf_ok hc) h
/-! ### short words for the printed texts -/
abbrev W.d (t : Ty) : W := .v t (dflt t)
abbrev SL.d (s : Nat) (t : Ty) : SL := .base s t []
abbrev T2.d (s : Nat) (t : Ty) : T2 := .e s t (dflt t)
theorem pnil {Φ : Tbl} : ∀ S ∈ ([] : List Pg), PgOk Φ S := fun _ h => by cases h
theorem pcons {Φ : Tbl} {S : Pg} {l : List Pg} (h : PgOk Φ S) (r : ∀ T ∈ l, PgOk Φ T) : ∀ T ∈ S :: l, PgOk Φ T := fun T hT => (List.mem_cons.1 hT).elim (fun e => e ▸ h) (r T)
theorem okE {Φ : Tbl} {ps : List Pg} {ss : List Sg} (h1 : ∀ S ∈ ps, PgOk Φ S) (h2 : SgsOk Φ ss) : Env2.Ok Φ ⟨ps, ss⟩ := ⟨h1, h2⟩
end Go.Mid
/- A law's arguments, read as data, are typed values within their ranges. -/
namespace Go.Mid
set_option linter.unusedSimpArgs false
set_option linter.unusedVariables false
open Go.RowKit
mutual
/-- within the ranges: integers of their kinds, lengths that Go has -/
def WfE : (t : Ty) → El t → Prop
  | .int k, x => (Lit.int k x).wf = true
  | .str, s => ByteArray.size s ≤ maxLen
  | .sl t, l => List.length (α := El t) l ≤ maxLen ∧ ∀ x ∈ (show List (El t) from l), WfE t x
  | .agg ts, x => WfEs ts x
  | .bool, _ => True
  | .ref _, _ => True
  | .fn _ _, _ => True
  | .mp _ _, _ => True
  | .nilp, _ => True
  | .nilf, _ => True
  | .vec _ _, _ => True
def WfEs : (ts : List Ty) → Els ts → Prop
  | [], _ => True
  | t :: r, x => WfE t (hdE r x) ∧ WfEs r (tlE r x)
end
theorem list_form {t : Ty} {Q : PV → Prop} (h : ∀ v, Q v → ∃ x : El t, v = enc t x ∧ WfE t x) : ∀ l : List PV, (∀ v ∈ l, Q v) → ∃ m : List (El t), l = m.map (enc t) ∧ ∀ x ∈ m, WfE t x
  | [], _ => ⟨[], rfl, fun x hx => by cases hx⟩
  | v :: r, hq => by
    obtain ⟨x, hx, hw⟩ := h v (hq v (by simp))
    obtain ⟨m, hm, hr⟩ := list_form h r (fun u hu => hq u (by simp [hu]))
    refine ⟨x :: m, by simp [hx, hm], fun y hy => ?_⟩
    rcases List.mem_cons.1 hy with rfl | hy
    · exact hw
    · exact hr y hy
theorem seqO_cons {α : Type} {x : Option α} {r : List (Option α)} {l : List α} (h : seqO (x :: r) = some l) : ∃ a q, x = some a ∧ seqO r = some q ∧ l = a :: q := by
  cases x with
  | none => cases h
  | some a =>
    cases hr : seqO r with
    | none => simp only [seqO, hr] at h; cases h
    | some q => simp only [seqO, hr, Option.some.injEq] at h; exact ⟨a, q, rfl, rfl, h.symm⟩
theorem hasT_form (P : Program) : ∀ (n : Nat) (t : TypeId) (v : PV) (T : Ty), tyOf P n t = some T → HasT P t v → ∃ x : El T, v = enc T x ∧ WfE T x
  | 0, t, v, T, h, _ => by cases h
  | n + 1, t, v, T, h, hv => by
    cases hv with
    | int hu hw =>
      simp only [tyOf, hu, Option.some.injEq] at h
      subst h
      exact ⟨_, rfl, hw⟩
    | bool hu =>
      simp only [tyOf, hu, Option.some.injEq] at h
      subst h
      exact ⟨_, rfl, trivial⟩
    | str hu hw =>
      simp only [tyOf, hu, Option.some.injEq] at h
      subst h
      exact ⟨_, rfl, hw⟩
    | @sl _ e l hu hw hel =>
      simp only [tyOf, hu] at h
      cases he : tyOf P n e with
      | none => rw [he] at h; cases h
      | some U =>
        rw [he] at h
        simp only [Option.some.injEq] at h
        subst h
        obtain ⟨m, hm, hr⟩ := list_form (Q := HasT P e) (fun v hv => hasT_form P n e v U he hv) l hel
        subst hm
        exact ⟨m, rfl, by simpa using hw, hr⟩
    | @agg _ fs l hu hw hel =>
      simp only [tyOf, hu] at h
      cases hs : seqO (fs.toList.map fun f => tyOf P n f.type) with
      | none => rw [hs] at h; cases h
      | some Ts =>
        rw [hs] at h
        simp only [Option.some.injEq] at h
        subst h
        have key : ∀ (gs : List Field) (Us : List Ty) (q : List PV), seqO (gs.map fun f => tyOf P n f.type) = some Us → q.length = gs.length →
            (∀ (i : Nat) (f : Field) (x : PV), gs[i]? = some f → q[i]? = some x → HasT P f.type x) → ∃ x : Els Us, q = encs Us x ∧ WfEs Us x := by
          intro gs
          induction gs with
          | nil =>
            intro Us q h1 h2 _
            simp only [List.map_nil, seqO, Option.some.injEq] at h1
            subst h1
            cases q with
            | nil => exact ⟨(), rfl, trivial⟩
            | cons a b => simp at h2
          | cons g gs ih =>
            intro Us q h1 h2 h3
            rw [List.map_cons] at h1
            obtain ⟨U, Us', e1, e2, rfl⟩ := seqO_cons h1
            cases q with
            | nil => simp at h2
            | cons a b =>
              obtain ⟨x, hx, hwx⟩ := hasT_form P n g.type a U e1 (h3 0 g a rfl rfl)
              obtain ⟨y, hy, hwy⟩ := ih Us' b e2 (by simpa using h2) (fun i f z hf hz => h3 (i + 1) f z (by simpa using hf) (by simpa using hz))
              refine ⟨mkE Us' x y, ?_, ?_⟩
              · simp only [encs, hd_mk, tl_mk, hx, hy]
              · simp only [WfEs, hd_mk, tl_mk]
                exact ⟨hwx, hwy⟩
        obtain ⟨x, hx, hwx⟩ := key fs.toList Ts l hs (by simpa using hw) (fun i f z hf hz => hel i f z (by simpa using hf) hz)
        exact ⟨x, by rw [hx]; rfl, hwx⟩
    | @arr _ e k l hu hw hel =>
      simp only [tyOf, hu] at h
      cases he : tyOf P n e with
      | none => rw [he] at h; cases h
      | some U =>
        rw [he] at h
        simp only [Option.some.injEq] at h
        subst h
        have key : ∀ (k : Nat) (q : List PV), q.length = k → (∀ x ∈ q, HasT P e x) → ∃ x : Els (List.replicate k U), q = encs (List.replicate k U) x ∧ WfEs (List.replicate k U) x := by
          intro k
          induction k with
          | zero =>
            intro q h1 _
            have : q = [] := List.eq_nil_of_length_eq_zero h1
            subst this
            exact ⟨(), rfl, trivial⟩
          | succ k ih =>
            intro q h1 h2
            cases q with
            | nil => simp at h1
            | cons a b =>
              obtain ⟨x, hx, hwx⟩ := hasT_form P n e a U he (h2 a (by simp))
              obtain ⟨y, hy, hwy⟩ := ih b (by simpa using h1) (fun z hz => h2 z (by simp [hz]))
              refine ⟨mkE (List.replicate k U) x y, ?_, ?_⟩
              · show a :: b = encs (U :: List.replicate k U) _
                simp only [encs, hd_mk, tl_mk, hx, hy]
              · show WfEs (U :: List.replicate k U) _
                simp only [WfEs, hd_mk, tl_mk]
                exact ⟨hwx, hwy⟩
        obtain ⟨x, hx, hwx⟩ := key k l hw hel
        exact ⟨x, by rw [hx]; rfl, hwx⟩
end Go.Mid
/- Loops over lists in plain Lean; from what a law's function computes to the law's run. -/
namespace Go.Mid
set_option linter.unusedSimpArgs false
set_option linter.unusedVariables false
/-! ### loops -/
section
variable {A B S α : Type} {f : A → Option (A ⊕ B)}
theorem loopI_l {a b : A} (h : f a = some (.inl b)) : loopI f a = loopI f b := by rw [loopI_eq, h]
theorem loopI_r {a : A} {r : B} (h : f a = some (.inr r)) : loopI f a = some r := by rw [loopI_eq, h]
/-- a loop over a list: a step, and what is done behind the end -/
def runL (step : Nat → S → α → Option (S ⊕ B)) (fin : S → Option B) : List α → Nat → S → Option B
  | [], _, s => fin s
  | x :: r, i, s => match step i s x with
    | none => none
    | some (.inl t) => runL step fin r (i + 1) t
    | some (.inr b) => some b
theorem loop_list' (l : List α) (st : Nat → S → A) (step : Nat → S → α → Option (S ⊕ B)) (fin : S → Option B)
    (h1 : ∀ i (h : i < l.length) s, f (st i s) = (step i s l[i]).map (Sum.map (st (i + 1)) id)) (h2 : ∀ s, f (st l.length s) = (fin s).map .inr) :
    ∀ (r : List α) (i : Nat) (s : S), l.drop i = r → i ≤ l.length → loopI f (st i s) = runL step fin r i s
  | [], i, s, hd, hi => by
    have : i = l.length := by
      have := congrArg List.length hd
      simp at this; omega
    subst this
    rw [loopI_eq, h2]
    simp only [runL]
    cases fin s <;> rfl
  | x :: r, i, s, hd, hi => by
    have hi' : i < l.length := by
      have := congrArg List.length hd
      simp at this; omega
    have hx : l[i] = x ∧ l.drop (i + 1) = r := by
      rw [List.drop_eq_getElem_cons hi'] at hd
      exact List.cons.inj hd
    rw [loopI_eq, h1 i hi' s, hx.1]
    simp only [runL]
    cases step i s x with
    | none => rfl
    | some q => cases q with
      | inl t => exact loop_list' l st step fin h1 h2 r (i + 1) t hx.2 hi'
      | inr b => rfl
theorem loop_listI (l : List α) (st : Nat → S → A) (step : Nat → S → α → Option (S ⊕ B)) (fin : S → Option B)
    (h1 : ∀ i (h : i < l.length) s, f (st i s) = (step i s l[i]).map (Sum.map (st (i + 1)) id)) (h2 : ∀ s, f (st l.length s) = (fin s).map .inr) (s : S) : loopI f (st 0 s) = runL step fin l 0 s :=
  loop_list' l st step fin h1 h2 l 0 s rfl (Nat.zero_le _)
def findAt (p : Nat → α → Bool) : List α → Nat → Option Nat
  | [], _ => none
  | x :: r, i => if p i x then some i else findAt p r (i + 1)
/-- a search: it leaves at the first element with a property -/
theorem loop_findI (l : List α) (st : Nat → A) (p : Nat → α → Bool) (b : Nat → B) (e : B)
    (h1 : ∀ i (h : i < l.length), f (st i) = if p i l[i] then some (.inr (b i)) else some (.inl (st (i + 1)))) (h2 : f (st l.length) = some (.inr e)) :
    loopI f (st 0) = some (match findAt p l 0 with | some i => b i | none => e) := by
  have h := loop_listI (f := f) (S := Unit) l (fun i _ => st i) (fun i _ x => if p i x then some (.inr (b i)) else some (.inl ())) (fun _ => some e)
    (fun i h s => by rw [h1 i h]; split <;> rfl) (fun s => by rw [h2]; rfl) ()
  rw [h]
  have : ∀ (l : List α) (i : Nat), runL (S := Unit) (fun i _ x => if p i x then some (.inr (b i)) else some (.inl ())) (fun _ => some e) l i () = some (match findAt p l i with | some i => b i | none => e) := by
    intro l
    induction l with
    | nil => intro i; rfl
    | cons x r ih =>
      intro i
      by_cases hp : p i x = true
      · simp [runL, findAt, hp]
      · simp only [runL, findAt, hp, ih]; rfl
  exact this l 0
theorem findAt_any (q : α → Bool) : ∀ (l : List α) (i : Nat), (findAt (fun _ x => q x) l i).isSome = l.any q
  | [], _ => rfl
  | x :: r, i => by
    simp only [findAt, List.any_cons]
    by_cases h : q x = true
    · simp [h]
    · simp only [h]; simp [findAt_any q r (i + 1)]
/-- a test whether an element with a property occurs -/
theorem loop_anyP (l : List α) (st : Nat → A) (q : α → Bool) (b e : B)
    (h1 : ∀ i (h : i < l.length), f (st i) = if q l[i] then some (.inr b) else some (.inl (st (i + 1)))) (h2 : f (st l.length) = some (.inr e)) :
    loopI f (st 0) = some (if l.any q then b else e) := by
  rw [loop_findI l st (fun _ x => q x) (fun _ => b) e h1 h2, ← findAt_any q l 0]
  cases findAt (fun _ x => q x) l 0 <;> rfl
end
/-! ### numbers -/
theorem wrap_i64 {x : Int} (h1 : -9223372036854775808 ≤ x) (h2 : x ≤ 9223372036854775807) : IntKind.i64.wrap x = x := by
  simp only [IntKind.wrap, IntKind.bits, IntKind.signed]
  simp
  omega
theorem wrap_i64s {n : Nat} (h : n < 9223372036854775807) : IntKind.i64.wrap ((n : Int) + 1) = ((n + 1 : Nat) : Int) := by rw [wrap_i64 (by omega) (by omega)]; rfl
/-! ### laws -/
theorem hasTs_form (P : Program) (n : Nat) : ∀ (ts : List TypeId) (Us : List Ty) (vs : List PV), seqO (ts.map (tyOf P n)) = some Us → HasTs P ts vs → ∃ x : Els Us, vs = encs Us x ∧ WfEs Us x
  | [], Us, vs, h, hv => by
    simp only [List.map_nil, seqO, Option.some.injEq] at h
    subst h
    cases vs with
    | nil => exact ⟨(), rfl, trivial⟩
    | cons a b => cases hv
  | t :: ts, Us, vs, h, hv => by
    rw [List.map_cons] at h
    obtain ⟨U, Us', e1, e2, rfl⟩ := seqO_cons h
    cases vs with
    | nil => cases hv
    | cons a b =>
      have ha : HasT P t a := by cases hv; assumption
      have hb : HasTs P ts b := by cases hv; assumption
      obtain ⟨x, rfl, hwx⟩ := hasT_form P n t a U e1 ha
      obtain ⟨y, rfl, hwy⟩ := hasTs_form P n ts Us' b e2 hb
      refine ⟨mkE Us' x y, ?_, ?_⟩
      · simp only [encs, hd_mk, tl_mk]
      · simp only [WfEs, hd_mk, tl_mk]
        exact ⟨hwx, hwy⟩
/-- a law's run, from what its function computes -/
theorem law_hrun {P : Program} {Φ : Tbl} {k : Nat} {ts : List TypeId} {Us : List Ty} (hty : seqO (ts.map (tyOf P 12)) = some Us) {I : Gen cIn} {O : Gen cRet} {g : I.A → Option O.A} (hS : SgOk Φ ⟨k, I, O, g⟩)
    (hrun : ∀ x : Els Us, WfEs Us x → ∃ a r, cIn (I.mk a) = ((encs Us x).map .p, []) ∧ g a = some r ∧ cRet (O.mk r) = (.p (.bool true), [], [])) :
    ∀ vs : List PV, HasTs P ts vs → ∃ n, callF Φ (run Φ n) k (vs.map .p) [] = some (.p (.bool true), [], []) := by
  intro vs hvs
  obtain ⟨x, rfl, hw⟩ := hasTs_form P 12 ts Us vs hty hvs
  obtain ⟨a, r, h1, h2, h3⟩ := hrun x hw
  have h := hS a r h2
  simp only at h
  rw [h1, h3] at h
  exact KI_fin h
/-- a function without arguments whose run is known -/
theorem pg_run {Φ : Tbl} {f : Nat} (n : Nat) (h : callF Φ (run Φ n) f [] [] = some (.p (.bool true), [], [])) : PgOk Φ ⟨f, [], [.bool], true, fun _ => some true⟩ := by
  intro x r hr
  have hr : some true = some r := hr
  cases hr
  refine ⟨true, ?_, fun _ => rfl⟩
  show purify (KI Φ f ([].map .p) []) = _
  rw [List.map_nil, KI_le n _ _ _ _ h]
  rfl
end Go.Mid
/- slices.Clone: its contract, by hand (the test for nil asks more than values). -/
namespace Go.Mid
set_option linter.unusedSimpArgs false
set_option linter.unusedVariables false
open Go.RowKit
variable {P : Program}
def cloneB : Ann := { keep := [([2], [2]), ([2], [5])], mt := [5] }
def noTbl : Tbl := fun _ => none
theorem noTbl_ok (hmix : P.follows .mixedOrders = true) : TblOk P noTbl := ⟨hmix, fun _ _ h => (by cases h), fun _ _ h => (by cases h)⟩
def cloneC1 (z : Nat) : MC := .reg [] [⟨some 2, none, .nilv z⟩]
def cloneC2 (z : Nat) : MC := .seq (.reg [] [⟨some 2, none, .nilv z⟩]) (.seq (.gh (.keep [2] [2])) .ret)
def cloneC3 (z b : Nat) : MC := .seq (.reg [] [⟨some 5, none, .bsl true z []⟩, ⟨some 6, none, .move (.t 0)⟩, ⟨some 7, none, .app false z b (.t 5) (.t 6)⟩, ⟨some 2, none, .move (.t 7)⟩]) (.seq (.gh (.keep [2] [5])) .ret)
theorem all_plain (l : List PV) : (l.map (T.p (α := Nat))).all plainT = true := by simp [plainT]
theorem all_cs (z : Nat) (l : List PV) (h : l.all (fun v => v.cs == z) = true) : csAll z (l.map (T.p (α := Nat))) = true := by
  simpa [csAll, T.cs] using h
theorem mapTs_p (φ : MV → MV) (ζ : Nat → Nat) (l : List PV) : mapTs φ ζ (l.map T.p) = l.map T.p := by
  induction l with
  | nil => rfl
  | cons x r ih => simp only [List.map_cons, mapTs, mapT, ih]
theorem clone_tk (h : Heap) (l : List PV) : takeElems h (.p (.sl l)) = some (l.map .p, h) := by
  unfold takeElems elems
  simp only [all_plain, if_true]
theorem clone_app (z b : Nat) (l : List PV) (h : Heap) (hz : l.all (fun v => v.cs == z) = true) (hb : l.length * b ≤ room) (h5 : h 5 = some (.vec 2 z [])) :
    appOp 4 (some 7) h z b (.own 5 [] 0 0 2) (.p (.sl l)) = some (.own 5 [] 0 l.length 4, upd h 5 (some (.vec 4 z (l.map .p)))) := by
  unfold appOp
  rw [clone_tk]
  simp only [all_cs z l hz, Bool.not_true, Bool.false_eq_true, if_false, if_true, h5, appRoot, List.length_map, Nat.zero_add, hb, List.length_nil, Nat.le_refl, and_self, stamps_p, List.take_nil, List.nil_append]
theorem clone_r3 (z b : Nat) (l : List PV) (s : Slots) (h : Heap) (h0 : s 0 = .p (.sl l)) (hz : l.all (fun v => v.cs == z) = true) (hb : l.length * b ≤ room) :
    ∃ σ, run noTbl 5 (cloneC3 z b) ⟨s, h, 2⟩ = some (.ret, σ) ∧ σ.s 2 = .own 5 [] 0 l.length 1 ∧ σ.h 5 = some (.vec 1 z (l.map .p)) := by
  have hreg : runReg (callF noTbl (run noTbl 3)) [] [⟨some 5, none, .bsl true z []⟩, ⟨some 6, none, .move (.t 0)⟩, ⟨some 7, none, .app false z b (.t 5) (.t 6)⟩, ⟨some 2, none, .move (.t 7)⟩] ⟨s, h, 2⟩ =
      some ⟨upd (upd (upd (upd s 5 (.own 5 [] 0 0 2)) 6 (.p (.sl l))) 7 (.own 5 [] 0 l.length 4)) 2 (.own 5 [] 0 l.length 4), upd (upd h 5 (some (.vec 2 z []))) 5 (some (.vec 4 z (l.map .p))), 6⟩ := by
    have e1 : evalOp (callF noTbl (run noTbl 3)) 2 (some 5) s h (.bsl true z []) = some (.own 5 [] 0 0 2, upd h 5 (some (.vec 2 z []))) := rfl
    have e2 : evalOp (callF noTbl (run noTbl 3)) 3 (some 6) (upd s 5 (.own 5 [] 0 0 2)) (upd h 5 (some (.vec 2 z []))) (.move (.t 0)) = some (.p (.sl l), upd h 5 (some (.vec 2 z []))) := by
      show some (upd s 5 (.own 5 [] 0 0 2) 0, _) = _
      rw [upd_other _ _ (by decide), h0]
    have e3 : evalOp (callF noTbl (run noTbl 3)) 4 (some 7) (upd (upd s 5 (.own 5 [] 0 0 2)) 6 (.p (.sl l))) (upd h 5 (some (.vec 2 z []))) (.app false z b (.t 5) (.t 6)) =
        some (.own 5 [] 0 l.length 4, upd (upd h 5 (some (.vec 2 z []))) 5 (some (.vec 4 z (l.map .p)))) := by
      show (match appOp 4 (some 7) (upd h 5 (some (.vec 2 z []))) z b (.own 5 [] 0 0 2) (.p (.sl l)) with
        | some (MV.own id [] off len g1, h1) => if false = true then (match pureM h1 (.own id [] off len g1) with | some v => some (MV.p v, upd h1 id (some .gone)) | none => none) else some (MV.own id [] off len g1, h1)
        | _ => none) = _
      rw [clone_app z b l _ hz hb (upd_same _ _ _)]
      rfl
    simp only [runReg, stepAll, stepIns, wantedM, e1, updo, e2, e3]
    rfl
  have hr : run noTbl 4 (.reg [] [⟨some 5, none, .bsl true z []⟩, ⟨some 6, none, .move (.t 0)⟩, ⟨some 7, none, .app false z b (.t 5) (.t 6)⟩, ⟨some 2, none, .move (.t 7)⟩]) ⟨s, h, 2⟩ = some (.normal, ⟨upd (upd (upd (upd s 5 (.own 5 [] 0 0 2)) 6 (.p (.sl l))) 7 (.own 5 [] 0 l.length 4)) 2 (.own 5 [] 0 l.length 4), upd (upd h 5 (some (.vec 2 z []))) 5 (some (.vec 4 z (l.map .p))), 6⟩) := by
    show (match runReg _ _ _ _ with | some σ' => some (Ex.normal, σ') | none => none) = _
    rw [hreg]
  refine ⟨forget [2] [5] ⟨upd (upd (upd (upd s 5 (.own 5 [] 0 0 2)) 6 (.p (.sl l))) 7 (.own 5 [] 0 l.length 4)) 2 (.own 5 [] 0 l.length 4), upd (upd h 5 (some (.vec 2 z []))) 5 (some (.vec 4 z (l.map .p))), 6⟩, ?_, ?_, ?_⟩
  · show (match run noTbl 4 _ _ with | some (.normal, σ') => run noTbl 4 (.seq (.gh (.keep [2] [5])) .ret) σ' | r => r) = _
    rw [hr]
    rfl
  · simp [forget, keepB, keepIds, cleanM, okOwn, vecAt, touched, upd]
  · simp [forget, keepB, keepIds, upd, mapO, mapTs_p, touched]
theorem clone_r2 (z : Nat) (s : Slots) (h : Heap) : ∃ σ, run noTbl 5 (cloneC2 z) ⟨s, h, 2⟩ = some (.ret, σ) ∧ σ.s 2 = .own 2 [] 0 0 1 ∧ σ.h 2 = some (.vec 1 z []) := by
  refine ⟨_, rfl, ?_, ?_⟩
  · simp [forget, keepB, keepIds, cleanM, okOwn, vecAt, touched, updo, upd]
  · simp [forget, keepB, keepIds, upd, mapO, mapTs, touched]
theorem clone_fin (k z : Nat) (l : List PV) (σ : St) (mc : MC) (hk : k < extBase) (h1 : σ.s 2 = .own k [] 0 l.length 1) (h2 : σ.h k = some (.vec 1 z (l.map .p))) :
    finish ⟨mc, [.tmp 2], false⟩ 0 σ = some (.own escBase [] 0 l.length 1, [], [.vec 1 z (l.map .p)]) := by
  have hr : refsO (σ.h k) = [] := by rw [h2]; exact refsTs_p l
  have r1 : roots1 σ.h [k] = [k] := by
    simp only [roots1, List.flatMap_cons, List.flatMap_nil, hr, List.append_nil]
    rfl
  have e1 : readAll σ.s σ.h [.tmp 2] = some [.own k [] 0 l.length 1] := by simp [readAll, readRes, h1]
  have e2 : [k].filter isLocal = [k] := by simp only [List.filter, isLocal, decide_eq_true hk]
  have e3 : getAll σ.h [k] = some [.vec 1 z (l.map .p)] := by simp [getAll, h2]
  unfold finish
  rw [if_neg (by decide)]
  simp only [e1, packRes, refsM, List.range_zero, List.map_nil, List.append_nil, r1, e2, e3, getAll, Bool.false_eq_true, if_false]
  have e4 : outId 0 [k] k = some escBase := by
    unfold outId
    rw [if_neg (by omega)]
    simp [indexIn]
  have e5 : okOwn σ.h k [] 1 = true := by simp [okOwn, h2, vecAt]
  simp only [cleanM, e4, e5, if_true, List.map_cons, List.map_nil, mapO, mapTs_p]
  rfl
set_option maxHeartbeats 1000000 in
theorem clone_ok {f T E z b : Nat} {fn : Func} {i0 i1 i2 i3 : Nat} {o0 o2 o3 : Array Oper} {m q : Oper}
    (hmix : P.follows .mixedOrders = true) (hfn : P.funcs[f]? = some fn) (hname : (fn.name == "runtime.NumGoroutine") = false) (hnt : fn.ntmps = 8)
    (hbody : fn.body = some (.seq (.region i0 o0 false) (.seq (.seq (.region i1 #[m, q] false) (.cond (.tmp 4) (.seq (.region i2 o2 false) .ret) .skip)) (.seq (.region i3 o3 false) .ret))))
    (hm1 : m.op = .move (.tmp 0)) (hm2 : m.dst = some 3) (hm3 : m.guard = none)
    (hq1 : q.op = .binOp .eql T (.tmp 3) (.const (.slice none 0 0)) T) (hq2 : q.dst = some 4) (hq3 : q.guard = none)
    (hu : P.underlying T = some (.slice E))
    (c1 : codeC P cloneB 8 (.region i0 o0 false) 0 = some (cloneC1 z, 0))
    (c2 : codeC P cloneB 8 (.seq (.region i2 o2 false) .ret) 0 = some (cloneC2 z, 1))
    (c3 : codeC P cloneB 8 (.seq (.region i3 o3 false) .ret) 1 = some (cloneC3 z b, 2))
    (hres : ressC P 8 fn.results.toList = some [.tmp 2]) : PrimOk P f (.clone z b) := by
  intro args ext r ext' esc hp
  have hp0 : ∃ l, args = [.p (.sl l)] ∧ ext = [] := by
    cases ext with
    | cons e es => cases args with
      | nil => cases hp
      | cons a as => simp [primF] at hp
    | nil => cases args with
      | nil => cases hp
      | cons a as => cases as with
        | cons b bs => simp [primF] at hp
        | nil => cases a with
          | p v => cases v with
            | sl l => exact ⟨l, rfl, rfl⟩
            | _ => simp [primF] at hp
          | _ => simp [primF] at hp
  obtain ⟨l, rfl, rfl⟩ := hp0
  have hp : (if l.all (fun v => v.cs == z) && decide (l.length * b ≤ room) then some ((.own escBase [] 0 l.length 1 : MV), ([] : List (Obj Nat)), [Obj.vec 1 z (l.map .p)]) else none) = some (r, ext', esc) := hp
  · split at hp
    · rename_i hcond
      simp only [Bool.and_eq_true, decide_eq_true_eq] at hcond
      simp only [Option.some.injEq, Prod.mk.injEq] at hp
      obtain ⟨rfl, rfl, rfl⟩ := hp
      refine ⟨⟨fn, hfn, hname, by rw [hbody]; rfl⟩, ?_⟩
      intro w A Eh vals hgl hv hm
      have hT := noTbl_ok hmix
      simp only [MVvs] at hv
      obtain ⟨v, d, rfl, hv, rfl⟩ := hv
      obtain ⟨ad, cap, rfl, hcap, hel⟩ := MVv_sl.1 hv
      have hsim : Sim P w A Eh 8 ⟨argSlots [.p (.sl l)], extHeap [], 1⟩ { tmps := #[.slice ad l.length cap] ++ Array.replicate (fn.ntmps - 1) undef, defers := [] } := by
        have hle : S0.le (· < 1) := S0_le (Nat.le_refl 1)
        refine ⟨⟨fun i => ?_, hgl⟩, hm.mono hle, Nat.le_refl 1, rfl, ?_⟩
        · cases i with
          | zero =>
            have h2 : (#[Value.slice ad l.length cap] ++ Array.replicate (fn.ntmps - 1) undef).getD 0 undef = .slice ad l.length cap := by
              simp only [Array.getD_eq_getD_getElem?]
              rw [Array.getElem?_append_left (by simp)]
              rfl
            rw [h2]
            exact hv.frame (Fr.same w A Eh hle)
          | succ i =>
            show MVv w A Eh _ (.dead 0) _
            simp only [MVv]
        · rw [hnt]; simp
      have fin2 : ∀ (k : Nat) (σ : St) (a' : Act) (w' : World) (A' : Nat → Prop) (E' : HeapA An), k < extBase → σ.s 2 = .own k [] 0 l.length 1 → σ.h k = some (.vec 1 z (l.map .p)) → Sim P w' A' E' 8 σ a' → Go1 w A Eh S0 w' A' E' →
          bodyPost P fn (fun e w' => ∃ v, e = .returned v ∧ ∃ A' E' nx', MR w' A' E' (retHeap [] [.vec 1 z (l.map .p)]) nx' ∧ Go1 w A Eh S0 w' A' E' ∧ MVv w' A' E' nx' (.own escBase [] 0 l.length 1) v) .ret a' w' := by
        intro k σ a' w' A' E' hk h1 h2 k1 g1
        obtain ⟨v, hv1, A2, E2, nx2, q1, q2, q3⟩ := finish_sim k1 (fn := fn) (F := ⟨.skip, [.tmp 2], false⟩) (by rw [hnt]; exact hres) (clone_fin k z l σ .skip hk h1 h2)
        exact ⟨k1.df, v, hv1, v, rfl, A2, E2, nx2, q1, g1.trans q2 (Stp.le_refl _), q3⟩
      refine calls_of_wp hfn hbody ?_
      refine wp_seq ?_
      have hr1 : run noTbl 2 (cloneC1 z) ⟨argSlots [.p (.sl l)], extHeap [], 1⟩ = some (.normal, ⟨upd (argSlots [.p (.sl l)]) 2 (.own 2 [] 0 0 1), upd (extHeap []) 2 (some (.vec 1 z [])), 2⟩) := rfl
      refine run_ok hT 2 cloneB 8 _ 0 _ _ c1 _ _ _ hr1 _ _ w A Eh hsim ?_
      intro a1 w1 A1 E1 k1 g1
      have hs0 := k1.sl.sl 0
      have h00 : upd (argSlots [.p (.sl l)]) 2 (.own 2 [] 0 0 1) 0 = .p (.sl l) := rfl
      simp only [h00] at hs0
      obtain ⟨ad1, cap1, hv1, hcap1, hel1⟩ := MVv_sl.1 hs0
      refine wp_seq (wp_seq ?_)
      refine wp_region_list ?_
      refine wpList_plain hm3 fun K hK => ?_
      refine wp_of_value (val := .slice ad1 l.length cap1) (w' := w1) ?_ (hK _ _ ?_)
      · have : a1.eval (.tmp 0) = .slice ad1 l.length cap1 := hv1
        simp [execOp, hm1, this]
      refine wpList_plain hq3 fun K2 hK2 => ?_
      have hsz : 8 ≤ a1.tmps.size := k1.sz
      have hev : (a1.put m.dst (.slice ad1 l.length cap1)).eval (.tmp 3) = .slice ad1 l.length cap1 := by
        rw [hm2]
        have : 3 < a1.tmps.size := by omega
        simp [Act.put, Act.eval, this]
      refine wp_of_value (val := .bool ad1.isNone) (w' := w1) ?_ (hK2 _ _ ?_)
      · have h2 : (eqGuard .eql T (.tmp 3) (.const (.slice none 0 0)) (.slice ad1 l.length cap1) (.slice none 0 0)).run P w1 = .ok () w1 := by
          unfold eqGuard; simp
        simp [execOp, hq1, hev, eval_const, h2, Lib.run_eql_slice_nil w1 T E ad1 l.length cap1 0 0 hu]
      refine wpList_nil ?_
      show (Code.cond (.tmp 4) _ _).wp P _ _ _
      have k2 : Sim P w1 A1 E1 8 ⟨upd (upd (upd (argSlots [.p (.sl l)]) 2 (.own 2 [] 0 0 1)) 3 (.dead 1)) 4 (.p (.bool ad1.isNone)), upd (extHeap []) 2 (some (.vec 1 z [])), 2⟩ ((a1.put m.dst (.slice ad1 l.length cap1)).put q.dst (.bool ad1.isNone)) := by
        refine ⟨⟨fun i => ?_, k1.sl.gl⟩, k1.mr, k1.nx, ?_, ?_⟩
        · rw [hm2, hq2]
          show MVv w1 A1 E1 _ (upd (upd (upd (argSlots [.p (.sl l)]) 2 (.own 2 [] 0 0 1)) 3 (.dead 1)) 4 (.p (.bool ad1.isNone)) i) _
          by_cases h4 : i = 4
          · subst h4
            have : 4 < a1.tmps.size := by omega
            rw [upd_same]
            have : ((a1.put (some 3) (.slice ad1 l.length cap1)).put (some 4) (.bool ad1.isNone)).tmps.getD 4 undef = .bool ad1.isNone := by simp [Act.put, this]
            rw [this]
            exact MVv_bool.2 rfl
          · rw [upd_other _ _ h4]
            by_cases h3 : i = 3
            · subst h3
              rw [upd_same]
              simp only [MVv]
            · rw [upd_other _ _ h3]
              have : ((a1.put (some 3) (.slice ad1 l.length cap1)).put (some 4) (.bool ad1.isNone)).tmps.getD i undef = a1.tmps.getD i undef := by
                simp [Act.put, Array.getElem?_setIfInBounds_ne (Ne.symm h4), Array.getElem?_setIfInBounds_ne (Ne.symm h3)]
              rw [this]
              exact k1.sl.sl i
        · rw [hm2, hq2]; exact k1.df
        · rw [hm2, hq2]; simp [Act.put]; exact k1.sz
      have hc4 : ((a1.put m.dst (.slice ad1 l.length cap1)).put q.dst (.bool ad1.isNone)).eval (.tmp 4) = .bool ad1.isNone := by
        have : 4 < a1.tmps.size := by omega
        rw [hm2, hq2]
        simp [Act.put, Act.eval, this]
      cases had : ad1.isNone with
      | true =>
        have hl : l = [] := by
          rcases hel1 with h | ⟨b', o', z', h, _⟩
          · exact h
          · rw [h] at had; cases had
        subst hl
        rw [had] at hc4 k2
        refine wp_cond_true hc4 ?_
        obtain ⟨σ, q1, q2, q3⟩ := clone_r2 z (upd (upd (upd (argSlots [.p (.sl [])]) 2 (.own 2 [] 0 0 1)) 3 (.dead 1)) 4 (.p (.bool true))) (upd (extHeap []) 2 (some (.vec 1 z [])))
        refine run_ok hT 5 cloneB 8 _ 0 _ _ c2 _ _ _ q1 _ _ w1 A1 E1 k2 ?_
        intro a3 w3 A3 E3 k3 g3
        exact fin2 2 σ a3 w3 A3 E3 (by decide) q2 q3 k3 (g1.trans g3 (Stp.le_refl _))
      | false =>
        rw [had] at hc4 k2
        refine wp_cond_false hc4 (wp_skip ?_)
        show (Code.seq _ _).wp P _ _ _
        obtain ⟨σ, q1, q2, q3⟩ := clone_r3 z b l (upd (upd (upd (argSlots [.p (.sl l)]) 2 (.own 2 [] 0 0 1)) 3 (.dead 1)) 4 (.p (.bool false))) (upd (extHeap []) 2 (some (.vec 1 z []))) rfl hcond.1 hcond.2
        refine run_ok hT 5 cloneB 8 _ 1 _ _ c3 _ _ _ q1 _ _ w1 A1 E1 k2 ?_
        intro a3 w3 A3 E3 k3 g3
        exact fin2 5 σ a3 w3 A3 E3 (by decide) q2 q3 k3 (g1.trans g3 (Stp.le_refl _))
    · cases hp
end Go.Mid
/- slices.Clone on symbolic states. -/
namespace Go.Mid
set_option linter.unusedSimpArgs false
set_option linter.unusedVariables false
/-- what a copy gives: the length and the elements -/
def cloneL {α : Type} (b : Nat) (l : List α) : Option (List α) := bif Nat.ble (l.length * b) 140737488355328 then some l else none
theorem clone_prim (t : Ty) (z b : Nat) (hz : t.cs = z) (l : List (El t)) (h : Nat.ble (l.length * b) 140737488355328 = true) (ext : List (Obj Nat)) (he : ext = []) :
    primF (.clone z b) [.p (.sl (l.map (enc t)))] ext = some (.own escBase [] 0 l.length 1, [], [.vec 1 z ((l.map (enc t)).map .p)]) := by
  subst he
  have h1 : (l.map (enc t)).all (fun v => v.cs == z) = true := by
    rw [List.all_eq_true]
    intro v hv
    obtain ⟨x, _, rfl⟩ := List.mem_map.1 hv
    rw [enc_cs, hz]
    simp
  have h2 : (l.map (enc t)).length * b ≤ room := by
    rw [List.length_map]
    exact Nat.le_of_ble_eq_true h
  simp only [primF, h1, decide_eq_true h2, Bool.and_true, if_true]
  rw [List.length_map]
noncomputable def cloneP (f : Nat) (t : Ty) (b : Nat) (fl : Bool) : Pg := ⟨f, [.sl t], [.sl t], fl, fun l => cloneL (α := El t) b l⟩
theorem clone_purify (t : Ty) (z : Nat) (l : List (El t)) : purify (some (.own escBase [] 0 l.length 1, [], [.vec 1 z ((l.map (enc t)).map .p)])) =
    some (.p (.sl (l.map (enc t))), flatRef (.own escBase [] 0 l.length 1) && [Obj.vec 1 z ((l.map (enc t)).map T.p)].all flatO) := by
  have hh : escHeap [Obj.vec 1 z ((l.map (enc t)).map T.p)] escBase = some (Obj.vec 1 z ((l.map (enc t)).map T.p)) := by simp [escHeap, escBase]
  have hlen : ((l.map (enc t)).map (T.p (α := Nat))).length = l.length := by simp
  have hm : pureM (escHeap [Obj.vec 1 z ((l.map (enc t)).map T.p)]) (.own escBase [] 0 l.length 1) = some (.sl (l.map (enc t))) := by
    simp only [pureM, hh, vecAt, pureTs_map, Nat.zero_add, hlen, Nat.le_refl, and_self, if_true, List.drop_zero]
    rw [List.take_of_length_le (by simp)]
  simp only [purify, hm]
theorem flatTs_enc (t : Ty) (h : ∀ x : El t, flatP (enc t x) = true) : ∀ l : List (El t), flatTs ((l.map (enc t)).map (T.p (α := Nat))) = true
  | [] => rfl
  | a :: r => by simp only [List.map_cons, flatTs, flatT, h a, flatTs_enc t h r, Bool.and_true]
theorem cloneP_ok {Φ : Tbl} {f z b : Nat} {t : Ty} {fl : Bool} (hΦ : Φ f = some (.prim (.clone z b))) (hz : t.cs = z) (hf : fl = true → ∀ x : El t, flatP (enc t x) = true) : PgOk Φ (cloneP f t b fl) := by
  intro x r hr
  have main : ∀ l r : List (El t), cloneL (α := El t) b l = some r → ∃ fr, purify (KI Φ f [.p (.sl (l.map (enc t)))] []) = some (.p (.sl (r.map (enc t))), fr) ∧ (fl = true → fr = true) := by
    intro l r hr
    unfold cloneL at hr
    cases hb : Nat.ble (l.length * b) 140737488355328 with
    | false => rw [hb] at hr; cases hr
    | true =>
      rw [hb] at hr
      simp only [cond_true, Option.some.injEq] at hr
      subst hr
      refine ⟨flatRef (.own escBase [] 0 l.length 1) && [Obj.vec 1 z ((l.map (enc t)).map T.p)].all flatO, ?_, ?_⟩
      · rw [KI_prim hΦ, clone_prim t z b hz l hb [] rfl]
        exact clone_purify t z l
      · intro h
        simp only [flatRef, Bool.true_and, List.all_cons, List.all_nil, Bool.and_true, flatO]
        exact flatTs_enc t (hf h) l
  exact main x r hr
end Go.Mid
/- slices.Sort of numbers: the shelf's contract as a primitive of the middle semantics. -/
namespace Go.Mid
set_option linter.unusedSimpArgs false
set_option linter.unusedVariables false
open Go.RowKit
variable {P : Program}
/-- the same blocks, and perhaps more -/
theorem MR.more {w w' : World} {A : Nat → Prop} {E : HeapA An} {h : Heap} {nx : Stp} (m : MR w A E h nx) (hs : w.heap.size ≤ w'.heap.size) (hk : ∀ b, b < w.heap.size → w'.heap[b]? = w.heap[b]?) : MR w' A E h nx where
  er := m.er
  at_ := fun i o ho => (m.at_ i o ho).frame ⟨fun _ hb => hb, fun b hb => hk b (m.im b hb), NSt.refl _ _, Stp.le_refl _⟩ (fun x hx => hk x (m.lt x ⟨i, o, ho, hx⟩).1)
  lt := fun b hb => ⟨Nat.lt_of_lt_of_le (m.lt b hb).1 hs, (m.lt b hb).2⟩
  nd := m.nd
  dj := m.dj
  im := fun b hb => Nat.lt_of_lt_of_le (m.im b hb) hs
  st := m.st
theorem Go1.more {w w' : World} {A : Nat → Prop} {E : HeapA An} {nx : Stp} (h1 : w'.os = w.os) (h2 : w'.tape = w.tape) (h3 : w'.output = w.output) (hs : w.heap.size ≤ w'.heap.size) (hk : ∀ b, b < w.heap.size → w'.heap[b]? = w.heap[b]?) : Go1 w A E nx w' A E where
  os := h1
  tape := h2
  output := h3
  size := hs
  keep := fun b hb _ => hk b hb
  sub := fun _ hb => hb
  imm := fun _ _ hb => .inl hb
  own := fun _ _ hb => hb
  ns := NSt.refl _ _
/-! ### cells written one by one, and all at once -/
def setFrom : Nat → List Value → Array Value → Array Value
  | _, [], c => c
  | o, v :: r, c => setFrom (o + 1) r (c.setIfInBounds o v)
theorem setCells_map (b : Nat) : ∀ (vs : List Value) (o : Nat) (w : World), w.setCells b o vs = Sort.mapBlock w b (setFrom o vs)
  | [], o, w => by
    show w = Sort.mapBlock w b fun c => c
    unfold Sort.mapBlock
    have : Sort.onCells (fun c : Array Value => c) = id := by
      funext ob
      cases ob <;> rfl
    have hm : w.heap.modify b id = w.heap := by
      apply Array.ext_getElem?
      intro i
      rw [Array.getElem?_modify]
      split <;> simp
    rw [this, hm]
  | v :: r, o, w => by
    rw [World.setCells, setCells_map b r (o + 1), Sort.setCell_eq, Sort.mapBlock_mapBlock]
    rfl
theorem setFrom_get : ∀ (vs : List Value) (o : Nat) (c : Array Value) (k : Nat), (setFrom o vs c)[k]? = if o ≤ k ∧ k < o + vs.length ∧ k < c.size then vs[k - o]? else c[k]?
  | [], o, c, k => by
    have : ¬ (o ≤ k ∧ k < o + ([] : List Value).length ∧ k < c.size) := by simp; omega
    rw [if_neg this]; rfl
  | v :: r, o, c, k => by
    rw [setFrom, setFrom_get r (o + 1)]
    simp only [Array.size_setIfInBounds, List.length_cons]
    by_cases h1 : k = o
    · subst h1
      rw [if_neg (by omega)]
      by_cases h2 : k < c.size
      · rw [if_pos ⟨Nat.le_refl _, by omega, h2⟩]; simp [h2]
      · rw [if_neg (by omega)]; simp [h2]
    · by_cases h2 : o + 1 ≤ k ∧ k < o + 1 + r.length ∧ k < c.size
      · rw [if_pos h2, if_pos ⟨by omega, by omega, h2.2.2⟩]
        have : k - o = (k - (o + 1)) + 1 := by omega
        rw [this, List.getElem?_cons_succ]
      · rw [if_neg h2, if_neg (by omega), Array.getElem?_setIfInBounds_ne (by omega)]
theorem setFrom_ints (o : Nat) (zs : List Int) (c : Array Value) : setFrom o (zs.map (Value.int .i64)) c = Sort.putCells (Value.int .i64) o zs.toArray c := by
  apply Array.ext_getElem?
  intro k
  rw [setFrom_get]
  unfold Sort.putCells
  rw [Array.getElem?_mapIdx]
  by_cases hk : k < c.size
  · rw [Array.getElem?_eq_getElem hk]
    simp only [Option.map_some, List.size_toArray, List.length_map]
    by_cases h : o ≤ k ∧ k < o + zs.length
    · rw [if_pos ⟨h.1, h.2, hk⟩, if_pos h]
      have hlt : k - o < zs.length := by omega
      rw [List.getElem?_map, List.getElem?_eq_getElem hlt]
      simp [hlt]
    · rw [if_neg (by omega), if_neg h]
  · rw [Array.getElem?_eq_none (by omega)]
    rw [if_neg (by omega)]; rfl
theorem setCells_ints (w : World) (b o : Nat) (zs : List Int) : w.setCells b o (zs.map (Value.int .i64)) = Sort.putRow (Value.int .i64) w b o zs.toArray := by
  rw [setCells_map]
  unfold Sort.putRow
  congr 1
  funext c
  exact setFrom_ints o zs c
theorem asInts_eq : ∀ {vs : List PV} {zs : List Int}, asInts vs = some zs → vs = zs.map (PV.int .i64)
  | [], zs, h => by simp only [asInts, Option.some.injEq] at h; subst h; rfl
  | v :: r, zs, h => by
    cases v with
    | int k n =>
      cases k <;> simp only [asInts, reduceCtorEq] at h
      split at h
      · rename_i l hl
        simp only [Option.some.injEq] at h
        subst h
        rw [asInts_eq hl]; rfl
      · cases h
    | _ => simp [asInts] at h
theorem PVcs_ints {w : World} {A : Nat → Prop} : ∀ zs : List Int, PVcs w A (zs.map (PV.int .i64)) (zs.map (Value.int .i64))
  | [] => by simp [PVcs]
  | n :: r => by
    simp only [List.map_cons, PVcs]
    exact ⟨[.int .i64 n], r.map (Value.int .i64), rfl, by simp only [PVc], PVcs_ints r⟩
/-! ### the order -/
theorem insI_perm (x : Int) : ∀ l : List Int, (insI x l).Perm (x :: l)
  | [] => .refl _
  | y :: r => by
    unfold insI
    split
    · exact .refl _
    · exact ((insI_perm x r).cons y).trans (.swap x y r)
theorem sorted_perm : ∀ l : List Int, (sorted l).Perm l
  | [] => .refl _
  | x :: r => (insI_perm x _).trans ((sorted_perm r).cons x)
theorem insI_le (x : Int) : ∀ l : List Int, l.Pairwise (· ≤ ·) → (insI x l).Pairwise (· ≤ ·)
  | [], _ => by simp [insI]
  | y :: r, h => by
    unfold insI
    have h' := List.pairwise_cons.1 h
    split
    · rename_i hxy
      refine List.pairwise_cons.2 ⟨fun z hz => ?_, h⟩
      rcases List.mem_cons.1 hz with e | e
      · subst e; exact hxy
      · exact Int.le_trans hxy (h'.1 z e)
    · rename_i hxy
      refine List.pairwise_cons.2 ⟨fun z hz => ?_, insI_le x r h'.2⟩
      rcases List.mem_cons.1 ((insI_perm x r).mem_iff.1 hz) with e | e
      · subst e; omega
      · exact h'.1 z e
theorem sorted_le : ∀ l : List Int, (sorted l).Pairwise (· ≤ ·)
  | [] => .nil
  | x :: r => insI_le x _ (sorted_le r)
theorem perm_le_eq : ∀ {l m : List Int}, l.Perm m → l.Pairwise (· ≤ ·) → m.Pairwise (· ≤ ·) → l = m
  | [], m, h, _, _ => h.nil_eq
  | a :: l, [], h, _, _ => by have := h.length_eq; simp at this
  | a :: l, b :: m, h, hl, hm => by
    have hl' := List.pairwise_cons.1 hl
    have hm' := List.pairwise_cons.1 hm
    have hab : a = b := by
      have h1 : a ∈ b :: m := h.mem_iff.1 (by simp)
      have h2 : b ∈ a :: l := h.mem_iff.2 (by simp)
      rcases List.mem_cons.1 h1 with e | e
      · exact e
      · rcases List.mem_cons.1 h2 with e2 | e2
        · exact e2.symm
        · have := hl'.1 b e2; have := hm'.1 a e; omega
    subst hab
    rw [perm_le_eq (List.perm_cons a |>.1 h) hl'.2 hm'.2]
theorem sorted_merge (l : List Int) : sorted l = l.mergeSort fun x y => decide (x ≤ y) := by
  refine perm_le_eq ((sorted_perm l).trans (List.mergeSort_perm l _).symm) (sorted_le l) ?_
  have := List.pairwise_mergeSort (le := fun x y : Int => decide (x ≤ y)) (fun a b c h1 h2 => by simp at *; omega) (fun a b => by simp; omega) l
  exact this.imp fun h => by simpa using h
theorem sorted_len (l : List Int) : (sorted l).length = l.length := (sorted_perm l).length_eq
/-- the contract of a sort -/
def SortC (P : Program) (f : Nat) : Prop := ∀ (b off cap : Nat) (zs : List Int) (w : World), Sort.Holds (Value.int .i64) w b off zs.toArray → b < w.heap.size → zs.length < 4611686018427387904 →
  Calls P f #[.slice (some ⟨b, off, none⟩) zs.length cap] w fun e w' => e = .returned (.tuple #[]) ∧ ∃ n os, w' = Sort.grow (Sort.putRow (Value.int .i64) (Sort.ahead w n) b off (sorted zs).toArray) os
/-- what it does with nothing: by a run of the middle semantics over its own code -/
def SortN (P : Program) (f : Nat) : Prop := ∃ Φ : Tbl, ∃ n, TblOk P Φ ∧ callF Φ (run Φ n) f [.p (.sl [])] [] = some (.tup [], [], [])
theorem sort_none {f : Nat} (hn : SortN P f) {w : World} {A : Nat → Prop} {E : HeapA An} {h : Heap} (hgl : GL P w A) (hm : MR w A E h S0) (a : Option Addr) (cap : Nat) :
    Calls P f #[.slice a 0 cap] w fun e w' => e = .returned (.tuple #[]) ∧ MR w' A E h S0 ∧ Go1 w A E S0 w' A E := by
  obtain ⟨Φ, n, hT, hk⟩ := hn
  obtain ⟨_, hc⟩ := call_ok hT n f _ _ _ _ _ hk
  have hm0 : MR w A (fun _ => Option.none) (extHeap []) S0 := MR.none hm.im
  have hv : MVvs w A (fun _ => Option.none) S0 [.p (.sl [])] [.slice a 0 cap] := by
    simp only [MVvs]
    exact ⟨_, [], rfl, (MVv_sl (E := fun _ => Option.none) (nx := S0)).2 ⟨a, cap, rfl, Nat.zero_le _, .inl rfl⟩, rfl⟩
  refine (hc w A _ [.slice a 0 cap] hgl hv hm0).mono ?_
  rintro e w' ⟨v, he, A', E', nx', q1, q2, q3⟩
  have hk : ∀ b, b < w.heap.size → w'.heap[b]? = w.heap[b]? := fun b hb => q2.keep b hb (fun ho => by
    obtain ⟨i, o, ho, _⟩ := ho
    cases ho)
  simp only [MVv, MVvs] at q3
  obtain ⟨vs, hv1, hv2⟩ := q3
  subst hv2
  exact ⟨by rw [he, hv1], hm.more q2.size hk, Go1.more q2.os q2.tape q2.output q2.size hk⟩
theorem MVv_unit {w : World} {A : Nat → Prop} {E : HeapA An} {nx : Stp} : MVv w A E nx (.tup []) (.tuple #[]) := by
  simp only [MVv, MVvs]
  exact ⟨[], rfl, rfl⟩
theorem retHeap_ext (l : List (Obj Nat)) (h : l.length ≤ 1000000) : retHeap l [] = extHeap l := by
  funext i
  unfold retHeap extHeap
  by_cases h1 : escBase ≤ i
  · have h2 : extBase ≤ i := by unfold escBase at h1; unfold extBase; omega
    have h3 : l[i - extBase]? = none := List.getElem?_eq_none (by unfold escBase at h1; unfold extBase; omega)
    rw [if_pos h1, if_pos h2, h3]
    rfl
  · rw [if_neg h1]
theorem overwrite_other {h h' : Heap} {id : Nat} {path : List Nat} {g z off : Nat} {vs : List PV} (e : overwrite h id path g z off vs = some h') : ∀ i, i ≠ id → h' i = h i := by
  intro i hi
  unfold overwrite at e
  split at e
  · split at e
    · split at e
      · simp only [Option.some.injEq] at e; subst e; exact upd_other _ _ hi
      · cases e
    · split at e
      · split at e
        · split at e
          · simp only [Option.some.injEq] at e; subst e; exact upd_other _ _ hi
          · cases e
        · cases e
      · cases e
  · cases e
theorem overwrite_ext {o o' : Obj Nat} {h' : Heap} {path : List Nat} {g z off : Nat} {vs : List PV} (e : overwrite (extHeap [o]) extBase path g z off vs = some h') (ho : h' extBase = some o') : h' = retHeap [o'] [] := by
  rw [retHeap_ext _ (by simp)]
  funext i
  by_cases hi : i = extBase
  · subst hi
    rw [ho]
    simp [extHeap]
  · rw [overwrite_other e i hi]
    unfold extHeap
    by_cases h1 : extBase ≤ i
    · have h2 : 1 ≤ i - extBase := by
        have : extBase < i := Nat.lt_of_le_of_ne h1 (Ne.symm hi)
        omega
      rw [if_pos h1, if_pos h1, List.getElem?_eq_none (by simpa using h2), List.getElem?_eq_none (by simpa using h2)]
    · rw [if_neg h1, if_neg h1]
theorem sort_ok {f : Nat} (hcan : CanEnter P f) (hct : SortC P f) (hn : SortN P f) : PrimOk P f .sort := by
  intro args ext r ext' esc hp
  unfold primF at hp
  split at hp
  · rename_i h; cases h
  · rename_i id path off len g o _
    split at hp
    · rename_i hid
      subst hid
      unfold sortOwn at hp
      split at hp
      · rename_i ts hel
        split at hp
        · rename_i vs hvs
          split at hp
          · rename_i zs hzs
            split at hp
            · rename_i hlt
              split at hp
              · rename_i h' hov
                split at hp
                · rename_i o' ho'
                  simp only [Option.some.injEq, Prod.mk.injEq] at hp
                  obtain ⟨rfl, rfl, rfl⟩ := hp
                  refine ⟨hcan, ?_⟩
                  intro w A E vals hgl hv hm
                  simp only [MVvs] at hv
                  obtain ⟨v, d, rfl, hv, rfl⟩ := hv
                  have hh' := overwrite_ext hov ho'
                  obtain ⟨an, ad, cap, rfl, hxe, hlc, hnode, hdr⟩ := own_hdr hm hv hov
                  subst hxe
                  have hvz := asInts_eq hzs
                  have htv := allTP_map hvs
                  -- the elements
                  have hel : (match vecAt (extHeap [o] extBase) path with
                    | some (g', _, l) => if g' = an.g ∧ off + len ≤ l.length then some ((l.drop off).take len) else none
                    | none => none) = some ts := hel
                  split at hel
                  · rename_i g' z' l hva
                    split at hel
                    · rename_i hcond
                      simp only [Option.some.injEq] at hel
                      obtain ⟨hg, hle⟩ := hcond
                      have hlen : zs.length = len := by
                        have h1 := congrArg List.length hel
                        rw [htv, hvz] at h1
                        simp only [List.length_take, List.length_drop, List.length_map] at h1
                        omega
                      rw [← hh']
                      by_cases h0 : len = 0
                      · have hz0 : zs = [] := by rw [h0] at hlen; exact List.eq_nil_of_length_eq_zero hlen
                        subst h0
                        have hs0 : (sorted zs).map (PV.int .i64) = [] := by rw [hz0]; rfl
                        rw [hs0] at hov
                        refine (sort_none hn hgl hm ad cap).mono ?_
                        rintro e w' ⟨he, k1, k2⟩
                        obtain ⟨_, E', hsome, hnone⟩ := overwrite_sim k1 hnode hov (cs := []) (by simp only [PVcs])
                        cases hb : an.b with
                        | none =>
                          obtain ⟨q1, q2⟩ := hnone hb
                          exact ⟨_, he, A, E', S0, q1, k2.trans q2 (Stp.le_refl _), MVv_unit⟩
                        | some b =>
                          obtain ⟨q1, q2, _, _⟩ := hsome b hb
                          exact ⟨_, he, A, E', S0, q1, k2.trans q2 (Stp.le_refl _), MVv_unit⟩
                      · have hpos : 0 < len := Nat.pos_of_ne_zero h0
                        cases hb : an.b with
                        | none =>
                          simp only [OwnHdr, hb] at hdr
                          exact absurd hdr.1 h0
                        | some b =>
                          simp only [OwnHdr, hb] at hdr
                          rcases hdr.2 with ⟨h1, _⟩ | hA
                          · exact absurd h1 h0
                          obtain ⟨_, E', hsome, _⟩ := overwrite_sim hm hnode hov (cs := (sorted zs).map (Value.int .i64)) (PVcs_ints _)
                          obtain ⟨q1, q2, q3, q4⟩ := hsome b hb
                          obtain ⟨an', l', hvA, hg', hl'⟩ := hm.vec hva
                          have hnd := vecAt_node hvA
                          rw [hnode] at hnd
                          simp only [Option.some.injEq, Prod.mk.injEq] at hnd
                          obtain ⟨rfl, rfl⟩ := hnd
                          have hVB := hm.vecB hvA
                          simp only [VB, hb] at hVB
                          obtain ⟨hblk, hcap, hcs, hts⟩ := hVB
                          have hH : Sort.Holds (Value.int .i64) w b off zs.toArray := by
                            intro j hj
                            have hj : j < zs.length := by simpa using hj
                            refine ⟨?_, q4 _⟩
                            have e1 : (((l.drop off).take len))[j]? = some (T.p (PV.int .i64 zs[j])) := by
                              rw [hel, htv, hvz, List.getElem?_map, List.getElem?_map, List.getElem?_eq_getElem hj]
                              rfl
                            rw [List.getElem?_take_of_lt (by omega), List.getElem?_drop, hl', List.getElem?_map] at e1
                            cases ht : l'[off + j]? with
                            | none => rw [ht] at e1; cases e1
                            | some t =>
                              rw [ht] at e1
                              simp only [Option.map_some, Option.some.injEq] at e1
                              cases t <;> simp only [T.mapA, reduceCtorEq, T.p.injEq] at e1
                              subst e1
                              have hk := hts.elem hcs ht
                              simp only [TAt, PVc] at hk
                              obtain ⟨cs, rfl, hr⟩ := hk
                              have := hr 0 _ rfl
                              rw [Nat.mul_one, Nat.add_zero] at this
                              rw [this]
                              simp [hj]
                          have hbs : b < w.heap.size := by
                            obtain ⟨c, ty, hc, _⟩ := hblk
                            exact (Array.getElem?_eq_some_iff.1 hc).1
                          have hcc := hct b off cap zs w hH hbs hlt
                          rw [hlen] at hcc
                          rw [hA, Nat.mul_one]
                          rw [Nat.mul_one] at q1 q2
                          rw [setCells_ints] at q1 q2
                          refine hcc.mono ?_
                          rintro e w' ⟨he, n, os, rfl⟩
                          have hsz : (Sort.putRow (Value.int .i64) w b off (sorted zs).toArray).heap.size = w.heap.size := by simp [Sort.putRow, Sort.mapBlock]
                          have hk : ∀ x, x < (Sort.putRow (Value.int .i64) w b off (sorted zs).toArray).heap.size → (Sort.grow (Sort.putRow (Value.int .i64) (Sort.ahead w n) b off (sorted zs).toArray) os).heap[x]? = (Sort.putRow (Value.int .i64) w b off (sorted zs).toArray).heap[x]? := by
                            intro x hx
                            unfold Sort.grow
                            simp only
                            rw [Array.getElem?_append_left (by simpa [Sort.putRow, Sort.mapBlock, Sort.ahead] using hx)]
                            rfl
                          have hss : (Sort.putRow (Value.int .i64) w b off (sorted zs).toArray).heap.size ≤ (Sort.grow (Sort.putRow (Value.int .i64) (Sort.ahead w n) b off (sorted zs).toArray) os).heap.size := by
                            simp [Sort.grow, Sort.putRow, Sort.mapBlock, Sort.ahead]
                          exact ⟨_, he, A, E', S0, q1.more hss hk, q2.trans (Go1.more rfl rfl rfl hss hk) (Stp.le_refl _), MVv_unit⟩
                    · cases hel
                  · cases hel
                · cases hp
              · cases hp
            · cases hp
          · cases hp
        · cases hp
      · cases hp
    · cases hp
  · rename_i z _
    simp only [Option.some.injEq, Prod.mk.injEq] at hp
    obtain ⟨rfl, rfl, rfl⟩ := hp
    refine ⟨hcan, ?_⟩
    intro w A E vals hgl hv hm
    simp only [MVvs] at hv
    obtain ⟨v, d, rfl, hv, rfl⟩ := hv
    simp only [MVv] at hv
    obtain ⟨a, rfl⟩ := hv
    refine (sort_none hn hgl hm a 0).mono ?_
    rintro e w' ⟨he, k1, k2⟩
    rw [retHeap_ext _ (by simp)]
    exact ⟨_, he, A, E, S0, k1, k2, MVv_unit⟩
  · rename_i _
    simp only [Option.some.injEq, Prod.mk.injEq] at hp
    obtain ⟨rfl, rfl, rfl⟩ := hp
    refine ⟨hcan, ?_⟩
    intro w A E vals hgl hv hm
    simp only [MVvs] at hv
    obtain ⟨v, d, rfl, hv, rfl⟩ := hv
    obtain ⟨ad, cap, rfl, _, _⟩ := MVv_sl.1 hv
    refine (sort_none hn hgl hm ad cap).mono ?_
    rintro e w' ⟨he, k1, k2⟩
    rw [retHeap_ext _ (by simp)]
    exact ⟨_, he, A, E, S0, k1, k2, MVv_unit⟩
  · cases hp
end Go.Mid
/- slices.Sort on symbolic states. -/
namespace Go.Mid
set_option linter.unusedSimpArgs false
set_option linter.unusedVariables false
/-- so many elements from a place on -/
def partL {α : Type} (off : Option Nat) (len : Nat) (l : List α) : List α := (match off with | none => l | some o => l.drop o).take len
/-- numbers as numbers -/
def castI {t : Ty} (l : List (El t)) : Option (List Int) := castL (.int .i64) l
def sort2 (x : In2) : Tree R2 := match x.1, x.2 with
  | [.own id path off len g], [o] => if id == extBase then (vecAt2 o path).bind fun v => if v.1 == g && v.2.1 == 1 then match v.2.2 with
      | .base s t l => (Tree.ofO (castI l)).bind fun m => (Tree.ask (Nat.ble (match off with | none => len | some k => k + len) (m.length))).bind fun _ =>
          (Tree.ask (Nat.blt ((partL off len m).length) 4611686018427387904)).bind fun _ => match path with
          | [] => match o with
            | .vec a z _ => .leaf (.tup [], [.vec a z (.base s (.int .i64) (overL m off (sorted (partL off len m))))], [])
            | _ => .fail
          | p :: q => (subO2 o (p :: q)).bind fun u => match hdT u with
            | some (a, z, _, n) => (putO2 (.vec a z (.base s (.int .i64) (overL m off (sorted (partL off len m)))) n) o (p :: q)).bind fun o' => .leaf (.tup [], [o'], [])
            | none => .fail
      | _ => .fail
      else .fail
    else .fail
  | [.nil _], [] => .leaf (.tup [], [], [])
  | [.c (.sl [])], [] => .leaf (.tup [], [], [])
  | _, _ => .fail
theorem castL_int {t : Ty} {l : List (El t)} {m : List Int} (h : castI l = some m) (s : Nat) : l.map (encT s t) = m.map fun n => T.p (PV.int .i64 n) := by
  obtain ⟨e, he⟩ := castL_eq h
  cases e
  cases he
  rfl
theorem asInts_map : ∀ zs : List Int, asInts (zs.map (PV.int .i64)) = some zs
  | [] => rfl
  | n :: r => by simp only [List.map_cons, asInts, asInts_map r]
theorem allTP_ints (zs : List Int) : allTP (zs.map fun n => T.p (α := Nat) (PV.int .i64 n)) = some (zs.map (PV.int .i64)) := by
  have : (zs.map fun n => T.p (α := Nat) (PV.int .i64 n)) = (zs.map (PV.int .i64)).map T.p := by rw [List.map_map]; rfl
  rw [this]
  exact allTP_ps _
theorem over_ints (l : List Int) (off : Option Nat) (m : List Int) : over (l.map fun n => T.p (α := Nat) (PV.int .i64 n)) (off.getD 0) (m.map (PV.int .i64)) = (overL l off m).map fun n => T.p (PV.int .i64 n) := by
  have := over_enc (s := 0) (t := .int .i64) rfl l off m
  exact this
theorem ext_one (o : Obj Nat) : extHeap [o] extBase = some o := by simp [extHeap]
theorem all_ints (l : List Int) : (l.map (PV.int .i64)).all (fun v => v.cs == 1) = true := by
  rw [List.all_eq_true]
  intro v hv
  obtain ⟨n, _, rfl⟩ := List.mem_map.1 hv
  rfl
theorem elems_own {o : O2} {path : List Step} {off : Option Nat} {len g s : Nat} {t : Ty} {l : List (El t)} {m : List Int} (h1 : (vecAt2 o path).den = some (g, 1, .base s t l)) (h2 : castI l = some m)
    (h3 : (match off with | none => len | some k => k + len) ≤ m.length) :
    elems (extHeap [cO o]) (.own extBase (ixs path) (off.getD 0) len g) = some ((partL off len m).map fun n => T.p (PV.int .i64 n)) := by
  have hv := vecAt2_eq h1
  have e1 : cSL (.base s t l) = m.map fun n => T.p (PV.int .i64 n) := by simp only [cSL]; exact castL_int h2 s
  simp only [elems, ext_one, hv]
  rw [e1]
  have hle : off.getD 0 + len ≤ (m.map fun n => T.p (α := Nat) (PV.int .i64 n)).length := by
    rw [List.length_map]
    cases off with
    | none => simpa using h3
    | some k => exact h3
  rw [if_pos ⟨trivial, hle⟩]
  unfold partL
  cases off <;> simp [List.map_take, List.map_drop]
theorem sortOwn_of {path : List Nat} {off len g : Nat} {o o' : Obj Nat} {zs : List Int} {h' : Heap} (h1 : elems (extHeap [o]) (.own extBase path off len g) = some (zs.map fun n => T.p (PV.int .i64 n))) (h2 : zs.length < 4611686018427387904)
    (h3 : overwrite (extHeap [o]) extBase path g 1 off ((sorted zs).map (.int .i64)) = some h') (h4 : h' extBase = some o') : sortOwn path off len g o = some (.tup [], [o'], []) := by
  unfold sortOwn
  simp only [h1, allTP_ints, asInts_map, h3, h4, if_pos h2]
theorem sort2_eq {x : In2} {r : R2} (e : (sort2 x).den = some r) : primF .sort (cIn x).1 (cIn x).2 = some (cRet r) := by
  obtain ⟨ws, os⟩ := x
  unfold sort2 at e
  simp only at e
  split at e
  · rename_i id path off len g o
    split at e
    · rename_i hid
      simp only [beq_iff_eq] at hid
      subst hid
      simp only [Tree.den_bind] at e
      obtain ⟨⟨g', z', a⟩, h1, e⟩ := e
      split at e
      · rename_i hc
        simp only [Bool.and_eq_true, beq_iff_eq] at hc
        obtain ⟨rfl, rfl⟩ := hc
        split at e
        · rename_i s t l hbs
          simp only at hbs
          subst hbs
          simp only [Tree.den_bind, Tree.den_ofO, Tree.den_ask] at e
          obtain ⟨m, h2, _, h3, _, h4, e⟩ := e
          have h3 := Nat.ble_eq.mp h3
          have h4 := Nat.blt_eq.mp h4
          have hel := elems_own h1 h2 h3
          have hlen : (sorted (partL off len m)).length = (partL off len m).length := sorted_len _
          have hple : (match off with | none => 0 | some k => k) + (partL off len m).length ≤ m.length := by
            unfold partL
            cases off with
            | none => simp; omega
            | some k => simp only [List.length_take, List.length_drop]; simp only at h3; omega
          have hple' : off.getD 0 + ((sorted (partL off len m)).map (PV.int .i64)).length ≤ (m.map fun n => T.p (α := Nat) (PV.int .i64 n)).length := by
            rw [List.length_map, List.length_map, hlen]
            cases off with
            | none => simpa using hple
            | some k => exact hple
          have e1 : cSL (.base s t l) = m.map fun n => T.p (PV.int .i64 n) := by simp only [cSL]; exact castL_int h2 s
          have e2 : cSL (.base s (.int .i64) (overL m off (sorted (partL off len m)))) = over (cSL (.base s t l)) (off.getD 0) ((sorted (partL off len m)).map (PV.int .i64)) := by
            rw [e1, over_ints]; rfl
          rw [e1] at e2
          cases path with
          | nil =>
            cases o with
            | vec a z al =>
              simp only [Tree.den_leaf] at e
              subst e
              have hv := vecAt2_eq h1
              simp only [cO, ixs, vecAt, Option.some.injEq, Prod.mk.injEq] at hv
              obtain ⟨rfl, rfl, hcs⟩ := hv
              refine sortOwn_of (h' := upd (extHeap [cO (.vec a 1 al)]) extBase (some (cO (.vec a 1 (.base s (.int .i64) (overL m off (sorted (partL off len m)))))))) hel h4 ?_ (upd_same _ _ _)
              unfold overwrite
              rw [if_pos (all_ints _), ext_one]
              simp only [cO, ixs]
              rw [hcs, e1, if_pos ⟨trivial, trivial, hple'⟩, e2]
            | _ => simp at e
          | cons p q =>
            simp only [Tree.den_bind] at e
            obtain ⟨u, h5, e⟩ := e
            split at e
            · rename_i a z al n hu
              simp only [Tree.den_bind, Tree.den_leaf] at e
              obtain ⟨o', h6, rfl⟩ := e
              have hsub := subO2_eq h5
              rw [hdT_eq hu] at hsub
              have hput := putO2_eq h6
              have hv := vecAt2_eq h1
              have hva : vecAt (some (cO o)) (ixs (p :: q)) = some (a, z, cSL al) := by
                refine vecAt_of_sub (fun g z l _ hp => ?_) hsub
                simp [ixs] at hp
              rw [hva] at hv
              simp only [Option.some.injEq, Prod.mk.injEq] at hv
              obtain ⟨rfl, rfl, hcs⟩ := hv
              refine sortOwn_of (h' := upd (extHeap [cO o]) extBase (some (cO o'))) hel h4 ?_ (upd_same _ _ _)
              unfold overwrite
              rw [if_pos (all_ints _), ext_one]
              split
              · rename_i e8 e9
                simp [ixs] at e9
              · rw [hsub]
                simp only
                rw [hcs, e1, if_pos ⟨trivial, trivial, hple'⟩, ← e2]
                have : put (some (cO o)) (ixs (p :: q)) (.vec a 1 (cSL (.base s (.int .i64) (overL m off (sorted (partL off len m))))) n) = some (cO o') := hput
                rw [this]
            · simp at e
        · simp at e
      · simp at e
    · simp at e
  · simp only [Tree.den_leaf] at e; subst e; rfl
  · simp only [Tree.den_leaf] at e; subst e; rfl
  · simp at e
/-- a call of it, by shapes -/
theorem sortS_ok {Φ : Tbl} {f : Nat} (hΦ : Φ f = some (.prim .sort)) {I : Gen cIn} {O : Gen cRet} {fn : I.A → Option O.A} (h : ∀ a, ((sort2 (I.mk a)).bind O.un).den = fn a) : SgOk Φ ⟨f, I, O, fn⟩ := by
  intro a r hr
  have e := (h a).trans hr
  rw [Tree.den_bind] at e
  obtain ⟨x, h1, h2⟩ := e
  show KI Φ f (cIn (I.mk a)).1 (cIn (I.mk a)).2 = some (cRet (O.mk r))
  rw [KI_prim hΦ, sort2_eq h1, O.law x r h2]
end Go.Mid
