/- What the functions compute. -/
import Derived.Test.YtgmkjifkkiklcaaDoorN2
namespace Go.Mid
set_option linter.unusedSimpArgs false
set_option linter.unusedVariables false
noncomputable def value_Valid (x : Int × Int × ByteArray) : Option Bool :=
  bif x.1 == (0 : Int) then bif x.2.1 == (0 : Int) then some (strEq x.2.2 (ByteArray.mk #[])) else some false
else
  bif x.1 == (1 : Int) then some (strEq x.2.2 (ByteArray.mk #[]))
  else
    bif x.1 == (2 : Int) then bif x.2.1 == (0 : Int) then some (decide ((↑x.2.2.size : Int) ≤ (200 : Int))) else some false
    else bif x.1 == (3 : Int) then bif decide (x.2.1 ≥ (1 : Int)) then some (strEq x.2.2 (ByteArray.mk #[])) else some false else some false
noncomputable def conditional_Valid_1 (x : Bool × Int × Int × ByteArray) : Option Bool :=
  bif x.1 then bif !(x.2.1 == (0 : Int) && (x.2.2.1 == (0 : Int) && strEq x.2.2.2 (ByteArray.mk #[]))) then some true else bif !x.1 then (value_Valid x.2).bind fun y => some !y else some false
else bif !x.1 then (value_Valid x.2).bind fun z => some !z else some false
noncomputable def slices_IndexFunc_sapi_Cell_api_Cell__conditional_Valid_1_l0 (a : List (Bool × Int × Int × ByteArray) × PUnit × Int × Int) : Option (List (Bool × Int × Int × ByteArray) × PUnit × Int × Int ⊕ Int ⊕ PUnit) :=
  bif decide (a.2.2.2 < a.2.2.1) then
  bif decide ((0 : Int) ≤ a.2.2.2) then
    a.1[a.2.2.2.toNat]?.bind fun y => (conditional_Valid_1 y).bind fun z => bif z then some (Sum.inr (Sum.inl a.2.2.2)) else some (Sum.inl (a.1, a.2.1, a.2.2.1, IntKind.i64.wrap (a.2.2.2 + (1 : Int))))
  else none
else some (Sum.inr (Sum.inr ()))
noncomputable def slices_IndexFunc_sapi_Cell_api_Cell__conditional_Valid_1 (x : List (Bool × Int × Int × ByteArray) × PUnit) : Option Int :=
  (loopI slices_IndexFunc_sapi_Cell_api_Cell__conditional_Valid_1_l0 (x.1, x.2, (↑x.1.length : Int), (0 : Int))).bind fun u => Sum.elim (fun v => some v) (fun w => some (-1 : Int)) u
noncomputable def slices_ContainsFunc_sapi_Cell_api_Cell__conditional_Valid_1 (x : List (Bool × Int × Int × ByteArray) × PUnit) : Option Bool :=
  (slices_IndexFunc_sapi_Cell_api_Cell__conditional_Valid_1 (x.1, x.2)).bind fun y => some (decide (y ≥ (0 : Int)))
noncomputable def conditional_Valid_l0 (a : (Int × Int × List Int × Int × Int) × List Int × Int × List (Bool × Int × Int × ByteArray)) : Option ((Int × Int × List Int × Int × Int) × List Int × Int × List (Bool × Int × Int × ByteArray) ⊕ Bool ⊕ List Int × Int × List (Bool × Int × Int × ByteArray)) :=
  bif decide (a.1.2.2.2.2 < a.1.2.2.2.1) then
  bif decide ((0 : Int) ≤ a.1.2.2.2.2) then
    a.1.2.2.1[a.1.2.2.2.2.toNat]?.bind fun y =>
      bif decide (y ≤ a.1.2.1) then some (Sum.inr (Sum.inl false))
      else
        bif decide (y ≥ a.1.1) then some (Sum.inr (Sum.inl false))
        else bif y == a.2.2.1 then some (Sum.inr (Sum.inl false)) else some (Sum.inl ((a.1.1, y, a.1.2.2.1, a.1.2.2.2.1, IntKind.i64.wrap (a.1.2.2.2.2 + (1 : Int))), a.2))
  else none
else some (Sum.inr (Sum.inr a.2))
noncomputable def conditional_Valid (x : Int × List Int × Int × List (Bool × Int × Int × ByteArray)) : Option Bool :=
  bif decide (x.1 < (0 : Int)) then some false
else
  bif decide (x.1 > (16 : Int)) then some false
  else
    bif decide (x.2.2.1 < (0 : Int)) then some false
    else
      bif decide (x.2.2.1 ≥ x.1) then some false
      else
        bif (↑x.2.2.2.length : Int) != IntKind.i64.wrap ((↑x.2.1.length : Int) + (1 : Int)) then some false
        else
          (loopI conditional_Valid_l0 ((x.1, (-1 : Int), x.2.1, (↑x.2.1.length : Int), (0 : Int)), x.2)).bind fun z =>
            Sum.elim (fun u => some u) (fun v => (slices_ContainsFunc_sapi_Cell_api_Cell__conditional_Valid_1 (v.2.2, ())).bind fun w => some !w) z
noncomputable def drossref01_Valid (x : Int × Int × ByteArray) : Option Bool :=
  bif x.1 == (0 : Int) then bif x.2.1 == (0 : Int) then some (strEq x.2.2 (ByteArray.mk #[])) else some false
else
  bif x.1 == (1 : Int) then some (strEq x.2.2 (ByteArray.mk #[]))
  else
    bif x.1 == (2 : Int) then bif x.2.1 == (0 : Int) then some (decide ((↑x.2.2.size : Int) ≤ (200 : Int))) else some false
    else bif x.1 == (3 : Int) then bif decide (x.2.1 ≥ (1 : Int)) then some (strEq x.2.2 (ByteArray.mk #[])) else some false else some false
noncomputable def drossref16_Valid_l0 (a : (Int × Int) × List Int × Int × List (Bool × Int × Int × ByteArray)) : Option ((Int × Int) × List Int × Int × List (Bool × Int × Int × ByteArray) ⊕ Bool ⊕ List Int × Int × List (Bool × Int × Int × ByteArray)) :=
  bif decide (a.1.2 < (↑a.2.1.length : Int)) then
  bif decide ((0 : Int) ≤ a.1.2) then
    a.2.1[a.1.2.toNat]?.bind fun y =>
      bif decide (y < (0 : Int)) then some (Sum.inr (Sum.inl false))
      else
        bif decide ((0 : Int) ≤ a.1.2) then
          a.2.1[a.1.2.toNat]?.bind fun z =>
            bif decide (z ≥ a.1.1) then some (Sum.inr (Sum.inl false))
            else
              bif decide ((0 : Int) ≤ a.1.2) then
                a.2.1[a.1.2.toNat]?.bind fun u =>
                  bif u == a.2.2.1 then some (Sum.inr (Sum.inl false))
                  else
                    bif decide (a.1.2 > (0 : Int)) then
                      bif decide ((0 : Int) ≤ a.1.2) then
                        a.2.1[a.1.2.toNat]?.bind fun v =>
                          bif decide ((0 : Int) ≤ IntKind.i64.wrap (a.1.2 - (1 : Int))) then
                            a.2.1[(IntKind.i64.wrap (a.1.2 - (1 : Int))).toNat]?.bind fun w =>
                              bif decide (v ≤ w) then some (Sum.inr (Sum.inl false)) else some (Sum.inl ((a.1.1, IntKind.i64.wrap (a.1.2 + (1 : Int))), a.2))
                          else none
                      else none
                    else some (Sum.inl ((a.1.1, IntKind.i64.wrap (a.1.2 + (1 : Int))), a.2))
              else none
        else none
  else none
else some (Sum.inr (Sum.inr a.2))
noncomputable def drossref16_Valid_l1 (a : Int × List Int × Int × List (Bool × Int × Int × ByteArray)) : Option (Int × List Int × Int × List (Bool × Int × Int × ByteArray) ⊕ Bool ⊕ PUnit) :=
  bif decide (a.1 < (↑a.2.2.2.length : Int)) then
  bif decide ((0 : Int) ≤ a.1) then
    a.2.2.2[a.1.toNat]?.bind fun s =>
      bif s.1 then
        bif !(s.2.1 == (0 : Int) && (s.2.2.1 == (0 : Int) && strEq s.2.2.2 (ByteArray.mk #[]))) then some (Sum.inr (Sum.inl false))
        else (drossref01_Valid s.2).bind fun t => bif !t then some (Sum.inr (Sum.inl false)) else some (Sum.inl (IntKind.i64.wrap (a.1 + (1 : Int)), a.2))
      else (drossref01_Valid s.2).bind fun y1 => bif !y1 then some (Sum.inr (Sum.inl false)) else some (Sum.inl (IntKind.i64.wrap (a.1 + (1 : Int)), a.2))
  else none
else some (Sum.inr (Sum.inr ()))
noncomputable def drossref16_Valid (x : Int × List Int × Int × List (Bool × Int × Int × ByteArray)) : Option Bool :=
  bif decide (x.1 < (0 : Int)) then some false
else
  bif decide (x.1 > (16 : Int)) then some false
  else
    bif (↑x.2.2.2.length : Int) != IntKind.i64.wrap ((↑x.2.1.length : Int) + (1 : Int)) then some false
    else
      bif decide (x.2.2.1 < (0 : Int)) then some false
      else
        bif decide (x.2.2.1 ≥ x.1) then some false
        else
          (loopI drossref16_Valid_l0 ((x.1, (0 : Int)), x.2)).bind fun p =>
            Sum.elim (fun q => some q) (fun r => (loopI drossref16_Valid_l1 ((0 : Int), r)).bind fun z1 => Sum.elim (fun u1 => some u1) (fun v1 => some true) z1) p
noncomputable def drosslaw16_ConditionalValid_S (x : Int × List Int × Int × List (Bool × Int × Int × ByteArray)) : Option Bool :=
  (some true).bind fun y =>
  bif !y then (some true).bind fun z => some z
  else
    bif decide ((↑x.2.1.length : Int) > (20 : Int)) then (some true).bind fun u => some u
    else bif decide ((↑x.2.2.2.length : Int) > (25 : Int)) then (some true).bind fun v => some v else (conditional_Valid (x.1, x.2)).bind fun w => (drossref16_Valid (x.1, x.2)).bind fun p => some (w == p)
noncomputable def conditional_right (x : List Int × Int × List (Bool × Int × Int × ByteArray)) : Option (Bool × Int × Int × ByteArray) :=
  bif decide ((0 : Int) ≤ (↑x.1.length : Int)) then x.2.2[(↑x.1.length : Int).toNat]?.bind fun y => some y else none
noncomputable def conditional_limits_1 (x : (List Int × Int × List (Bool × Int × Int × ByteArray)) × Int) : Option Bool :=
  (conditional_Valid (x.2, x.1)).bind fun y => some !y
noncomputable def slices_IndexFunc_sapi_CFD_api_CFD__conditional_limits_1_l0 (a : List (List Int × Int × List (Bool × Int × Int × ByteArray)) × Int × Int × Int) : Option (List (List Int × Int × List (Bool × Int × Int × ByteArray)) × Int × Int × Int ⊕ Int ⊕ PUnit) :=
  bif decide (a.2.2.2 < a.2.2.1) then
  bif decide ((0 : Int) ≤ a.2.2.2) then
    a.1[a.2.2.2.toNat]?.bind fun y =>
      (conditional_limits_1 (y, a.2.1)).bind fun z => bif z then some (Sum.inr (Sum.inl a.2.2.2)) else some (Sum.inl (a.1, a.2.1, a.2.2.1, IntKind.i64.wrap (a.2.2.2 + (1 : Int))))
  else none
else some (Sum.inr (Sum.inr ()))
noncomputable def slices_IndexFunc_sapi_CFD_api_CFD__conditional_limits_1 (x : List (List Int × Int × List (Bool × Int × Int × ByteArray)) × Int) : Option Int :=
  (loopI slices_IndexFunc_sapi_CFD_api_CFD__conditional_limits_1_l0 (x.1, x.2, (↑x.1.length : Int), (0 : Int))).bind fun u => Sum.elim (fun v => some v) (fun w => some (-1 : Int)) u
noncomputable def slices_ContainsFunc_sapi_CFD_api_CFD__conditional_limits_1 (x : List (List Int × Int × List (Bool × Int × Int × ByteArray)) × Int) : Option Bool :=
  (slices_IndexFunc_sapi_CFD_api_CFD__conditional_limits_1 (x.1, x.2)).bind fun y => some (decide (y ≥ (0 : Int)))
noncomputable def conditional_limits (x : Int × Int × Int × List (List Int × Int × List (Bool × Int × Int × ByteArray)) × List (List Int × Int × List (Bool × Int × Int × ByteArray))) : Option Int :=
  bif decide (x.1 > x.2.1) then some (3 : Int)
else
  bif decide ((↑x.2.2.2.1.length : Int) > x.2.2.1) then some (3 : Int)
  else
    bif decide (x.1 < (0 : Int)) then some (1 : Int)
    else
      (slices_ContainsFunc_sapi_CFD_api_CFD__conditional_limits_1 (x.2.2.2.1, x.1)).bind fun y =>
        bif y then some (1 : Int) else (slices_ContainsFunc_sapi_CFD_api_CFD__conditional_limits_1 (x.2.2.2.2, x.1)).bind fun z => bif z then some (1 : Int) else some (0 : Int)
noncomputable def conditional_fresh_S_l1 (a : (Int × Int × Nat × Int × Int × Int × Int) × List (Bool × (Int × Int × ByteArray) × Int) × List (List (Bool × (Int × Int × ByteArray) × Int)) × Nat) : Option
  ((Int × Int × Nat × Int × Int × Int × Int) × List (Bool × (Int × Int × ByteArray) × Int) × List (List (Bool × (Int × Int × ByteArray) × Int)) × Nat ⊕
    (Int × Nat × Int × Int) × List (Bool × (Int × Int × ByteArray) × Int) × List (List (Bool × (Int × Int × ByteArray) × Int)) × Nat) :=
  bif decide (a.1.2.2.2.2.2.2 < a.1.2.2.2.2.2.1) then
  bif a.1.2.2.1.ble a.2.1.length then
    bif ((a.1.2.2.1 + 1) * 48).ble 140737488355328 then
      some
        (Sum.inl
          ((a.1.1, a.1.2.1, a.1.2.2.1 + 1, a.1.2.2.2.1, a.1.2.2.2.2.1, a.1.2.2.2.2.2.1, IntKind.i64.wrap (a.1.2.2.2.2.2.2 + (1 : Int))),
            List.take a.1.2.2.1 a.2.1 ++
              [(false, ((0 : Int), (0 : Int), (ByteArray.mk #[])), IntKind.i64.wrap (IntKind.i64.wrap ((1 : Int) + IntKind.i64.wrap (a.1.2.1 * a.1.1)) + a.1.2.2.2.2.2.2))],
            a.2.2.1, a.2.2.2))
    else none
  else none
else some (Sum.inr ((a.1.1, a.1.2.2.1, a.1.2.2.2.1, a.1.2.2.2.2.1), a.2.1, a.2.2.1, a.2.2.2))
noncomputable def conditional_fresh_S_l0 (a : (Int × Int × Int) × List (List (Bool × (Int × Int × ByteArray) × Int)) × Nat) : Option ((Int × Int × Int) × List (List (Bool × (Int × Int × ByteArray) × Int)) × Nat ⊕ List (List (Bool × (Int × Int × ByteArray) × Int)) × Nat) :=
  bif decide (a.1.2.2 < a.1.2.1) then
  (loopI conditional_fresh_S_l1 ((a.1.1, a.1.2.2, 0, a.1.2.1, a.1.2.2, a.1.1, (0 : Int)), [], a.2.1, a.2.2)).bind fun y => bif y.1.2.1.ble y.2.1.length then none else none
else some (Sum.inr (a.2.1, a.2.2))
noncomputable def conditional_fresh_S (x : Int × Int) : Option (List (List (Bool × (Int × Int × ByteArray) × Int)) × Nat) :=
  (loopI conditional_fresh_S_l0 ((x.1, x.2, (0 : Int)), [], 0)).bind fun z => some (z.1, z.2)
noncomputable def conditional_sketch_matches_l0 (a : (List (List (Bool × (Int × Int × ByteArray) × Int)) × Int × List Int × Int × Int) × List Int × Int × List (Bool × Int × Int × ByteArray)) : Option ((List (List (Bool × (Int × Int × ByteArray) × Int)) × Int × List Int × Int × Int) × List Int × Int × List (Bool × Int × Int × ByteArray) ⊕ Bool ⊕ PUnit) :=
  bif decide (a.1.2.2.2.2 < a.1.2.2.2.1) then
  bif decide ((0 : Int) ≤ a.1.2.2.2.2) then
    a.1.2.2.1[a.1.2.2.2.2.toNat]?.bind fun y =>
      bif decide ((0 : Int) ≤ a.1.2.2.2.2) then
        a.2.2.2[a.1.2.2.2.2.toNat]?.bind fun z =>
          bif !z.1 then
            bif decide ((0 : Int) ≤ a.1.2.1) then
              a.1.1[a.1.2.1.toNat]?.bind fun u =>
                bif decide ((0 : Int) ≤ y) then
                  u[y.toNat]?.bind fun v =>
                    bif !(v.1 == true && (v.2.1.1 == z.2.1 && (v.2.1.2.1 == z.2.2.1 && strEq v.2.1.2.2 z.2.2.2) && v.2.2 == (0 : Int))) then some (Sum.inr (Sum.inl false))
                    else some (Sum.inl ((a.1.1, a.1.2.1, a.1.2.2.1, a.1.2.2.2.1, IntKind.i64.wrap (a.1.2.2.2.2 + (1 : Int))), a.2))
                else none
            else none
          else some (Sum.inl ((a.1.1, a.1.2.1, a.1.2.2.1, a.1.2.2.2.1, IntKind.i64.wrap (a.1.2.2.2.2 + (1 : Int))), a.2))
      else none
  else none
else some (Sum.inr (Sum.inr ()))
noncomputable def conditional_sketch_matches (x : List (List (Bool × (Int × Int × ByteArray) × Int)) × (List Int × Int × List (Bool × Int × Int × ByteArray)) × Int) : Option Bool :=
  (loopI conditional_sketch_matches_l0 ((x.1, x.2.2, x.2.1.1, (↑x.2.1.1.length : Int), (0 : Int)), x.2.1)).bind fun w => Sum.elim (fun p => some p) (fun q => some true) w
noncomputable def conditional_sketch_equate_S_l1 (a : (List (Bool × (Int × Int × ByteArray) × Int) × Nat × Int × Int × Int × Int) × (Bool × (Int × Int × ByteArray) × Int) × (Bool × (Int × Int × ByteArray) × Int) × List (List (Bool × (Int × Int × ByteArray) × Int)) × Nat) : Option
  ((List (Bool × (Int × Int × ByteArray) × Int) × Nat × Int × Int × Int × Int) × (Bool × (Int × Int × ByteArray) × Int) × (Bool × (Int × Int × ByteArray) × Int) × List (List (Bool × (Int × Int × ByteArray) × Int)) × Nat ⊕
    (Nat × Int × Int) × (Bool × (Int × Int × ByteArray) × Int) × (Bool × (Int × Int × ByteArray) × Int) × List (List (Bool × (Int × Int × ByteArray) × Int)) × Nat) :=
  bif decide (a.1.2.2.2.2.2 < a.1.2.2.2.2.1) then
  bif decide ((0 : Int) ≤ a.1.2.2.2.2.2) then
    a.1.1[a.1.2.2.2.2.2.toNat]?.bind fun z =>
      bif z.1 == a.2.1.1 && (z.2.1.1 == a.2.1.2.1.1 && (z.2.1.2.1 == a.2.1.2.1.2.1 && strEq z.2.1.2.2 a.2.1.2.1.2.2) && z.2.2 == a.2.1.2.2) then
        bif decide ((0 : Int) ≤ a.1.2.2.2.2.2) then a.1.1[a.1.2.2.2.2.2.toNat]?.bind fun u => none else none
      else
        some
          (Sum.inl
            ((a.1.1, a.1.2.1, a.1.2.2.1, a.1.2.2.2.1, a.1.2.2.2.2.1, IntKind.i64.wrap (a.1.2.2.2.2.2 + (1 : Int))), a.2.1, a.2.2.1, a.2.2.2.1, a.2.2.2.2))
  else none
else some (Sum.inr ((a.1.2.1, a.1.2.2.1, a.1.2.2.2.1), a.2.1, a.2.2.1, a.2.2.2.1, a.2.2.2.2))
noncomputable def conditional_sketch_equate_S_l0 (a : (Nat × Int × Int) × (Bool × (Int × Int × ByteArray) × Int) × (Bool × (Int × Int × ByteArray) × Int) × List (List (Bool × (Int × Int × ByteArray) × Int)) × Nat) : Option ((Nat × Int × Int) × (Bool × (Int × Int × ByteArray) × Int) × (Bool × (Int × Int × ByteArray) × Int) × List (List (Bool × (Int × Int × ByteArray) × Int)) × Nat ⊕ List (List (Bool × (Int × Int × ByteArray) × Int)) × Nat) :=
  bif decide (a.1.2.2 < a.1.2.1) then
  bif decide ((0 : Int) ≤ a.1.2.2) then
    bif a.1.2.2.toNat.blt a.1.1 then
      a.2.2.2.1[a.1.2.2.toNat]?.bind fun y =>
        (loopI conditional_sketch_equate_S_l1 ((y, a.1.1, a.1.2.1, a.1.2.2, (↑y.length : Int), (0 : Int)), a.2.1, a.2.2.1, a.2.2.2.1, a.2.2.2.2)).bind fun v =>
          some (Sum.inl ((v.1.1, v.1.2.1, IntKind.i64.wrap (v.1.2.2 + (1 : Int))), v.2.1, v.2.2.1, v.2.2.2.1, v.2.2.2.2))
    else none
  else none
else some (Sum.inr (a.2.2.2.1, a.2.2.2.2))
noncomputable def conditional_sketch_equate_S_l3 (a : (List (Bool × (Int × Int × ByteArray) × Int) × Nat × Int × Int × Int × Int) × (Bool × (Int × Int × ByteArray) × Int) × (Bool × (Int × Int × ByteArray) × Int) × List (List (Bool × (Int × Int × ByteArray) × Int)) × Nat) : Option
  ((List (Bool × (Int × Int × ByteArray) × Int) × Nat × Int × Int × Int × Int) × (Bool × (Int × Int × ByteArray) × Int) × (Bool × (Int × Int × ByteArray) × Int) × List (List (Bool × (Int × Int × ByteArray) × Int)) × Nat ⊕
    (Nat × Int × Int) × (Bool × (Int × Int × ByteArray) × Int) × (Bool × (Int × Int × ByteArray) × Int) × List (List (Bool × (Int × Int × ByteArray) × Int)) × Nat) :=
  bif decide (a.1.2.2.2.2.2 < a.1.2.2.2.2.1) then
  bif decide ((0 : Int) ≤ a.1.2.2.2.2.2) then
    a.1.1[a.1.2.2.2.2.2.toNat]?.bind fun q =>
      bif q.1 == a.2.1.1 && (q.2.1.1 == a.2.1.2.1.1 && (q.2.1.2.1 == a.2.1.2.1.2.1 && strEq q.2.1.2.2 a.2.1.2.1.2.2) && q.2.2 == a.2.1.2.2) then
        bif decide ((0 : Int) ≤ a.1.2.2.2.2.2) then a.1.1[a.1.2.2.2.2.2.toNat]?.bind fun r => none else none
      else
        some
          (Sum.inl
            ((a.1.1, a.1.2.1, a.1.2.2.1, a.1.2.2.2.1, a.1.2.2.2.2.1, IntKind.i64.wrap (a.1.2.2.2.2.2 + (1 : Int))), a.2.1, a.2.2.1, a.2.2.2.1, a.2.2.2.2))
  else none
else some (Sum.inr ((a.1.2.1, a.1.2.2.1, a.1.2.2.2.1), a.2.1, a.2.2.1, a.2.2.2.1, a.2.2.2.2))
noncomputable def conditional_sketch_equate_S_l2 (a : (Nat × Int × Int) × (Bool × (Int × Int × ByteArray) × Int) × (Bool × (Int × Int × ByteArray) × Int) × List (List (Bool × (Int × Int × ByteArray) × Int)) × Nat) : Option ((Nat × Int × Int) × (Bool × (Int × Int × ByteArray) × Int) × (Bool × (Int × Int × ByteArray) × Int) × List (List (Bool × (Int × Int × ByteArray) × Int)) × Nat ⊕ List (List (Bool × (Int × Int × ByteArray) × Int)) × Nat) :=
  bif decide (a.1.2.2 < a.1.2.1) then
  bif decide ((0 : Int) ≤ a.1.2.2) then
    bif a.1.2.2.toNat.blt a.1.1 then
      a.2.2.2.1[a.1.2.2.toNat]?.bind fun p =>
        (loopI conditional_sketch_equate_S_l3 ((p, a.1.1, a.1.2.1, a.1.2.2, (↑p.length : Int), (0 : Int)), a.2.1, a.2.2.1, a.2.2.2.1, a.2.2.2.2)).bind fun s =>
          some (Sum.inl ((s.1.1, s.1.2.1, IntKind.i64.wrap (s.1.2.2 + (1 : Int))), s.2.1, s.2.2.1, s.2.2.2.1, s.2.2.2.2))
    else none
  else none
else some (Sum.inr (a.2.2.2.1, a.2.2.2.2))
noncomputable def conditional_sketch_equate_S_l5 (a : (List (Bool × (Int × Int × ByteArray) × Int) × Nat × Int × Int × Int × Int) × (Bool × (Int × Int × ByteArray) × Int) × (Bool × (Int × Int × ByteArray) × Int) × List (List (Bool × (Int × Int × ByteArray) × Int)) × Nat) : Option
  ((List (Bool × (Int × Int × ByteArray) × Int) × Nat × Int × Int × Int × Int) × (Bool × (Int × Int × ByteArray) × Int) × (Bool × (Int × Int × ByteArray) × Int) × List (List (Bool × (Int × Int × ByteArray) × Int)) × Nat ⊕
    (Nat × Int × Int) × (Bool × (Int × Int × ByteArray) × Int) × (Bool × (Int × Int × ByteArray) × Int) × List (List (Bool × (Int × Int × ByteArray) × Int)) × Nat) :=
  bif decide (a.1.2.2.2.2.2 < a.1.2.2.2.2.1) then
  bif decide ((0 : Int) ≤ a.1.2.2.2.2.2) then
    a.1.1[a.1.2.2.2.2.2.toNat]?.bind fun z1 =>
      bif z1.1 == a.2.1.1 && (z1.2.1.1 == a.2.1.2.1.1 && (z1.2.1.2.1 == a.2.1.2.1.2.1 && strEq z1.2.1.2.2 a.2.1.2.1.2.2) && z1.2.2 == a.2.1.2.2) then
        bif decide ((0 : Int) ≤ a.1.2.2.2.2.2) then a.1.1[a.1.2.2.2.2.2.toNat]?.bind fun u1 => none else none
      else
        some
          (Sum.inl
            ((a.1.1, a.1.2.1, a.1.2.2.1, a.1.2.2.2.1, a.1.2.2.2.2.1, IntKind.i64.wrap (a.1.2.2.2.2.2 + (1 : Int))), a.2.1, a.2.2.1, a.2.2.2.1, a.2.2.2.2))
  else none
else some (Sum.inr ((a.1.2.1, a.1.2.2.1, a.1.2.2.2.1), a.2.1, a.2.2.1, a.2.2.2.1, a.2.2.2.2))
noncomputable def conditional_sketch_equate_S_l4 (a : (Nat × Int × Int) × (Bool × (Int × Int × ByteArray) × Int) × (Bool × (Int × Int × ByteArray) × Int) × List (List (Bool × (Int × Int × ByteArray) × Int)) × Nat) : Option ((Nat × Int × Int) × (Bool × (Int × Int × ByteArray) × Int) × (Bool × (Int × Int × ByteArray) × Int) × List (List (Bool × (Int × Int × ByteArray) × Int)) × Nat ⊕ List (List (Bool × (Int × Int × ByteArray) × Int)) × Nat) :=
  bif decide (a.1.2.2 < a.1.2.1) then
  bif decide ((0 : Int) ≤ a.1.2.2) then
    bif a.1.2.2.toNat.blt a.1.1 then
      a.2.2.2.1[a.1.2.2.toNat]?.bind fun y1 =>
        (loopI conditional_sketch_equate_S_l5 ((y1, a.1.1, a.1.2.1, a.1.2.2, (↑y1.length : Int), (0 : Int)), a.2.1, a.2.2.1, a.2.2.2.1, a.2.2.2.2)).bind fun v1 =>
          some (Sum.inl ((v1.1.1, v1.1.2.1, IntKind.i64.wrap (v1.1.2.2 + (1 : Int))), v1.2.1, v1.2.2.1, v1.2.2.2.1, v1.2.2.2.2))
    else none
  else none
else some (Sum.inr (a.2.2.2.1, a.2.2.2.2))
noncomputable def conditional_sketch_equate_S_l7 (a : (List (Bool × (Int × Int × ByteArray) × Int) × Nat × Int × Int × Int × Int) × (Bool × (Int × Int × ByteArray) × Int) × (Bool × (Int × Int × ByteArray) × Int) × List (List (Bool × (Int × Int × ByteArray) × Int)) × Nat) : Option
  ((List (Bool × (Int × Int × ByteArray) × Int) × Nat × Int × Int × Int × Int) × (Bool × (Int × Int × ByteArray) × Int) × (Bool × (Int × Int × ByteArray) × Int) × List (List (Bool × (Int × Int × ByteArray) × Int)) × Nat ⊕
    (Nat × Int × Int) × (Bool × (Int × Int × ByteArray) × Int) × (Bool × (Int × Int × ByteArray) × Int) × List (List (Bool × (Int × Int × ByteArray) × Int)) × Nat) :=
  bif decide (a.1.2.2.2.2.2 < a.1.2.2.2.2.1) then
  bif decide ((0 : Int) ≤ a.1.2.2.2.2.2) then
    a.1.1[a.1.2.2.2.2.2.toNat]?.bind fun q1 =>
      bif q1.1 == a.2.1.1 && (q1.2.1.1 == a.2.1.2.1.1 && (q1.2.1.2.1 == a.2.1.2.1.2.1 && strEq q1.2.1.2.2 a.2.1.2.1.2.2) && q1.2.2 == a.2.1.2.2) then
        bif decide ((0 : Int) ≤ a.1.2.2.2.2.2) then a.1.1[a.1.2.2.2.2.2.toNat]?.bind fun r1 => none else none
      else
        some
          (Sum.inl
            ((a.1.1, a.1.2.1, a.1.2.2.1, a.1.2.2.2.1, a.1.2.2.2.2.1, IntKind.i64.wrap (a.1.2.2.2.2.2 + (1 : Int))), a.2.1, a.2.2.1, a.2.2.2.1, a.2.2.2.2))
  else none
else some (Sum.inr ((a.1.2.1, a.1.2.2.1, a.1.2.2.2.1), a.2.1, a.2.2.1, a.2.2.2.1, a.2.2.2.2))
noncomputable def conditional_sketch_equate_S_l6 (a : (Nat × Int × Int) × (Bool × (Int × Int × ByteArray) × Int) × (Bool × (Int × Int × ByteArray) × Int) × List (List (Bool × (Int × Int × ByteArray) × Int)) × Nat) : Option ((Nat × Int × Int) × (Bool × (Int × Int × ByteArray) × Int) × (Bool × (Int × Int × ByteArray) × Int) × List (List (Bool × (Int × Int × ByteArray) × Int)) × Nat ⊕ List (List (Bool × (Int × Int × ByteArray) × Int)) × Nat) :=
  bif decide (a.1.2.2 < a.1.2.1) then
  bif decide ((0 : Int) ≤ a.1.2.2) then
    bif a.1.2.2.toNat.blt a.1.1 then
      a.2.2.2.1[a.1.2.2.toNat]?.bind fun p1 =>
        (loopI conditional_sketch_equate_S_l7 ((p1, a.1.1, a.1.2.1, a.1.2.2, (↑p1.length : Int), (0 : Int)), a.2.1, a.2.2.1, a.2.2.2.1, a.2.2.2.2)).bind fun s1 =>
          some (Sum.inl ((s1.1.1, s1.1.2.1, IntKind.i64.wrap (s1.1.2.2 + (1 : Int))), s1.2.1, s1.2.2.1, s1.2.2.2.1, s1.2.2.2.2))
    else none
  else none
else some (Sum.inr (a.2.2.2.1, a.2.2.2.2))
noncomputable def conditional_sketch_equate_S (x : ((Bool × (Int × Int × ByteArray) × Int) × Bool × (Int × Int × ByteArray) × Int) × List (List (Bool × (Int × Int × ByteArray) × Int)) × Nat) : Option (Bool × List (List (Bool × (Int × Int × ByteArray) × Int)) × Nat) :=
  bif
    x.1.1.1 == x.1.2.1 &&
      (x.1.1.2.1.1 == x.1.2.2.1.1 && (x.1.1.2.1.2.1 == x.1.2.2.1.2.1 && strEq x.1.1.2.1.2.2 x.1.2.2.1.2.2) && x.1.1.2.2 == x.1.2.2.2) then
  some (true, x.2.1, x.2.2)
else
  bif x.1.1.1 then
    bif x.1.2.1 then some (false, x.2.1, x.2.2)
    else
      bif x.1.1.1 then (loopI conditional_sketch_equate_S_l0 ((x.2.2, (↑x.2.2 : Int), (0 : Int)), x.1.2, x.1.1, x.2.1, x.2.2)).bind fun w => some (true, w.1, w.2)
      else (loopI conditional_sketch_equate_S_l2 ((x.2.2, (↑x.2.2 : Int), (0 : Int)), x.1.1, x.1.2, x.2.1, x.2.2)).bind fun t => some (true, t.1, t.2)
  else
    bif x.1.1.1 then (loopI conditional_sketch_equate_S_l4 ((x.2.2, (↑x.2.2 : Int), (0 : Int)), x.1.2, x.1.1, x.2.1, x.2.2)).bind fun w1 => some (true, w1.1, w1.2)
    else (loopI conditional_sketch_equate_S_l6 ((x.2.2, (↑x.2.2 : Int), (0 : Int)), x.1.1, x.1.2, x.2.1, x.2.2)).bind fun t1 => some (true, t1.1, t1.2)
noncomputable def conditional_sketch_agree_l0 (a : List (List (Bool × (Int × Int × ByteArray) × Int)) × Int × Int × List Int × Int × Int) : Option (List (List (Bool × (Int × Int × ByteArray) × Int)) × Int × Int × List Int × Int × Int ⊕ Bool ⊕ PUnit) :=
  bif decide (a.2.2.2.2.2 < a.2.2.2.2.1) then
  bif decide ((0 : Int) ≤ a.2.2.2.2.2) then
    a.2.2.2.1[a.2.2.2.2.2.toNat]?.bind fun y =>
      bif decide ((0 : Int) ≤ a.2.1) then
        a.1[a.2.1.toNat]?.bind fun z =>
          bif decide ((0 : Int) ≤ y) then
            z[y.toNat]?.bind fun u =>
              bif decide ((0 : Int) ≤ a.2.2.1) then
                a.1[a.2.2.1.toNat]?.bind fun v =>
                  bif decide ((0 : Int) ≤ y) then
                    v[y.toNat]?.bind fun w =>
                      bif !(u.1 == w.1 && (u.2.1.1 == w.2.1.1 && (u.2.1.2.1 == w.2.1.2.1 && strEq u.2.1.2.2 w.2.1.2.2) && u.2.2 == w.2.2)) then some (Sum.inr (Sum.inl false))
                      else some (Sum.inl (a.1, a.2.1, a.2.2.1, a.2.2.2.1, a.2.2.2.2.1, IntKind.i64.wrap (a.2.2.2.2.2 + (1 : Int))))
                  else none
              else none
          else none
      else none
  else none
else some (Sum.inr (Sum.inr ()))
noncomputable def conditional_sketch_agree (x : List (List (Bool × (Int × Int × ByteArray) × Int)) × (List Int × Int × List (Bool × Int × Int × ByteArray)) × Int × Int) : Option Bool :=
  (loopI conditional_sketch_agree_l0 (x.1, x.2.2.1, x.2.2.2, x.2.1.1, (↑x.2.1.1.length : Int), (0 : Int))).bind fun p => Sum.elim (fun q => some q) (fun r => some true) p
noncomputable def conditional_sketch_chase_S_l3 (a : (List (List Int × Int × List (Bool × Int × Int × ByteArray)) × Int × Int × Int × List (List Int × Int × List (Bool × Int × Int × ByteArray)) × Int × Int × Int × Int × Int × Int) ×
  (List Int × Int × List (Bool × Int × Int × ByteArray)) × List (List (Bool × (Int × Int × ByteArray) × Int)) × Nat) : Option
  ((List (List Int × Int × List (Bool × Int × Int × ByteArray)) × Int × Int × Int × List (List Int × Int × List (Bool × Int × Int × ByteArray)) × Int × Int × Int × Int × Int × Int) ×
      (List Int × Int × List (Bool × Int × Int × ByteArray)) × List (List (Bool × (Int × Int × ByteArray) × Int)) × Nat ⊕
    Bool × List (List (Bool × (Int × Int × ByteArray) × Int)) × Nat ⊕
      (List (List Int × Int × List (Bool × Int × Int × ByteArray)) × Int × Int × List (List Int × Int × List (Bool × Int × Int × ByteArray)) × Int × Int × Int × Int) ×
        (List Int × Int × List (Bool × Int × Int × ByteArray)) × List (List (Bool × (Int × Int × ByteArray) × Int)) × Nat) :=
  bif decide (a.1.2.2.2.2.2.2.2.2.2.2 < a.1.2.2.2.2.2.2.2.2.2.1) then
  (conditional_sketch_matches (List.take a.2.2.2 a.2.2.1, a.2.1, a.1.2.2.2.2.2.2.2.2.2.2)).bind fun q =>
    bif q then
      (conditional_sketch_agree (List.take a.2.2.2 a.2.2.1, a.2.1, a.1.2.1, a.1.2.2.2.2.2.2.2.2.2.2)).bind fun r =>
        bif r then
          bif decide ((0 : Int) ≤ a.1.2.1) then
            bif a.1.2.1.toNat.blt a.2.2.2 then
              a.2.2.1[a.1.2.1.toNat]?.bind fun s =>
                bif decide ((0 : Int) ≤ a.2.1.2.1) then
                  s[a.2.1.2.1.toNat]?.bind fun t =>
                    bif decide ((0 : Int) ≤ a.1.2.2.2.2.2.2.2.2.2.2) then
                      bif a.1.2.2.2.2.2.2.2.2.2.2.toNat.blt a.2.2.2 then
                        a.2.2.1[a.1.2.2.2.2.2.2.2.2.2.2.toNat]?.bind fun y1 =>
                          bif decide ((0 : Int) ≤ a.2.1.2.1) then
                            y1[a.2.1.2.1.toNat]?.bind fun z1 =>
                              (conditional_sketch_equate_S ((t, z1), a.2.2.1, a.2.2.2)).bind fun u1 =>
                                bif !u1.1 then some (Sum.inr (Sum.inl (false, u1.2.1, u1.2.2)))
                                else
                                  some
                                    (Sum.inl
                                      ((a.1.1, a.1.2.1, a.1.2.2.1, a.1.2.2.2.1, a.1.2.2.2.2.1, a.1.2.2.2.2.2.1, a.1.2.2.2.2.2.2.1, a.1.2.2.2.2.2.2.2.1,
                                          a.1.2.2.2.2.2.2.2.2.1, a.1.2.2.2.2.2.2.2.2.2.1, IntKind.i64.wrap (a.1.2.2.2.2.2.2.2.2.2.2 + (1 : Int))),
                                        a.2.1, u1.2.1, u1.2.2))
                          else none
                      else none
                    else none
                else none
            else none
          else none
        else
          some
            (Sum.inl
              ((a.1.1, a.1.2.1, a.1.2.2.1, a.1.2.2.2.1, a.1.2.2.2.2.1, a.1.2.2.2.2.2.1, a.1.2.2.2.2.2.2.1, a.1.2.2.2.2.2.2.2.1,
                  a.1.2.2.2.2.2.2.2.2.1, a.1.2.2.2.2.2.2.2.2.2.1, IntKind.i64.wrap (a.1.2.2.2.2.2.2.2.2.2.2 + (1 : Int))),
                a.2.1, a.2.2.1, a.2.2.2))
    else
      some
        (Sum.inl
          ((a.1.1, a.1.2.1, a.1.2.2.1, a.1.2.2.2.1, a.1.2.2.2.2.1, a.1.2.2.2.2.2.1, a.1.2.2.2.2.2.2.1, a.1.2.2.2.2.2.2.2.1,
              a.1.2.2.2.2.2.2.2.2.1, a.1.2.2.2.2.2.2.2.2.2.1, IntKind.i64.wrap (a.1.2.2.2.2.2.2.2.2.2.2 + (1 : Int))),
            a.2.1, a.2.2.1, a.2.2.2))
else
  some
    (Sum.inr
      (Sum.inr
        ((a.1.1, a.1.2.2.1, a.1.2.2.2.1, a.1.2.2.2.2.1, a.1.2.2.2.2.2.1, a.1.2.2.2.2.2.2.1, a.1.2.2.2.2.2.2.2.1, a.1.2.2.2.2.2.2.2.2.1),
          a.2.1, a.2.2.1, a.2.2.2)))
noncomputable def conditional_sketch_chase_S_l4 (a : (List (List Int × Int × List (Bool × Int × Int × ByteArray)) × Int × Int × Int × List (List Int × Int × List (Bool × Int × Int × ByteArray)) × Int × Int × Int × Int × Int × Int) ×
  (List Int × Int × List (Bool × Int × Int × ByteArray)) × List (List (Bool × (Int × Int × ByteArray) × Int)) × Nat) : Option
  ((List (List Int × Int × List (Bool × Int × Int × ByteArray)) × Int × Int × Int × List (List Int × Int × List (Bool × Int × Int × ByteArray)) × Int × Int × Int × Int × Int × Int) ×
      (List Int × Int × List (Bool × Int × Int × ByteArray)) × List (List (Bool × (Int × Int × ByteArray) × Int)) × Nat ⊕
    Bool × List (List (Bool × (Int × Int × ByteArray) × Int)) × Nat ⊕
      (List (List Int × Int × List (Bool × Int × Int × ByteArray)) × Int × Int × List (List Int × Int × List (Bool × Int × Int × ByteArray)) × Int × Int × Int × Int) ×
        (List Int × Int × List (Bool × Int × Int × ByteArray)) × List (List (Bool × (Int × Int × ByteArray) × Int)) × Nat) :=
  bif decide (a.1.2.2.2.2.2.2.2.2.2.2 < a.1.2.2.2.2.2.2.2.2.2.1) then
  (conditional_sketch_matches (List.take a.2.2.2 a.2.2.1, a.2.1, a.1.2.2.2.2.2.2.2.2.2.2)).bind fun q1 =>
    bif q1 then
      (conditional_sketch_agree (List.take a.2.2.2 a.2.2.1, a.2.1, a.1.2.1, a.1.2.2.2.2.2.2.2.2.2.2)).bind fun r1 =>
        bif r1 then
          bif decide ((0 : Int) ≤ a.1.2.1) then
            bif a.1.2.1.toNat.blt a.2.2.2 then
              a.2.2.1[a.1.2.1.toNat]?.bind fun s1 =>
                bif decide ((0 : Int) ≤ a.2.1.2.1) then
                  s1[a.2.1.2.1.toNat]?.bind fun t1 =>
                    bif decide ((0 : Int) ≤ a.1.2.2.2.2.2.2.2.2.2.2) then
                      bif a.1.2.2.2.2.2.2.2.2.2.2.toNat.blt a.2.2.2 then
                        a.2.2.1[a.1.2.2.2.2.2.2.2.2.2.2.toNat]?.bind fun y2 =>
                          bif decide ((0 : Int) ≤ a.2.1.2.1) then
                            y2[a.2.1.2.1.toNat]?.bind fun z2 =>
                              (conditional_sketch_equate_S ((t1, z2), a.2.2.1, a.2.2.2)).bind fun u2 =>
                                bif !u2.1 then some (Sum.inr (Sum.inl (false, u2.2.1, u2.2.2)))
                                else
                                  some
                                    (Sum.inl
                                      ((a.1.1, a.1.2.1, a.1.2.2.1, a.1.2.2.2.1, a.1.2.2.2.2.1, a.1.2.2.2.2.2.1, a.1.2.2.2.2.2.2.1, a.1.2.2.2.2.2.2.2.1,
                                          a.1.2.2.2.2.2.2.2.2.1, a.1.2.2.2.2.2.2.2.2.2.1, IntKind.i64.wrap (a.1.2.2.2.2.2.2.2.2.2.2 + (1 : Int))),
                                        a.2.1, u2.2.1, u2.2.2))
                          else none
                      else none
                    else none
                else none
            else none
          else none
        else
          some
            (Sum.inl
              ((a.1.1, a.1.2.1, a.1.2.2.1, a.1.2.2.2.1, a.1.2.2.2.2.1, a.1.2.2.2.2.2.1, a.1.2.2.2.2.2.2.1, a.1.2.2.2.2.2.2.2.1,
                  a.1.2.2.2.2.2.2.2.2.1, a.1.2.2.2.2.2.2.2.2.2.1, IntKind.i64.wrap (a.1.2.2.2.2.2.2.2.2.2.2 + (1 : Int))),
                a.2.1, a.2.2.1, a.2.2.2))
    else
      some
        (Sum.inl
          ((a.1.1, a.1.2.1, a.1.2.2.1, a.1.2.2.2.1, a.1.2.2.2.2.1, a.1.2.2.2.2.2.1, a.1.2.2.2.2.2.2.1, a.1.2.2.2.2.2.2.2.1,
              a.1.2.2.2.2.2.2.2.2.1, a.1.2.2.2.2.2.2.2.2.2.1, IntKind.i64.wrap (a.1.2.2.2.2.2.2.2.2.2.2 + (1 : Int))),
            a.2.1, a.2.2.1, a.2.2.2))
else
  some
    (Sum.inr
      (Sum.inr
        ((a.1.1, a.1.2.2.1, a.1.2.2.2.1, a.1.2.2.2.2.1, a.1.2.2.2.2.2.1, a.1.2.2.2.2.2.2.1, a.1.2.2.2.2.2.2.2.1, a.1.2.2.2.2.2.2.2.2.1),
          a.2.1, a.2.2.1, a.2.2.2)))
noncomputable def conditional_sketch_chase_S_l2 (a : (List (List Int × Int × List (Bool × Int × Int × ByteArray)) × Int × Int × List (List Int × Int × List (Bool × Int × Int × ByteArray)) × Int × Int × Int × Int) ×
  (List Int × Int × List (Bool × Int × Int × ByteArray)) × List (List (Bool × (Int × Int × ByteArray) × Int)) × Nat) : Option
  ((List (List Int × Int × List (Bool × Int × Int × ByteArray)) × Int × Int × List (List Int × Int × List (Bool × Int × Int × ByteArray)) × Int × Int × Int × Int) ×
      (List Int × Int × List (Bool × Int × Int × ByteArray)) × List (List (Bool × (Int × Int × ByteArray) × Int)) × Nat ⊕
    Bool × List (List (Bool × (Int × Int × ByteArray) × Int)) × Nat ⊕
      (List (List Int × Int × List (Bool × Int × Int × ByteArray)) × Int × Int × List (List Int × Int × List (Bool × Int × Int × ByteArray)) × Int × Int) × List (List (Bool × (Int × Int × ByteArray) × Int)) × Nat) :=
  bif decide (a.1.2.2.2.2.2.2.2 < a.1.2.2.2.2.2.2.1) then
  (conditional_sketch_matches (List.take a.2.2.2 a.2.2.1, a.2.1, a.1.2.2.2.2.2.2.2)).bind fun z =>
    bif !z then
      some
        (Sum.inl
          ((a.1.1, a.1.2.1, a.1.2.2.1, a.1.2.2.2.1, a.1.2.2.2.2.1, a.1.2.2.2.2.2.1, a.1.2.2.2.2.2.2.1,
              IntKind.i64.wrap (a.1.2.2.2.2.2.2.2 + (1 : Int))),
            a.2.1, a.2.2.1, a.2.2.2))
    else
      (conditional_right a.2.1).bind fun u =>
        bif !u.1 then
          bif decide ((0 : Int) ≤ a.1.2.2.2.2.2.2.2) then
            bif a.1.2.2.2.2.2.2.2.toNat.blt a.2.2.2 then
              a.2.2.1[a.1.2.2.2.2.2.2.2.toNat]?.bind fun v =>
                bif decide ((0 : Int) ≤ a.2.1.2.1) then
                  v[a.2.1.2.1.toNat]?.bind fun w =>
                    (conditional_sketch_equate_S ((w, true, u.2, (0 : Int)), a.2.2.1, a.2.2.2)).bind fun p =>
                      bif !p.1 then some (Sum.inr (Sum.inl (false, p.2.1, p.2.2)))
                      else
                        (loopI conditional_sketch_chase_S_l3
                              ((a.1.1, a.1.2.2.2.2.2.2.2, a.1.2.1, a.1.2.2.1, a.1.2.2.2.1, a.1.2.2.2.2.1, a.1.2.2.2.2.2.1, a.1.2.2.2.2.2.2.1,
                                  a.1.2.2.2.2.2.2.2, a.1.2.2.2.2.2.2.2, (0 : Int)),
                                a.2.1, p.2.1, p.2.2)).bind
                          fun v1 =>
                          Sum.elim (fun w1 => some (Sum.inr (Sum.inl (w1.1, w1.2.1, w1.2.2))))
                            (fun p1 =>
                              some
                                (Sum.inl
                                  ((p1.1.1, p1.1.2.1, p1.1.2.2.1, p1.1.2.2.2.1, p1.1.2.2.2.2.1, p1.1.2.2.2.2.2.1, p1.1.2.2.2.2.2.2.1,
                                      IntKind.i64.wrap (p1.1.2.2.2.2.2.2.2 + (1 : Int))),
                                    p1.2.1, p1.2.2.1, p1.2.2.2)))
                            v1
                else none
            else none
          else none
        else
          (loopI conditional_sketch_chase_S_l4
                ((a.1.1, a.1.2.2.2.2.2.2.2, a.1.2.1, a.1.2.2.1, a.1.2.2.2.1, a.1.2.2.2.2.1, a.1.2.2.2.2.2.1, a.1.2.2.2.2.2.2.1,
                    a.1.2.2.2.2.2.2.2, a.1.2.2.2.2.2.2.2, (0 : Int)),
                  a.2.1, a.2.2.1, a.2.2.2)).bind
            fun v2 =>
            Sum.elim (fun w2 => some (Sum.inr (Sum.inl (w2.1, w2.2.1, w2.2.2))))
              (fun p2 =>
                some
                  (Sum.inl
                    ((p2.1.1, p2.1.2.1, p2.1.2.2.1, p2.1.2.2.2.1, p2.1.2.2.2.2.1, p2.1.2.2.2.2.2.1, p2.1.2.2.2.2.2.2.1,
                        IntKind.i64.wrap (p2.1.2.2.2.2.2.2.2 + (1 : Int))),
                      p2.2.1, p2.2.2.1, p2.2.2.2)))
              v2
else some (Sum.inr (Sum.inr ((a.1.1, a.1.2.1, a.1.2.2.1, a.1.2.2.2.1, a.1.2.2.2.2.1, a.1.2.2.2.2.2.1), a.2.2.1, a.2.2.2)))
noncomputable def conditional_sketch_chase_S_l1 (a : (List (List Int × Int × List (Bool × Int × Int × ByteArray)) × Int × Int × List (List Int × Int × List (Bool × Int × Int × ByteArray)) × Int × Int) × List (List (Bool × (Int × Int × ByteArray) × Int)) × Nat) : Option
  ((List (List Int × Int × List (Bool × Int × Int × ByteArray)) × Int × Int × List (List Int × Int × List (Bool × Int × Int × ByteArray)) × Int × Int) × List (List (Bool × (Int × Int × ByteArray) × Int)) × Nat ⊕
    Bool × List (List (Bool × (Int × Int × ByteArray) × Int)) × Nat ⊕ (List (List Int × Int × List (Bool × Int × Int × ByteArray)) × Int × Int) × List (List (Bool × (Int × Int × ByteArray) × Int)) × Nat) :=
  bif decide (a.1.2.2.2.2.2 < a.1.2.2.2.2.1) then
  bif decide ((0 : Int) ≤ a.1.2.2.2.2.2) then
    a.1.2.2.2.1[a.1.2.2.2.2.2.toNat]?.bind fun y =>
      (loopI conditional_sketch_chase_S_l2 ((a.1.1, a.1.2.1, a.1.2.2.1, a.1.2.2.2.1, a.1.2.2.2.2.1, a.1.2.2.2.2.2, (↑a.2.2 : Int), (0 : Int)), y, a.2.1, a.2.2)).bind
        fun q2 =>
        Sum.elim (fun r2 => some (Sum.inr (Sum.inl (r2.1, r2.2.1, r2.2.2))))
          (fun s2 => some (Sum.inl ((s2.1.1, s2.1.2.1, s2.1.2.2.1, s2.1.2.2.2.1, s2.1.2.2.2.2.1, IntKind.i64.wrap (s2.1.2.2.2.2.2 + (1 : Int))), s2.2.1, s2.2.2))) q2
  else none
else some (Sum.inr (Sum.inr ((a.1.1, a.1.2.1, a.1.2.2.1), a.2.1, a.2.2)))
noncomputable def conditional_sketch_chase_S_l0 (a : (List (List Int × Int × List (Bool × Int × Int × ByteArray)) × Int × Int) × List (List (Bool × (Int × Int × ByteArray) × Int)) × Nat) : Option
  ((List (List Int × Int × List (Bool × Int × Int × ByteArray)) × Int × Int) × List (List (Bool × (Int × Int × ByteArray) × Int)) × Nat ⊕
    Bool × List (List (Bool × (Int × Int × ByteArray) × Int)) × Nat ⊕ List (List (Bool × (Int × Int × ByteArray) × Int)) × Nat) :=
  bif decide (a.1.2.2 < a.1.2.1) then
  (loopI conditional_sketch_chase_S_l1 ((a.1.1, a.1.2.1, a.1.2.2, a.1.1, (↑a.1.1.length : Int), (0 : Int)), a.2.1, a.2.2)).bind fun t2 =>
    Sum.elim (fun y3 => some (Sum.inr (Sum.inl (y3.1, y3.2.1, y3.2.2)))) (fun z3 => some (Sum.inl ((z3.1.1, z3.1.2.1, IntKind.i64.wrap (z3.1.2.2 + (1 : Int))), z3.2.1, z3.2.2))) t2
else some (Sum.inr (Sum.inr (a.2.1, a.2.2)))
noncomputable def conditional_sketch_chase_S (x : List (List Int × Int × List (Bool × Int × Int × ByteArray)) × List (List (Bool × (Int × Int × ByteArray) × Int)) × Nat) : Option (Bool × List (List (Bool × (Int × Int × ByteArray) × Int)) × Nat) :=
  (loopI conditional_sketch_chase_S_l0 ((x.1, IntKind.i64.wrap ((1 : Int) + IntKind.i64.wrap ((↑x.2.2 : Int) * (16 : Int))), (0 : Int)), x.2.1, x.2.2)).bind fun u3 =>
  Sum.elim (fun v3 => some (v3.1, v3.2.1, v3.2.2)) (fun w3 => some (true, w3.1, w3.2)) u3
noncomputable def conditional_consistent (x : Int × List (List Int × Int × List (Bool × Int × Int × ByteArray))) : Option Bool :=
  (conditional_fresh_S (x.1, (1 : Int))).bind fun y => (conditional_sketch_chase_S (x.2, y.1, y.2)).bind fun z => some z.1
noncomputable def slices_Index_sint_int_l0 (a : List Int × Int × Int × Int) : Option (List Int × Int × Int × Int ⊕ Int ⊕ PUnit) :=
  bif decide (a.2.2.2 < a.2.2.1) then
  bif decide ((0 : Int) ≤ a.2.2.2) then
    a.1[a.2.2.2.toNat]?.bind fun y => bif a.2.1 == y then some (Sum.inr (Sum.inl a.2.2.2)) else some (Sum.inl (a.1, a.2.1, a.2.2.1, IntKind.i64.wrap (a.2.2.2 + (1 : Int))))
  else none
else some (Sum.inr (Sum.inr ()))
noncomputable def slices_Index_sint_int (x : List Int × Int) : Option Int :=
  (loopI slices_Index_sint_int_l0 (x.1, x.2, (↑x.1.length : Int), (0 : Int))).bind fun z => Sum.elim (fun u => some u) (fun v => some (-1 : Int)) z
noncomputable def conditional_Core_l0 (a : (Int × List (List Int × Int × List (Bool × Int × Int × ByteArray)) × Nat × Int × Int) × List Int) : Option ((Int × List (List Int × Int × List (Bool × Int × Int × ByteArray)) × Nat × Int × Int) × List Int ⊕ (Int × List (List Int × Int × List (Bool × Int × Int × ByteArray)) × Nat) × List Int) :=
  bif decide (a.1.2.2.2.2 < a.1.2.2.2.1) then
  bif a.1.2.2.1.ble a.2.length then
    bif ((a.1.2.2.1 + 1) * 8).ble 140737488355328 then
      some (Sum.inl ((a.1.1, a.1.2.1, a.1.2.2.1 + 1, a.1.2.2.2.1, IntKind.i64.wrap (a.1.2.2.2.2 + (1 : Int))), List.take a.1.2.2.1 a.2 ++ [a.1.2.2.2.2]))
    else none
  else none
else some (Sum.inr ((a.1.1, a.1.2.1, a.1.2.2.1), a.2))
noncomputable def conditional_Core_l1 (a : (Int × List (List Int × Int × List (Bool × Int × Int × ByteArray)) × Nat × Int × Int) × List Int) : Option ((Int × List (List Int × Int × List (Bool × Int × Int × ByteArray)) × Nat × Int × Int) × List Int ⊕ Nat × List Int) :=
  bif decide (a.1.2.2.2.2 < a.1.2.2.2.1) then bif a.1.2.2.1.ble a.2.length then (slices_Index_sint_int (List.take a.1.2.2.1 a.2, a.1.2.2.2.2)).bind fun v => none else none
else some (Sum.inr (a.1.2.2.1, a.2))
noncomputable def conditional_Core (x : Int × List (List Int × Int × List (Bool × Int × Int × ByteArray))) : Option (List Int × Int) :=
  (conditional_limits (x.1, (6 : Int), (8 : Int), x.2, [])).bind fun y =>
  bif y != (0 : Int) then bif Nat.ble 0 0 then some (List.take 0 [], y) else none
  else
    (conditional_consistent (x.1, x.2)).bind fun z =>
      bif z then bif Nat.ble 0 0 then some (List.take 0 [], (4 : Int)) else none
      else
        (loopI conditional_Core_l0 ((x.1, x.2, 0, (↑x.2.length : Int), (0 : Int)), [])).bind fun u =>
          (loopI conditional_Core_l1 ((u.1.1, u.1.2.1, u.1.2.2, (↑u.1.2.1.length : Int), (0 : Int)), u.2)).bind fun w => bif w.1.ble w.2.length then some (List.take w.1 w.2, (0 : Int)) else none
noncomputable def drossref16_Error_l0 (a : Int × List (List Int × Int × List (Bool × Int × Int × ByteArray)) × Int) : Option (Int × List (List Int × Int × List (Bool × Int × Int × ByteArray)) × Int ⊕ Int ⊕ Int) :=
  bif decide (a.2.2 < (↑a.2.1.length : Int)) then
  bif decide ((0 : Int) ≤ a.2.2) then
    a.2.1[a.2.2.toNat]?.bind fun y => (drossref16_Valid (a.1, y)).bind fun z => bif !z then some (Sum.inr (Sum.inl (1 : Int))) else some (Sum.inl (a.1, a.2.1, IntKind.i64.wrap (a.2.2 + (1 : Int))))
  else none
else some (Sum.inr (Sum.inr a.1))
noncomputable def drossref16_Error (x : Int × List (List Int × Int × List (Bool × Int × Int × ByteArray)) × Int × Int) : Option Int :=
  bif decide (x.1 > x.2.2.1) then some (3 : Int)
else
  bif decide ((↑x.2.1.length : Int) > x.2.2.2) then some (3 : Int)
  else (loopI drossref16_Error_l0 (x.1, x.2.1, (0 : Int))).bind fun u => Sum.elim (fun v => some v) (fun w => bif decide (w < (0 : Int)) then some (1 : Int) else some (0 : Int)) u
noncomputable def conditional_Refute_l2 (a : (Int × List (List Int × Int × List (Bool × Int × Int × ByteArray)) × Int × Int × Int × List Int × Int × Int × Int × Int) ×
  (List Int × Int × List (Bool × Int × Int × ByteArray)) × (ByteArray × (List ByteArray × Nat) × List (Int × List (Int × Int × ByteArray)) × Nat) × List (List (Bool × (Int × Int × ByteArray) × Int)) × Nat) : Option
  ((Int × List (List Int × Int × List (Bool × Int × Int × ByteArray)) × Int × Int × Int × List Int × Int × Int × Int × Int) ×
      (List Int × Int × List (Bool × Int × Int × ByteArray)) × (ByteArray × (List ByteArray × Nat) × List (Int × List (Int × Int × ByteArray)) × Nat) × List (List (Bool × (Int × Int × ByteArray) × Int)) × Nat ⊕
    (Int × List (List Int × Int × List (Bool × Int × Int × ByteArray)) × Int × List Int × Int × Int) ×
      (List Int × Int × List (Bool × Int × Int × ByteArray)) × (ByteArray × (List ByteArray × Nat) × List (Int × List (Int × Int × ByteArray)) × Nat) × List (List (Bool × (Int × Int × ByteArray) × Int)) × Nat) :=
  bif decide (a.1.2.2.2.2.2.2.2.2.2 < a.1.2.2.2.2.2.2.2.2.1) then
  bif decide ((0 : Int) ≤ a.1.2.2.2.2.2.2.2.2.2) then
    bif a.1.2.2.2.2.2.2.2.2.2.toNat.blt a.2.2.2.2 then
      a.2.2.2.1[a.1.2.2.2.2.2.2.2.2.2.toNat]?.bind fun v =>
        bif Nat.blt 0 a.2.2.2.2 then
          a.2.2.2.1[0]?.bind fun w =>
            bif decide ((0 : Int) ≤ a.1.2.2.2.2.1) then w[a.1.2.2.2.2.1.toNat]?.bind fun p => bif decide ((0 : Int) ≤ a.1.2.2.2.2.1) then v[a.1.2.2.2.2.1.toNat]?.bind fun q => none else none
            else none
        else none
    else none
  else none
else
  some
    (Sum.inr
      ((a.1.1, a.1.2.1, a.1.2.2.1, a.1.2.2.2.2.2.1, a.1.2.2.2.2.2.2.1, a.1.2.2.2.2.2.2.2.1), a.2.1,
        (a.2.2.1.1, (a.2.2.1.2.1.1, a.2.2.1.2.1.2), a.2.2.1.2.2.1, a.2.2.1.2.2.2), a.2.2.2.1, a.2.2.2.2))
noncomputable def conditional_Refute_l1 (a : (Int × List (List Int × Int × List (Bool × Int × Int × ByteArray)) × Int × List Int × Int × Int) ×
  (List Int × Int × List (Bool × Int × Int × ByteArray)) × (ByteArray × (List ByteArray × Nat) × List (Int × List (Int × Int × ByteArray)) × Nat) × List (List (Bool × (Int × Int × ByteArray) × Int)) × Nat) : Option
  ((Int × List (List Int × Int × List (Bool × Int × Int × ByteArray)) × Int × List Int × Int × Int) ×
      (List Int × Int × List (Bool × Int × Int × ByteArray)) × (ByteArray × (List ByteArray × Nat) × List (Int × List (Int × Int × ByteArray)) × Nat) × List (List (Bool × (Int × Int × ByteArray) × Int)) × Nat ⊕
    (Int × List (List Int × Int × List (Bool × Int × Int × ByteArray)) × Int) ×
      (List Int × Int × List (Bool × Int × Int × ByteArray)) × (ByteArray × (List ByteArray × Nat) × List (Int × List (Int × Int × ByteArray)) × Nat) × List (List (Bool × (Int × Int × ByteArray) × Int)) × Nat) :=
  bif decide (a.1.2.2.2.2.2 < a.1.2.2.2.2.1) then
  bif decide ((0 : Int) ≤ a.1.2.2.2.2.2) then
    a.1.2.2.2.1[a.1.2.2.2.2.2.toNat]?.bind fun u =>
      (loopI conditional_Refute_l2
            ((a.1.1, a.1.2.1, a.1.2.2.1, a.1.2.2.2.2.2, u, a.1.2.2.2.1, a.1.2.2.2.2.1, a.1.2.2.2.2.2, a.1.2.2.1, (0 : Int)), a.2.1,
              (a.2.2.1.1, (a.2.2.1.2.1.1, a.2.2.1.2.1.2), a.2.2.1.2.2.1, a.2.2.1.2.2.2), a.2.2.2.1, a.2.2.2.2)).bind
        fun r =>
        some
          (Sum.inl
            ((r.1.1, r.1.2.1, r.1.2.2.1, r.1.2.2.2.1, r.1.2.2.2.2.1, IntKind.i64.wrap (r.1.2.2.2.2.2 + (1 : Int))), r.2.1,
              (r.2.2.1.1, (r.2.2.1.2.1.1, r.2.2.1.2.1.2), r.2.2.1.2.2.1, r.2.2.1.2.2.2), r.2.2.2.1, r.2.2.2.2))
  else none
else
  some
    (Sum.inr
      ((a.1.1, a.1.2.1, a.1.2.2.1), a.2.1, (a.2.2.1.1, (a.2.2.1.2.1.1, a.2.2.1.2.1.2), a.2.2.1.2.2.1, a.2.2.1.2.2.2), a.2.2.2.1, a.2.2.2.2))
noncomputable def conditional_Refute_l3 (a : (List (List Int × Int × List (Bool × Int × Int × ByteArray)) × Int × Int) ×
  (List Int × Int × List (Bool × Int × Int × ByteArray)) ×
    (ByteArray × (List ByteArray × Nat) × List (Int × List (Int × Int × ByteArray)) × Nat) × (ByteArray × (List ByteArray × Nat) × List (Int × List (Int × Int × ByteArray)) × Nat) × List (List (Bool × (Int × Int × ByteArray) × Int)) × Nat) : Option
  ((List (List Int × Int × List (Bool × Int × Int × ByteArray)) × Int × Int) ×
      (List Int × Int × List (Bool × Int × Int × ByteArray)) ×
        (ByteArray × (List ByteArray × Nat) × List (Int × List (Int × Int × ByteArray)) × Nat) ×
          (ByteArray × (List ByteArray × Nat) × List (Int × List (Int × Int × ByteArray)) × Nat) × List (List (Bool × (Int × Int × ByteArray) × Int)) × Nat ⊕
    List (List Int × Int × List (Bool × Int × Int × ByteArray)) ×
      (List Int × Int × List (Bool × Int × Int × ByteArray)) ×
        (ByteArray × (List ByteArray × Nat) × List (Int × List (Int × Int × ByteArray)) × Nat) ×
          (ByteArray × (List ByteArray × Nat) × List (Int × List (Int × Int × ByteArray)) × Nat) × List (List (Bool × (Int × Int × ByteArray) × Int)) × Nat) :=
  bif decide (a.1.2.2 < a.1.2.1) then
  bif a.2.2.2.1.2.1.2 == a.2.2.2.1.2.1.2 then
    bif a.2.2.2.1.2.1.2.ble a.2.2.2.1.2.1.1.length then
      bif ((a.2.2.2.1.2.1.2 + 1) * 16).ble 140737488355328 then
        bif (a.2.2.2.1.2.1.2 + 1).ble (List.take a.2.2.2.1.2.1.2 a.2.2.2.1.2.1.1 ++ [Go.Utf8.encode (IntKind.i32.wrap (IntKind.i64.wrap ((97 : Int) + a.1.2.2)))]).length then
          some
            (Sum.inl
              ((a.1.1, a.1.2.1, IntKind.i64.wrap (a.1.2.2 + (1 : Int))), a.2.1, (a.2.2.1.1, (a.2.2.1.2.1.1, a.2.2.1.2.1.2), a.2.2.1.2.2.1, a.2.2.1.2.2.2),
                (a.2.2.2.1.1,
                  (List.take a.2.2.2.1.2.1.2 a.2.2.2.1.2.1.1 ++ [Go.Utf8.encode (IntKind.i32.wrap (IntKind.i64.wrap ((97 : Int) + a.1.2.2)))], a.2.2.2.1.2.1.2 + 1),
                  a.2.2.2.1.2.2.1, a.2.2.2.1.2.2.2),
                a.2.2.2.2.1, a.2.2.2.2.2))
        else none
      else none
    else none
  else none
else
  some
    (Sum.inr
      (a.1.1, a.2.1, (a.2.2.1.1, (a.2.2.1.2.1.1, a.2.2.1.2.1.2), a.2.2.1.2.2.1, a.2.2.1.2.2.2),
        (a.2.2.2.1.1, (a.2.2.2.1.2.1.1, a.2.2.2.1.2.1.2), a.2.2.2.1.2.2.1, a.2.2.2.1.2.2.2), a.2.2.2.2.1, a.2.2.2.2.2))
noncomputable def conditional_Refute_l4 (a : (List (List Int × Int × List (Bool × Int × Int × ByteArray)) × Int × Int) ×
  (List Int × Int × List (Bool × Int × Int × ByteArray)) ×
    (ByteArray × (List ByteArray × Nat) × List (Int × List (Int × Int × ByteArray)) × Nat) × (ByteArray × (List ByteArray × Nat) × List (Int × List (Int × Int × ByteArray)) × Nat) × List (List (Bool × (Int × Int × ByteArray) × Int)) × Nat) : Option
  ((List (List Int × Int × List (Bool × Int × Int × ByteArray)) × Int × Int) ×
      (List Int × Int × List (Bool × Int × Int × ByteArray)) ×
        (ByteArray × (List ByteArray × Nat) × List (Int × List (Int × Int × ByteArray)) × Nat) ×
          (ByteArray × (List ByteArray × Nat) × List (Int × List (Int × Int × ByteArray)) × Nat) × List (List (Bool × (Int × Int × ByteArray) × Int)) × Nat ⊕
    List (List Int × Int × List (Bool × Int × Int × ByteArray)) ×
      (List Int × Int × List (Bool × Int × Int × ByteArray)) ×
        (ByteArray × (List ByteArray × Nat) × List (Int × List (Int × Int × ByteArray)) × Nat) ×
          (ByteArray × (List ByteArray × Nat) × List (Int × List (Int × Int × ByteArray)) × Nat) × List (List (Bool × (Int × Int × ByteArray) × Int)) × Nat) :=
  bif decide (a.1.2.2 < a.1.2.1) then
  bif a.2.2.2.1.2.1.2 == a.2.2.2.1.2.1.2 then
    bif a.2.2.2.1.2.1.2.ble a.2.2.2.1.2.1.1.length then
      bif ((a.2.2.2.1.2.1.2 + 1) * 16).ble 140737488355328 then
        bif (a.2.2.2.1.2.1.2 + 1).ble (List.take a.2.2.2.1.2.1.2 a.2.2.2.1.2.1.1 ++ [Go.Utf8.encode (IntKind.i32.wrap (IntKind.i64.wrap ((97 : Int) + a.1.2.2)))]).length then
          some
            (Sum.inl
              ((a.1.1, a.1.2.1, IntKind.i64.wrap (a.1.2.2 + (1 : Int))), a.2.1, (a.2.2.1.1, (a.2.2.1.2.1.1, a.2.2.1.2.1.2), a.2.2.1.2.2.1, a.2.2.1.2.2.2),
                (a.2.2.2.1.1,
                  (List.take a.2.2.2.1.2.1.2 a.2.2.2.1.2.1.1 ++ [Go.Utf8.encode (IntKind.i32.wrap (IntKind.i64.wrap ((97 : Int) + a.1.2.2)))], a.2.2.2.1.2.1.2 + 1),
                  a.2.2.2.1.2.2.1, a.2.2.2.1.2.2.2),
                a.2.2.2.2.1, a.2.2.2.2.2))
        else none
      else none
    else none
  else none
else
  some
    (Sum.inr
      (a.1.1, a.2.1, (a.2.2.1.1, (a.2.2.1.2.1.1, a.2.2.1.2.1.2), a.2.2.1.2.2.1, a.2.2.1.2.2.2),
        (a.2.2.2.1.1, (a.2.2.2.1.2.1.1, a.2.2.2.1.2.1.2), a.2.2.2.1.2.2.1, a.2.2.2.1.2.2.2), a.2.2.2.2.1, a.2.2.2.2.2))
noncomputable def conditional_Refute_l5 (a : (List (List Int × Int × List (Bool × Int × Int × ByteArray)) × Int × Int) ×
  (List Int × Int × List (Bool × Int × Int × ByteArray)) ×
    (ByteArray × (List ByteArray × Nat) × List (Int × List (Int × Int × ByteArray)) × Nat) × (ByteArray × (List ByteArray × Nat) × List (Int × List (Int × Int × ByteArray)) × Nat) × List (List (Bool × (Int × Int × ByteArray) × Int)) × Nat) : Option
  ((List (List Int × Int × List (Bool × Int × Int × ByteArray)) × Int × Int) ×
      (List Int × Int × List (Bool × Int × Int × ByteArray)) ×
        (ByteArray × (List ByteArray × Nat) × List (Int × List (Int × Int × ByteArray)) × Nat) ×
          (ByteArray × (List ByteArray × Nat) × List (Int × List (Int × Int × ByteArray)) × Nat) × List (List (Bool × (Int × Int × ByteArray) × Int)) × Nat ⊕
    List (List Int × Int × List (Bool × Int × Int × ByteArray)) ×
      (List Int × Int × List (Bool × Int × Int × ByteArray)) ×
        (ByteArray × (List ByteArray × Nat) × List (Int × List (Int × Int × ByteArray)) × Nat) ×
          (ByteArray × (List ByteArray × Nat) × List (Int × List (Int × Int × ByteArray)) × Nat) × List (List (Bool × (Int × Int × ByteArray) × Int)) × Nat) :=
  bif decide (a.1.2.2 < a.1.2.1) then
  bif a.2.2.2.1.2.1.2 == a.2.2.2.1.2.1.2 then
    bif a.2.2.2.1.2.1.2.ble a.2.2.2.1.2.1.1.length then
      bif ((a.2.2.2.1.2.1.2 + 1) * 16).ble 140737488355328 then
        bif (a.2.2.2.1.2.1.2 + 1).ble (List.take a.2.2.2.1.2.1.2 a.2.2.2.1.2.1.1 ++ [Go.Utf8.encode (IntKind.i32.wrap (IntKind.i64.wrap ((97 : Int) + a.1.2.2)))]).length then
          some
            (Sum.inl
              ((a.1.1, a.1.2.1, IntKind.i64.wrap (a.1.2.2 + (1 : Int))), a.2.1, (a.2.2.1.1, (a.2.2.1.2.1.1, a.2.2.1.2.1.2), a.2.2.1.2.2.1, a.2.2.1.2.2.2),
                (a.2.2.2.1.1,
                  (List.take a.2.2.2.1.2.1.2 a.2.2.2.1.2.1.1 ++ [Go.Utf8.encode (IntKind.i32.wrap (IntKind.i64.wrap ((97 : Int) + a.1.2.2)))], a.2.2.2.1.2.1.2 + 1),
                  a.2.2.2.1.2.2.1, a.2.2.2.1.2.2.2),
                a.2.2.2.2.1, a.2.2.2.2.2))
        else none
      else none
    else none
  else none
else
  some
    (Sum.inr
      (a.1.1, a.2.1, (a.2.2.1.1, (a.2.2.1.2.1.1, a.2.2.1.2.1.2), a.2.2.1.2.2.1, a.2.2.1.2.2.2),
        (a.2.2.2.1.1, (a.2.2.2.1.2.1.1, a.2.2.2.1.2.1.2), a.2.2.2.1.2.2.1, a.2.2.2.1.2.2.2), a.2.2.2.2.1, a.2.2.2.2.2))
noncomputable def conditional_Refute_l6 (a : (List (List Int × Int × List (Bool × Int × Int × ByteArray)) × Int × Int) ×
  (List Int × Int × List (Bool × Int × Int × ByteArray)) ×
    (ByteArray × (List ByteArray × Nat) × List (Int × List (Int × Int × ByteArray)) × Nat) × (ByteArray × (List ByteArray × Nat) × List (Int × List (Int × Int × ByteArray)) × Nat) × List (List (Bool × (Int × Int × ByteArray) × Int)) × Nat) : Option
  ((List (List Int × Int × List (Bool × Int × Int × ByteArray)) × Int × Int) ×
      (List Int × Int × List (Bool × Int × Int × ByteArray)) ×
        (ByteArray × (List ByteArray × Nat) × List (Int × List (Int × Int × ByteArray)) × Nat) ×
          (ByteArray × (List ByteArray × Nat) × List (Int × List (Int × Int × ByteArray)) × Nat) × List (List (Bool × (Int × Int × ByteArray) × Int)) × Nat ⊕
    List (List Int × Int × List (Bool × Int × Int × ByteArray)) ×
      (List Int × Int × List (Bool × Int × Int × ByteArray)) ×
        (ByteArray × (List ByteArray × Nat) × List (Int × List (Int × Int × ByteArray)) × Nat) ×
          (ByteArray × (List ByteArray × Nat) × List (Int × List (Int × Int × ByteArray)) × Nat) × List (List (Bool × (Int × Int × ByteArray) × Int)) × Nat) :=
  bif decide (a.1.2.2 < a.1.2.1) then
  bif a.2.2.2.1.2.1.2 == a.2.2.2.1.2.1.2 then
    bif a.2.2.2.1.2.1.2.ble a.2.2.2.1.2.1.1.length then
      bif ((a.2.2.2.1.2.1.2 + 1) * 16).ble 140737488355328 then
        bif (a.2.2.2.1.2.1.2 + 1).ble (List.take a.2.2.2.1.2.1.2 a.2.2.2.1.2.1.1 ++ [Go.Utf8.encode (IntKind.i32.wrap (IntKind.i64.wrap ((97 : Int) + a.1.2.2)))]).length then
          some
            (Sum.inl
              ((a.1.1, a.1.2.1, IntKind.i64.wrap (a.1.2.2 + (1 : Int))), a.2.1, (a.2.2.1.1, (a.2.2.1.2.1.1, a.2.2.1.2.1.2), a.2.2.1.2.2.1, a.2.2.1.2.2.2),
                (a.2.2.2.1.1,
                  (List.take a.2.2.2.1.2.1.2 a.2.2.2.1.2.1.1 ++ [Go.Utf8.encode (IntKind.i32.wrap (IntKind.i64.wrap ((97 : Int) + a.1.2.2)))], a.2.2.2.1.2.1.2 + 1),
                  a.2.2.2.1.2.2.1, a.2.2.2.1.2.2.2),
                a.2.2.2.2.1, a.2.2.2.2.2))
        else none
      else none
    else none
  else none
else
  some
    (Sum.inr
      (a.1.1, a.2.1, (a.2.2.1.1, (a.2.2.1.2.1.1, a.2.2.1.2.1.2), a.2.2.1.2.2.1, a.2.2.1.2.2.2),
        (a.2.2.2.1.1, (a.2.2.2.1.2.1.1, a.2.2.2.1.2.1.2), a.2.2.2.1.2.2.1, a.2.2.2.1.2.2.2), a.2.2.2.2.1, a.2.2.2.2.2))
noncomputable def conditional_Refute_l0 (a : (Int × List (List Int × Int × List (Bool × Int × Int × ByteArray)) × Int) × (List Int × Int × List (Bool × Int × Int × ByteArray)) × ByteArray × (List ByteArray × Nat) × List (Int × List (Int × Int × ByteArray)) × Nat) : Option
  ((Int × List (List Int × Int × List (Bool × Int × Int × ByteArray)) × Int) × (List Int × Int × List (Bool × Int × Int × ByteArray)) × ByteArray × (List ByteArray × Nat) × List (Int × List (Int × Int × ByteArray)) × Nat ⊕
    ByteArray × (List ByteArray × Nat) × List (Int × List (Int × Int × ByteArray)) × Nat) :=
  bif decide (a.1.2.2 ≤ (2 : Int)) then
  (conditional_fresh_S (a.1.1, a.1.2.2)).bind fun z =>
    (loopI conditional_Refute_l1
          ((a.1.1, a.1.2.1, a.1.2.2, a.2.1.1, (↑a.2.1.1.length : Int), (0 : Int)), a.2.1, (a.2.2.1, (a.2.2.2.1.1, a.2.2.2.1.2), a.2.2.2.2.1, a.2.2.2.2.2), z.1,
            z.2)).bind
      fun s =>
      (conditional_sketch_chase_S (s.1.2.1, s.2.2.2.1, s.2.2.2.2)).bind fun t =>
        bif !t.1 then
          some
            (Sum.inl ((s.1.1, s.1.2.1, IntKind.i64.wrap (s.1.2.2 + (1 : Int))), s.2.1, s.2.2.1.1, (s.2.2.1.2.1.1, s.2.2.1.2.1.2), s.2.2.1.2.2.1, s.2.2.1.2.2.2))
        else
          bif decide ((0 : Int) ≤ IntKind.i64.wrap (s.1.2.2 - (1 : Int))) then
            bif (IntKind.i64.wrap (s.1.2.2 - (1 : Int))).toNat.blt t.2.2 then
              t.2.1[(IntKind.i64.wrap (s.1.2.2 - (1 : Int))).toNat]?.bind fun y1 =>
                bif decide ((0 : Int) ≤ s.2.1.2.1) then
                  y1[s.2.1.2.1.toNat]?.bind fun z1 =>
                    bif s.1.2.2 == (1 : Int) then
                      (conditional_right s.2.1).bind fun u1 =>
                        bif !u1.1 then
                          (conditional_right s.2.1).bind fun v1 =>
                            bif !(z1.1 == true && (z1.2.1.1 == v1.2.1 && (z1.2.1.2.1 == v1.2.2.1 && strEq z1.2.1.2.2 v1.2.2.2) && z1.2.2 == (0 : Int))) then
                              (loopI conditional_Refute_l3
                                    ((s.1.2.1, s.1.1, (0 : Int)), s.2.1, (s.2.2.1.1, (s.2.2.1.2.1.1, s.2.2.1.2.1.2), s.2.2.1.2.2.1, s.2.2.1.2.2.2),
                                      ((ByteArray.mk #[OfNat.ofNat 116]), ([], 0), [], 0), t.2.1, t.2.2)).bind
                                fun w1 => (cloneL 56 w1.1).bind fun p1 => none
                            else
                              bif s.1.2.2 == (2 : Int) then
                                bif Nat.blt 0 t.2.2 then
                                  t.2.1[0]?.bind fun q1 =>
                                    bif decide ((0 : Int) ≤ s.2.1.2.1) then
                                      q1[s.2.1.2.1.toNat]?.bind fun r1 =>
                                        bif !(z1.1 == r1.1 && (z1.2.1.1 == r1.2.1.1 && (z1.2.1.2.1 == r1.2.1.2.1 && strEq z1.2.1.2.2 r1.2.1.2.2) && z1.2.2 == r1.2.2)) then
                                          (loopI conditional_Refute_l4
                                                ((s.1.2.1, s.1.1, (0 : Int)), s.2.1, (s.2.2.1.1, (s.2.2.1.2.1.1, s.2.2.1.2.1.2), s.2.2.1.2.2.1, s.2.2.1.2.2.2),
                                                  ((ByteArray.mk #[OfNat.ofNat 116]), ([], 0), [], 0), t.2.1, t.2.2)).bind
                                            fun s1 => (cloneL 56 s1.1).bind fun t1 => none
                                        else
                                          some
                                            (Sum.inl
                                              ((s.1.1, s.1.2.1, IntKind.i64.wrap (s.1.2.2 + (1 : Int))), s.2.1, s.2.2.1.1, (s.2.2.1.2.1.1, s.2.2.1.2.1.2), s.2.2.1.2.2.1,
                                                s.2.2.1.2.2.2))
                                    else none
                                else none
                              else
                                some
                                  (Sum.inl
                                    ((s.1.1, s.1.2.1, IntKind.i64.wrap (s.1.2.2 + (1 : Int))), s.2.1, s.2.2.1.1, (s.2.2.1.2.1.1, s.2.2.1.2.1.2), s.2.2.1.2.2.1,
                                      s.2.2.1.2.2.2))
                        else
                          bif s.1.2.2 == (2 : Int) then
                            bif Nat.blt 0 t.2.2 then
                              t.2.1[0]?.bind fun y2 =>
                                bif decide ((0 : Int) ≤ s.2.1.2.1) then
                                  y2[s.2.1.2.1.toNat]?.bind fun z2 =>
                                    bif !(z1.1 == z2.1 && (z1.2.1.1 == z2.2.1.1 && (z1.2.1.2.1 == z2.2.1.2.1 && strEq z1.2.1.2.2 z2.2.1.2.2) && z1.2.2 == z2.2.2)) then
                                      (loopI conditional_Refute_l5
                                            ((s.1.2.1, s.1.1, (0 : Int)), s.2.1, (s.2.2.1.1, (s.2.2.1.2.1.1, s.2.2.1.2.1.2), s.2.2.1.2.2.1, s.2.2.1.2.2.2),
                                              ((ByteArray.mk #[OfNat.ofNat 116]), ([], 0), [], 0), t.2.1, t.2.2)).bind
                                        fun u2 => (cloneL 56 u2.1).bind fun v2 => none
                                    else
                                      some
                                        (Sum.inl
                                          ((s.1.1, s.1.2.1, IntKind.i64.wrap (s.1.2.2 + (1 : Int))), s.2.1, s.2.2.1.1, (s.2.2.1.2.1.1, s.2.2.1.2.1.2), s.2.2.1.2.2.1,
                                            s.2.2.1.2.2.2))
                                else none
                            else none
                          else
                            some
                              (Sum.inl
                                ((s.1.1, s.1.2.1, IntKind.i64.wrap (s.1.2.2 + (1 : Int))), s.2.1, s.2.2.1.1, (s.2.2.1.2.1.1, s.2.2.1.2.1.2), s.2.2.1.2.2.1,
                                  s.2.2.1.2.2.2))
                    else
                      bif s.1.2.2 == (2 : Int) then
                        bif Nat.blt 0 t.2.2 then
                          t.2.1[0]?.bind fun w2 =>
                            bif decide ((0 : Int) ≤ s.2.1.2.1) then
                              w2[s.2.1.2.1.toNat]?.bind fun p2 =>
                                bif !(z1.1 == p2.1 && (z1.2.1.1 == p2.2.1.1 && (z1.2.1.2.1 == p2.2.1.2.1 && strEq z1.2.1.2.2 p2.2.1.2.2) && z1.2.2 == p2.2.2)) then
                                  (loopI conditional_Refute_l6
                                        ((s.1.2.1, s.1.1, (0 : Int)), s.2.1, (s.2.2.1.1, (s.2.2.1.2.1.1, s.2.2.1.2.1.2), s.2.2.1.2.2.1, s.2.2.1.2.2.2),
                                          ((ByteArray.mk #[OfNat.ofNat 116]), ([], 0), [], 0), t.2.1, t.2.2)).bind
                                    fun q2 => (cloneL 56 q2.1).bind fun r2 => none
                                else
                                  some
                                    (Sum.inl
                                      ((s.1.1, s.1.2.1, IntKind.i64.wrap (s.1.2.2 + (1 : Int))), s.2.1, s.2.2.1.1, (s.2.2.1.2.1.1, s.2.2.1.2.1.2), s.2.2.1.2.2.1,
                                        s.2.2.1.2.2.2))
                            else none
                        else none
                      else
                        some
                          (Sum.inl
                            ((s.1.1, s.1.2.1, IntKind.i64.wrap (s.1.2.2 + (1 : Int))), s.2.1, s.2.2.1.1, (s.2.2.1.2.1.1, s.2.2.1.2.1.2), s.2.2.1.2.2.1,
                              s.2.2.1.2.2.2))
                else none
            else none
          else none
else some (Sum.inr (a.2.2.1, (a.2.2.2.1.1, a.2.2.2.1.2), a.2.2.2.2.1, a.2.2.2.2.2))
noncomputable def conditional_Refute (x : Int × List (List Int × Int × List (Bool × Int × Int × ByteArray)) × List Int × Int × List (Bool × Int × Int × ByteArray)) : Option ((ByteArray × List ByteArray × List (Int × List (Int × Int × ByteArray))) × Int) :=
  (conditional_limits (x.1, (5 : Int), (6 : Int), x.2.1, [x.2.2])).bind fun y =>
  bif y != (0 : Int) then bif Nat.ble 0 0 then bif Nat.ble 0 0 then some (((ByteArray.mk #[]), List.take 0 [], List.take 0 []), y) else none else none
  else
    (loopI conditional_Refute_l0 ((x.1, x.2.1, (1 : Int)), x.2.2, (ByteArray.mk #[]), ([], 0), [], 0)).bind fun s2 =>
      bif Nat.ble 0 0 then bif Nat.ble 0 0 then some (((ByteArray.mk #[]), List.take 0 [], List.take 0 []), (10 : Int)) else none else none
noncomputable def conditional_Implies (x : Int × List (List Int × Int × List (Bool × Int × Int × ByteArray)) × List Int × Int × List (Bool × Int × Int × ByteArray)) : Option (Bool × Int) :=
  (conditional_Refute (x.1, x.2.1, x.2.2)).bind fun y => bif y.2 == (10 : Int) then some (true, (0 : Int)) else bif y.2 == (0 : Int) then some (false, (0 : Int)) else some (false, y.2)
noncomputable def drosslaw16_ConditionalErrors_S (x : Int × List (List Int × Int × List (Bool × Int × Int × ByteArray)) × List Int × Int × List (Bool × Int × Int × ByteArray)) : Option Bool :=
  (some true).bind fun y =>
  bif !y then (some true).bind fun z => some z
  else
    bif decide ((↑x.2.1.length : Int) > (20 : Int)) then (some true).bind fun u => some u
    else
      (drossref16_Error (x.1, x.2.1, (5 : Int), (6 : Int))).bind fun v =>
        bif v == (0 : Int) then
          (drossref16_Valid (x.1, x.2.2)).bind fun w =>
            bif !w then
              bif (1 : Int) != (0 : Int) then
                (conditional_Implies (x.1, x.2.1, x.2.2)).bind fun p =>
                  (conditional_Refute (x.1, x.2.1, x.2.2)).bind fun q =>
                    bif p.1 then some false
                    else
                      bif p.2 != (1 : Int) then some false
                      else
                        bif q.2 != (1 : Int) then some false
                        else
                          bif (↑q.1.2.2.length : Int) != (0 : Int) then some false
                          else
                            (drossref16_Error (x.1, x.2.1, (6 : Int), (8 : Int))).bind fun r =>
                              bif r == (0 : Int) then some true else (conditional_Core (x.1, x.2.1)).bind fun s => bif s.2 == r then some ((↑s.1.length : Int) == (0 : Int)) else some false
              else
                (drossref16_Error (x.1, x.2.1, (6 : Int), (8 : Int))).bind fun t =>
                  bif t == (0 : Int) then some true else (conditional_Core (x.1, x.2.1)).bind fun y1 => bif y1.2 == t then some ((↑y1.1.length : Int) == (0 : Int)) else some false
            else
              bif v != (0 : Int) then
                (conditional_Implies (x.1, x.2.1, x.2.2)).bind fun z1 =>
                  (conditional_Refute (x.1, x.2.1, x.2.2)).bind fun u1 =>
                    bif z1.1 then some false
                    else
                      bif z1.2 != v then some false
                      else
                        bif u1.2 != v then some false
                        else
                          bif (↑u1.1.2.2.length : Int) != (0 : Int) then some false
                          else
                            (drossref16_Error (x.1, x.2.1, (6 : Int), (8 : Int))).bind fun v1 =>
                              bif v1 == (0 : Int) then some true else (conditional_Core (x.1, x.2.1)).bind fun w1 => bif w1.2 == v1 then some ((↑w1.1.length : Int) == (0 : Int)) else some false
              else
                (drossref16_Error (x.1, x.2.1, (6 : Int), (8 : Int))).bind fun p1 =>
                  bif p1 == (0 : Int) then some true else (conditional_Core (x.1, x.2.1)).bind fun q1 => bif q1.2 == p1 then some ((↑q1.1.length : Int) == (0 : Int)) else some false
        else
          bif v != (0 : Int) then
            (conditional_Implies (x.1, x.2.1, x.2.2)).bind fun r1 =>
              (conditional_Refute (x.1, x.2.1, x.2.2)).bind fun s1 =>
                bif r1.1 then some false
                else
                  bif r1.2 != v then some false
                  else
                    bif s1.2 != v then some false
                    else
                      bif (↑s1.1.2.2.length : Int) != (0 : Int) then some false
                      else
                        (drossref16_Error (x.1, x.2.1, (6 : Int), (8 : Int))).bind fun t1 =>
                          bif t1 == (0 : Int) then some true else (conditional_Core (x.1, x.2.1)).bind fun y2 => bif y2.2 == t1 then some ((↑y2.1.length : Int) == (0 : Int)) else some false
          else
            (drossref16_Error (x.1, x.2.1, (6 : Int), (8 : Int))).bind fun z2 =>
              bif z2 == (0 : Int) then some true else (conditional_Core (x.1, x.2.1)).bind fun u2 => bif u2.2 == z2 then some ((↑u2.1.length : Int) == (0 : Int)) else some false
end Go.Mid
